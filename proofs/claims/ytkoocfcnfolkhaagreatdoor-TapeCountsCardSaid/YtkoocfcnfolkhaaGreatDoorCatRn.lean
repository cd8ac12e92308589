/- The program runs a machine from event to event. Conditions: the machine is right, its frame's number small, what is pressed is right too, the clocks are within bounds. -/
import Derived.Test.YtkoocfcnfolkhaaGreatDoorSq
import Derived.Test.YtkoocfcnfolkhaaGreatDoorSh
import Derived.Test.YtkoocfcnfolkhaaGreatDoorLockRn
import Derived.Test.YtkoocfcnfolkhaaGreatDoorCatHz
import Derived.Test.YtkoocfcnfolkhaaGreatDoorP36
set_option linter.unusedVariables false
set_option linter.unusedSimpArgs false
set_option maxHeartbeats 4000000
set_option maxRecDepth 100000
namespace Go
theorem Sat.at'{md:Region.Mode}{ops:Array Oper}{F:Nat->World->Prop}{ls:List Nat}{listed:Array Bool}{j:Nat}{w w':World}(fl:List Nat)(hF:∀k,k∉fl->F k w')(h:(!(ls.contains j)&&fl.all (fun k=> !freeB md ops ls listed k|| !looseB md ops j k))=true):Sat md ops F ls listed j w w':=by
 simp only[Bool.and_eq_true,Bool.not_eq_true',List.contains_eq_mem,decide_eq_false_iff_not]at h
 refine⟨fun hj=>absurd hj h.1,fun _ k hk h0 hl=> ?_⟩
 by_cases hkf:k∈fl
 ·have:=List.all_eq_true.1 h.2 k hkf
  rw[hl,h0]at this
  cases this
 ·exact hF k hkf
end Go
namespace Go.Proofs.YtkoocfcnfolkhaaGreatDoor
open Go.RowKit Go.Mq
theorem LkAt.run{m:Mach}{F:Cn}{n k:Nat}{c:Cn}(h:LkAt m F n k c)(m0:0<=m.ck)(m1:m.ck+n<1000000):∀j:Nat,k+j<=n->LkAt m F n (k+j) (lkN c j)
 |0,_=>h
 |j+1,hj=>by
  rw[z1k,<-Nat.add_assoc]
  exact(LkAt.run h m0 m1 j kO).next kO m0 m1
theorem In.swt{m:Mach}(h:m.In){t:Int}(ht:0<=t/\t<=16):({m with sd:={m.sd with wt:=t}}:Mach).In:=
 ⟨h.mc,h.ac,h.mem,h.p0,h.p1,h.tm,h.sd,by show I64 t;unfold I64;omega,h.ln,h.pt,h.fr,h.fm,h.to,h.m0,h.m1,h.ck,h.mr,h.ar⟩
def ckW(W:World)(bb:Nat):Int:=match W.cell? ⟨bb,72,none⟩with
 |some (.int _ x)=>x
 |_=>0
theorem z6E:∀{l:List Inp} {c:Int},chkFrom c l=0->0<=c->∀i∈l,0<=i.ck/\i.ck<=1000000
 |[],_,_,_,i,h=>by cases h
 |j::t,c,h,h0,i,hi=>by
  unfold chkFrom at h
  split at h
  ·cases h
  ·split at h
   ·cases h
   ·rcases List.mem_cons.1 hi with rfl|hi
    ·omega
    ·exact z6E h kO i hi
theorem z6C{m:Mach}{k:Nat}{c:Cn}(a:At m k c)(m0:0<=m.ck)(m1:m.ck+k<=1000000):
  (ctX c.x c.ins).m.ck=c.x.m.ck/\(ctX c.x c.ins).m.tm.Ok/\(ctX c.x c.ins).m.bm.In/\0<=(ctX c.x c.ins).m.bm.fr/\(ctX c.x c.ins).m.sd.In/\(0<=(ctX c.x c.ins).m.sd.wt/\(ctX c.x c.ins).m.sd.wt<=16)/\0<=(ctX c.x c.ins).m.mr/\(ctX c.x c.ins).m.mr<=c.x.m.ck+20000/\0<=(ctX c.x c.ins).m.ar/\(ctX c.x c.ins).m.ar<=c.x.m.ck+20000:=by
 have w1:=a.wk.press a.dn
 have kp:=z1b c.ins c.x.m
 have w2:=w1.do
 have kx:=(z2B _ w1.inn).2
 have hck:(doX (c.x.setM (pressA c.x.m c.ins))).m.ck=c.x.m.ck:=kx.ck.trans kp.ck
 have hT:=z4O (c.x.setM (pressA c.x.m c.ins)) w1.inn (by show 0<=(pressA c.x.m c.ins).ck;rw[kp.ck,a.ck];omega) (by show(pressA c.x.m c.ins).ck<=_;rw[kp.ck,a.ck];omega) (by show 0<=(pressA c.x.m c.ins).mr;rw[kp.mr];exact a.time.1) (by show(pressA c.x.m c.ins).mr<=(pressA c.x.m c.ins).ck+20000;rw[kp.mr,kp.ck];exact a.time.2.1) (by show 0<=(pressA c.x.m c.ins).ar;rw[kp.ar];exact a.time.2.2.1) (by show(pressA c.x.m c.ins).ar<=(pressA c.x.m c.ins).ck+20000;rw[kp.ar,kp.ck];exact a.time.2.2.2)
 rw[show(c.x.setM (pressA c.x.m c.ins)).m.ck=c.x.m.ck from kp.ck]at hT
 obtain⟨t1,t2,t3,t4⟩:=hT
 have q:=w2.wt
 rw[z4Q]
 split
 ·exact⟨hck,w2.inn.tm,w2.bm,w2.fr.1,w2.inn.sd,⟨by show(0:Int)<=16;decide,by show(16:Int)<=16;decide⟩,t1,t2,t3,t4⟩
 ·exact⟨hck,w2.inn.tm,w2.bm,w2.fr.1,w2.inn.sd,⟨q.1,by omega⟩,t1,t2,t3,t4⟩
theorem z7W(V:Nat->Value)(m:Mach)(v:Value)(ins:List Inp)(n:Nat)(w:World)(hm:MV w V m)(hi:m.In)(hr:m.Right)(hI:InpsAt w v ins)(hc:chkI ins m.ck=0)(hn:n<=20000)(hck:m.ck+n<=200000)(hf:m.bm.fr<=19500):
  Calls Tryz.prog 12 #[.agg (machC V m),v,.int .i64 n] w fun e w'=>∃U lv sv wv,e= .returned (.tuple #[.agg (machC U (lkN (cn0 m ins) n).x.m),.agg #[lv,sv,wv],.int .i64 0])/\
   RunTold w w' U lv sv wv (lkN (cn0 m ins) n).x.m (lkN (cn0 m ins) n).ls (lkN (cn0 m ins) n).ss (lkN (cn0 m ins) n).x.ws:=by
 have hc0:chkFrom m.ck ins=0:=by
  unfold chkI at hc
  split at hc
  ·cases hc
  ·exact hc
 have ck0:0<=m.ck:=hr.time.1.1
 have PD:=zh (z8n hc0)
 have DN:Hid (∀i∈ins,U8 i.dn):=zh (by
  obtain⟨_,_,_,_,_,h,_⟩:=hI
  exact fun i hi=>(h i hi).2.2)
 have HA:Hid (LkAt m (lkN (cn0 m ins) n) n 0 (cn0 m ins)):=zh ⟨⟨⟨hi,hr.fit,hr.wt,hr.bm.1,hr.bm.2.1,by have:=hr.bm.2.2;show m.bm.fr<=20001;omega⟩,by show m.ck=m.ck+((0:Nat):Int);omega,DN.out,z3c hc0,⟨hr.time.2.1.1,hr.time.2.1.2,hr.time.2.2.1,hr.time.2.2.2⟩⟩,rfl,Nat.le_refl _,Nat.le_refl _,Nat.zero_le _,PD.out⟩
 have HB0:Hid (Bt m 0 (cn0 m ins)):=zh (z4S hr.bm.1)
 have HLO:=zh (z6E hc0 ck0)
 have HFR:=zh (And.intro hr.bm.1 (And.intro hr.bm.2.1 hf))
 obtain⟨E,hE⟩:∃E:Int,E=m.ck+n:=⟨_,rfl⟩
 have WE:m.ck+(n:Int)=E:=hE.symm
 have HE:=zh hE
 clear hE hf
 obtain⟨F,hF⟩:∃F,F=lkN (cn0 m ins) n:=⟨_,rfl⟩
 rw[<-hF]at HA⊢
 have CK:=zh (fun W (k:Below w.heap.size w W)=>z1F V m W (hm.below k))
 rw[(z1E m).2 hr]at CK
 have IN:=zh (fun W (k:Below w.heap.size w W)=>z0V v ins m.ck W (hI.below k) (z0C kO))
 rw[hc]at IN
 have CP:=zh (fun W (k:Below w.heap.size w W)=>z7T V m W (hm.below k) hr.lens)
 have HI:=zh (fun W (k:Below w.heap.size w W)=>hI.below k)
 have ON:=zh (z0G m (fun i hi=>hm.one i hi))
 have HF:=zh (And.intro hr.fit hi)
 have BN:=zh z9K
 have n0:¬((n:Int)<0):=by omega
 have n1:¬(20000<(n:Int)):=by omega
 have n2:¬(200000<E):=by rw[HE.out];omega
 clear hm hr hi hF hI hc hc0
 go_enter Tryz.func12,Tryz.ntmps12
 go_wp2_with (first|((with_reducible show wpList _ _ _ _ _ _);refine lW 42 3 rfl rfl (w.heap.size) rfl (machC V m) kB Tryz.underlying42 ?_))
 refine(CK.out _ kL).mono ?_
 rintro e w1 ⟨rfl,hb1⟩
 have s1:=hb1.size
 have K1:=zh (show Blk w1 w.heap.size (machC V m) 42 from kB)
 have Z1:=zh (show Blk w1 (w.heap.size+1) Tryz.zeroCells42 42 from kB)
 have Y1:=zh (show Blk w1 (w.heap.size+1+1) #[.slice none 0 0,.slice none 0 0,.slice none 0 0] 46 from kB)
 have B1:Below w.heap.size w w1:=kL
 have c72:w1.cell? ⟨w.heap.size,72,none⟩=some (.int .i64 m.ck):=(K1.out.cell 72).trans (mx72 ..)
 have fk:=K1.out.free
 have lk:=K1.out.lt
 clear hb1 s1
 go_wp2_with (first|((with_reducible show wpList _ _ _ _ _ _);refine lW 42 3 rfl rfl (w.heap.size) rfl (machC V m) kB Tryz.underlying42 ?_))
 refine(IN.out _ B1).mono ?_
 rintro e w2 ⟨rfl,hb2⟩
 have s2:=hb2.size
 have K2:=zh (K1.out.below hb2)
 have Z2:=zh (Z1.out.below hb2)
 have Y2:=zh (Y1.out.below hb2)
 have B2:=below_then B1 hb2
 have d72:w2.cell? ⟨w.heap.size,72,none⟩=some (.int .i64 m.ck):=(K2.out.cell 72).trans (mx72 ..)
 have fk2:=K2.out.free
 have lk2:=K2.out.lt
 clear c72 fk lk K1 Z1 Y1 hb2 B1 s2
 go_wp2_with (first|((with_reducible show wpList _ _ _ _ _ _);refine lW 42 3 rfl rfl (w.heap.size) rfl (machC V m) kB Tryz.underlying42 ?_))
 refine(CP.out _ kL).mono ?_
 rintro e w3 ⟨U,rfl,FR⟩
 have s3:=FR.below.size
 have q2:w.heap.size+3<=w2.heap.size:=by have:=Y2.out.lt;omega
 have Z3:=zh (Z2.out.below FR.below)
 have Y3:=zh (Y2.out.below FR.below)
 have B3:=below_then B2 FR.below
 have NX:=zh (fun W hB hk=>z7g FR HF.out.1 HF.out.2 (W':=W) (bb:=w3.heap.size) (T:=89) rfl hB hk)
 have HI2:=zh (HI.out _ B2)
 have K3:=zh (K2.out.below FR.below)
 have k3:=K3.out.lt
 have m72:w3.cell? ⟨w.heap.size,72,none⟩=some (.int .i64 m.ck):=(K3.out.cell 72).trans (mx72 ..)
 have fk3:=K3.out.free
 clear K2 FR CK CP IN HI d72 fk2 lk2
 go_wp2_with fail
 rw[BN.out]
 clear m72 fk3 k3 K3 WE
 refine z0g (R:=fun W=>Below w3.heap.size w3 W/\Hid (Blk W w3.heap.size (boxC U ⟨m,[],0⟩ (.slice none 0 0)) 89)/\Hid (OutAt W (w3.heap.size+1) (w3.heap.size+1) [] [])) ?mk5 ?_
 case mk5=>exact⟨((Below.refl _ _).alloc (Nat.le_refl _) _).alloc kS _,zh ((Blk.new w3 _ _).alloc _),zh ⟨Nat.le_refl _,⟨_,_,Blk.new_at _ _ _ _ kS,World.ownsRow_nil _ _ _ _,World.ownsRow_nil _ _ _ _⟩,by simp,by simp⟩⟩
 intro w4 ⟨B4,KB4,O4⟩
 have NN:=NX.out w4 B4 KB4.out
 have R4:=zh NN.1
 have LL:=zh NN.2
 have s4:=O4.out.at'.choose_spec.choose_spec.1.lt
 clear NX NN KB4 BN
 have q3:=LL.out.lo
 obtain⟨bb,hbb⟩:∃b,b=w3.heap.size:=⟨_,rfl⟩
 rw[<-hbb]at R4 LL O4 s4 q3⊢
 clear hbb s3 Y3 Z3 B3 B4
 go_loopw [1] (fun u wr=>∃(k:Nat) (c:Cn),k<=n/\InpsAt w2 u c.ins/\Hid (LkAt m F n k c)/\Hid (Bt m k c)/\Hid (∀i∈c.ins,0<=i.ck/\i.ck<=1000000)/\Hid (RelX 89 w2 U bb w2.heap.size wr c.x)/\Hid (OutAt wr (bb+1) (bb+1) c.ls c.ss)/\bb+1<wr.heap.size) (fun _ W=>(E-ckW W bb).toNat)
 case atStart=>exact⟨0,cn0 m ins,Nat.zero_le _,HI2.out,HA,HB0,HLO,R4,O4,s4⟩
 case round=>
  obtain⟨k,c,hk,hI,hA,hB,hL,hR,hO,sz⟩:=hrel
  clear R4 O4 s4 HA HI2 HB0 HLO
  obtain⟨-,⟨wv0,hbx0,-⟩,-,-,-⟩:=id hR.out
  have lb0:=hbx0.lt
  have fb0:=hbx0.free
  have c72:wr.cell? ⟨bb,72,none⟩=some (.int .i64 c.x.m.ck):=(hbx0.cell 72).trans (bx72 ..)
  have KW:=zh (show ckW wr bb=c.x.m.ck from by unfold ckW;rw[c72])
  clear hbx0
  have hck1:=hA.out.at'.ck
  have hEE:=HE.out
  by_cases hkn:k<n
  ·have hlt:c.x.m.ck<E:=by rw[hEE,hck1];omega
   have hfr:c.x.m.bm.fr<=19900:=by
    rw[hB.out.fr]
    have h1:=HFR.out
    obtain⟨a1,a2,a3,a4⟩:=h1.1
    show m.bm.fr+(m.bm.ln*64+m.bm.pt+k)/640<=19900
    omega
   obtain⟨j,j1,j2,hj⟩:=z0aG c E hA.out.at'.wk hA.out.at'.dn hlt kO hfr
   have HN:=zh (hA.out.run ck0 kO j kO)
   have HBN:=zh (hB.out.run hA.out.at' j HFR.out.1 ck0 kO HFR.out.2.1 (by have:=HFR.out.2.2;omega) kO)
   have w1k:=hA.out.at'.wk.press hA.out.at'.dn
   have kp:=z1b c.ins c.x.m
   have cf:=z6C hA.out.at' ck0 kO
   have cn:(ct1 c E).x.m.ck=c.x.m.ck+j:=by
    rw[hj,HN.out.at'.ck,hck1]
    omega
   rw[<-hj]at HN HBN
   obtain⟨m1,hm1⟩:∃m1,m1=pressA c.x.m c.ins:=⟨_,rfl⟩
   obtain⟨i1,hi1⟩:∃l,l=pressR c.x.m.ck c.ins:=⟨_,rfl⟩
   obtain⟨X1,hX1⟩:∃X,X=c.x.setM {m1 with sd:=dueS m1.sd}:=⟨_,rfl⟩
   obtain⟨Y,hY⟩:∃Y,Y=doX X1:=⟨_,rfl⟩
   obtain⟨ys,hys⟩:∃y,y=dueL m1.sd:=⟨_,rfl⟩
   have EY:ctX c.x c.ins=Y:=by rw[hY,hX1,hm1];rfl
   rw[EY]at cf
   have eN:ctN c E=j:=by
    have:(ct1 c E).x.m.ck=Y.m.ck+ctN c E:=by
     unfold ct1
     rw[EY]
     rfl
    omega
   have HZE:Hid (hz Y.m i1 (E-c.x.m.ck)=j):=zh (by rw[<-eN,<-cf.1];unfold ctN;rw[EY,hi1])
   have L1E:Hid (ct1 c E=⟨Y.setM (ctM Y.m j),c.ls++drawO m1,c.ss++ys++sndL Y.m.sd j,i1⟩):=zh (by
    unfold ct1
    rw[eN,EY,hm1,hi1,hys,hm1]
    rfl)
   have TP:=zh (fun W (hR:RelX 89 w2 U bb w2.heap.size W c.x) (hB:bb+1<=W.heap.size)=>z4W LL.out W c.x _ c.ins rfl hI hA.out.pd hR hB)
   rw[<-hm1,<-hi1]at TP
   rw[<-hm1]at w1k kp
   have mck:m1.ck=c.x.m.ck:=kp.ck
   have HLI:Hid (∀i∈i1,0<=i.ck/\i.ck<=1000000):=zh (fun i hi=>hL.out i (by rw[hi1]at hi;exact z1i i hi))
   have LN:=zh (And.intro hA.out.ls (And.intro hA.out.ss hA.out.ws))
   have LNX:=zh HN.out.ss
   have WX:=zh w1k
   have CF:=zh cf
   have HCK:=zh (And.intro hck1 (And.intro hlt (And.intro j1 (And.intro j2 (And.intro cn mck)))))
   have tdt:decide (c.x.m.ck<E)=true:=decide_eq_true hlt
   have HM1:=zh hX1
   have HYS:=zh hys
   have HYD:=zh hY
   have WSE:wrap64 (E-c.x.m.ck)=E-c.x.m.ck:=z0n _ kO kO
   have WCJ:wrap64 (c.x.m.ck+j)=c.x.m.ck+j:=z0n _ kO kO
   clear hm1 hi1 kp w1k hI hj eN EY cf cn hX1 hys hY hfr j1 j2 hEE hck1 mck hL hB
   go_wp2_with fail
   refine(TP.out _ hR.out (Nat.le_of_lt sz)).mono ?_
   rintro e w5 ⟨v5,rfl,I5,R5,P5⟩
   have O5:=zh (hO.out.kp P5)
   have s5:=P5.size
   have RX5:=zh R5
   clear R5 P5 hO hR TP c72 fb0 lb0
   go_wp2_with fail
   refine(z5B LL.out _ (c.x.setM m1) (bb+1) c.ls c.ss WX.out.bm RX5.out O5.out (nlA LN.out.1 hkn hn) (Nat.le_trans (Nat.le_of_lt sz) s5)).mono ?_
   rintro e w6 ⟨rfl,R6,O6,s6⟩
   have RX6:=zh R6
   have OX6:=zh O6
   obtain⟨-,⟨wv6,hbx6,-⟩,-,-,-⟩:=R6
   have KB6:=zh hbx6
   have lb6:=hbx6.lt
   have fb6:=hbx6.free
   have c60:w6.cell? ⟨bb,60,none⟩=some (.int .i64 m1.sd.wt):=(hbx6.cell 60).trans (bx60 ..)
   clear hbx6 O6 RX5 O5
   rcases(by omega:m1.sd.wt=0\/¬m1.sd.wt=0)with hw0|hw0
   case' inl=>
    have wtd:(m1.sd.wt==0)=true:=beq_iff_eq.2 hw0
    have EX1:Hid (X1=c.x.setM {m1 with sd:={m1.sd with wt:=16}}):=zh (by rw[HM1.out];unfold dueS;rw[if_pos hw0])
    have EYS:Hid (ys=smp m1.sd 1):=zh (by rw[HYS.out,z2Y])
    have SM:=zh (z7f m1.sd ⟨WX.out.inn.sd,WX.out.wt⟩)
    rw[<-EYS.out]at SM
    have hyl:ys.length<=1:=by rw[HYS.out];unfold dueL;split<;>simp
    have hyi:Hid (∀x∈ys,0<=x/\x<=45):=zh (by rw[EYS.out];exact z8h m1.sd 1)
    obtain⟨sd1,hsd1⟩:∃y,y=runS m1.sd 1:=⟨_,rfl⟩
    rw[<-hsd1]at SM
    clear hsd1 hw0
    go_wp2_with (first|((with_reducible show wpList _ _ _ _ _ _);refine lA 37 84 rfl rfl (bb) (45) 16 rfl 89 (boxC U (c.x.setM m1) wv6) #[.int .u16 m1.sd.a.pd,.int .u16 m1.sd.a.ct,.int .u8 m1.sd.a.ld,.bool m1.sd.a.hi,.int .u16 m1.sd.a.nz,.int .u16 m1.sd.b.pd,.int .u16 m1.sd.b.ct,.int .u8 m1.sd.b.ld,.bool m1.sd.b.hi,.int .u16 m1.sd.b.nz,.int .u16 m1.sd.c.pd,.int .u16 m1.sd.c.ct,.int .u8 m1.sd.c.ld,.bool m1.sd.c.hi,.int .u16 m1.sd.c.nz,.int .i64 m1.sd.wt] kB Tryz.underlying37 ?_))
    refine(SM.out _).mono ?_
    rintro e w8 ⟨ao,cp,rfl,hown8,hb8⟩
    have s8:=hb8.size
    have RX8:=zh (RX6.out.stable LL.out (St.of hb8 kO (Nat.le_refl _)))
    have OX8:=zh (OX6.out.kp ((Kp.refl _ _ _).below hb8 (Nat.le_refl _)))
    have SL8:=zh (z1g hown8 (fun x hx=>z1G (fun x hx=>by have:=hyi.out x hx;omega) x hx))
    have KB8:=zh (KB6.out.below hb8)
    clear hown8 RX6 OX6 KB6 lb6 fb6 c60
    go_upto_region 18 with(first|((with_reducible show wpList _ _ _ _ _ _);refine sW 37 16 88 rfl rfl (w8.heap.size) #[.int .u16 sd1.a.pd,.int .u16 sd1.a.ct,.int .u8 sd1.a.ld,.bool sd1.a.hi,.int .u16 sd1.a.nz,.int .u16 sd1.b.pd,.int .u16 sd1.b.ct,.int .u8 sd1.b.ld,.bool sd1.b.hi,.int .u16 sd1.b.nz,.int .u16 sd1.c.pd,.int .u16 sd1.c.ct,.int .u8 sd1.c.ld,.bool sd1.c.hi,.int .u16 sd1.c.nz,.int .i64 sd1.wt] rfl rfl #[.int .u16 0,.int .u16 0,.int .u8 0,.bool false,.int .u16 0,.int .u16 0,.int .u16 0,.int .u8 0,.bool false,.int .u16 0,.int .u16 0,.int .u16 0,.int .u8 0,.bool false,.int .u16 0,.int .i64 0] kB ?_;intro w9 hp_w9 K_w9))
    have b9:Below w8.heap.size w8 w9:=kL
    have s9:=b9.size
    have sz9:bb+1<w9.heap.size:=by omega
    have RX9:=zh (RX8.out.stable LL.out (St.of b9 kO (Nat.le_refl _)))
    have SL9:=zh (SL8.out.below b9)
    have KB9:=zh (KB8.out.below b9)
    obtain⟨hob,⟨lv,sv,hk0,hk1,hk2⟩,hk3,hk4⟩:=OX8.out.kp ((Kp.refl _ _ _).below b9 (Nat.le_refl _))
    obtain⟨a1,c1,rfl⟩:=z0a hk2
    have KO9:=zh hk0
    have OK9:=zh (And.intro hk3 hk4)
    obtain⟨v2,w10,hr2,ho2,hg2⟩:=z0I w9 (bb+1) _ c.ss hk2 _ ys SL9.out (nlS LN.out.2.1 hyl hkn hn) (Nat.le_of_lt sz9) 22
    have SA:=fun g hg=>z1h hk2 (g:=g) hg
    have eo1:w9.cell? ⟨bb+1,1,none⟩=some (.slice a1 c.ss.length c1):=hk0.cell 1
    have ko10:=zh (Blk.growne (e:=5) hk0 hg2 (fun g hg=>(SA g hg).2) kD)
    have kb10:=zh (Blk.growne (e:=5) KB9.out hg2 (fun g hg=>(SA g hg).2) kD)
    have ln10:=zh (z3h (e':=5) hk1 hg2 (fun g hg=>(SA g hg).2) kD)
    have st10:St (bb+1) w9 w10:=St.grown (St.refl _ _) hg2 (fun g hg=>⟨(SA g hg).1,by obtain⟨cs,hcs⟩:=(SA g hg).2;exact Blk.nw hcs kD⟩) kO
    have eo2:w10.cell? ⟨bb+1,1,none⟩=some (.slice a1 c.ss.length c1):=ko10.out.cell 1
    have fo2:=ko10.out.free
    have lo2:=ko10.out.lt
    have s10:=hg2.size
    obtain⟨a2,c2,rfl⟩:=z0a ho2
    have HR2:=zh hr2
    have R10:=zh (RX9.out.stable LL.out (St.setCell st10 (p:=⟨bb+1,1,none⟩) (Nat.le_refl _) (Or.inr (Blk.nw KO9.out kD)) (.slice a2 (c.ss++ys).length c2)))
    have K10:Hid (Blk (w10.setCell ⟨bb+1,1,none⟩ (.slice a2 (c.ss++ys).length c2)) bb (boxC U (c.x.setM m1) wv6) 89):=zh (kb10.out.setAt (Nat.ne_of_lt (Nat.lt_succ_self _)))
    have O10:Hid (OutAt (w10.setCell ⟨bb+1,1,none⟩ (.slice a2 (c.ss++ys).length c2)) (bb+1) (bb+1) (c.ls++drawO m1) (c.ss++ys)):=zh (z5Z ko10.out ln10.out ho2 OK9.out.1 OK9.out.2 (fun x hx=>⟨(hyi.out x hx).1,Int.le_trans (hyi.out x hx).2 kD⟩))
    have sz10:bb+1<=(w10.setCell ⟨bb+1,1,none⟩ (.slice a2 (c.ss++ys).length c2)).heap.size:=Nat.le_trans (Nat.le_of_lt lo2) kS
    rw[List.length_append]at R10 O10 sz10 K10
    clear hk0 hk1 hk2 hk3 hk4 SL9 SL8 RX8 OX8 K_w9 hp_w9 hr2 ho2 hg2 SA st10 KO9 OK9 hob b9 s9 hb8 s8 ln10 KB8 KB9 kb10 RX9 hyl
    go_upto_region 19 with(at_builtin;refine Lib.wpList_append_run _ rfl _ _ _ _ rfl _ _ rfl rfl _ _ HR2.out ?_)
    refine z0g (R:=fun W=>Hid (RelX 89 w2 U bb w2.heap.size W (c.x.setM m1))/\Hid (OutAt W (bb+1) (bb+1) (c.ls++drawO m1) (c.ss++ys))/\Hid (Blk W bb (boxC U (c.x.setM m1) wv6) 89)/\bb+1<=W.heap.size) ⟨R10,O10,K10,sz10⟩ ?_
    intro w11 ⟨R11,O11,K11,s11⟩
    clear R10 O10 sz10 ko10 fo2 lo2 eo1 eo2 s10 HR2 sz9 K10 SM
    have f11:=K11.out.free
    have l11:=K11.out.lt
    have c60:w11.cell? ⟨bb,60,none⟩=some (.int .i64 m1.sd.wt):=(K11.out.cell 60).trans (bx60 ..)
    go_upto_region 20 with(fail)
    have RA:Hid (RelX 89 w2 U bb w2.heap.size (w11.setCell ⟨bb,60,none⟩ (.int .i64 16)) X1):=zh (by
     rw[EX1.out]
     exact R11.out.turn LL.out K11.out ((But.refl _ _).setCell (p:=⟨bb,60,none⟩) rfl _) kD (Blk.set K11.out rfl) rfl rfl (In.swt R11.out.inn kD))
    have OA:Hid (OutAt (w11.setCell ⟨bb,60,none⟩ (.int .i64 16)) (bb+1) (bb+1) (c.ls++drawO m1) (c.ss++ys)):=zh (O11.out.kp (((But.refl _ _).setCell (p:=⟨bb,60,none⟩) rfl _).kp (Nat.lt_succ_self _)))
    refine z0g (R:=fun W=>Hid (RelX 89 w2 U bb w2.heap.size W X1)/\Hid (OutAt W (bb+1) (bb+1) (c.ls++drawO m1) (c.ss++ys))/\bb+1<=W.heap.size) ⟨RA,OA,Nat.le_trans s11 kS⟩ ?_
    clear RA OA R11 O11 K11 s11 f11 l11 c60 EX1 EYS hyi wtd
    intro w12 ⟨R12,O12,s12⟩
   case' inr=>
    have wtd:(m1.sd.wt==0)=false:=beq_eq_false_iff_ne.2 hw0
    have EX1:X1=c.x.setM m1:=by rw[HM1.out];unfold dueS;rw[if_neg hw0]
    have EYS:ys=[]:=by rw[HYS.out];unfold dueL;rw[if_neg hw0]
    have RA:Hid (RelX 89 w2 U bb w2.heap.size w6 X1):=zh (by rw[EX1];exact RX6.out)
    have OA:Hid (OutAt w6 (bb+1) (bb+1) (c.ls++drawO m1) (c.ss++ys)):=zh (by rw[EYS,List.append_nil];exact OX6.out)
    clear EX1 EYS hw0 RX6 OX6
    go_upto_region 20 with(fail)
    refine z0g (R:=fun W=>Hid (RelX 89 w2 U bb w2.heap.size W X1)/\Hid (OutAt W (bb+1) (bb+1) (c.ls++drawO m1) (c.ss++ys))/\bb+1<=W.heap.size) ⟨RA,OA,by omega⟩ ?_
    clear RA OA KB6 lb6 fb6 c60 wtd
    intro w12 ⟨R12,O12,s12⟩
   all_goals
    have X1I:=zh R12.out.inn
    have X1C:X1.m.ck=c.x.m.ck:=by rw[HM1.out];exact HCK.out.2.2.2.2.2
    have X1W:X1.ws=c.x.ws:=by rw[HM1.out];rfl
    have DO:=zh (fun W (hr:RelX 89 w2 U bb w2.heap.size W X1) (hB:bb+1<=W.heap.size)=>z8J LL.out W X1 (by rw[X1W];exact nlW LN.out.2.2 hkn hn) (by rw[X1C,HCK.out.1];omega) (by rw[X1C,HCK.out.1];omega) hr hB)
    rw[<-HYD.out]at DO
    clear X1C X1W
    go_wp2_with (first|((with_reducible show wpList _ _ _ _ _ _);refine lA 37 84 rfl rfl (bb) (45) 16 rfl 89 (boxC U (c.x.setM m1) wv6) #[.int .u16 m1.sd.a.pd,.int .u16 m1.sd.a.ct,.int .u8 m1.sd.a.ld,.bool m1.sd.a.hi,.int .u16 m1.sd.a.nz,.int .u16 m1.sd.b.pd,.int .u16 m1.sd.b.ct,.int .u8 m1.sd.b.ld,.bool m1.sd.b.hi,.int .u16 m1.sd.b.nz,.int .u16 m1.sd.c.pd,.int .u16 m1.sd.c.ct,.int .u8 m1.sd.c.ld,.bool m1.sd.c.hi,.int .u16 m1.sd.c.nz,.int .i64 m1.sd.wt] kB Tryz.underlying37 ?_))
    refine(DO.out _ R12.out s12).mono ?_
    rintro e w13 ⟨rfl,R13,P13⟩
    have O13:=zh (O12.out.kp P13)
    have s13:bb+1<=w13.heap.size:=Nat.le_trans s12 P13.size
    obtain⟨-,⟨wv,hbx,-⟩,-,-,-⟩:=id R13
    have RY:=zh R13
    have KB13:=zh hbx
    have KBQ:=zh hbx
    have lb:=hbx.lt
    have fb:=hbx.free
    have CY:Y.m.ck=c.x.m.ck:=CF.out.1
    have c72:w13.cell? ⟨bb,72,none⟩=some (.int .i64 c.x.m.ck):=by rw[<-CY];exact(hbx.cell 72).trans (bx72 ..)
    have I13:Hid (InpsAt w13 v5 i1):=zh (InpsAt.old I5 R13.old)
    have HZ:=zh (z4k U Y wv bb v5 i1 (E-c.x.m.ck) w13 KB13.out I13.out CF.out.2.2.1 (by rw[CY,HCK.out.1];omega) (by rw[CY,HCK.out.1];omega) CF.out.2.2.2.2.2.2.1 (by have:=CF.out.2.2.2.2.2.2.2.1;have:=HCK.out.1;omega) CF.out.2.2.2.2.2.2.2.2.1 (by have:=CF.out.2.2.2.2.2.2.2.2.2;have:=HCK.out.1;omega) HLI.out)
    rw[HZE.out]at HZ
    clear R13 P13 R12 O12 s12 hbx DO CY I13
    go_wp2_with (first|((with_reducible show wpList _ _ _ _ _ _);refine lA 37 84 rfl rfl (bb) (45) 16 rfl 89 (boxC U (c.x.setM m1) wv6) #[.int .u16 m1.sd.a.pd,.int .u16 m1.sd.a.ct,.int .u8 m1.sd.a.ld,.bool m1.sd.a.hi,.int .u16 m1.sd.a.nz,.int .u16 m1.sd.b.pd,.int .u16 m1.sd.b.ct,.int .u8 m1.sd.b.ld,.bool m1.sd.b.hi,.int .u16 m1.sd.b.nz,.int .u16 m1.sd.c.pd,.int .u16 m1.sd.c.ct,.int .u8 m1.sd.c.ld,.bool m1.sd.c.hi,.int .u16 m1.sd.c.nz,.int .i64 m1.sd.wt] kB Tryz.underlying37 ?_))
    refine HZ.out.mono ?_
    rintro e w14 ⟨rfl,hb14⟩
    have KB14:=zh (KB13.out.below hb14)
    have BT14:=zh ((But.refl bb w13).thenb hb14)
    have J2:(j:Int)<=20000:=by have:=HCK.out;have:=HE.out;omega
    have J0:(0:Int)<=j:=Int.natCast_nonneg _
    have TT:=zh (fun W=>z6U Y.m.tm CF.out.2.1 j J0 J2 W)
    have TB:=zh (fun W=>z6P Y.m.bm CF.out.2.2.1 CF.out.2.2.2.1 j J0 J2 W)
    have TS:=zh (fun W=>z4Y Y.m.sd CF.out.2.2.2.2.1 CF.out.2.2.2.2.2.1.1 CF.out.2.2.2.2.2.1.2 j kO W)
    obtain⟨J,hJ⟩:∃J:Int,J=j:=⟨_,rfl⟩
    obtain⟨tm1,htm1⟩:∃y,y=runTm Y.m.tm (j:Int):=⟨_,rfl⟩
    obtain⟨bm1,hbm1⟩:∃y,y=beamR Y.m.bm (j:Int):=⟨_,rfl⟩
    obtain⟨sd1,hsd1⟩:∃y,y=sndS Y.m.sd j:=⟨_,rfl⟩
    obtain⟨zs,hzs⟩:∃y,y=sndL Y.m.sd j:=⟨_,rfl⟩
    rw[<-htm1]at TT
    rw[<-hbm1]at TB
    rw[<-hsd1,<-hzs]at TS
    rw[<-hzs]at L1E
    rw[<-hJ]at TT TB TS WCJ⊢
    have HJ:=zh hJ
    have HT1:=zh htm1
    have HB1:=zh hbm1
    have HS1:=zh hsd1
    have HZI:Hid (∀x∈zs,0<=x/\x<=45):=zh (by rw[hzs];exact z8h _ _)
    clear hb14 HZ KB13 c72 htm1 hbm1 hsd1 hzs hJ J0 J2 fb lb tdt
    have fb:=KB14.out.free
    have lb:=KB14.out.lt
    go_wp2_with (first|((with_reducible show wpList _ _ _ _ _ _);refine lA 32 114 rfl rfl (bb) (41) 4 rfl 89 (boxC U Y wv) #[.int .u16 Y.m.tm.rl,.int .u16 Y.m.tm.ct,.bool Y.m.tm.on,.bool Y.m.tm.rg] kB Tryz.underlying32 ?_))
    refine(TT.out _).mono ?_
    rintro e w15 ⟨rfl,hb15⟩
    have KB15:=zh (KB14.out.below hb15)
    have BT15:=zh (BT14.out.thenb hb15)
    clear hb15 fb lb KB14 BT14
    have fb:=KB15.out.free
    have lb:=KB15.out.lt
    go_upto_region 23 with(((with_reducible show wpList _ _ _ _ _ _);refine sA 32 121 118 rfl rfl (bb) (41) #[.int .u16 tm1.rl,.int .u16 tm1.ct,.bool tm1.on,.bool tm1.rg] rfl rfl 89 (boxC U Y wv) (boxC U (Y.wTm tm1) wv) kB ?_;intro w16 hp_w16 K_w16))
    have KB16:=zh K_w16.out
    have BT16:=zh (BT15.out.put hp_w16)
    clear K_w16 hp_w16 fb lb KB15 BT15
    have fb:=KB16.out.free
    have lb:=KB16.out.lt
    go_wp2_with (first|((with_reducible show wpList _ _ _ _ _ _);refine lA 39 126 rfl rfl (bb) (61) 4 rfl 89 (boxC U (Y.wTm tm1) wv) #[.int .i64 Y.m.bm.ln,.int .i64 Y.m.bm.pt,.bool Y.m.bm.rg,.int .i64 Y.m.bm.fr] kB Tryz.underlying39 ?_))
    refine(TB.out _).mono ?_
    rintro e w17 ⟨⟨er,rfl⟩,hb17⟩
    have KB17:=zh (KB16.out.below hb17)
    have BT17:=zh (BT16.out.thenb hb17)
    clear hb17 fb lb KB16 BT16
    have fb:=KB17.out.free
    have lb:=KB17.out.lt
    go_upto_region 24 with(((with_reducible show wpList _ _ _ _ _ _);refine sA 39 133 130 rfl rfl (bb) (61) #[.int .i64 bm1.ln,.int .i64 bm1.pt,.bool bm1.rg,.int .i64 bm1.fr] rfl rfl 89 (boxC U (Y.wTm tm1) wv) (boxC U ((Y.wTm tm1).wBm bm1) wv) kB ?_;intro w18 hp_w18 K_w18))
    have KB18:=zh K_w18.out
    have BT18:=zh (BT17.out.put hp_w18)
    clear K_w18 hp_w18 fb lb KB17 BT17
    have fb:=KB18.out.free
    have lb:=KB18.out.lt
    go_wp2_with (first|((with_reducible show wpList _ _ _ _ _ _);refine lA 37 137 rfl rfl (bb) (45) 16 rfl 89 (boxC U ((Y.wTm tm1).wBm bm1) wv) #[.int .u16 Y.m.sd.a.pd,.int .u16 Y.m.sd.a.ct,.int .u8 Y.m.sd.a.ld,.bool Y.m.sd.a.hi,.int .u16 Y.m.sd.a.nz,.int .u16 Y.m.sd.b.pd,.int .u16 Y.m.sd.b.ct,.int .u8 Y.m.sd.b.ld,.bool Y.m.sd.b.hi,.int .u16 Y.m.sd.b.nz,.int .u16 Y.m.sd.c.pd,.int .u16 Y.m.sd.c.ct,.int .u8 Y.m.sd.c.ld,.bool Y.m.sd.c.hi,.int .u16 Y.m.sd.c.nz,.int .i64 Y.m.sd.wt] kB Tryz.underlying37 ?_))
    refine(TS.out _).mono ?_
    rintro e w19 ⟨ao,cp,rfl,hown,hb19⟩
    have KB19:=zh (KB18.out.below hb19)
    have BT19:=zh (BT18.out.thenb hb19)
    have OW19:=zh hown
    have s19:bb+1<w19.heap.size:=z6a (O13.out.kp (BT19.out.kp (Nat.lt_succ_self _)))
    clear hb19 fb lb KB18 BT18 hown
    go_upto_region 25 with(((with_reducible show wpList _ _ _ _ _ _);refine sW 37 20 142 rfl rfl (w19.heap.size) #[.int .u16 sd1.a.pd,.int .u16 sd1.a.ct,.int .u8 sd1.a.ld,.bool sd1.a.hi,.int .u16 sd1.a.nz,.int .u16 sd1.b.pd,.int .u16 sd1.b.ct,.int .u8 sd1.b.ld,.bool sd1.b.hi,.int .u16 sd1.b.nz,.int .u16 sd1.c.pd,.int .u16 sd1.c.ct,.int .u8 sd1.c.ld,.bool sd1.c.hi,.int .u16 sd1.c.nz,.int .i64 sd1.wt] rfl rfl #[.int .u16 0,.int .u16 0,.int .u8 0,.bool false,.int .u16 0,.int .u16 0,.int .u16 0,.int .u8 0,.bool false,.int .u16 0,.int .u16 0,.int .u16 0,.int .u8 0,.bool false,.int .u16 0,.int .i64 0] kB ?_;intro w20 hp_w20 K_w20))
    have b20:Below w19.heap.size w19 w20:=kL
    have KB20:=zh (KB19.out.below b20)
    have BT20:=zh (BT19.out.thenb b20)
    have OW20:=zh (own_below OW19.out b20)
    have KS20:=zh K_w20.out
    have O20:=zh (O13.out.kp (BT20.out.kp (Nat.lt_succ_self _)))
    clear b20 KB19 BT19 OW19 K_w20 hp_w20 TT TB TS
    have HIN:=HN.out.at'.wk.inn
    rw[L1E.out]at HIN
    have HIN:=zh HIN
    obtain⟨X2,hX2⟩:∃X,X=(Y.wTm tm1).wBm bm1:=⟨_,rfl⟩
    rw[<-hX2]at KB20
    have X2I:X2.m.In:=by
     have q:=HIN.out
     have y:=RY.out.inn
     rw[hX2]
     exact⟨y.mc,y.ac,y.mem,y.p0,y.p1,by have:=q.tm;rw[show(Y.setM (ctM Y.m j)).m.tm=tm1 from by rw[HT1.out];rfl]at this;exact this,y.sd,y.wt,by have:=q.ln;rw[show(Y.setM (ctM Y.m j)).m.bm=bm1 from by rw[HB1.out];rfl]at this;exact this,by have:=q.pt;rw[show(Y.setM (ctM Y.m j)).m.bm=bm1 from by rw[HB1.out];rfl]at this;exact this,by have:=q.fr;rw[show(Y.setM (ctM Y.m j)).m.bm=bm1 from by rw[HB1.out];rfl]at this;exact this,y.fm,y.to,y.m0,y.m1,y.ck,y.mr,y.ar⟩
    have RX2:=zh ((RY.out.turn (x':=X2) LL.out KBQ.out BT20.out kD KB20.out (by rw[hX2];rfl) (by rw[hX2];rfl) X2I).stable LL.out ((St.refl (bb+1) _).drew))
    have HX2:=zh hX2
    have s20:bb+1<w20.heap.size:=z6a O20.out
    have hzl:zs.length<=20000/\(c.ss++ys).length+zs.length<=1000000:=by
     have h:=LNX.out
     rw[L1E.out]at h
     have h2:(c.ss++ys++zs).length<=k+j:=h
     rw[List.length_append]at h2
     have:=HCK.out
     have:=HE.out
     omega
    obtain⟨hob,⟨lv,sv,hk0,hk1,hk2⟩,hk3,hk4⟩:=O20.out.kp ((Kp.refl _ _ _).drew)
    obtain⟨a1,c1,rfl⟩:=z0a hk2
    have OK20:=zh (And.intro hk3 hk4)
    have SL:=z1g (World.ownsRow.drew OW20.out) (fun x hx=>z1G (fun x hx=>by have:=HZI.out x hx;omega) x hx)
    obtain⟨v2,w21,hr2,ho2,hg2⟩:=z0I w20.drew (bb+1) _ (c.ss++ys) hk2 _ zs SL hzl.2 (Nat.le_of_lt s20) 22
    have SA:=fun g hg=>z1h hk2 (g:=g) hg
    have eo1:w20.cell? ⟨bb+1,1,none⟩=some (.slice a1 (c.ss++ys).length c1):=hk0.cell 1
    have ko21:=zh (Blk.growne (e:=5) hk0 hg2 (fun g hg=>(SA g hg).2) kD)
    have kb21:=zh (Blk.growne (e:=5) (Blk.drew KB20.out) hg2 (fun g hg=>(SA g hg).2) kD)
    have KD0:=zh (Blk.drew KS20.out)
    have KD1:=zh (Blk.growne (e:=5) KD0.out hg2 (fun g hg=>(SA g hg).2) kD)
    have KD2:=zh (fun v=>Blk.setAt (v:=v) (a:=⟨bb+1,1,none⟩) KD1.out (Nat.ne_of_gt s19))
    have ln21:=zh (z3h (e':=5) hk1 hg2 (fun g hg=>(SA g hg).2) kD)
    have st21:St (bb+1) w20.drew w21:=St.grown (St.refl _ _) hg2 (fun g hg=>⟨(SA g hg).1,by obtain⟨cs,hcs⟩:=(SA g hg).2;exact Blk.nw hcs kD⟩) (Nat.le_of_lt s20)
    have eo2:w21.cell? ⟨bb+1,1,none⟩=some (.slice a1 (c.ss++ys).length c1):=ko21.out.cell 1
    have fo2:=ko21.out.free
    have lo2:=ko21.out.lt
    obtain⟨a2,c2,rfl⟩:=z0a ho2
    have HR2:=zh hr2
    have R22:=zh (RX2.out.stable LL.out (St.setCell st21 (p:=⟨bb+1,1,none⟩) (Nat.le_refl _) (Or.inr (Blk.nw hk0 kD)) (.slice a2 (c.ss++ys++zs).length c2)))
    have K22:Hid (Blk (w21.setCell ⟨bb+1,1,none⟩ (.slice a2 (c.ss++ys++zs).length c2)) bb (boxC U X2 wv) 89):=zh (kb21.out.setAt (Nat.ne_of_lt (Nat.lt_succ_self _)))
    have O22:Hid (OutAt (w21.setCell ⟨bb+1,1,none⟩ (.slice a2 (c.ss++ys++zs).length c2)) (bb+1) (bb+1) (c.ls++drawO m1) (c.ss++ys++zs)):=zh (z5Z ko21.out ln21.out ho2 OK20.out.1 OK20.out.2 (fun x hx=>⟨(HZI.out x hx).1,Int.le_trans (HZI.out x hx).2 kD⟩))
    generalize (c.ss++ys++zs).length=L2 at*
    generalize (c.ss++ys).length=L1 at*
    clear hk0 hk1 hk2 hk3 hk4 hr2 ho2 hg2 SA st21 OK20 hob ln21 kb21 SL OW20 RX2 X2I KB20 BT20 hzl hX2 RY KBQ O20 O13 KS20 ko21
    go_wp2_with (first|((with_reducible show wpList _ _ _ _ _ _);refine lA 37 137 rfl rfl (bb) (45) 16 rfl 89 (boxC U ((Y.wTm tm1).wBm bm1) wv) #[.int .u16 Y.m.sd.a.pd,.int .u16 Y.m.sd.a.ct,.int .u8 Y.m.sd.a.ld,.bool Y.m.sd.a.hi,.int .u16 Y.m.sd.a.nz,.int .u16 Y.m.sd.b.pd,.int .u16 Y.m.sd.b.ct,.int .u8 Y.m.sd.b.ld,.bool Y.m.sd.b.hi,.int .u16 Y.m.sd.b.nz,.int .u16 Y.m.sd.c.pd,.int .u16 Y.m.sd.c.ct,.int .u8 Y.m.sd.c.ld,.bool Y.m.sd.c.hi,.int .u16 Y.m.sd.c.nz,.int .i64 Y.m.sd.wt] kB Tryz.underlying37 ?_))
    refine z0h (fun k W=>(k=2->W.cell? ⟨bb+1,1,none⟩=some (.slice a1 L1 c1))/\(k=5->Blk W w19.heap.size #[.int .u16 sd1.a.pd,.int .u16 sd1.a.ct,.int .u8 sd1.a.ld,.bool sd1.a.hi,.int .u16 sd1.a.nz,.int .u16 sd1.b.pd,.int .u16 sd1.b.ct,.int .u8 sd1.b.ld,.bool sd1.b.hi,.int .u16 sd1.b.nz,.int .u16 sd1.c.pd,.int .u16 sd1.c.ct,.int .u8 sd1.c.ld,.bool sd1.c.hi,.int .u16 sd1.c.nz,.int .i64 sd1.wt] 37)) [0,1,2,3,5,6,8,9] kR ?_
    refine tF 0 ⟨nD,nD⟩ ?_
    refine tF 1 ⟨nD,nD⟩ ?_
    refine tG 2 rfl (by intro w hF;have hF2:=hF.1 rfl;clear hF;go_simp;try with_reducible rfl) ⟨(fun _=>eo1),nD⟩ ?_
    refine tF 3 ⟨nD,nD⟩ ?_
    try simp only[yA,yB,yC,Act.put,yD,yE,yF]
    refine z0c (i:=5) rfl kR kR kR kR (fun _ _ _ h=>h) (z0d (by rfl) 37 (.tmp 20) rfl (w19.heap.size) 0 16 rfl 37 (#[.int .u16 sd1.a.pd,.int .u16 sd1.a.ct,.int .u8 sd1.a.ld,.bool sd1.a.hi,.int .u16 sd1.a.nz,.int .u16 sd1.b.pd,.int .u16 sd1.b.ct,.int .u8 sd1.b.ld,.bool sd1.b.hi,.int .u16 sd1.b.nz,.int .u16 sd1.c.pd,.int .u16 sd1.c.ct,.int .u8 sd1.c.ld,.bool sd1.c.hi,.int .u16 sd1.c.nz,.int .i64 sd1.wt]) (#[.int .u16 sd1.a.pd,.int .u16 sd1.a.ct,.int .u8 sd1.a.ld,.bool sd1.a.hi,.int .u16 sd1.a.nz,.int .u16 sd1.b.pd,.int .u16 sd1.b.ct,.int .u8 sd1.b.ld,.bool sd1.b.hi,.int .u16 sd1.b.nz,.int .u16 sd1.c.pd,.int .u16 sd1.c.ct,.int .u8 sd1.c.ld,.bool sd1.c.hi,.int .u16 sd1.c.nz,.int .i64 sd1.wt]) (fun W hF=>hF.2 rfl) _ Tryz.underlying37 rfl kR rfl rfl) ⟨nD,(fun _=>KD0.out)⟩ ?_
    try simp only[yA,yB,yC,Act.put,yD,yE,yF]
    refine rF 4 fun K hK=> ?_
    rw[if_pos (by rfl)]
    refine Lib.wp_append_run _ (.tmp 145) (.tmp 146) 22 22 rfl _ _ rfl rfl _ _ HR2.out ?_
    refine hK.out _ _ (Sat.all kR (fun k=>⟨fun _=>eo2,fun _=>KD1.out⟩)) ?_
    clear hK K HR2
    try simp only[yA,yB,yC,Act.put,yD,yE,yF]
    refine tF 6 ⟨nD,nD⟩ ?_
    refine rF 7 fun K hK=> ?_
    go_simp
    refine hK.out _ _ (Sat.at' [2] (fun k hk=>by simp only[List.mem_cons,List.not_mem_nil,or_false]at hk;exact⟨(fun e=>absurd e hk),fun _=>KD2.out _⟩) kR) ?_
    clear hK K eo1 eo2 fo2 lo2 KD0 KD1 KD2
    try simp only[yA,yB,yC,Act.put,yD,yE,yF]
    refine tF 8 ⟨nD,nD⟩ ?_
    refine tF 9 ⟨nD,nD⟩ ?_
    refine rF 10 fun K hK=> ?_
    rw[if_pos (by rfl)]
    refine z0K 37 (.tmp 151) (.tmp 148) rfl bb 45 #[.int .u16 sd1.a.pd,.int .u16 sd1.a.ct,.int .u8 sd1.a.ld,.bool sd1.a.hi,.int .u16 sd1.a.nz,.int .u16 sd1.b.pd,.int .u16 sd1.b.ct,.int .u8 sd1.b.ld,.bool sd1.b.hi,.int .u16 sd1.b.nz,.int .u16 sd1.c.pd,.int .u16 sd1.c.ct,.int .u8 sd1.c.ld,.bool sd1.c.hi,.int .u16 sd1.c.nz,.int .i64 sd1.wt] rfl rfl 89 (boxC U X2 wv) (boxC U (X2.wSd sd1) wv) K22.out kR kS (by simp[Value.oneCell']) rfl ?_
    intro w23 hp23 K23
    refine hK.out _ _ (Sat.off [2,5] (fun k w hk=>by simp only[List.mem_cons,List.not_mem_nil,or_false,not_or]at hk;exact⟨(fun e=>absurd e hk.1),(fun e=>absurd e hk.2)⟩) kR _ _) ?_
    clear hK K
    try simp only[yA,yB,yC,Act.put,yD,yE,yF]
    refine z0f kR ?_ _
    have f23:=K23.out.free
    have l23:=K23.out.lt
    have c72:w23.cell? ⟨bb,72,none⟩=some (.int .i64 c.x.m.ck):=by
     have:=(K23.out.cell 72).trans (bx72 ..)
     rw[HX2.out]at this
     exact this.trans (by show some (Value.int .i64 Y.m.ck)=_;rw[CF.out.1])
    have RZ:Hid (RelX 89 w2 U bb w2.heap.size (w23.setCell ⟨bb,72,none⟩ (.int .i64 (c.x.m.ck+J))) (ct1 c E).x):=zh (by
     rw[L1E.out]
     refine R22.out.turn LL.out K22.out (((But.refl bb _).put hp23).setCell rfl _) kD (Blk.set K23 ?_) (by rw[HX2.out];rfl) (by rw[HX2.out];rfl) HIN.out
     rw[HX2.out,HT1.out,HB1.out,HS1.out,HJ.out,<-CF.out.1]
     rfl)
    have OZ:Hid (OutAt (w23.setCell ⟨bb,72,none⟩ (.int .i64 (c.x.m.ck+J))) (bb+1) (bb+1) (ct1 c E).ls (ct1 c E).ss):=zh (by
     rw[L1E.out]
     exact O22.out.kp ((((But.refl bb _).put hp23).setCell rfl _).kp (Nat.lt_succ_self _)))
    have IZ:Hid (InpsAt w2 v5 (ct1 c E).ins):=zh (by rw[L1E.out];exact I5)
    have LZ:Hid (∀i∈(ct1 c E).ins,0<=i.ck/\i.ck<=1000000):=zh (by rw[L1E.out];exact HLI.out)
    have SZ:bb+1<(w23.setCell ⟨bb,72,none⟩ (.int .i64 (c.x.m.ck+J))).heap.size:=z6a OZ.out
    have KZ:=zh (show ckW (w23.setCell ⟨bb,72,none⟩ (.int .i64 (c.x.m.ck+J))) bb=c.x.m.ck+J from by
     have e:=(Blk.set (i:=72) (v:= .int .i64 (c.x.m.ck+J)) K23.out rfl).cell 72
     unfold ckW
     rw[e]
     rfl)
    clear K22 K23 R22 O22 hp23 HIN X1I I5 HX2
    go_wp2_with (first|((with_reducible show wpList _ _ _ _ _ _);refine lA 37 137 rfl rfl (bb) (45) 16 rfl 89 (boxC U ((Y.wTm tm1).wBm bm1) wv) #[.int .u16 Y.m.sd.a.pd,.int .u16 Y.m.sd.a.ct,.int .u8 Y.m.sd.a.ld,.bool Y.m.sd.a.hi,.int .u16 Y.m.sd.a.nz,.int .u16 Y.m.sd.b.pd,.int .u16 Y.m.sd.b.ct,.int .u8 Y.m.sd.b.ld,.bool Y.m.sd.b.hi,.int .u16 Y.m.sd.b.nz,.int .u16 Y.m.sd.c.pd,.int .u16 Y.m.sd.c.ct,.int .u8 Y.m.sd.c.ld,.bool Y.m.sd.c.hi,.int .u16 Y.m.sd.c.nz,.int .i64 Y.m.sd.wt] kB Tryz.underlying37 ?_)|go_in)
    go_roundw
    case rel=>exact⟨k+j,ct1 c E,by have:=HCK.out;have:=HE.out;omega,IZ.out,HN,HBN,LZ,RZ,OZ,SZ⟩
    case measure=>
     have h1:=HCK.out
     have h2:=HJ.out
     rw[KZ.out,KW.out]
     omega
  ·have ek:n=k:=Nat.le_antisymm (Nat.le_of_not_lt hkn) hk
   subst ek
   have EF:Hid (c=F):=zh (by have e:=hA.out.go;rw[Nat.sub_self]at e;exact e)
   have RF:Hid (RelX 89 w2 U bb w2.heap.size wr F.x):=zh (by rw[<-EF.out];exact hR.out)
   have OF:Hid (OutAt wr (bb+1) (bb+1) F.ls F.ss):=zh (by rw[<-EF.out];exact hO.out)
   have D3:w.heap.size+3<=bb:=Nat.le_trans q2 q3
   have dz:w.heap.size+1≠bb+1:=by omega
   have dy:w.heap.size+1+1≠bb+1:=by omega
   have dzb:bb≠w.heap.size+1:=by omega
   have ZK:=zh (Z2.out.below RF.out.old)
   have YK:=zh (Y2.out.below RF.out.old)
   have tdf:decide (c.x.m.ck<E)=false:=decide_eq_false (by rw[hEE,hck1];omega)
   have hle:¬c.x.m.ck<E:=by rw[hEE,hck1];omega
   clear hA hB hL hR hO EF hI hkn hk hEE hck1 KW
   obtain⟨-,⟨wv,hbx,hws⟩,-,-,-⟩:=id RF.out
   obtain⟨-,⟨lv,sv,h0,h1,h2⟩,h4,h5⟩:=id OF.out
   obtain⟨aw,cw,rfl⟩:=z0a hws
   obtain⟨al,cl,rfl⟩:=z0a h1
   obtain⟨ax,cs,rfl⟩:=z0a h2
   have c75:wr.cell? ⟨bb,75,none⟩=some (.slice aw F.x.ws.length cw):=(hbx.cell 75).trans (bx75 ..)
   have e2:wr.cell? ⟨bb+1,2,none⟩=some (.slice none 0 0):=h0.cell 2
   have fo:=h0.free
   have lo:=h0.lt
   have KB3:Hid (Blk (wr.setCell ⟨bb+1,2,none⟩ (.slice aw F.x.ws.length cw)) bb (boxC U F.x (.slice aw F.x.ws.length cw)) 89):=zh (hbx.setAt (Nat.ne_of_lt (Nat.lt_succ_self _)))
   have KO3:Hid (Blk (wr.setCell ⟨bb+1,2,none⟩ (.slice aw F.x.ws.length cw)) (bb+1) #[.slice al F.ls.length cl,.slice ax F.ss.length cs,.slice aw F.x.ws.length cw] 46):=zh (Blk.set h0 rfl)
   have ZK3:Hid (Blk (wr.setCell ⟨bb+1,2,none⟩ (.slice aw F.x.ws.length cw)) (w.heap.size+1) Tryz.zeroCells42 42):=zh (ZK.out.setAt dz)
   have YK3:Hid (Blk (wr.setCell ⟨bb+1,2,none⟩ (.slice aw F.x.ws.length cw)) (w.heap.size+1+1) #[.slice none 0 0,.slice none 0 0,.slice none 0 0] 46):=zh (YK.out.setAt dy)
   have RF3:Hid (RelX 89 w2 U bb w2.heap.size (wr.setCell ⟨bb+1,2,none⟩ (.slice aw F.x.ws.length cw)) F.x):=zh (RF.out.stable LL.out (St.setCell (St.refl _ _) (p:=⟨bb+1,2,none⟩) (Nat.le_refl _) (Or.inr (Blk.nw h0 kD)) _))
   have HL3:Hid (Lns (wr.setCell ⟨bb+1,2,none⟩ (.slice aw F.x.ws.length cw)) (bb+1) (.slice al F.ls.length cl) F.ls):=zh (z4d h1 h0 kD)
   have HS3:Hid (Sms (wr.setCell ⟨bb+1,2,none⟩ (.slice aw F.x.ws.length cw)) (bb+1) (.slice ax F.ss.length cs) F.ss):=zh (z4d h2 h0 kD)
   have HW3:Hid (Wrs (wr.setCell ⟨bb+1,2,none⟩ (.slice aw F.x.ws.length cw)) w2.heap.size (.slice aw F.x.ws.length cw) F.x.ws):=zh (z4d hws h0 kD)
   have OK3:=zh (And.intro h4 h5)
   clear RF OF ZK YK hbx hws h0 h1 h2 h4 h5 Z2 Y2
   go_upto_region 28 with(fail)
   refine z0g (R:=fun W=>(Hid (Blk W bb (boxC U F.x (.slice aw F.x.ws.length cw)) 89)/\Hid (Blk W (bb+1) #[.slice al F.ls.length cl,.slice ax F.ss.length cs,.slice aw F.x.ws.length cw] 46)/\Hid (Blk W (w.heap.size+1) Tryz.zeroCells42 42)/\Hid (Blk W (w.heap.size+1+1) #[.slice none 0 0,.slice none 0 0,.slice none 0 0] 46))/\Hid (RelX 89 w2 U bb w2.heap.size W F.x)/\Hid (Lns W (bb+1) (.slice al F.ls.length cl) F.ls)/\Hid (Sms W (bb+1) (.slice ax F.ss.length cs) F.ss)/\Hid (Wrs W w2.heap.size (.slice aw F.x.ws.length cw) F.x.ws)) ⟨⟨KB3,KO3,ZK3,YK3⟩,RF3,HL3,HS3,HW3⟩ ?_
   clear KB3 KO3 ZK3 YK3 RF3 HL3 HS3 HW3 c75 e2 fo lo c72 fb0 lb0 tdf hle
   intro w30 ⟨⟨KB,KO,ZK,YK⟩,RF,HL,HS,HW⟩
   have ONU:=zh (z0G (V:=U) F.x.m (fun i hi=>by obtain⟨a',c',h'⟩:=z0a (RF.out.mems i hi);rw[h'];rfl))
   have zs:(Tryz.zeroCells42).size=75:=by kernel_rfl
   refine z0h (fun k W=>(k=3->Blk W bb (boxC U F.x (.slice aw F.x.ws.length cw)) 89)/\(k=4->Blk W (bb+1) #[.slice al F.ls.length cl,.slice ax F.ss.length cs,.slice aw F.x.ws.length cw] 46)) [0,1,2,3,4,7] kR ?_
   refine tF 0 ⟨nD,nD⟩ ?_
   refine tF 1 ⟨nD,nD⟩ ?_
   refine tF 2 ⟨nD,nD⟩ ?_
   refine z0c (i:=3) rfl kR kR kR kR (fun _ _ _ h=>h) (z0d (by rfl) 42 (.tmp 167) rfl (bb) 0 75 rfl 89 (boxC U F.x (.slice aw F.x.ws.length cw)) (machC U F.x.m) (fun W hF=>hF.1 rfl) _ Tryz.underlying42 rfl kR rfl rfl) ⟨(fun _=>KB.out.drew),nD⟩ ?_
   try simp only[yA,yB,yC,Act.put,yD,yE,yF]
   refine z0c (i:=4) rfl kR kR kR kR (fun _ _ _ h=>h) (z0d (by rfl) 46 (.tmp 12) rfl (bb+1) 0 3 rfl 46 (#[.slice al F.ls.length cl,.slice ax F.ss.length cs,.slice aw F.x.ws.length cw]) (#[.slice al F.ls.length cl,.slice ax F.ss.length cs,.slice aw F.x.ws.length cw]) (fun W hF=>hF.2 rfl) _ Tryz.underlying46 rfl kR rfl rfl) ⟨nD,(fun _=>KO.out.drew)⟩ ?_
   try simp only[yA,yB,yC,Act.put,yD,yE,yF]
   refine rF 5 fun K hK=> ?_
   rw[if_pos (by rfl)]
   refine z0s 42 (.tmp 6) (.tmp 168) rfl (w.heap.size+1) (machC U F.x.m) rfl rfl 42 Tryz.zeroCells42 ZK.out.drew kR zs ONU.out ?_
   intro w31 hp31 K31
   refine hK.out _ _ (Sat.all kR (fun k=>⟨fun _=>KB.out.drew.put hp31 dzb,fun _=>KO.out.drew.put hp31 dz.symm⟩)) ?_
   clear hK K
   try simp only[yA,yB,yC,Act.put,yD,yE,yF]
   have YK31:=zh (YK.out.drew.put hp31 (Nat.ne_of_gt (Nat.lt_succ_self _)))
   refine rF 6 fun K hK=> ?_
   rw[if_pos (by rfl)]
   refine z0s 46 (.tmp 7) (.tmp 169) rfl (w.heap.size+1+1) #[.slice al F.ls.length cl,.slice ax F.ss.length cs,.slice aw F.x.ws.length cw] rfl rfl 46 #[.slice none 0 0,.slice none 0 0,.slice none 0 0] YK31.out kR rfl (by simp[Value.oneCell']) ?_
   intro w32 hp32 K32
   refine hK.out _ _ (Sat.off [3,4] (fun k w hk=>by simp only[List.mem_cons,List.not_mem_nil,or_false,not_or]at hk;exact⟨(fun e=>absurd e hk.1),(fun e=>absurd e hk.2)⟩) kR _ _) ?_
   clear hK K
   try simp only[yA,yB,yC,Act.put,yD,yE,yF]
   refine tF 7 ⟨nD,nD⟩ ?_
   try simp only[yA,yB,yC,Act.put,yD,yE,yF]
   refine z0f kR ?_ _
   have KM32:=K31.out.put hp32 (Nat.ne_of_lt (Nat.lt_succ_self _))
   have g1:w.heap.size+1<w2.heap.size:=Nat.lt_of_lt_of_le kO q2
   have g2:w.heap.size+1+1<w2.heap.size:=Nat.lt_of_lt_of_le kO q2
   have hw2:w.heap.size<=w2.heap.size:=Nat.le_trans (Nat.le_add_right _ 3) q2
   have BZ:Below w.heap.size w w32:=B2.trans ((RF.out.old.drew.mono hw2).trans ((hp31.below.mono (Nat.le_succ _)).trans (hp32.below.mono (Nat.le_succ_of_le (Nat.le_succ _)))))
   have LO:=LL.out.own
   have TD:RunTold w w32 U (.slice al F.ls.length cl) (.slice ax F.ss.length cs) (.slice aw F.x.ws.length cw) F.x.m F.ls F.ss F.x.ws:=
    ⟨⟨BZ,fun i hi=>z1g (z0T (z0T (World.ownsRow.drew (RF.out.mems i hi)) hp31 (fun b hb=>by have:=(LO i b hi hb).1;omega)) hp32 (fun b hb=>by have:=(LO i b hi hb).1;omega)) (z1G (RF.out.inn.mem i)),RF.out.inn,RF.out.fit,fun i g hi hg=>Nat.le_trans hw2 (LO i g hi hg).1⟩,
     z4c HL.out hp31 hp32 kO kO kO,z4c HS.out hp31 hp32 kO kO kO,z4c HW.out hp31 hp32 g1 g2 hw2,OK3.out⟩
   go_wp2_with (first|((with_reducible show wpList _ _ _ _ _ _);refine lA 37 137 rfl rfl (bb) (45) 16 rfl 89 (boxC U ((Y.wTm tm1).wBm bm1) wv) #[.int .u16 Y.m.sd.a.pd,.int .u16 Y.m.sd.a.ct,.int .u8 Y.m.sd.a.ld,.bool Y.m.sd.a.hi,.int .u16 Y.m.sd.a.nz,.int .u16 Y.m.sd.b.pd,.int .u16 Y.m.sd.b.ct,.int .u8 Y.m.sd.b.ld,.bool Y.m.sd.b.hi,.int .u16 Y.m.sd.b.nz,.int .u16 Y.m.sd.c.pd,.int .u16 Y.m.sd.c.ct,.int .u8 Y.m.sd.c.ld,.bool Y.m.sd.c.hi,.int .u16 Y.m.sd.c.nz,.int .i64 Y.m.sd.wt] kB Tryz.underlying37 ?_)|go_in)
   exact bodyPost_ret (z0z Tryz.results12 _ _ (w.heap.size+1) (w.heap.size+1+1) 42 46 (machC U F.x.m) #[.slice al F.ls.length cl,.slice ax F.ss.length cs,.slice aw F.x.ws.length cw] _ _ rfl KM32 Tryz.underlying42 rfl kR rfl K32.out Tryz.underlying46 rfl kR) rfl ⟨U,_,_,_,rfl,TD⟩
end Go.Proofs.YtkoocfcnfolkhaaGreatDoor
