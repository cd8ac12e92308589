/- The program runs a machine clock by clock. Conditions: the machine is right, what is pressed too, the clocks are within bounds. -/
import Derived.Test.YtkoocfcnfolkhaaGreatDoorSq
import Derived.Test.YtkoocfcnfolkhaaGreatDoorSh
import Derived.Test.YtkoocfcnfolkhaaGreatDoorP27
import Derived.Test.YtkoocfcnfolkhaaGreatDoorP19
import Derived.Test.YtkoocfcnfolkhaaGreatDoorTone4
import Derived.Test.YtkoocfcnfolkhaaGreatDoorP23
set_option linter.unusedVariables false
set_option linter.unusedSimpArgs false
set_option maxHeartbeats 4000000
set_option maxRecDepth 100000
namespace Go.Proofs.YtkoocfcnfolkhaaGreatDoor
open Go.RowKit Go.Mq
def WrsAt(w:World)(v:Value)(l:List Wr):Prop:=∃B,Wrs w B v l
structure RunTold(w w':World)(U:Nat->Value)(lv sv wv:Value)(m:Mach)(ls:List Ln)(ss:List Int)(ws:List Wr):Prop where
 told:ToldM w w' U m
 lns:Lns w' w.heap.size lv ls
 sms:Sms w' w.heap.size sv ss
 wrs:Wrs w' w.heap.size wv ws
 ok:(∀x∈ls,x.Ok)/\∀s∈ss,U8 s
def cn0(m:Mach)(ins:List Inp):Cn:=⟨⟨m,[],0⟩,[],[],ins⟩
theorem z4H(b:Bm)(hb:b.In)(h0:0<=b.fr)(n:Int)(n0:0<=n)(n1:n<=20000)(w:World):
  Calls Tryz.prog 36 #[.agg #[.int .i64 b.ln,.int .i64 b.pt,.bool b.rg,.int .i64 b.fr],.int .i64 n] w fun e w'=>(∃k,e= .returned (.tuple #[.agg #[.int .i64 (beamR b n).ln,.int .i64 (beamR b n).pt,.bool (beamR b n).rg,.int .i64 (beamR b n).fr],.int .i64 k]))/\Below w.heap.size w w':=by
 by_cases h:b.fr<=20000
 ·have e:beamR b n=runBm b n:=by unfold beamR;rw[if_pos ⟨h0,h⟩]
  rw[e]
  exact(z6x b n ⟨hb,h0,h⟩ n0 n1 w).mono fun e w' ⟨h1,h2⟩=>⟨⟨0,h1⟩,h2⟩
 ·have e:beamR b n=bmZ:=by unfold beamR;rw[if_neg (fun k=>h k.2)]
  rw[e]
  exact(z5c b n (fun k=>h k.2.2) w).mono fun e w' ⟨h1,h2⟩=>⟨⟨3,h1⟩,h2⟩
theorem z5p(s:Sd)(hs:s.Ok)(w:World):
  Calls Tryz.prog 32 #[.agg #[.int .u16 s.a.pd,.int .u16 s.a.ct,.int .u8 s.a.ld,.bool s.a.hi,.int .u16 s.a.nz,.int .u16 s.b.pd,.int .u16 s.b.ct,.int .u8 s.b.ld,.bool s.b.hi,.int .u16 s.b.nz,.int .u16 s.c.pd,.int .u16 s.c.ct,.int .u8 s.c.ld,.bool s.c.hi,.int .u16 s.c.nz,.int .i64 s.wt],.int .i64 1] w fun e w'=>∃ao cp,e= .returned (.tuple #[.slice ao (smp s 1).length cp,.agg #[.int .u16 ((runS s 1).a).pd,.int .u16 ((runS s 1).a).ct,.int .u8 ((runS s 1).a).ld,.bool ((runS s 1).a).hi,.int .u16 ((runS s 1).a).nz,.int .u16 ((runS s 1).b).pd,.int .u16 ((runS s 1).b).ct,.int .u8 ((runS s 1).b).ld,.bool ((runS s 1).b).hi,.int .u16 ((runS s 1).b).nz,.int .u16 ((runS s 1).c).pd,.int .u16 ((runS s 1).c).ct,.int .u8 ((runS s 1).c).ld,.bool ((runS s 1).c).hi,.int .u16 ((runS s 1).c).nz,.int .i64 (runS s 1).wt],.int .i64 0])/\
   w'.ownsRow w.heap.size 5 1 (.slice ao (smp s 1).length cp) (smp s 1).length ((smp s 1).map (Value.int .u8))/\Below w.heap.size w w':=z3m s hs 1 kO w
theorem z7k:∀{l:List Inp} {c:Int},chkFrom c l=0->∀i∈l,i.pd=0\/i.pd=1
 |[],_,_,i,h=>by cases h
 |j::t,c,h,i,hi=>by
  unfold chkFrom at h
  split at h
  ·cases h
  ·split at h
   ·cases h
   ·rename_i h2
    rcases List.mem_cons.1 hi with rfl|hi
    ·omega
    ·exact z7k h i hi
structure LkAt(m:Mach)(F:Cn)(n k:Nat)(c:Cn):Prop where
 at':At m k c
 go:lkN c (n-k)=F
 ls:c.ls.length<=k
 ss:c.ss.length<=k
 ws:c.x.ws.length<=4*k
 pd:∀i∈c.ins,i.pd=0\/i.pd=1
theorem nlA{a k n:Nat}(h:a<=k)(hk:k<n)(hn:n<=20000):a<=100000:=by omega
theorem nlS{a b k n:Nat}(h:a<=k)(hb:b<=1)(hk:k<n)(hn:n<=20000):a+b<=1000000:=by omega
theorem nlW{a k n:Nat}(h:a<=4*k)(hk:k<n)(hn:n<=20000):a+4<=1000000:=by omega
theorem z4T{w:World}{ob:Nat}{lv sv:Value}{ls:List Ln}{a:Option Addr}{cp:Nat}(ko:Blk w ob #[lv,sv,.slice none 0 0] 46)(ln:Lns w ob lv ls){ss ys:List Int}(hz:w.ownsRow ob 5 1 (.slice a (ss++ys).length cp) (ss++ys).length ((ss++ys).map (Value.int .u8)))(h1:∀x∈ls,x.Ok)(h2:∀s∈ss,U8 s)(h3:∀x∈ys,0<=x/\x<=255):
  OutAt (w.setCell ⟨ob,1,none⟩ (.slice a (ss++ys).length cp)) ob ob ls (ss++ys):=
 ⟨Nat.le_refl _,⟨lv,_,Blk.set ko rfl,z0o ln (fun g hg e=>by
  obtain⟨cs,hcs⟩:=(z1A ln hg).2
  have e:g=ob:=e
  rw[e]at hcs
  exact absurd (Blk.one_ty hcs ko) kD),z0o hz (fun g hg e=>by
  obtain⟨cs,hcs⟩:=(z1A hz hg).2
  have e:g=ob:=e
  rw[e]at hcs
  exact absurd (Blk.one_ty hcs ko) kD)⟩,h1,fun s hs=>by
  rcases List.mem_append.1 hs with h|h
  ·exact h2 s h
  ·exact h3 s h⟩
def sk(s:Sd):Nat->Sd
 |0=>s
 |1=>{s with a:=tickV s.a}
 |2=>{s with a:=tickV s.a,b:=tickV s.b}
 |_=>{s with a:=tickV s.a,b:=tickV s.b,c:=tickV s.c}
theorem vset(U:Nat->Value)(X:Bx)(wv:Value)(s:Sd):∀k,k<3->
  ((boxC U (X.wSd (sk s k)) wv).toList.take (45+k*5)++(#[.int .u16 ((tickV (vk s k))).pd,.int .u16 ((tickV (vk s k))).ct,.int .u8 ((tickV (vk s k))).ld,.bool ((tickV (vk s k))).hi,.int .u16 ((tickV (vk s k))).nz]:Array Value).toList++(boxC U (X.wSd (sk s k)) wv).toList.drop (45+k*5+(#[.int .u16 ((tickV (vk s k))).pd,.int .u16 ((tickV (vk s k))).ct,.int .u8 ((tickV (vk s k))).ld,.bool ((tickV (vk s k))).hi,.int .u16 ((tickV (vk s k))).nz]:Array Value).size)).toArray=boxC U (X.wSd (sk s (k+1))) wv
 |0,_=>by kernel_rfl
 |1,_=>by kernel_rfl
 |2,_=>by kernel_rfl
 |k+3,h=>absurd h kO
theorem vfit(U:Nat->Value)(X:Bx)(wv:Value)(k:Nat)(h:k<3):45+k*5+5<=(boxC U X wv).size:=by
 have e:(boxC U X wv).size=77:=rfl
 omega
theorem z1Y{w:World}{ob size n B:Nat}{e:TypeId}{v u:Value}{xs:List Value}{cs:Array Value}(h:w.ownsRow B e size v n xs)(ko:Blk w ob cs 46)(he:e≠46):(w.setCell ⟨ob,2,none⟩ u).ownsRow B e size v n xs:=
 z0o h (fun g hg e'=>by
  obtain⟨cs',hcs⟩:=(z1A h hg).2
  have e':g=ob:=e'
  rw[e']at hcs
  exact he (Blk.one_ty hcs ko))
theorem z1X{w w1 w2:World}{B b size n g1 g2:Nat}{e:TypeId}{v:Value}{xs:List Value}(h:w.ownsRow B e size v n xs)(p1:Put g1 w.drew w1)(p2:Put g2 w1 w2)(h1:g1<B)(h2:g2<B)(hb:b<=B):w2.ownsRow b e size v n xs:=
 z0z (z0V (z0V (World.ownsRow.drew h) p1 (fun g hg=>by have:=(z1A h hg).1;omega)) p2 (fun g hg=>by have:=(z1A h hg).1;omega)) hb
theorem z0H{P:Program}{fn:Func}{p q r:Tmp}{ty tz:TypeId}(h:fn.results= #[.cell p ty,.cell q tz,.tmp r])(tmps:Array Value)(w:World)(g g':Nat)(tb tb':TypeId)(cs cs':Array Value)(d d':TypeDesc)
  (hp:tmps.getD p undef= .pointer (some ⟨g,0,none⟩))(hg:Blk w g cs tb)(hu:P.underlying ty=some d)(hd:(match d with| .struct _| .array _ _=>true|_=>false)=true)(hi:(P.info? ty).map (·.size)=some cs.size)
  (hq:tmps.getD q undef= .pointer (some ⟨g',0,none⟩))(hg':Blk w g' cs' tb')(hu':P.underlying tz=some d')(hd':(match d' with| .struct _| .array _ _=>true|_=>false)=true)(hi':(P.info? tz).map (·.size)=some cs'.size):
  (results fn tmps).run P w= .ok (.tuple #[.agg cs,.agg cs',tmps.getD r undef]) w:=by
 have hp':tmps[p]?.getD undef= .pointer (some ⟨g,0,none⟩):=by simpa using hp
 have hq':tmps[q]?.getD undef= .pointer (some ⟨g',0,none⟩):=by simpa using hq
 simp[results,h,hp',hq',asAddr,run_loadVar_row w g tb ty cs (0,0) d hg hu hd hi,run_loadVar_row w g' tb' tz cs' (0,0) d' hg' hu' hd' hi']
theorem men{k n:Nat}(h:k<n):n-((k:Int)+1).toNat<n-(k:Int).toNat:=by omega
theorem z5E{w:World}{B ob:Nat}{ls:List Ln}{ss:List Int}(h:OutAt w B ob ls ss):ob<w.heap.size:=by
 obtain⟨_,⟨_,_,h,_⟩,_⟩:=h
 exact h.lt
theorem wt3{t:Int}(h:0<=t/\t<=15):wrap64 (t+16)=t+16/\wrap64 (t+16-1)=t+16-1/\(t+16-1).tmod 16=(if t=0 then 15 else t-1):=by
 refine⟨z0l _ kO kO,z0l _ kO kO,?_⟩
 rw[Int.tmod_eq_emod_of_nonneg kO]
 split<;>omega
theorem z7Q(m:Mach):(drawO m).length<=1:=by
 unfold drawO
 split<;>simp
theorem LkAt.next{m:Mach}{F:Cn}{n k:Nat}{c:Cn}(h:LkAt m F n k c)(hk:k<n)(m0:0<=m.ck)(m1:m.ck+n<1000000):LkAt m F n (k+1) (lk1 c):=by
 have w1:=h.at'.wk.press h.at'.dn
 have w2:=z0aq (c.x.setM (pressA c.x.m c.ins)) w1.inn
 refine⟨h.at'.next m0 kO,?_,?_,?_,?_,fun i hi=>h.pd i (z1F i hi)⟩
 ·have:=h.go
  rw[show n-k=(n-(k+1))+1 by omega]at this
  exact this
 ·show(c.ls++drawO _).length<=_
  rw[List.length_append]
  have:=z7Q (pressA c.x.m c.ins)
  have:=h.ls
  omega
 ·show(c.ss++smp _ 1).length<=_
  rw[List.length_append]
  have hb:(smp (pressA c.x.m c.ins).sd 1).length<=1:=by rw[z2H];unfold dueL;split<;>simp
  have:=h.ss
  omega
 ·show(doX (c.x.setM (pressA c.x.m c.ins))).ws.length<=_
  have e:(c.x.setM (pressA c.x.m c.ins)).ws.length=c.x.ws.length:=rfl
  have:=h.ws
  omega
theorem z7v(V:Nat->Value)(m:Mach)(v:Value)(ins:List Inp)(n:Nat)(w:World)(hm:MV w V m)(hi:m.In)(hr:m.Right)(hI:InpsAt w v ins)(hc:chkI ins m.ck=0)(hn:n<=20000)(hck:m.ck+n<=200000):
  Calls Tryz.prog 13 #[.agg (machC V m),v,.int .i64 n] w fun e w'=>∃U lv sv wv,e= .returned (.tuple #[.agg (machC U (lkN (cn0 m ins) n).x.m),.agg #[lv,sv,wv],.int .i64 0])/\
   RunTold w w' U lv sv wv (lkN (cn0 m ins) n).x.m (lkN (cn0 m ins) n).ls (lkN (cn0 m ins) n).ss (lkN (cn0 m ins) n).x.ws:=by
 have hc0:chkFrom m.ck ins=0:=by
  unfold chkI at hc
  split at hc
  ·cases hc
  ·exact hc
 have ck0:0<=m.ck:=hr.time.1.1
 have PD:=zh (z7k hc0)
 have DN:Hid (∀i∈ins,U8 i.dn):=zh (by
  obtain⟨_,_,_,_,_,h,_⟩:=hI
  exact fun i hi=>(h i hi).2.2)
 have HA:Hid (LkAt m (lkN (cn0 m ins) n) n 0 (cn0 m ins)):=zh ⟨⟨⟨hi,hr.fit,hr.wt,hr.bm.1,hr.bm.2.1,by have:=hr.bm.2.2;show m.bm.fr<=20001;omega⟩,by show m.ck=m.ck+((0:Nat):Int);omega,DN.out,z1E hc0,⟨hr.time.2.1.1,hr.time.2.1.2,hr.time.2.2.1,hr.time.2.2.2⟩⟩,rfl,Nat.le_refl _,Nat.le_refl _,Nat.zero_le _,PD.out⟩
 obtain⟨F,hF⟩:∃F,F=lkN (cn0 m ins) n:=⟨_,rfl⟩
 rw[<-hF]at HA⊢
 have CK:=zh (fun W (k:Below w.heap.size w W)=>z0J V m W (hm.below k))
 rw[(z0Q m).2 hr]at CK
 have IN:=zh (fun W (k:Below w.heap.size w W)=>z1a v ins m.ck W (hI.below k) (z0y kO))
 rw[hc]at IN
 have CP:=zh (fun W (k:Below w.heap.size w W)=>z5S V m W (hm.below k) hr.lens)
 have HI:=zh (fun W (k:Below w.heap.size w W)=>hI.below k)
 have ON:=zh (z0t m (fun i hi=>hm.one i hi))
 have HF:=zh (And.intro hr.fit hi)
 have BN:=zh z8j
 have n0:¬((n:Int)<0):=by omega
 have n1:¬(20000<(n:Int)):=by omega
 have n2:¬(200000<wrap64 (m.ck+n)):=by rw[z0l _ kO kO];omega
 clear hm hr hi hF hI hc hc0
 go_enter Tryz.func13,Tryz.ntmps13
 go_wp2_with (first|((with_reducible show wpList _ _ _ _ _ _);refine lW 42 3 rfl rfl (w.heap.size) rfl (machC V m) kB Tryz.underlying42 ?_))
 refine(CK.out _ kL).mono ?_
 rintro e w1 ⟨rfl,hb1⟩
 have s1:=hb1.size
 have K1:=zh (show Blk w1 w.heap.size (machC V m) 42 from kB)
 have Z1:=zh (show Blk w1 (w.heap.size+1) Tryz.zeroCells42 42 from kB)
 have Y1:=zh (show Blk w1 (w.heap.size+1+1) #[.slice none 0 0,.slice none 0 0,.slice none 0 0] 46 from kB)
 have B1:Below w.heap.size w w1:=kL
 have c72:w1.cell? ⟨w.heap.size,72,none⟩=some (.int .i64 m.ck):=(K1.out.cell 72).trans (mx72 ..)
 have fk:=K1.out.free
 have lk:=K1.out.lt
 clear hb1 s1
 go_wp2_with (first|((with_reducible show wpList _ _ _ _ _ _);refine lW 42 3 rfl rfl (w.heap.size) rfl (machC V m) kB Tryz.underlying42 ?_))
 refine(IN.out _ B1).mono ?_
 rintro e w2 ⟨rfl,hb2⟩
 have s2:=hb2.size
 have K2:=zh (K1.out.below hb2)
 have Z2:=zh (Z1.out.below hb2)
 have Y2:=zh (Y1.out.below hb2)
 have B2:=below_then B1 hb2
 have d72:w2.cell? ⟨w.heap.size,72,none⟩=some (.int .i64 m.ck):=(K2.out.cell 72).trans (mx72 ..)
 have fk2:=K2.out.free
 have lk2:=K2.out.lt
 clear c72 fk lk K1 Z1 Y1 hb2 B1 s2
 go_wp2_with (first|((with_reducible show wpList _ _ _ _ _ _);refine lW 42 3 rfl rfl (w.heap.size) rfl (machC V m) kB Tryz.underlying42 ?_))
 refine(CP.out _ kL).mono ?_
 rintro e w3 ⟨U,rfl,FR⟩
 have s3:=FR.below.size
 have q2:w.heap.size+3<=w2.heap.size:=by have:=Y2.out.lt;omega
 have Z3:=zh (Z2.out.below FR.below)
 have Y3:=zh (Y2.out.below FR.below)
 have B3:=below_then B2 FR.below
 have NX:=zh (fun W hB hk=>z5u FR HF.out.1 HF.out.2 (W':=W) (bb:=w3.heap.size) (T:=89) rfl hB hk)
 have HI2:=zh (HI.out _ B2)
 clear K2 FR CK CP IN HI d72 fk2 lk2
 go_wp2_with fail
 rw[BN.out]
 refine z0h (R:=fun W=>Below w3.heap.size w3 W/\Hid (Blk W w3.heap.size (boxC U ⟨m,[],0⟩ (.slice none 0 0)) 89)/\Hid (OutAt W (w3.heap.size+1) (w3.heap.size+1) [] [])) ?mk5 ?_
 case mk5=>exact⟨((Below.refl _ _).alloc (Nat.le_refl _) _).alloc kS _,zh ((Blk.new w3 _ _).alloc _),zh ⟨Nat.le_refl _,⟨_,_,Blk.new_at _ _ _ _ kS,World.ownsRow_nil _ _ _ _,World.ownsRow_nil _ _ _ _⟩,by simp,by simp⟩⟩
 intro w4 ⟨B4,KB4,O4⟩
 have NN:=NX.out w4 B4 KB4.out
 have R4:=zh NN.1
 have LL:=zh NN.2
 have s4:=O4.out.at'.choose_spec.choose_spec.1.lt
 clear NX NN KB4 BN
 have q3:=LL.out.lo
 obtain⟨bb,hbb⟩:∃b,b=w3.heap.size:=⟨_,rfl⟩
 rw[<-hbb]at R4 LL O4 s4 q3⊢
 clear hbb s3 Y3 Z3 B3 B4
 go_loopw [1,56] (fun u i wr=>∃(k:Nat) (c:Cn),k<=n/\i= .int .i64 k/\InpsAt w2 u c.ins/\Hid (LkAt m F n k c)/\Hid (RelX 89 w2 U bb w2.heap.size wr c.x)/\Hid (OutAt wr (bb+1) (bb+1) c.ls c.ss)/\bb+1<wr.heap.size) (fun _ i _=>n-(intOf i).toNat)
 case atStart=>exact⟨0,cn0 m ins,Nat.zero_le _,rfl,HI2.out,HA,R4,O4,s4⟩
 case round=>
  obtain⟨k,c,hk,rfl,hI,hA,hR,hO,sz⟩:=hrel
  clear R4 O4 s4 HA HI2
  by_cases hkn:k<n
  ·have hki:(k:Int)<n:=by omega
   have WK:wrap64 ((k:Int)+1)=k+1:=z0l _ kO kO
   have w1k:=hA.out.at'.wk.press hA.out.at'.dn
   have hck1:=hA.out.at'.ck
   have kp:=z1D c.ins c.x.m
   have HN:=zh (hA.out.next hkn ck0 kO)
   obtain⟨m1,hm1⟩:∃m1,m1=pressA c.x.m c.ins:=⟨_,rfl⟩
   obtain⟨i1,hi1⟩:∃l,l=pressR c.x.m.ck c.ins:=⟨_,rfl⟩
   have TP:=zh (fun W (hR:RelX 89 w2 U bb w2.heap.size W c.x) (hB:bb+1<=W.heap.size)=>z3h LL.out W c.x _ c.ins rfl hI hA.out.pd hR hB)
   rw[<-hm1,<-hi1]at TP
   rw[<-hm1]at w1k kp
   have mck:m1.ck=c.x.m.ck:=kp.ck
   have CKM:Hid (0<=m1.ck/\m1.ck<=1000000):=zh (by rw[mck,hck1];omega)
   have CWK:wrap64 (c.x.m.ck+1)=c.x.m.ck+1:=z0l _ (by rw[hck1];omega) (by rw[hck1];omega)
   have L1E:Hid (lk1 c=⟨(doX (c.x.setM m1)).setM (tickM (doX (c.x.setM m1)).m),c.ls++drawO m1,c.ss++smp m1.sd 1,i1⟩):=zh (by rw[hm1,hi1];rfl)
   have LN:=zh (And.intro hA.out.ls (And.intro hA.out.ss hA.out.ws))
   have WX:=zh w1k
   clear hm1 hi1 kp w1k hI
   go_wp2_with fail
   refine(TP.out _ hR.out (Nat.le_of_lt sz)).mono ?_
   rintro e w5 ⟨v5,rfl,I5,R5,P5⟩
   have O5:=zh (hO.out.kp P5)
   have s5:=P5.size
   have RX5:=zh R5
   clear R5 P5 hO hR TP
   go_wp2_with fail
   refine(z4b LL.out _ (c.x.setM m1) (bb+1) c.ls c.ss WX.out.bm RX5.out O5.out (nlA LN.out.1 hkn hn) (Nat.le_trans (Nat.le_of_lt sz) s5)).mono ?_
   rintro e w6 ⟨rfl,R6,O6,s6⟩
   have RX6:=zh R6
   have OX6:=zh O6
   obtain⟨-,⟨wv6,hbx6,-⟩,-,-,-⟩:=R6
   have KB6:=zh hbx6
   clear hbx6 O6 RX5 O5
   go_upto_region 16 with(first|((with_reducible show wpList _ _ _ _ _ _);first|(refine lA 37 70 rfl rfl (bb) (45) 16 rfl 89 (boxC U (c.x.setM m1) wv6) #[.int .u16 m1.sd.a.pd,.int .u16 m1.sd.a.ct,.int .u8 m1.sd.a.ld,.bool m1.sd.a.hi,.int .u16 m1.sd.a.nz,.int .u16 m1.sd.b.pd,.int .u16 m1.sd.b.ct,.int .u8 m1.sd.b.ld,.bool m1.sd.b.hi,.int .u16 m1.sd.b.nz,.int .u16 m1.sd.c.pd,.int .u16 m1.sd.c.ct,.int .u8 m1.sd.c.ld,.bool m1.sd.c.hi,.int .u16 m1.sd.c.nz,.int .i64 m1.sd.wt] kB Tryz.underlying37 ?_)|(refine sW 37 13 71 rfl rfl (w6.heap.size) #[.int .u16 m1.sd.a.pd,.int .u16 m1.sd.a.ct,.int .u8 m1.sd.a.ld,.bool m1.sd.a.hi,.int .u16 m1.sd.a.nz,.int .u16 m1.sd.b.pd,.int .u16 m1.sd.b.ct,.int .u8 m1.sd.b.ld,.bool m1.sd.b.hi,.int .u16 m1.sd.b.nz,.int .u16 m1.sd.c.pd,.int .u16 m1.sd.c.ct,.int .u8 m1.sd.c.ld,.bool m1.sd.c.hi,.int .u16 m1.sd.c.nz,.int .i64 m1.sd.wt] rfl rfl #[.int .u16 0,.int .u16 0,.int .u8 0,.bool false,.int .u16 0,.int .u16 0,.int .u16 0,.int .u8 0,.bool false,.int .u16 0,.int .u16 0,.int .u16 0,.int .u8 0,.bool false,.int .u16 0,.int .i64 0] kB ?_;intro w7 hp_w7 K_w7)))
   have b7:Below w6.heap.size w6 w7:=kL
   have s7:=b7.size
   have RX7:=zh (RX6.out.stable LL.out (St.of b7 kO (Nat.le_refl _)))
   have OX7:=zh (OX6.out.kp ((Kp.refl _ _ _).below b7 (Nat.le_refl _)))
   have SM:=zh (z5p m1.sd ⟨WX.out.inn.sd,WX.out.wt⟩)
   have hyl:(smp m1.sd 1).length<=1:=by rw[z2H];unfold dueL;split<;>simp
   have hyi:=zh (z6T m1.sd 1)
   obtain⟨ys,hys⟩:∃y,y=smp m1.sd 1:=⟨_,rfl⟩
   obtain⟨sd1,hsd1⟩:∃y,y=runS m1.sd 1:=⟨_,rfl⟩
   rw[<-hys,<-hsd1]at SM
   rw[<-hys]at hyl hyi L1E
   clear hys hsd1 KB6
   go_wp2_with (first|((with_reducible show wpList _ _ _ _ _ _);refine lW 37 13 rfl rfl (w6.heap.size) rfl #[.int .u16 m1.sd.a.pd,.int .u16 m1.sd.a.ct,.int .u8 m1.sd.a.ld,.bool m1.sd.a.hi,.int .u16 m1.sd.a.nz,.int .u16 m1.sd.b.pd,.int .u16 m1.sd.b.ct,.int .u8 m1.sd.b.ld,.bool m1.sd.b.hi,.int .u16 m1.sd.b.nz,.int .u16 m1.sd.c.pd,.int .u16 m1.sd.c.ct,.int .u8 m1.sd.c.ld,.bool m1.sd.c.hi,.int .u16 m1.sd.c.nz,.int .i64 m1.sd.wt] kB Tryz.underlying37 ?_))
   refine(SM.out _).mono ?_
   rintro e w8 ⟨ao,cp,rfl,hown8,hb8⟩
   have s8:=hb8.size
   have RX8:=zh (RX7.out.stable LL.out (St.of hb8 kO (Nat.le_refl _)))
   have OX8:=zh (OX7.out.kp ((Kp.refl _ _ _).below hb8 (Nat.le_refl _)))
   have SL8:=zh (z0U hown8 (fun x hx=>z1y (fun x hx=>by have:=hyi.out x hx;omega) x hx))
   clear RX7 OX7 hown8 K_w7 hp_w7 RX6 OX6
   go_upto_region 17 with(first|((with_reducible show wpList _ _ _ _ _ _);refine sW 37 15 76 rfl rfl (w8.heap.size) #[.int .u16 sd1.a.pd,.int .u16 sd1.a.ct,.int .u8 sd1.a.ld,.bool sd1.a.hi,.int .u16 sd1.a.nz,.int .u16 sd1.b.pd,.int .u16 sd1.b.ct,.int .u8 sd1.b.ld,.bool sd1.b.hi,.int .u16 sd1.b.nz,.int .u16 sd1.c.pd,.int .u16 sd1.c.ct,.int .u8 sd1.c.ld,.bool sd1.c.hi,.int .u16 sd1.c.nz,.int .i64 sd1.wt] rfl rfl #[.int .u16 0,.int .u16 0,.int .u8 0,.bool false,.int .u16 0,.int .u16 0,.int .u16 0,.int .u8 0,.bool false,.int .u16 0,.int .u16 0,.int .u16 0,.int .u8 0,.bool false,.int .u16 0,.int .i64 0] kB ?_;intro w9 hp_w9 K_w9))
   have b9:Below w8.heap.size w8 w9:=kL
   have s9:=b9.size
   have sz9:bb+1<w9.heap.size:=by omega
   have RX9:=zh (RX8.out.stable LL.out (St.of b9 kO (Nat.le_refl _)))
   have SL9:=zh (SL8.out.below b9)
   obtain⟨hob,⟨lv,sv,hk0,hk1,hk2⟩,hk3,hk4⟩:=OX8.out.kp ((Kp.refl _ _ _).below b9 (Nat.le_refl _))
   obtain⟨a1,c1,rfl⟩:=z0c hk2
   have KO9:=zh hk0
   have LN9:=zh hk1
   have SM9:=zh hk2
   have OK9:=zh (And.intro hk3 hk4)
   obtain⟨v2,w10,hr2,ho2,hg2⟩:=z0K w9 (bb+1) _ c.ss hk2 _ ys SL9.out (nlS LN.out.2.1 hyl hkn hn) (Nat.le_of_lt sz9) 22
   have SA:=fun g hg=>z1A hk2 (g:=g) hg
   have eo1:w9.cell? ⟨bb+1,1,none⟩=some (.slice a1 c.ss.length c1):=hk0.cell 1
   have ko10:=zh (Blk.growne (e:=5) hk0 hg2 (fun g hg=>(SA g hg).2) kD)
   have ln10:=zh (z2x (e':=5) hk1 hg2 (fun g hg=>(SA g hg).2) kD)
   have st10:St (bb+1) w9 w10:=St.grown (St.refl _ _) hg2 (fun g hg=>⟨(SA g hg).1,by obtain⟨cs,hcs⟩:=(SA g hg).2;exact Blk.nw hcs kD⟩) kO
   have eo2:w10.cell? ⟨bb+1,1,none⟩=some (.slice a1 c.ss.length c1):=ko10.out.cell 1
   have fo2:=ko10.out.free
   have lo2:=ko10.out.lt
   have s10:=hg2.size
   obtain⟨a2,c2,rfl⟩:=z0c ho2
   have HR2:=zh hr2
   have HO2:=zh ho2
   have R10:=zh (RX9.out.stable LL.out (St.setCell st10 (p:=⟨bb+1,1,none⟩) (Nat.le_refl _) (Or.inr (Blk.nw KO9.out kD)) (.slice a2 (c.ss++ys).length c2)))
   have O10:Hid (OutAt (w10.setCell ⟨bb+1,1,none⟩ (.slice a2 (c.ss++ys).length c2)) (bb+1) (bb+1) (c.ls++drawO m1) (c.ss++ys)):=zh (z4T ko10.out ln10.out ho2 OK9.out.1 OK9.out.2 (fun x hx=>⟨(hyi.out x hx).1,Int.le_trans (hyi.out x hx).2 kD⟩))
   have sz10:bb+1<=(w10.setCell ⟨bb+1,1,none⟩ (.slice a2 (c.ss++ys).length c2)).heap.size:=Nat.le_trans (Nat.le_of_lt lo2) kS
   rw[List.length_append]at R10 O10 sz10
   clear hk0 hk1 hk2 hk3 hk4 SL9 SL8 RX8 OX8 K_w9 hp_w9 hr2 ho2 hg2 SA st10 KO9 LN9 SM9 OK9 hob b9 s9 hb8 s8 b7 s7 ln10
   go_upto_region 18 with(at_builtin;refine Lib.wpList_append_run _ rfl _ _ _ _ rfl _ _ rfl rfl _ _ HR2.out ?_)
   refine z0h (R:=fun W=>Hid (RelX 89 w2 U bb w2.heap.size W (c.x.setM m1))/\Hid (OutAt W (bb+1) (bb+1) (c.ls++drawO m1) (c.ss++ys))/\bb+1<=W.heap.size) ⟨R10,O10,sz10⟩ ?_
   intro w11 ⟨R11,O11,s11⟩
   clear R10 O10 sz10 ko10 fo2 lo2 eo1 eo2 s10 HR2 HO2 RX9 sz9
   go_wp2_with (first|((with_reducible show wpList _ _ _ _ _ _);refine lW 37 13 rfl rfl (w6.heap.size) rfl #[.int .u16 m1.sd.a.pd,.int .u16 m1.sd.a.ct,.int .u8 m1.sd.a.ld,.bool m1.sd.a.hi,.int .u16 m1.sd.a.nz,.int .u16 m1.sd.b.pd,.int .u16 m1.sd.b.ct,.int .u8 m1.sd.b.ld,.bool m1.sd.b.hi,.int .u16 m1.sd.b.nz,.int .u16 m1.sd.c.pd,.int .u16 m1.sd.c.ct,.int .u8 m1.sd.c.ld,.bool m1.sd.c.hi,.int .u16 m1.sd.c.nz,.int .i64 m1.sd.wt] kB Tryz.underlying37 ?_))
   refine(z6O LL.out w11 (c.x.setM m1) (nlW LN.out.2.2 hkn hn) CKM.out.1 CKM.out.2 R11.out s11).mono ?_
   rintro e w12 ⟨rfl,R12,P12⟩
   have O12:=zh (O11.out.kp P12)
   have s12:=P12.size
   have WY:=zh WX.out.do
   have CY:(doX (c.x.setM m1)).m.ck=c.x.m.ck:=((z3b (c.x.setM m1) WX.out.inn).2.ck).trans mck
   obtain⟨Y,hY⟩:∃y,y=doX (c.x.setM m1):=⟨_,rfl⟩
   rw[<-hY]at R12 L1E WY CY
   obtain⟨-,⟨wv,hbx,-⟩,-,-,-⟩:=id R12
   have RY:=zh R12
   have KB12:=zh hbx
   have lb12:=hbx.lt
   have fb12:=hbx.free
   have TT:=zh (fun W=>z6b Y.m.tm WY.out.inn.tm W)
   have TB:=zh (fun W=>z4H Y.m.bm WY.out.bm WY.out.fr.1 1 kO kO W)
   have CW:wrap64 (Y.m.ck+1)=Y.m.ck+1:=by rw[CY];exact CWK
   have KBQ:=zh hbx
   have WT3:=wt3 WY.out.wt
   clear hY R12 P12 O11 R11 hbx s11 CY CWK hck1 mck
   go_wp2_with (first|((with_reducible show wpList _ _ _ _ _ _);refine lA 32 89 rfl rfl (bb) (41) 4 rfl 89 (boxC U Y wv) #[.int .u16 Y.m.tm.rl,.int .u16 Y.m.tm.ct,.bool Y.m.tm.on,.bool Y.m.tm.rg] kB Tryz.underlying32 ?_))
   refine(TT.out _).mono ?_
   rintro e w13 ⟨rfl,hb13⟩
   have KB13:=zh (KB12.out.below hb13)
   have BT13:=zh ((But.refl bb w12).thenb hb13)
   obtain⟨tm1,htm1⟩:∃y,y=tickTm Y.m.tm:=⟨_,rfl⟩
   rw[<-htm1]
   have TM1:=zh htm1
   clear htm1 hb13 fb12 lb12
   have fb13:=KB13.out.free
   have lb13:=KB13.out.lt
   clear KB12
   go_upto_region 20 with(((with_reducible show wpList _ _ _ _ _ _);refine sA 32 94 91 rfl rfl (bb) (41) #[.int .u16 tm1.rl,.int .u16 tm1.ct,.bool tm1.on,.bool tm1.rg] rfl rfl 89 (boxC U Y wv) (boxC U (Y.wTm tm1) wv) kB ?_;intro w14 hp_w14 K_w14))
   have KB14:=zh K_w14.out
   have BT14:=zh (BT13.out.put hp_w14)
   clear K_w14 hp_w14 fb13 lb13 KB13 BT13
   have fb14:=KB14.out.free
   have lb14:=KB14.out.lt
   go_upto_region 22 with(((with_reducible show wpList _ _ _ _ _ _);refine lA 35 101 rfl rfl (bb) (45) 15 rfl 89 (boxC U (Y.wTm tm1) wv) (vsC Y.m.sd) kB Tryz.underlying35 ?_))
   have KBS:Hid (Blk w14 bb (boxC U ((Y.wTm tm1).wSd (sk Y.m.sd 0)) wv) 89):=zh KB14.out
   clear KB14 fb14 lb14
   go_loopw [103] (fun i wr=>∃k2:Nat,k2<=3/\i= .int .i64 k2/\Hid (Blk wr bb (boxC U ((Y.wTm tm1).wSd (sk Y.m.sd k2)) wv) 89)/\Hid (But bb w12 wr)) (fun i _=>(3-intOf i).toNat)
   case atStart=>exact⟨0,Nat.zero_le _,rfl,KBS,BT14⟩
   case round=>
    obtain⟨k2,h3,rfl,KB,BT⟩:=hrel
    clear KBS BT14
    have fb:=KB.out.free
    have lb:=KB.out.lt
    by_cases hlt:k2<3
    ·have q3:(k2:Int)<3:=Int.ofNat_lt.2 hlt
     have q0:(0:Int)<=k2:=Int.natCast_nonneg _
     have WK2:wrap64 ((k2:Int)+1)=k2+1:=z0l _ (Int.le_trans kD (Int.add_le_add q0 (Int.le_refl 1))) (Int.le_trans (Int.add_le_add (Int.le_of_lt q3) (Int.le_refl 1)) kD)
     have IX:=fun w=>vidxk Y.m.sd w k2 hlt
     have VO:=zh (fun W=>z6K (vk Y.m.sd k2) (vk_ok WY.out.inn.sd k2) W)
     have VS:=zh (vset U (Y.wTm tm1) wv Y.m.sd k2 hlt)
     obtain⟨vv,hvv⟩:∃v,v=vk Y.m.sd k2:=⟨_,rfl⟩
     rw[<-hvv]at IX VO VS
     clear hvv
     go_upto_region 24 with(((with_reducible show wpList _ _ _ _ _ _);refine sW 34 19 106 rfl rfl (wr.heap.size) #[.int .u16 vv.pd,.int .u16 vv.ct,.int .u8 vv.ld,.bool vv.hi,.int .u16 vv.nz] rfl rfl #[.int .u16 0,.int .u16 0,.int .u8 0,.bool false,.int .u16 0] kB ?_;intro w15 hp_w15 K_w15))
     have b15:Below wr.heap.size wr w15:=kL
     have KB15:=zh (KB.out.below b15)
     have BT15:=zh (BT.out.thenb b15)
     have lg:wr.heap.size<w15.heap.size:=K_w15.out.lt
     clear hp_w15 fb IX
     have fb15:=KB15.out.free
     have lb15:=KB15.out.lt
     refine z0k (fun k W=>(k=2->Blk W wr.heap.size #[.int .u16 vv.pd,.int .u16 vv.ct,.int .u8 vv.ld,.bool vv.hi,.int .u16 vv.nz] 34)) [0,1,2,4,5,6] kR ?_
     refine tF 0 nD ?_
     refine tF 1 nD ?_
     refine z0i (i:=2) rfl kR kR kR kR (fun _ _ _ h=>h) (z0f (by rfl) 34 (.tmp 19) rfl (wr.heap.size) 0 5 rfl 34 (#[.int .u16 vv.pd,.int .u16 vv.ct,.int .u8 vv.ld,.bool vv.hi,.int .u16 vv.nz]) (#[.int .u16 vv.pd,.int .u16 vv.ct,.int .u8 vv.ld,.bool vv.hi,.int .u16 vv.nz]) (fun W hF=>hF rfl) _ Tryz.underlying34 rfl kR rfl rfl) (fun _=>K_w15.out.drew) ?_
     try simp only[yA,yB,yC,Act.put,yD,yE,yF]
     refine tF 4 nD ?_
     refine tF 5 nD ?_
     refine rF 3 fun K hK=> ?_
     go_simp
     refine(VO.out _).mono ?_
     rintro e w16 ⟨rfl,hb16⟩
     try go_wp2_with fail
     refine hK.out _ _ (Sat.all kR (fun k=>(fun _=>(K_w15.out.drew.below hb16)))) ?_
     clear hK K
     try simp only[yA,yB,yC,Act.put,yD,yE,yF]
     refine tF 6 nD ?_
     have KB16:=zh (KB15.out.drew.below hb16)
     refine rF 7 fun K hK=> ?_
     rw[if_pos (by rfl)]
     refine z0R 34 (.tmp 113) (.tmp 110) rfl bb (45+k2*5) #[.int .u16 ((tickV vv)).pd,.int .u16 ((tickV vv)).ct,.int .u8 ((tickV vv)).ld,.bool ((tickV vv)).hi,.int .u16 ((tickV vv)).nz] rfl rfl 89 (boxC U ((Y.wTm tm1).wSd (sk Y.m.sd k2)) wv) (boxC U ((Y.wTm tm1).wSd (sk Y.m.sd (k2+1))) wv) KB16.out kR (vfit _ _ _ _ hlt) (by simp[Value.oneCell']) VS.out ?_
     intro w17 hp17 K17
     refine hK.out _ _ (Sat.off [2] (fun k w hk=>by simp only[List.mem_cons,List.not_mem_nil,or_false,not_or]at hk;exact(fun e=>absurd e hk)) kR _ _) ?_
     clear hK K
     try simp only[yA,yB,yC,Act.put,yD,yE,yF]
     refine z0g kR ?_ _
     have BT17:=zh ((BT15.out.drew.thenb hb16).put hp17)
     clear KB16 KB15 K_w15 BT15 hb16 hp17 VS VO fb15 lb15 b15
     go_wp2_with (first|((with_reducible show wpList _ _ _ _ _ _);refine lA 32 89 rfl rfl (bb) (41) 4 rfl 89 (boxC U Y wv) #[.int .u16 Y.m.tm.rl,.int .u16 Y.m.tm.ct,.bool Y.m.tm.on,.bool Y.m.tm.rg] kB Tryz.underlying32 ?_)|go_in)
     go_roundw
     case rel=>exact⟨k2+1,hlt,by rw[WK2];rfl,K17,BT17⟩
     case measure=>rw[WK2];exact me3 hlt
    ·have e3:k2=3:=Nat.le_antisymm h3 (Nat.le_of_not_lt hlt)
     subst e3
     clear hlt h3
     have c60:wr.cell? ⟨bb,60,none⟩=some (.int .i64 Y.m.sd.wt):=(KB.out.cell 60).trans (bx60 ..)
     obtain⟨nw,hnw⟩:∃z,z=(if Y.m.sd.wt=0 then 15 else Y.m.sd.wt-1):=⟨_,rfl⟩
     rw[<-hnw]at WT3
     have HNW:=zh hnw
     obtain⟨wt,hwt⟩:∃z,z=Y.m.sd.wt:=⟨_,rfl⟩
     rw[<-hwt]at WT3 c60
     clear hnw hwt
     obtain⟨W1,W2,W3⟩:=WT3
     go_upto_region 27 with(fail)
     have KC:Hid (Blk (wr.setCell ⟨bb,60,none⟩ (.int .i64 nw)) bb (boxC U ((Y.wTm tm1).wSd ⟨tickV Y.m.sd.a,tickV Y.m.sd.b,tickV Y.m.sd.c,nw⟩) wv) 89):=zh (Blk.set KB.out rfl)
     have BC:Hid (But bb w12 (wr.setCell ⟨bb,60,none⟩ (.int .i64 nw))):=zh (BT.out.setCell rfl _)
     refine z0h (R:=fun W=>Hid (Blk W bb (boxC U ((Y.wTm tm1).wSd ⟨tickV Y.m.sd.a,tickV Y.m.sd.b,tickV Y.m.sd.c,nw⟩) wv) 89)/\Hid (But bb w12 W)) ⟨KC,BC⟩ ?_
     intro w20 ⟨KD,BD⟩
     clear KC BC KB BT fb lb c60 W1 W2 W3
     obtain⟨sd2,hsd2⟩:∃z,z=Sd.mk (tickV Y.m.sd.a) (tickV Y.m.sd.b) (tickV Y.m.sd.c) nw:=⟨_,rfl⟩
     rw[<-hsd2]at KD
     have HSD:=zh hsd2
     clear hsd2
     have fd:=KD.out.free
     have ld:=KD.out.lt
     go_wp2_with (first|((with_reducible show wpList _ _ _ _ _ _);refine lA 39 130 rfl rfl (bb) (61) 4 rfl 89 (boxC U ((Y.wTm tm1).wSd sd2) wv) #[.int .i64 Y.m.bm.ln,.int .i64 Y.m.bm.pt,.bool Y.m.bm.rg,.int .i64 Y.m.bm.fr] kB Tryz.underlying39 ?_))
     refine(TB.out _).mono ?_
     rintro e w21 ⟨⟨er,rfl⟩,hb21⟩
     obtain⟨bm2,hbm2⟩:∃z,z=beamR Y.m.bm 1:=⟨_,rfl⟩
     rw[<-hbm2]
     have HBM:=zh hbm2
     have KE:=zh (KD.out.below hb21)
     have BE:=zh (BD.out.thenb hb21)
     clear hbm2 hb21 fd ld KD BD
     have fe:=KE.out.free
     have le:=KE.out.lt
     go_upto_region 28 with(((with_reducible show wpList _ _ _ _ _ _);refine sA 39 137 133 rfl rfl (bb) (61) #[.int .i64 bm2.ln,.int .i64 bm2.pt,.bool bm2.rg,.int .i64 bm2.fr] rfl rfl 89 (boxC U ((Y.wTm tm1).wSd sd2) wv) (boxC U (((Y.wTm tm1).wSd sd2).wBm bm2) wv) kB ?_;intro w22 hp_w22 K_w22))
     have BG:=zh (BE.out.put hp_w22)
     have KG:=zh K_w22.out
     clear K_w22 hp_w22 fe le KE BE
     have fg:=KG.out.free
     have lg:=KG.out.lt
     have c72:w22.cell? ⟨bb,72,none⟩=some (.int .i64 Y.m.ck):=(KG.out.cell 72).trans (bx72 ..)
     have HIN:=HN.out.at'.wk.inn
     rw[L1E.out]at HIN
     have RZ:Hid (RelX 89 w2 U bb w2.heap.size (w22.setCell ⟨bb,72,none⟩ (.int .i64 (Y.m.ck+1))) (lk1 c).x):=zh (by
      rw[L1E.out]
      refine RY.out.turn LL.out KBQ.out (BG.out.setCell rfl _) kD (Blk.set KG.out ?_) rfl rfl HIN
      rw[HBM.out,HSD.out,HNW.out,TM1.out]
      rfl)
     have OZ:Hid (OutAt (w22.setCell ⟨bb,72,none⟩ (.int .i64 (Y.m.ck+1))) (bb+1) (bb+1) (lk1 c).ls (lk1 c).ss):=zh (by
      rw[L1E.out]
      exact O12.out.kp ((BG.out.setCell rfl _).kp (Nat.lt_succ_self _)))
     have IZ:Hid (InpsAt w2 v5 (lk1 c).ins):=zh (by rw[L1E.out];exact I5)
     have SZ:bb+1<(w22.setCell ⟨bb,72,none⟩ (.int .i64 (Y.m.ck+1))).heap.size:=z5E OZ.out
     clear BG KG HIN RY KBQ O12 I5
     go_wp2_with (first|((with_reducible show wpList _ _ _ _ _ _);refine lA 39 130 rfl rfl (bb) (61) 4 rfl 89 (boxC U ((Y.wTm tm1).wSd sd2) wv) #[.int .i64 Y.m.bm.ln,.int .i64 Y.m.bm.pt,.bool Y.m.bm.rg,.int .i64 Y.m.bm.fr] kB Tryz.underlying39 ?_)|go_in)
     go_roundw
     case rel=>exact⟨k+1,lk1 c,hkn,rfl,IZ.out,HN,RZ,OZ,SZ⟩
     case measure=>exact men hkn
  ·have ek:n=k:=Nat.le_antisymm (Nat.le_of_not_lt hkn) hk
   subst ek
   have EF:Hid (c=F):=zh (by have e:=hA.out.go;rw[Nat.sub_self]at e;exact e)
   have RF:Hid (RelX 89 w2 U bb w2.heap.size wr F.x):=zh (by rw[<-EF.out];exact hR.out)
   have OF:Hid (OutAt wr (bb+1) (bb+1) F.ls F.ss):=zh (by rw[<-EF.out];exact hO.out)
   have D3:w.heap.size+3<=bb:=Nat.le_trans q2 q3
   have dz:w.heap.size+1≠bb+1:=by omega
   have dy:w.heap.size+1+1≠bb+1:=by omega
   have dzb:bb≠w.heap.size+1:=by omega
   have ZK:=zh (Z2.out.below RF.out.old)
   have YK:=zh (Y2.out.below RF.out.old)
   clear hA hR hO EF hI hkn hk
   obtain⟨-,⟨wv,hbx,hws⟩,-,-,-⟩:=id RF.out
   obtain⟨-,⟨lv,sv,h0,h1,h2⟩,h4,h5⟩:=id OF.out
   obtain⟨aw,cw,rfl⟩:=z0c hws
   obtain⟨al,cl,rfl⟩:=z0c h1
   obtain⟨ax,cs,rfl⟩:=z0c h2
   have c75:wr.cell? ⟨bb,75,none⟩=some (.slice aw F.x.ws.length cw):=(hbx.cell 75).trans (bx75 ..)
   have e2:wr.cell? ⟨bb+1,2,none⟩=some (.slice none 0 0):=h0.cell 2
   have fo:=h0.free
   have lo:=h0.lt
   have KB3:Hid (Blk (wr.setCell ⟨bb+1,2,none⟩ (.slice aw F.x.ws.length cw)) bb (boxC U F.x (.slice aw F.x.ws.length cw)) 89):=zh (hbx.setAt (Nat.ne_of_lt (Nat.lt_succ_self _)))
   have KO3:Hid (Blk (wr.setCell ⟨bb+1,2,none⟩ (.slice aw F.x.ws.length cw)) (bb+1) #[.slice al F.ls.length cl,.slice ax F.ss.length cs,.slice aw F.x.ws.length cw] 46):=zh (Blk.set h0 rfl)
   have ZK3:Hid (Blk (wr.setCell ⟨bb+1,2,none⟩ (.slice aw F.x.ws.length cw)) (w.heap.size+1) Tryz.zeroCells42 42):=zh (ZK.out.setAt dz)
   have YK3:Hid (Blk (wr.setCell ⟨bb+1,2,none⟩ (.slice aw F.x.ws.length cw)) (w.heap.size+1+1) #[.slice none 0 0,.slice none 0 0,.slice none 0 0] 46):=zh (YK.out.setAt dy)
   have RF3:Hid (RelX 89 w2 U bb w2.heap.size (wr.setCell ⟨bb+1,2,none⟩ (.slice aw F.x.ws.length cw)) F.x):=zh (RF.out.stable LL.out (St.setCell (St.refl _ _) (p:=⟨bb+1,2,none⟩) (Nat.le_refl _) (Or.inr (Blk.nw h0 kD)) _))
   have HL3:Hid (Lns (wr.setCell ⟨bb+1,2,none⟩ (.slice aw F.x.ws.length cw)) (bb+1) (.slice al F.ls.length cl) F.ls):=zh (z1Y h1 h0 kD)
   have HS3:Hid (Sms (wr.setCell ⟨bb+1,2,none⟩ (.slice aw F.x.ws.length cw)) (bb+1) (.slice ax F.ss.length cs) F.ss):=zh (z1Y h2 h0 kD)
   have HW3:Hid (Wrs (wr.setCell ⟨bb+1,2,none⟩ (.slice aw F.x.ws.length cw)) w2.heap.size (.slice aw F.x.ws.length cw) F.x.ws):=zh (z1Y hws h0 kD)
   have OK3:=zh (And.intro h4 h5)
   clear RF OF ZK YK hbx hws h0 h1 h2 h4 h5 Z2 Y2
   go_upto_region 31 with(fail)
   refine z0h (R:=fun W=>(Hid (Blk W bb (boxC U F.x (.slice aw F.x.ws.length cw)) 89)/\Hid (Blk W (bb+1) #[.slice al F.ls.length cl,.slice ax F.ss.length cs,.slice aw F.x.ws.length cw] 46)/\Hid (Blk W (w.heap.size+1) Tryz.zeroCells42 42)/\Hid (Blk W (w.heap.size+1+1) #[.slice none 0 0,.slice none 0 0,.slice none 0 0] 46))/\Hid (RelX 89 w2 U bb w2.heap.size W F.x)/\Hid (Lns W (bb+1) (.slice al F.ls.length cl) F.ls)/\Hid (Sms W (bb+1) (.slice ax F.ss.length cs) F.ss)/\Hid (Wrs W w2.heap.size (.slice aw F.x.ws.length cw) F.x.ws)) ⟨⟨KB3,KO3,ZK3,YK3⟩,RF3,HL3,HS3,HW3⟩ ?_
   clear KB3 KO3 ZK3 YK3 RF3 HL3 HS3 HW3 c75 e2 fo lo
   intro w30 ⟨⟨KB,KO,ZK,YK⟩,RF,HL,HS,HW⟩
   have ONU:=zh (z0t (V:=U) F.x.m (fun i hi=>by obtain⟨a',c',h'⟩:=z0c (RF.out.mems i hi);rw[h'];rfl))
   have zs:(Tryz.zeroCells42).size=75:=by kernel_rfl
   refine z0k (fun k W=>(k=3->Blk W bb (boxC U F.x (.slice aw F.x.ws.length cw)) 89)/\(k=4->Blk W (bb+1) #[.slice al F.ls.length cl,.slice ax F.ss.length cs,.slice aw F.x.ws.length cw] 46)) [0,1,2,3,4,7] kR ?_
   refine tF 0 ⟨nD,nD⟩ ?_
   refine tF 1 ⟨nD,nD⟩ ?_
   refine tF 2 ⟨nD,nD⟩ ?_
   refine z0i (i:=3) rfl kR kR kR kR (fun _ _ _ h=>h) (z0f (by rfl) 42 (.tmp 155) rfl (bb) 0 75 rfl 89 (boxC U F.x (.slice aw F.x.ws.length cw)) (machC U F.x.m) (fun W hF=>hF.1 rfl) _ Tryz.underlying42 rfl kR rfl rfl) ⟨(fun _=>KB.out.drew),nD⟩ ?_
   try simp only[yA,yB,yC,Act.put,yD,yE,yF]
   refine z0i (i:=4) rfl kR kR kR kR (fun _ _ _ h=>h) (z0f (by rfl) 46 (.tmp 12) rfl (bb+1) 0 3 rfl 46 (#[.slice al F.ls.length cl,.slice ax F.ss.length cs,.slice aw F.x.ws.length cw]) (#[.slice al F.ls.length cl,.slice ax F.ss.length cs,.slice aw F.x.ws.length cw]) (fun W hF=>hF.2 rfl) _ Tryz.underlying46 rfl kR rfl rfl) ⟨nD,(fun _=>KO.out.drew)⟩ ?_
   try simp only[yA,yB,yC,Act.put,yD,yE,yF]
   refine rF 5 fun K hK=> ?_
   rw[if_pos (by rfl)]
   refine z0v 42 (.tmp 6) (.tmp 156) rfl (w.heap.size+1) (machC U F.x.m) rfl rfl 42 Tryz.zeroCells42 ZK.out.drew kR zs ONU.out ?_
   intro w31 hp31 K31
   refine hK.out _ _ (Sat.all kR (fun k=>⟨fun _=>KB.out.drew.put hp31 dzb,fun _=>KO.out.drew.put hp31 dz.symm⟩)) ?_
   clear hK K
   try simp only[yA,yB,yC,Act.put,yD,yE,yF]
   have YK31:=zh (YK.out.drew.put hp31 (Nat.ne_of_gt (Nat.lt_succ_self _)))
   refine rF 6 fun K hK=> ?_
   rw[if_pos (by rfl)]
   refine z0v 46 (.tmp 7) (.tmp 157) rfl (w.heap.size+1+1) #[.slice al F.ls.length cl,.slice ax F.ss.length cs,.slice aw F.x.ws.length cw] rfl rfl 46 #[.slice none 0 0,.slice none 0 0,.slice none 0 0] YK31.out kR rfl (by simp[Value.oneCell']) ?_
   intro w32 hp32 K32
   refine hK.out _ _ (Sat.off [3,4] (fun k w hk=>by simp only[List.mem_cons,List.not_mem_nil,or_false,not_or]at hk;exact⟨(fun e=>absurd e hk.1),(fun e=>absurd e hk.2)⟩) kR _ _) ?_
   clear hK K
   try simp only[yA,yB,yC,Act.put,yD,yE,yF]
   refine tF 7 ⟨nD,nD⟩ ?_
   try simp only[yA,yB,yC,Act.put,yD,yE,yF]
   refine z0g kR ?_ _
   have KM32:=K31.out.put hp32 (Nat.ne_of_lt (Nat.lt_succ_self _))
   have g1:w.heap.size+1<w2.heap.size:=Nat.lt_of_lt_of_le kO q2
   have g2:w.heap.size+1+1<w2.heap.size:=Nat.lt_of_lt_of_le kO q2
   have hw2:w.heap.size<=w2.heap.size:=Nat.le_trans (Nat.le_add_right _ 3) q2
   have BZ:Below w.heap.size w w32:=B2.trans ((RF.out.old.drew.mono hw2).trans ((hp31.below.mono (Nat.le_succ _)).trans (hp32.below.mono (Nat.le_succ_of_le (Nat.le_succ _)))))
   have LO:=LL.out.own
   have TD:RunTold w w32 U (.slice al F.ls.length cl) (.slice ax F.ss.length cs) (.slice aw F.x.ws.length cw) F.x.m F.ls F.ss F.x.ws:=
    ⟨⟨BZ,fun i hi=>z0U (z0V (z0V (World.ownsRow.drew (RF.out.mems i hi)) hp31 (fun b hb=>by have:=(LO i b hi hb).1;omega)) hp32 (fun b hb=>by have:=(LO i b hi hb).1;omega)) (z1y (RF.out.inn.mem i)),RF.out.inn,RF.out.fit,fun i g hi hg=>Nat.le_trans hw2 (LO i g hi hg).1⟩,
     z1X HL.out hp31 hp32 kO kO kO,z1X HS.out hp31 hp32 kO kO kO,z1X HW.out hp31 hp32 g1 g2 hw2,OK3.out⟩
   go_wp2_with (first|((with_reducible show wpList _ _ _ _ _ _);refine lA 39 130 rfl rfl (bb) (61) 4 rfl 89 (boxC U ((Y.wTm tm1).wSd sd2) wv) #[.int .i64 Y.m.bm.ln,.int .i64 Y.m.bm.pt,.bool Y.m.bm.rg,.int .i64 Y.m.bm.fr] kB Tryz.underlying39 ?_)|go_in)
   exact bodyPost_ret (z0H Tryz.results13 _ _ (w.heap.size+1) (w.heap.size+1+1) 42 46 (machC U F.x.m) #[.slice al F.ls.length cl,.slice ax F.ss.length cs,.slice aw F.x.ws.length cw] _ _ rfl KM32 Tryz.underlying42 rfl kR rfl K32.out Tryz.underlying46 rfl kR) rfl ⟨U,_,_,_,rfl,TD⟩
end Go.Proofs.YtkoocfcnfolkhaaGreatDoor
