/- The sounds of so many clocks, the first sample told ahead. Conditions: the sound is one, its wait at most sixteen. -/
import Derived.Test.YtkoocfcnfolkhaaGreatDoorSq
import Derived.Test.YtkoocfcnfolkhaaGreatDoorSh
import Derived.Test.YtkoocfcnfolkhaaGreatDoorLockRn
import Derived.Test.YtkoocfcnfolkhaaGreatDoorP27
import Derived.Test.YtkoocfcnfolkhaaGreatDoorP29
set_option linter.unusedVariables false
set_option linter.unusedSimpArgs false
set_option maxHeartbeats 4000000
set_option maxRecDepth 100000
namespace Go.Proofs.YtkoocfcnfolkhaaGreatDoor
open Go.RowKit Go.Mq
theorem z2M{P:Program}{fn:Func}{t p:Tmp}{ty:TypeId}(h:fn.results= #[.tmp t,.cell p ty])(tmps:Array Value)(w:World)(g:Nat)(tb:TypeId)(cs:Array Value)(d:TypeDesc)
  (hp:tmps.getD p undef= .pointer (some ⟨g,0,none⟩))(hg:Blk w g cs tb)
  (hu:P.underlying ty=some d)(hd:(match d with| .struct _| .array _ _=>true|_=>false)=true)(hi:(P.info? ty).map (·.size)=some cs.size):
  (results fn tmps).run P w= .ok (.tuple #[tmps.getD t undef,.agg cs]) w:=by
 have hp':tmps[p]?.getD undef= .pointer (some ⟨g,0,none⟩):=by simpa using hp
 simp[results,h,hp',asAddr,run_loadVar_row w g tb ty cs (0,0) d hg hu hd hi]
theorem z3H{w w':World}{B size n g:Nat}{e t:TypeId}{v:Value}{xs:List Value}{cs:Array Value}(h:w.ownsRow B e size v n xs)(hp:Put g w w')(hb:Blk w g cs t)(ht:t≠e):w'.ownsRow B e size v n xs:=
 z0T h hp (fun k hk e'=>by
  obtain⟨-,cs',hcs⟩:=z1h h hk
  subst e'
  exact ht (Blk.one_ty hb hcs))
theorem z4Y(s:Sd)(hs:s.In)(t0:0<=s.wt)(t1:s.wt<=16)(n:Nat)(hn:n<=20000)(w:World):
  Calls Tryz.prog 37 #[.agg #[.int .u16 s.a.pd,.int .u16 s.a.ct,.int .u8 s.a.ld,.bool s.a.hi,.int .u16 s.a.nz,.int .u16 s.b.pd,.int .u16 s.b.ct,.int .u8 s.b.ld,.bool s.b.hi,.int .u16 s.b.nz,.int .u16 s.c.pd,.int .u16 s.c.ct,.int .u8 s.c.ld,.bool s.c.hi,.int .u16 s.c.nz,.int .i64 s.wt],.int .i64 n] w fun e w'=>∃ao cp,e= .returned (.tuple #[.slice ao (sndL s n).length cp,.agg #[.int .u16 ((sndS s n).a).pd,.int .u16 ((sndS s n).a).ct,.int .u8 ((sndS s n).a).ld,.bool ((sndS s n).a).hi,.int .u16 ((sndS s n).a).nz,.int .u16 ((sndS s n).b).pd,.int .u16 ((sndS s n).b).ct,.int .u8 ((sndS s n).b).ld,.bool ((sndS s n).b).hi,.int .u16 ((sndS s n).b).nz,.int .u16 ((sndS s n).c).pd,.int .u16 ((sndS s n).c).ct,.int .u8 ((sndS s n).c).ld,.bool ((sndS s n).c).hi,.int .u16 ((sndS s n).c).nz,.int .i64 (sndS s n).wt]])/\
   w'.ownsRow w.heap.size 5 1 (.slice ao (sndL s n).length cp) (sndL s n).length ((sndL s n).map (Value.int .u8))/\Below w.heap.size w w':=by
 obtain⟨k,hk⟩:∃k:Int,k=((min n s.wt.toNat:Nat):Int):=⟨_,rfl⟩
 obtain⟨N,hN⟩:∃N:Int,N=n:=⟨_,rfl⟩
 obtain⟨T,hT⟩:∃T,T=goSd s k.toNat (s.wt-k):=⟨_,rfl⟩
 obtain⟨L,hL⟩:∃L,L=sndL s n:=⟨_,rfl⟩
 obtain⟨X,hX⟩:∃X,X=sndS s n:=⟨_,rfl⟩
 rw[<-hL,<-hX]
 have EL:Hid (L=smp T (n-k.toNat)):=zh (by rw[hL,hT,hk,Int.toNat_natCast];rfl)
 have ES:Hid (X=runS T (n-k.toNat)):=zh (by rw[hX,hT,hk,Int.toNat_natCast];rfl)
 clear hL hX
 have k0:0<=k:=by omega
 have k1:k<=20000:=by omega
 have kn:k<=N:=by omega
 have N1:N<=20000:=by omega
 have MN:(if s.wt<N then s.wt else N)=k:=by rw[hk,hN];split<;>omega
 have WS:wrap64 (s.wt-k)=s.wt-k:=z0n _ kO kO
 have WN:wrap64 (N-k)=N-k:=z0n _ kO kO
 have ETj:Hid ({sj s k.toNat 3 with wt:=s.wt-k}=T):=zh (by rw[hT];rfl)
 have HTw:Hid (N≠k->T.Ok/\N-k=((n-k.toNat:Nat):Int)):=zh (fun hne=>by
  refine⟨⟨?_,?_,?_⟩,by omega⟩
  ·rw[hT];exact⟨z1o _ _ hs.1,z1o _ _ hs.2.1,z1o _ _ hs.2.2⟩
  ·rw[hT];show 0<=s.wt-k;omega
  ·rw[hT];show s.wt-k<=15;omega)
 have EZ:Hid (N=k->n-k.toNat=0):=zh (fun h=>by omega)
 have VO:=zh (fun j W=>z4t (vk s j) (vk_ok hs j) k k0 k1 W)
 have SV:=zh (z8i s k.toNat)
 have TW:=zh (And.intro t0 t1)
 rw[<-hN]
 have HN:=zh hN
 clear hk hT hs t0 t1 hN
 go_enter Tryz.func37,Tryz.ntmps37
 go_upto_region 1 with(fail)
 refine z0g (R:=fun W=>Below w.heap.size w W/\Hid (Blk W w.heap.size (sdC s) 37)/\Hid (Blk W (w.heap.size+1) #[.int .u16 0,.int .u16 0,.int .u8 0,.bool false,.int .u16 0,.int .u16 0,.int .u16 0,.int .u8 0,.bool false,.int .u16 0,.int .u16 0,.int .u16 0,.int .u8 0,.bool false,.int .u16 0,.int .i64 0] 37)) ⟨kL,zh (show Blk _ w.heap.size #[.int .u16 s.a.pd,.int .u16 s.a.ct,.int .u8 s.a.ld,.bool s.a.hi,.int .u16 s.a.nz,.int .u16 s.b.pd,.int .u16 s.b.ct,.int .u8 s.b.ld,.bool s.b.hi,.int .u16 s.b.nz,.int .u16 s.c.pd,.int .u16 s.c.ct,.int .u8 s.c.ld,.bool s.c.hi,.int .u16 s.c.nz,.int .i64 s.wt] 37 from kB),zh kB⟩ ?_
 intro w1 ⟨B1,K1,Z1⟩
 have f1:=K1.out.free
 have l1:=K1.out.lt
 have c15:w1.cell? ⟨w.heap.size,15,none⟩=some (.int .i64 s.wt):=K1.out.cell 15
 go_upto_region 3 with(first|((with_reducible show wpList _ _ _ _ _ _);refine lA 35 15 rfl rfl (w.heap.size) (0) 15 rfl 37 (sdC s) (vsC s) kB Tryz.underlying35 ?_))
 clear f1 l1 c15 MN
 go_loopw [17] (fun i wr=>∃j:Nat,j<=3/\i= .int .i64 j/\Hid (Blk wr w.heap.size (sdC (sj s k.toNat j)) 37)/\Hid (Blk wr (w.heap.size+1) #[.int .u16 0,.int .u16 0,.int .u8 0,.bool false,.int .u16 0,.int .u16 0,.int .u16 0,.int .u8 0,.bool false,.int .u16 0,.int .u16 0,.int .u16 0,.int .u8 0,.bool false,.int .u16 0,.int .i64 0] 37)/\Below w.heap.size w wr) (fun i _=>(3-intOf i).toNat)
 case atStart=>exact⟨0,Nat.zero_le _,rfl,K1,Z1,B1⟩
 case round=>
  obtain⟨j,h3,rfl,KB,KZ,BB⟩:=hrel
  clear K1 Z1 B1
  by_cases hlt:j<3
  ·have q3:(j:Int)<3:=Int.ofNat_lt.2 hlt
   have q0:(0:Int)<=j:=Int.natCast_nonneg _
   have WK2:wrap64 ((j:Int)+1)=j+1:=z0n _ kO kO
   have IX:=fun w=>vidxk s w j hlt
   have VS:=zh (SV.out j hlt)
   have VJ:=zh (VO.out j)
   have FT:=zh (z8j s k.toNat j hlt)
   obtain⟨vv,hvv⟩:∃v,v=vk s j:=⟨_,rfl⟩
   rw[<-hvv]at IX VS VJ
   clear hvv
   go_upto_region 5 with(((with_reducible show wpList _ _ _ _ _ _);refine sW 34 8 20 rfl rfl (wr.heap.size) #[.int .u16 vv.pd,.int .u16 vv.ct,.int .u8 vv.ld,.bool vv.hi,.int .u16 vv.nz] rfl rfl #[.int .u16 0,.int .u16 0,.int .u8 0,.bool false,.int .u16 0] kB ?_;intro w2 hp_w2 K_w2))
   have b2:Below wr.heap.size wr w2:=kL
   have KB2:=zh (KB.out.below b2)
   have KZ2:=zh (KZ.out.below b2)
   have BB2:=below_then BB b2
   have lg:=K_w2.out.lt
   have sr:=BB.size
   clear hp_w2 IX KB KZ b2 BB
   go_wp2_with (first|((with_reducible show wpList _ _ _ _ _ _);refine lW 34 8 rfl rfl (wr.heap.size) rfl #[.int .u16 vv.pd,.int .u16 vv.ct,.int .u8 vv.ld,.bool vv.hi,.int .u16 vv.nz] kB Tryz.underlying34 ?_))
   refine(VJ.out _).mono ?_
   rintro e w3 ⟨rfl,hb3⟩
   have KB3:=zh (KB2.out.below hb3)
   have KZ3:=zh (KZ2.out.below hb3)
   have BB3:=below_then BB2 hb3
   clear hb3 KB2 KZ2 BB2 K_w2 VJ lg
   have fb:=KB3.out.free
   have lb:=KB3.out.lt
   go_upto_region 6 with((with_reducible show wpList _ _ _ _ _ _);refine z0X rfl 34 (.tmp 29) (.tmp 26) rfl (w.heap.size) (j*5) #[.int .u16 ((runV vv k.toNat)).pd,.int .u16 ((runV vv k.toNat)).ct,.int .u8 ((runV vv k.toNat)).ld,.bool ((runV vv k.toNat)).hi,.int .u16 ((runV vv k.toNat)).nz] rfl rfl 37 (sdC (sj s k.toNat j)) (sdC (sj s k.toNat (j+1))) KB3.out kR FT.out (by simp[Value.oneCell']) VS.out ?_;intro w4 hp_w4 K_w4)
   have KZ4:Hid (Blk w4 (w.heap.size+1) #[.int .u16 0,.int .u16 0,.int .u8 0,.bool false,.int .u16 0,.int .u16 0,.int .u16 0,.int .u8 0,.bool false,.int .u16 0,.int .u16 0,.int .u16 0,.int .u8 0,.bool false,.int .u16 0,.int .i64 0] 37):=zh (KZ3.out.put hp_w4 (Nat.ne_of_gt (Nat.lt_succ_self _)))
   have BB4:Below w.heap.size w w4:=kL
   clear KB3 KZ3 BB3 hp_w4 VS fb lb
   go_wp2_with (first|((with_reducible show wpList _ _ _ _ _ _);refine lW 34 8 rfl rfl (wr.heap.size) rfl #[.int .u16 vv.pd,.int .u16 vv.ct,.int .u8 vv.ld,.bool vv.hi,.int .u16 vv.nz] kB Tryz.underlying34 ?_)|go_in)
   go_roundw
   case rel=>exact⟨j+1,hlt,rfl,K_w4,KZ4,BB4⟩
   case measure=>exact me3 hlt
  ·have e3:j=3:=Nat.le_antisymm h3 (Nat.le_of_not_lt hlt)
   subst e3
   clear hlt h3 SV VO
   have fb:=KB.out.free
   have lb:=KB.out.lt
   have c15:wr.cell? ⟨w.heap.size,15,none⟩=some (.int .i64 s.wt):=KB.out.cell 15
   go_upto_region 8 with(fail)
   have KT:Hid (Blk (wr.setCell ⟨w.heap.size,15,none⟩ (.int .i64 (s.wt-k))) w.heap.size (sdC T) 37):=zh (by
    rw[<-ETj.out]
    exact Blk.set KB.out rfl)
   have KY:Hid (Blk (wr.setCell ⟨w.heap.size,15,none⟩ (.int .i64 (s.wt-k))) (w.heap.size+1) #[.int .u16 0,.int .u16 0,.int .u8 0,.bool false,.int .u16 0,.int .u16 0,.int .u16 0,.int .u8 0,.bool false,.int .u16 0,.int .u16 0,.int .u16 0,.int .u8 0,.bool false,.int .u16 0,.int .i64 0] 37):=zh (KZ.out.setAt (Nat.ne_of_gt (Nat.lt_succ_self _)))
   have BT:Below w.heap.size w (wr.setCell ⟨w.heap.size,15,none⟩ (.int .i64 (s.wt-k))):=BB.setCell (Nat.le_refl _) _
   refine z0g (R:=fun W=>Below w.heap.size w W/\Hid (Blk W w.heap.size (sdC T) 37)/\Hid (Blk W (w.heap.size+1) #[.int .u16 0,.int .u16 0,.int .u8 0,.bool false,.int .u16 0,.int .u16 0,.int .u16 0,.int .u8 0,.bool false,.int .u16 0,.int .u16 0,.int .u16 0,.int .u8 0,.bool false,.int .u16 0,.int .i64 0] 37)) ⟨BT,KT,KY⟩ ?_
   intro w5 ⟨B5,K5,Z5⟩
   clear KB KZ BB fb lb c15 KT KY BT ETj
   by_cases hne:N=k
   ·have eq0:=EZ.out hne
    have E1:=EL.out
    have E2:=ES.out
    rw[eq0]at E1 E2
    have E1:L=[]:=E1.trans rfl
    have E2:T=X:=(E2.trans rfl).symm
    clear EL ES EZ HTw
    subst hne E1 E2
    go_wp2_with (first|((with_reducible show wpList _ _ _ _ _ _);refine lW 34 8 rfl rfl (wr.heap.size) rfl #[.int .u16 vv.pd,.int .u16 vv.ct,.int .u8 vv.ld,.bool vv.hi,.int .u16 vv.nz] kB Tryz.underlying34 ?_))
    refine z0h (fun k W=>(k=0->Blk W w.heap.size (sdC T) 37)) [0,1] kR ?_
    refine z0c (i:=0) rfl kR kR kR kR (fun _ _ _ h=>h) (z0d (by rfl) 37 (.tmp 2) rfl (w.heap.size) 0 16 rfl 37 ((sdC T)) ((sdC T)) (fun W hF=>hF rfl) _ Tryz.underlying37 rfl kR rfl rfl) (fun _=>K5.out.drew) ?_
    try simp only[yA,yB,yC,Act.put,yD,yE,yF]
    refine tF 1 nD ?_
    refine rF 2 fun K hK=> ?_
    rw[if_pos (by rfl)]
    refine z0K 37 (.tmp 5) (.tmp 39) rfl (w.heap.size+1) 0 (sdC T) rfl rfl 37 #[.int .u16 0,.int .u16 0,.int .u8 0,.bool false,.int .u16 0,.int .u16 0,.int .u16 0,.int .u8 0,.bool false,.int .u16 0,.int .u16 0,.int .u16 0,.int .u8 0,.bool false,.int .u16 0,.int .i64 0] (sdC T) Z5.out.drew kR (by simp[sdC]) (by simp[sdC,Value.oneCell']) rfl ?_
    intro w6 hp6 K6
    refine hK.out _ _ (Sat.off [0] (fun k w hk=>by simp only[List.mem_cons,List.not_mem_nil,or_false,not_or]at hk;exact(fun e=>absurd e hk)) kR _ _) ?_
    clear hK K
    try simp only[yA,yB,yC,Act.put,yD,yE,yF]
    refine z0f kR ?_ _
    have B6:Below w.heap.size w w6:=below_put B5.drew hp6 (Nat.le_succ _)
    go_wp2_with (first|((with_reducible show wpList _ _ _ _ _ _);refine lW 34 8 rfl rfl (wr.heap.size) rfl #[.int .u16 vv.pd,.int .u16 vv.ct,.int .u8 vv.ld,.bool vv.hi,.int .u16 vv.nz] kB Tryz.underlying34 ?_)|go_in)
    exact bodyPost_ret (z2M Tryz.results37 _ _ (w.heap.size+1) 37 (sdC T) _ rfl K6.out Tryz.underlying37 rfl kR) rfl ⟨none,0,rfl,World.ownsRow_nil _ _ _ _,B6⟩
   ·have TO:=HTw.out hne
    have SM:=z2K T TO.1 (n-k.toNat) (Nat.le_trans (Nat.sub_le _ _) hn)
    rw[<-TO.2,<-EL.out,<-ES.out]at SM
    have SM:=zh SM
    have hned:decide (N=k)=false:=decide_eq_false hne
    clear TO EL ES EZ HTw
    go_wp2_with (first|((with_reducible show wpList _ _ _ _ _ _);refine lW 37 2 rfl rfl (w.heap.size) rfl (sdC T) kB Tryz.underlying37 ?_))
    refine(SM.out _).mono ?_
    rintro e w6 ⟨ao,cp,rfl,OW,hb6⟩
    have K6:=zh (K5.out.below hb6)
    have Z6:=zh (Z5.out.below hb6)
    have B6:=below_then B5 hb6
    have s5:=B5.size
    have OW6:=zh (z0t OW s5)
    have lz:=Z6.out.lt
    clear hb6 K5 Z5 B5 OW SM
    have K5:=K6
    go_upto_region 11 with(first|((with_reducible show wpList _ _ _ _ _ _);refine sW 37 2 47 rfl rfl (w.heap.size) #[.int .u16 X.a.pd,.int .u16 X.a.ct,.int .u8 X.a.ld,.bool X.a.hi,.int .u16 X.a.nz,.int .u16 X.b.pd,.int .u16 X.b.ct,.int .u8 X.b.ld,.bool X.b.hi,.int .u16 X.b.nz,.int .u16 X.c.pd,.int .u16 X.c.ct,.int .u8 X.c.ld,.bool X.c.hi,.int .u16 X.c.nz,.int .i64 X.wt] rfl rfl (sdC T) kB ?_;intro w7 hp_w7 K_w7))
    have B7:Below w.heap.size w w7:=kL
    have Z7:=zh (Z6.out.put hp_w7 (Nat.ne_of_gt (Nat.lt_succ_self _)))
    have OW7:=zh (z3H OW6.out hp_w7 K5.out kD)
    clear hp_w7 OW6 Z6 lz K6 K5
    go_wp2_with (first|((with_reducible show wpList _ _ _ _ _ _);refine lW 37 2 rfl rfl (w.heap.size) rfl (sdC T) kB Tryz.underlying37 ?_))
    refine z0h (fun k W=>(k=1->Blk W w.heap.size #[.int .u16 X.a.pd,.int .u16 X.a.ct,.int .u8 X.a.ld,.bool X.a.hi,.int .u16 X.a.nz,.int .u16 X.b.pd,.int .u16 X.b.ct,.int .u8 X.b.ld,.bool X.b.hi,.int .u16 X.b.nz,.int .u16 X.c.pd,.int .u16 X.c.ct,.int .u8 X.c.ld,.bool X.c.hi,.int .u16 X.c.nz,.int .i64 X.wt] 37)) [0,1,2] kR ?_
    refine tF 0 nD ?_
    refine z0c (i:=1) rfl kR kR kR kR (fun _ _ _ h=>h) (z0d (by rfl) 37 (.tmp 2) rfl (w.heap.size) 0 16 rfl 37 (#[.int .u16 X.a.pd,.int .u16 X.a.ct,.int .u8 X.a.ld,.bool X.a.hi,.int .u16 X.a.nz,.int .u16 X.b.pd,.int .u16 X.b.ct,.int .u8 X.b.ld,.bool X.b.hi,.int .u16 X.b.nz,.int .u16 X.c.pd,.int .u16 X.c.ct,.int .u8 X.c.ld,.bool X.c.hi,.int .u16 X.c.nz,.int .i64 X.wt]) (#[.int .u16 X.a.pd,.int .u16 X.a.ct,.int .u8 X.a.ld,.bool X.a.hi,.int .u16 X.a.nz,.int .u16 X.b.pd,.int .u16 X.b.ct,.int .u8 X.b.ld,.bool X.b.hi,.int .u16 X.b.nz,.int .u16 X.c.pd,.int .u16 X.c.ct,.int .u8 X.c.ld,.bool X.c.hi,.int .u16 X.c.nz,.int .i64 X.wt]) (fun W hF=>hF rfl) _ Tryz.underlying37 rfl kR rfl rfl) (fun _=>K_w7.out.drew) ?_
    try simp only[yA,yB,yC,Act.put,yD,yE,yF]
    refine tF 2 nD ?_
    refine rF 3 fun K hK=> ?_
    rw[if_pos (by rfl)]
    refine z0K 37 (.tmp 5) (.tmp 50) rfl (w.heap.size+1) 0 #[.int .u16 X.a.pd,.int .u16 X.a.ct,.int .u8 X.a.ld,.bool X.a.hi,.int .u16 X.a.nz,.int .u16 X.b.pd,.int .u16 X.b.ct,.int .u8 X.b.ld,.bool X.b.hi,.int .u16 X.b.nz,.int .u16 X.c.pd,.int .u16 X.c.ct,.int .u8 X.c.ld,.bool X.c.hi,.int .u16 X.c.nz,.int .i64 X.wt] rfl rfl 37 #[.int .u16 0,.int .u16 0,.int .u8 0,.bool false,.int .u16 0,.int .u16 0,.int .u16 0,.int .u8 0,.bool false,.int .u16 0,.int .u16 0,.int .u16 0,.int .u8 0,.bool false,.int .u16 0,.int .i64 0] #[.int .u16 X.a.pd,.int .u16 X.a.ct,.int .u8 X.a.ld,.bool X.a.hi,.int .u16 X.a.nz,.int .u16 X.b.pd,.int .u16 X.b.ct,.int .u8 X.b.ld,.bool X.b.hi,.int .u16 X.b.nz,.int .u16 X.c.pd,.int .u16 X.c.ct,.int .u8 X.c.ld,.bool X.c.hi,.int .u16 X.c.nz,.int .i64 X.wt] Z7.out.drew kR kS (by simp[Value.oneCell']) rfl ?_
    intro w8 hp8 K8
    refine hK.out _ _ (Sat.off [1] (fun k w hk=>by simp only[List.mem_cons,List.not_mem_nil,or_false,not_or]at hk;exact(fun e=>absurd e hk)) kR _ _) ?_
    clear hK K
    try simp only[yA,yB,yC,Act.put,yD,yE,yF]
    refine z0f kR ?_ _
    have B8:Below w.heap.size w w8:=below_put B7.drew hp8 (Nat.le_succ _)
    have OW8:=z3H (World.ownsRow.drew OW7.out) hp8 Z7.out.drew kD
    clear Z7 OW7 B7 hp8 K_w7
    go_wp2_with (first|((with_reducible show wpList _ _ _ _ _ _);refine lW 37 2 rfl rfl (w.heap.size) rfl (sdC T) kB Tryz.underlying37 ?_)|go_in)
    exact bodyPost_ret (z2M Tryz.results37 _ _ (w.heap.size+1) 37 #[.int .u16 X.a.pd,.int .u16 X.a.ct,.int .u8 X.a.ld,.bool X.a.hi,.int .u16 X.a.nz,.int .u16 X.b.pd,.int .u16 X.b.ct,.int .u8 X.b.ld,.bool X.b.hi,.int .u16 X.b.nz,.int .u16 X.c.pd,.int .u16 X.c.ct,.int .u8 X.c.ld,.bool X.c.hi,.int .u16 X.c.nz,.int .i64 X.wt] _ rfl K8.out Tryz.underlying37 rfl kR) rfl ⟨ao,cp,rfl,OW8,B8⟩
def cnI(m:Mach)(ins:List Inp):Cn:=⟨⟨m,[],0⟩,[],[],ins⟩
theorem z8f{m:Mach}{ins:List Inp}(hi:m.In)(hr:m.Right)(hc:chkFrom m.ck ins=0)(hd:∀i∈ins,U8 i.dn):At m 0 (cnI m ins):=
 ⟨⟨hi,hr.fit,hr.wt,hr.bm.1,hr.bm.2.1,by have:=hr.bm.2.2;show m.bm.fr<=20001;omega⟩,by show m.ck=m.ck+((0:Nat):Int);omega,hd,z3c hc,⟨hr.time.2.1.1,hr.time.2.1.2,hr.time.2.2.1,hr.time.2.2.2⟩⟩
theorem z4S{m:Mach}{ins:List Inp}(h:m.bm.In):Bt m 0 (cnI m ins):=by
 have e:runBm m.bm ((0:Nat):Int)=m.bm:=z0A _ h
 exact⟨by rw[e];rfl,by rw[e];rfl,by rw[e];rfl⟩
end Go.Proofs.YtkoocfcnfolkhaaGreatDoor
