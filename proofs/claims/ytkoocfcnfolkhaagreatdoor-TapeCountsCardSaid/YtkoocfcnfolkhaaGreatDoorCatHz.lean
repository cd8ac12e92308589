/- The program looks how long nothing happens in a machine. Conditions: the machine lies in a box, its numbers are small, what is pressed lies in memory. -/
import Derived.Test.YtkoocfcnfolkhaaGreatDoorSq
import Derived.Test.YtkoocfcnfolkhaaGreatDoorSh
import Derived.Test.YtkoocfcnfolkhaaGreatDoorP32
import Derived.Test.YtkoocfcnfolkhaaGreatDoorPartW
set_option linter.unusedVariables false
set_option linter.unusedSimpArgs false
set_option maxHeartbeats 4000000
set_option maxRecDepth 100000
namespace Go.Proofs.YtkoocfcnfolkhaaGreatDoor
open Go.RowKit Go.Mq
theorem z4Z(n k:Int)(b:Nat)(w:World)(kb:Blk w b #[.int .i64 k] 3):
  Calls Tryz.prog 67 #[.int .i64 n,.pointer (some ⟨b,0,none⟩)] w fun e w'=>e= .returned (.tuple #[])/\Blk w' b #[.int .i64 (soon n k)] 3/\But b w w':=by
 have KB:=zh kb
 have c0:w.cell? ⟨b,0,none⟩=some (.int .i64 k):=kb.cell 0
 have f0:=kb.free
 have l0:=kb.lt
 clear kb
 obtain⟨s,hs⟩:∃s,s=soon n k:=⟨_,rfl⟩
 rw[<-hs]
 unfold soon at hs
 by_cases h:0<n
 ·rw[if_pos h]at hs
  by_cases h2:k<=n
  ·rw[show min k n=k by omega]at hs
   have HS:=zh hs
   clear hs
   go_enter Tryz.func67,Tryz.ntmps67
   go_wp2
   exact bodyPost_end (results_none rfl _ _ _) rfl ⟨rfl,by rw[HS.out];exact Blk.set KB.out rfl,(But.refl _ _).setCell (p:=⟨b,0,none⟩) rfl _⟩
  ·rw[show min k n=n by omega]at hs
   have HS:=zh hs
   clear hs
   go_enter Tryz.func67,Tryz.ntmps67
   go_wp2
   exact bodyPost_end (results_none rfl _ _ _) rfl ⟨rfl,by rw[HS.out];exact Blk.set KB.out rfl,(But.refl _ _).setCell (p:=⟨b,0,none⟩) rfl _⟩
 ·rw[if_neg h]at hs
  have HS:=zh hs
  clear hs
  go_enter Tryz.func67,Tryz.ntmps67
  go_wp2
  exact bodyPost_end (results_none rfl _ _ _) rfl ⟨rfl,by rw[HS.out];exact KB.out,But.refl _ _⟩
theorem z5p(m:Mach)(hb:m.bm.In)(w:World):
  Calls Tryz.prog 68 #[.agg #[.int .i64 m.bm.ln,.int .i64 m.bm.pt,.bool m.bm.rg,.int .i64 m.bm.fr]] w fun e w'=>(∃k,e= .returned (.tuple #[.int .i64 (hzB m),.int .i64 k]))/\Below w.heap.size w w':=by
 unfold hzB
 by_cases h:0<=m.bm.fr/\m.bm.fr<=20000
 ·rw[if_pos h]
  exact(z7Y m.bm ⟨hb,h.1,h.2⟩ w).mono fun e w' ⟨h1,h2⟩=>⟨⟨0,h1⟩,h2⟩
 ·rw[if_neg h]
  exact(z6M m.bm (fun k=>h ⟨k.2.1,k.2.2⟩) w).mono fun e w' ⟨h1,h2⟩=>⟨⟨3,h1⟩,h2⟩
def vn0:Value->Nat
 | .slice _ n _=>n
 |_=>0
theorem z4k(U:Nat->Value)(X:Bx)(wv:Value)(bb:Nat)(v:Value)(ins:List Inp)(most:Int)(w:World)(kb:Blk w bb (boxC U X wv) 89)(hI:InpsAt w v ins)(hb:X.m.bm.In)
  (c0:0<=X.m.ck)(c1:X.m.ck<=1000000)(r0:0<=X.m.mr)(r1:X.m.mr<=2000000)(a0:0<=X.m.ar)(a1:X.m.ar<=2000000)(hc:∀i∈ins,0<=i.ck/\i.ck<=1000000):
  Calls Tryz.prog 34 #[.pointer (some ⟨bb,0,none⟩),v,.int .i64 most] w fun e w'=>e= .returned (.int .i64 (hz X.m ins most))/\Below w.heap.size w w':=by
 have KB:=zh kb
 obtain⟨K0,hK0⟩:∃K,K=soon (max (X.m.mr-X.m.ck) 1) most:=⟨_,rfl⟩
 obtain⟨K1,hK1⟩:∃K,K=hzA X.m most:=⟨_,rfl⟩
 obtain⟨K2,hK2⟩:∃K,K=hzI X.m.ck ins K1:=⟨_,rfl⟩
 obtain⟨N,hN⟩:∃N,N=hzB X.m:=⟨_,rfl⟩
 have HZ:Hid (hz X.m ins most=soon (if N=0 then 64 else N) K2):=zh (by rw[hN,hK2,hK1];rfl)
 have BN:=zh (fun W=>z5p X.m hb W)
 rw[<-hN]at BN
 obtain⟨ck,hck⟩:∃c,c=X.m.ck:=⟨_,rfl⟩
 obtain⟨mr,hmr⟩:∃c,c=X.m.mr:=⟨_,rfl⟩
 obtain⟨ar,har⟩:∃c,c=X.m.ar:=⟨_,rfl⟩
 obtain⟨hd,hhd⟩:∃c,c=X.m.hd:=⟨_,rfl⟩
 have HA:Hid (K1=if hd then K0 else soon (max (ar-ck) 1) K0):=zh (by rw[hK1,hK0,hhd,har,hck];rfl)
 have H0:Hid (soon (max (mr-ck) 1) most=K0):=zh (by rw[hK0,hmr,hck])
 have HK2:Hid (K2=hzI ck ins K1):=zh (by rw[hK2,hck])
 rw[<-hck]at c0 c1
 rw[<-hmr]at r0 r1
 rw[<-har]at a0 a1
 have W1:IntKind.i64.wrap (mr-ck)=mr-ck:=by rw[wI];exact z0n _ kO kO
 have W2:IntKind.i64.wrap (ar-ck)=ar-ck:=by rw[wI];exact z0n _ kO kO
 obtain⟨M1,hM1⟩:∃M,M=max (mr-ck) 1:=⟨_,rfl⟩
 obtain⟨M2,hM2⟩:∃M,M=max (ar-ck) 1:=⟨_,rfl⟩
 rw[<-hM1]at H0
 rw[<-hM2]at HA
 have MX1:(if mr-ck<1 then 1 else mr-ck)=M1:=by rw[hM1];split<;>omega
 have MX2:(if ar-ck<1 then 1 else ar-ck)=M2:=by rw[hM2];split<;>omega
 clear hM1 hM2
 have m72:Hid (∀W,Blk W bb (boxC U X wv) 89->W.cell? ⟨bb,72,none⟩=some (.int .i64 ck)):=zh (fun W k=>by rw[hck];exact(k.cell 72).trans (bx72 ..))
 have m73:Hid (∀W,Blk W bb (boxC U X wv) 89->W.cell? ⟨bb,73,none⟩=some (.int .i64 mr)):=zh (fun W k=>by rw[hmr];exact(k.cell 73).trans (bx73 ..))
 have m74:Hid (∀W,Blk W bb (boxC U X wv) 89->W.cell? ⟨bb,74,none⟩=some (.int .i64 ar)):=zh (fun W k=>by rw[har];exact(k.cell 74).trans (bx74 ..))
 have m68:Hid (∀W,Blk W bb (boxC U X wv) 89->W.cell? ⟨bb,68,none⟩=some (.bool hd)):=zh (fun W k=>by rw[hhd];exact(k.cell 68).trans (bx68 ..))
 have HV:Hid ((vn0 v=0/\K2=K1)\/∃b off n cap i0,v= .slice (some ⟨b,off,none⟩) (n+1) cap/\n+1<=cap/\b<w.heap.size/\w.cell? ⟨b,off,none⟩=some (.int .i64 i0)/\0<=i0/\i0<=1000000/\K2=soon (i0-ck) K1):=zh (by
  cases ins with
  |nil=>
   obtain⟨a,c,e,-⟩:=hI
   exact .inl ⟨by rw[e];rfl,HK2.out⟩
  |cons i t=>
   obtain⟨b,off,cap,e,n1,-,hl,k0,-,-,-,-⟩:=hI.open'
   have:=hc i (List.mem_cons_self ..)
   exact .inr ⟨b,off,t.length,cap,i.ck,e,n1,hl,k0,this.1,this.2,HK2.out⟩)
 have hmf:∀(fn:Fn) (first cap:Array Value) (w:World),(Instr.makeFunc fn first cap).run Tryz.prog w= .ok (.func fn first cap) w:=fun _ _ _ _=>rfl
 have lb:=kb.lt
 have hv:∃a n c,v= .slice a n c:=by obtain⟨a,c,e,-⟩:=hI;exact⟨a,_,c,e⟩
 clear kb hI hc hK0 hK1 hK2 hN hck hmr har hhd r0 r1 a0 a1
 obtain⟨va,vn,vc,rfl⟩:=hv
 rw[show vn0 (Value.slice va vn vc)=vn from rfl]at HV
 rw[HZ.out]
 obtain⟨R,hR⟩:∃R,R=soon (if N=0 then 64 else N) K2:=⟨_,rfl⟩
 rw[<-hR]
 have HR:=zh hR
 clear HZ hR
 go_enter Tryz.func34,Tryz.ntmps34
 go_wp2_with fail
 refine z0g (R:=fun W=>Below w.heap.size w W/\Hid (Blk W w.heap.size #[.int .i64 most] 3)) ⟨kL,zh kB⟩ ?_
 intro w1 ⟨B1,KI⟩
 have s1:=B1.size
 have KB1:=zh (KB.out.below B1)
 have f72:=m72.out _ KB1.out
 have f73:=m73.out _ KB1.out
 have SO:=zh (fun n k W h=>z4Z n k w.heap.size W h)
 go_wp2_with fail
 refine z0h (fun k W=>(k=4->W.cell? ⟨bb,73,none⟩=some (.int .i64 mr))/\(k=8->W.cell? ⟨bb,72,none⟩=some (.int .i64 ck))) [0,1,2,3,4,5,6,7,8,9,10] kR ?_
 refine tF 0 ⟨nD,nD⟩ ?_
 refine tF 1 ⟨nD,nD⟩ ?_
 refine tF 2 ⟨nD,nD⟩ ?_
 refine tF 3 ⟨nD,nD⟩ ?_
 try simp only[yA,yB,yC,Act.put,yD,yE,yF]
 refine tG 4 rfl (by intro w hF;have hF2:=hF.1 rfl;clear hF;go_simp;try with_reducible rfl) ⟨(fun _=>f73),nD⟩ ?_
 refine tF 5 ⟨nD,nD⟩ ?_
 refine tF 6 ⟨nD,nD⟩ ?_
 refine tF 7 ⟨nD,nD⟩ ?_
 try simp only[yA,yB,yC,Act.put,yD,yE,yF]
 refine tG 8 rfl (by intro w hF;have hF2:=hF.2 rfl;clear hF;go_simp;try with_reducible rfl) ⟨nD,(fun _=>f72)⟩ ?_
 refine tF 9 ⟨nD,nD⟩ ?_
 refine tF 10 ⟨nD,nD⟩ ?_
 refine rF 11 fun K hK=> ?_
 go_simp
 refine(SO.out _ _ _ KI.out.drew).mono ?_
 rintro e w2 ⟨rfl,KI2,BT2⟩
 try go_wp2_with fail
 refine hK.out _ _ (Sat.off [4,8] (fun k w hk=>by simp only[List.mem_cons,List.not_mem_nil,or_false,not_or]at hk;exact⟨(fun e=>absurd e hk.1),(fun e=>absurd e hk.2)⟩) kR _ _) ?_
 clear hK K
 try simp only[yA,yB,yC,Act.put,yD,yE,yF]
 refine z0f kR ?_ _
 rw[H0.out]at KI2
 have B2:=BT2.belowH (B1.drew) (Nat.le_refl _) s1
 have KI2:=zh KI2
 have KB2:=zh (KB.out.below B2)
 clear B1 KI KB1 f72 f73 BT2 MX1
 have f68:=m68.out _ KB2.out
 cases hd
 case' false=>
  have HA:=zh (HA.out.trans (if_neg Bool.false_ne_true))
  go_wp2_with fail
  have f72:=m72.out _ KB2.out
  have f74:=m74.out _ KB2.out
  refine z0h (fun k W=>(k=4->W.cell? ⟨bb,74,none⟩=some (.int .i64 ar))/\(k=8->W.cell? ⟨bb,72,none⟩=some (.int .i64 ck))) [0,1,2,3,4,5,6,7,8,9,10] kR ?_
  refine tF 0 ⟨nD,nD⟩ ?_
  refine tF 1 ⟨nD,nD⟩ ?_
  refine tF 2 ⟨nD,nD⟩ ?_
  refine tF 3 ⟨nD,nD⟩ ?_
  try simp only[yA,yB,yC,Act.put,yD,yE,yF]
  refine tG 4 rfl (by intro w hF;have hF2:=hF.1 rfl;clear hF;go_simp;try with_reducible rfl) ⟨(fun _=>f74),nD⟩ ?_
  refine tF 5 ⟨nD,nD⟩ ?_
  refine tF 6 ⟨nD,nD⟩ ?_
  refine tF 7 ⟨nD,nD⟩ ?_
  try simp only[yA,yB,yC,Act.put,yD,yE,yF]
  refine tG 8 rfl (by intro w hF;have hF2:=hF.2 rfl;clear hF;go_simp;try with_reducible rfl) ⟨nD,(fun _=>f72)⟩ ?_
  refine tF 9 ⟨nD,nD⟩ ?_
  refine tF 10 ⟨nD,nD⟩ ?_
  refine rF 11 fun K hK=> ?_
  go_simp
  refine(SO.out _ _ _ KI2.out.drew).mono ?_
  rintro e w3 ⟨rfl,KI3,BT3⟩
  try go_wp2_with fail
  refine hK.out _ _ (Sat.off [4,8] (fun k w hk=>by simp only[List.mem_cons,List.not_mem_nil,or_false,not_or]at hk;exact⟨(fun e=>absurd e hk.1),(fun e=>absurd e hk.2)⟩) kR _ _) ?_
  clear hK K
  try simp only[yA,yB,yC,Act.put,yD,yE,yF]
  refine z0f kR ?_ _
  rw[<-HA.out]at KI3
  go_upto_region 5 with(fail)
  refine z0g (R:=fun W=>Below w.heap.size w W/\Hid (Blk W w.heap.size #[.int .i64 K1] 3)) ⟨BT3.belowH (B2.drew) (Nat.le_refl _) B2.size,zh KI3⟩ ?_
  clear B2 KI2 KB2 f68 f72 f74 BT3 KI3
  intro w4 ⟨B4,KI4⟩
 case' true=>
  have HA:=zh (HA.out.trans (if_pos rfl))
  rw[<-HA.out]at KI2
  go_upto_region 5 with(fail)
  refine z0g (R:=fun W=>Below w.heap.size w W/\Hid (Blk W w.heap.size #[.int .i64 K1] 3)) ⟨kL,KI2⟩ ?_
  clear B2 KI2 KB2 f68
  intro w4 ⟨B4,KI4⟩
 all_goals
  rcases HV.out with⟨rfl,hk⟩|⟨b,off,n,cap,i0,hv,n1,hl,k0,i1,i2,hk⟩
 case' true.inl|false.inl=>
  rw[<-hk]at KI4
  clear hk
  go_upto_region 7 with(fail)
  refine z0g (R:=fun W=>Below w.heap.size w W/\Hid (Blk W w.heap.size #[.int .i64 K2] 3)) ⟨kL,KI4⟩ ?_
  clear B4 KI4
  intro w6 ⟨B6,KI6⟩
 case' true.inr|false.inr=>
  replace hk:=zh hk
  injection hv with e1 e2 e3
  subst e1 e2 e3
  have s4:=B4.size
  have KB4:=zh (KB.out.below B4)
  have f72:=m72.out _ KB4.out
  have fk:=(B4.cell (p:=⟨b,off,none⟩) hl).trans k0
  have tn:(0:Int)<((n+1:Nat):Int):=by omega
  have W3:IntKind.i64.wrap (i0-ck)=i0-ck:=by rw[wI];exact z0n _ kO kO
  have hbl:b<w4.heap.size:=by omega
  go_wp2_with fail
  refine z0h (fun k W=>(k=4->W.cell? ⟨b,off,none⟩=some (.int .i64 i0))/\(k=8->W.cell? ⟨bb,72,none⟩=some (.int .i64 ck))) [0,1,2,3,4,5,6,7,8,9] kR ?_
  refine tF 0 ⟨nD,nD⟩ ?_
  refine tF 1 ⟨nD,nD⟩ ?_
  refine tF 2 ⟨nD,nD⟩ ?_
  refine tF 3 ⟨nD,nD⟩ ?_
  try simp only[yA,yB,yC,Act.put,yD,yE,yF]
  refine tG 4 rfl (by intro w hF;have hF2:=hF.1 rfl;clear hF;go_simp;try with_reducible rfl) ⟨(fun _=>fk),nD⟩ ?_
  refine tF 5 ⟨nD,nD⟩ ?_
  refine tF 6 ⟨nD,nD⟩ ?_
  refine tF 7 ⟨nD,nD⟩ ?_
  try simp only[yA,yB,yC,Act.put,yD,yE,yF]
  refine tG 8 rfl (by intro w hF;have hF2:=hF.2 rfl;clear hF;go_simp;try with_reducible rfl) ⟨nD,(fun _=>f72)⟩ ?_
  refine tF 9 ⟨nD,nD⟩ ?_
  refine rF 10 fun K hK=> ?_
  go_simp
  refine(SO.out _ _ _ KI4.out.drew).mono ?_
  rintro e w5 ⟨rfl,KI5,BT5⟩
  try go_wp2_with fail
  refine hK.out _ _ (Sat.off [4,8] (fun k w hk=>by simp only[List.mem_cons,List.not_mem_nil,or_false,not_or]at hk;exact⟨(fun e=>absurd e hk.1),(fun e=>absurd e hk.2)⟩) kR _ _) ?_
  clear hK K
  try simp only[yA,yB,yC,Act.put,yD,yE,yF]
  refine z0f kR ?_ _
  rw[<-hk.out]at KI5
  go_upto_region 7 with(fail)
  refine z0g (R:=fun W=>Below w.heap.size w W/\Hid (Blk W w.heap.size #[.int .i64 K2] 3)) ⟨BT5.belowH (B4.drew) (Nat.le_refl _) B4.size,zh KI5⟩ ?_
  clear B4 KI4 KB4 f72 fk BT5 KI5 s4 hbl
  intro w6 ⟨B6,KI6⟩
 all_goals
  have KB6:=zh (KB.out.below B6)
  have s6:=B6.size
  have fb6:=KB6.out.free
  have lb6:=KB6.out.lt
  go_wp2_with (first|((with_reducible show wpList _ _ _ _ _ _);refine lA 39 57 rfl rfl (bb) (61) 4 rfl 89 (boxC U X wv) #[.int .i64 X.m.bm.ln,.int .i64 X.m.bm.pt,.bool X.m.bm.rg,.int .i64 X.m.bm.fr] kB Tryz.underlying39 ?_))
  refine(BN.out _).mono ?_
  rintro e w7 ⟨⟨er,rfl⟩,hb7⟩
  have B7:=below_then B6 hb7
  have KI7:=zh (KI6.out.below hb7)
  clear B6 KI6 KB6 fb6 lb6 s6 hb7
  by_cases hN:N=0
  ·have ER:=HR.out
   rw[if_pos hN]at ER
   replace ER:=zh ER
   subst hN
   go_wp2_with (first|((with_reducible show wpList _ _ _ _ _ _);refine lA 39 57 rfl rfl (bb) (61) 4 rfl 89 (boxC U X wv) #[.int .i64 X.m.bm.ln,.int .i64 X.m.bm.pt,.bool X.m.bm.rg,.int .i64 X.m.bm.fr] kB Tryz.underlying39 ?_))
   refine(SO.out _ _ _ KI7.out).mono ?_
   rintro e w8 ⟨rfl,KI8,BT8⟩
   rw[<-ER.out]at KI8
   have g0:w8.cell? ⟨w.heap.size,0,none⟩=some (.int .i64 R):=KI8.cell 0
   have B8:=BT8.belowH B7 (Nat.le_refl _) B7.size
   clear KI8 BT8 B7 KI7
   go_wp2_with (first|((with_reducible show wpList _ _ _ _ _ _);refine lA 39 57 rfl rfl (bb) (61) 4 rfl 89 (boxC U X wv) #[.int .i64 X.m.bm.ln,.int .i64 X.m.bm.pt,.bool X.m.bm.rg,.int .i64 X.m.bm.fr] kB Tryz.underlying39 ?_)|go_in)
   go_ret
   exact⟨rfl,kL⟩
  ·have ER:=HR.out
   rw[if_neg hN]at ER
   replace ER:=zh ER
   go_wp2_with (first|((with_reducible show wpList _ _ _ _ _ _);refine lA 39 57 rfl rfl (bb) (61) 4 rfl 89 (boxC U X wv) #[.int .i64 X.m.bm.ln,.int .i64 X.m.bm.pt,.bool X.m.bm.rg,.int .i64 X.m.bm.fr] kB Tryz.underlying39 ?_))
   refine(SO.out _ _ _ KI7.out).mono ?_
   rintro e w8 ⟨rfl,KI8,BT8⟩
   rw[<-ER.out]at KI8
   have g0:w8.cell? ⟨w.heap.size,0,none⟩=some (.int .i64 R):=KI8.cell 0
   have B8:=BT8.belowH B7 (Nat.le_refl _) B7.size
   clear KI8 BT8 B7 KI7
   go_wp2_with (first|((with_reducible show wpList _ _ _ _ _ _);refine lA 39 57 rfl rfl (bb) (61) 4 rfl 89 (boxC U X wv) #[.int .i64 X.m.bm.ln,.int .i64 X.m.bm.pt,.bool X.m.bm.rg,.int .i64 X.m.bm.fr] kB Tryz.underlying39 ?_)|go_in)
   go_ret
   exact⟨rfl,kL⟩
end Go.Proofs.YtkoocfcnfolkhaaGreatDoor
