/- The program presses what is pressed at a clock. Conditions: the machine lies in a box, what is pressed in old memory, each at one of two pads. -/
import Derived.Test.YtkoocfcnfolkhaaGreatDoorSq
import Derived.Test.YtkoocfcnfolkhaaGreatDoorSh
import Derived.Test.YtkoocfcnfolkhaaGreatDoorP29
import Derived.Test.YtkoocfcnfolkhaaGreatDoorTurnDo
import Derived.LoopTactic
import Derived.Test.YtkoocfcnfolkhaaGreatDoorRegF
import Derived.Test.YtkoocfcnfolkhaaGreatDoorP20
set_option linter.unusedVariables false
set_option linter.unusedSimpArgs false
set_option maxHeartbeats 8000000
set_option maxRecDepth 100000
namespace Go.Proofs.YtkoocfcnfolkhaaGreatDoor
open Go.RowKit Go.Mq
theorem _root_.Go.Mq.InpsAt.open'{w:World}{v:Value}{i:Inp}{t:List Inp}(h:InpsAt w v (i::t)):∃b off cap,v= .slice (some ⟨b,off,none⟩) (t.length+1) cap/\t.length+1<=cap/\cap<=maxLen/\b<w.heap.size/\
  w.cell? ⟨b,off,none⟩=some (.int .i64 i.ck)/\w.cell? ⟨b,off+1,none⟩=some (.int .i64 i.pd)/\w.cell? ⟨b,off+2,none⟩=some (.int .u8 i.dn)/\i.Ok/\
  ∀a',(0<t.length->a'=some ⟨b,off+3,none⟩)->InpsAt w (.slice a' t.length (cap-1)) t:=by
 obtain⟨a,cap,h1,h2,h3,h4,h5⟩:=h
 obtain⟨b,off,rfl,hl,hc⟩:=h5 kS
 have c0:=hc 0 kS
 simp only[Nat.zero_mul,Nat.add_zero]at c0
 rw[List.length_cons]at h1 h2
 refine⟨b,off,cap,h1,h2,h3,hl,c0.1,c0.2.1,c0.2.2,h4 i (List.mem_cons_self ..),fun a' ha=>⟨a',cap-1,rfl,by omega,by omega,fun x hx=>h4 x (List.mem_cons_of_mem _ hx),fun h0=>⟨b,off+3,ha h0,hl,fun j hj=> ?_⟩⟩⟩
 have:=hc (j+1) (by simpa using hj)
 rw[show off+(j+1)*3=off+3+j*3 by omega]at this
 exact this
def slLen:Value->Nat
 | .slice _ n _=>n
 |_=>0
theorem z4W{w0:World}{V:Nat->Value}{bb B H:Nat}(L:LiesX V bb B H)(w:World)(x:Bx)(v:Value)(ins:List Inp)(hH:w0.heap.size=H)(hI:InpsAt w0 v ins)(hp:∀i∈ins,i.pd=0\/i.pd=1)
  (h:RelX 89 w0 V bb H w x)(hB:B<=w.heap.size):
  Calls Tryz.prog 30 #[.pointer (some ⟨bb,0,none⟩),v] w fun e w'=>∃v',e= .returned v'/\InpsAt w0 v' (pressR x.m.ck ins)/\RelX 89 w0 V bb H w' (x.setM (pressA x.m ins))/\Kp B NoX w w':=by
 have L1:=L.lo
 have L2:=L.hi
 have LL:=zh L
 obtain⟨R,hR⟩:∃R,R=pressR x.m.ck ins:=⟨_,rfl⟩
 obtain⟨M,hM⟩:∃M,M=pressA x.m ins:=⟨_,rfl⟩
 rw[<-hR,<-hM]
 have HS:Hid (∃rest m',InpsAt w0 v rest/\(∀i∈rest,i.pd=0\/i.pd=1)/\R=pressR m'.ck rest/\M=pressA m' rest/\RelX 89 w0 V bb H w (x.setM m')):=zh ⟨ins,x.m,hI,hp,hR,hM,h⟩
 have HV:∃a n c,v= .slice a n c:=by obtain⟨a,c,e,-⟩:=hI;exact⟨a,_,c,e⟩
 obtain⟨va,vn,vc,rfl⟩:=HV
 clear hI hp hR hM h
 go_enter Tryz.func30,Tryz.ntmps30
 go_wp2
 go_loopw [1] (fun u wr=>∃(rest:List Inp) (m':Mach),InpsAt w0 u rest/\Hid (∀i∈rest,i.pd=0\/i.pd=1)/\Hid (R=pressR m'.ck rest)/\Hid (M=pressA m' rest)/\Hid (RelX 89 w0 V bb H wr (x.setM m'))/\Hid (Kp B NoX w wr)) (fun u _=>slLen u)
 case atStart=>
  obtain⟨rest,m',q1,q2,q3,q4,q5⟩:=HS.out
  exact⟨rest,m',q1,zh q2,zh q3,zh q4,zh q5,zh (Kp.refl _ _ _)⟩
 case round=>
  obtain⟨rest,m',q1,q2,q3,q4,q5,q6⟩:=hrel
  clear HS
  have sz:=q6.out.size
  obtain⟨-,⟨wv,hbx,-⟩,-,-,-⟩:=q5.out
  have KB:=zh hbx
  have lb:=hbx.lt
  have fb:=hbx.free
  have c72:wr.cell? ⟨bb,72,none⟩=some (.int .i64 m'.ck):=(hbx.cell 72).trans (bx72 ..)
  clear hbx
  cases rest with
  |nil=>
   have OI:=zh (show InpsAt w0 _ R from by rw[q3.out];exact q1)
   obtain⟨a,cap,rfl,-⟩:=q1
   have OR:Hid (RelX 89 w0 V bb H wr (x.setM M)):=zh (by rw[q4.out];exact q5.out)
   simp only[List.length_nil]at OI⊢
   clear q2 q3 q4 q5 KB
   go_wp2_with fail
   go_quiet (fail)
   go_wp2
   go_ret
   exact⟨_,rfl,OI.out,OR.out.stable LL.out (by repeat'(with_reducible first|exact St.refl _ _|refine St.drew ?_|refine St.drewN ?_ _)),(by repeat'(with_reducible first|exact q6.out|refine Kp.drew ?_|refine Kp.drewN ?_ _))⟩
  |cons i t=>
   obtain⟨b,off,cap,rfl,n1,n2,hbl,k0,k1,k2,iok,HT⟩:=q1.open'
   have hbw:b<wr.heap.size:=by have:=q5.out.old.size;omega
   have OI1:=zh q1
   have hne:b≠bb:=by omega
   have ob:∀o,wr.cell? ⟨b,o,none⟩=w0.cell? ⟨b,o,none⟩:=fun o=>q5.out.old.cell (p:=⟨b,o,none⟩) (by show b<H;omega)
   have d0:=(ob off).trans k0
   have d1:=(ob (off+1)).trans k1
   have d2:=(ob (off+2)).trans k2
   have HTT:=zh HT
   have tn:(0:Int)<((t.length+1:Nat):Int):=by omega
   have I1:=zh iok
   have K2:=zh k2
   obtain⟨p,hp⟩:∃p,p=i.pd:=⟨_,rfl⟩
   have hp01:=q2.out i (List.mem_cons_self ..)
   have Q2:=zh (fun j hj=>q2.out j (List.mem_cons_of_mem _ hj))
   by_cases hc:i.ck<=m'.ck
   ·have tc:decide (i.ck<=m'.ck)=true:=decide_eq_true hc
    have E3:Hid (R=pressR m'.ck t):=zh (by rw[q3.out];show pressR m'.ck (i::t)=_;rw[pressR,if_pos hc])
    have E4:Hid (M=pressA (pressM m' i) t):=zh (by rw[q4.out];show pressA m' (i::t)=_;rw[pressA,if_pos hc])
    have kp:=zh (z3N m' i)
    have PI:=zh (z3C q5.out.inn iok.2.2)
    clear ob k0 k1 k2 iok HT q1 q2 q3 q4 hp hc
    obtain⟨ck,eck⟩:∃c,c=i.ck:=⟨_,rfl⟩
    obtain⟨dn,edn⟩:∃c,c=i.dn:=⟨_,rfl⟩
    rw[<-eck]at d0 tc
    rw[<-edn]at d2 K2
    replace edn:=zh edn
    clear eck
    rcases hp01 with h0|h1
    ·rw[h0]at d1
     have PA:=zh (fun W=>z1V m'.p0 q5.out.inn.p0 dn W)
     go_wp2_with fail
     go_quiet (fail)
     go_wp2_with fail
     go_quiet (fail)
     go_wp2_with fail
     refine z0g (R:=fun W=>Hid (RelX 89 w0 V bb H W (x.setM m'))/\Hid (Kp B NoX w W)) ⟨zh (q5.out.stable LL.out (by repeat'(with_reducible first|exact St.refl _ _|refine St.drew ?_|refine St.drewN ?_ _))),zh (by repeat'(with_reducible first|exact q6.out|refine Kp.drew ?_|refine Kp.drewN ?_ _))⟩ ?_
     intro w3 ⟨R3,P3⟩
     have B3:=R3.out.old
     have f2:w3.cell? ⟨b,off+2,none⟩=some (.int .u8 dn):=(B3.cell (p:=⟨b,off+2,none⟩) (by show b<H;omega)).trans K2.out
     obtain⟨-,⟨wv3,hbx3,-⟩,-,-,-⟩:=R3.out
     have KB3:=zh hbx3
     have EP:Hid (pressM m' i=((x.setM m').wP0 (pressP m'.p0 dn)).m):=zh (by unfold pressM;rw[if_pos h0,<-edn.out];rfl)
     clear hbx3 KB c72 fb d0 d1 d2
     refine z0h (fun k W=>(k=3->Blk W bb (boxC V (x.setM m') wv3) 89)/\(k=7->W.cell? ⟨b,off+2,none⟩=some (.int .u8 dn))) [0,1,2,3,4,5,6,7,9] kR ?_
     refine tF 0 ⟨nD,nD⟩ ?_
     refine tF 1 ⟨nD,nD⟩ ?_
     refine tF 2 ⟨nD,nD⟩ ?_
     refine z0c (i:=3) rfl kR kR kR kR (fun _ _ _ h=>h) (z0d (by rfl) 29 (.tmp 30) rfl (bb) 35 3 rfl 89 (boxC V (x.setM m') wv3) (#[.int .u8 m'.p0.dn,.bool m'.p0.la,.int .u8 m'.p0.sh]) (fun W hF=>hF.1 rfl) _ Tryz.underlying29 rfl kR rfl rfl) ⟨(fun _=>KB3.out.drew),nD⟩ ?_
     try simp only[yA,yB,yC,Act.put,yD,yE,yF]
     refine tF 4 ⟨nD,nD⟩ ?_
     refine tF 5 ⟨nD,nD⟩ ?_
     refine tF 6 ⟨nD,nD⟩ ?_
     refine tG 7 rfl (by intro w hF;have hF2:=hF.2 rfl;clear hF;go_simp;try with_reducible rfl) ⟨nD,(fun _=>f2)⟩ ?_
     try simp only[yA,yB,yC,Act.put,yD,yE,yF]
     refine rF 8 fun K hK=> ?_
     go_simp
     refine(PA.out _).mono ?_
     rintro e w4 ⟨rfl,hb4⟩
     try go_wp2_with fail
     refine hK.out _ _ (Sat.all kR (fun k=>⟨(fun _=>(KB3.out.drew.below hb4)),(fun _=>((hb4.cell (p:=⟨b,_,none⟩) (by show b<w3.heap.size;have:=R3.out.old.size;omega)).trans f2))⟩)) ?_
     clear hK K
     try simp only[yA,yB,yC,Act.put,yD,yE,yF]
     refine tF 9 ⟨nD,nD⟩ ?_
     have KB4:=zh (KB3.out.drew.below hb4)
     refine rF 10 fun K hK=> ?_
     rw[if_pos (by rfl)]
     refine z0K 29 (.tmp 37) (.tmp 36) rfl bb 35 #[.int .u8 (pressP m'.p0 dn).dn,.bool (pressP m'.p0 dn).la,.int .u8 (pressP m'.p0 dn).sh] rfl rfl 89 (boxC V (x.setM m') wv3) (boxC V ((x.setM m').wP0 (pressP m'.p0 dn)) wv3) KB4.out kR kS (by simp[Value.oneCell']) rfl ?_
     intro w5 hp5 K5
     refine hK.out _ _ (Sat.off [3,7] (fun k w hk=>by simp only[List.mem_cons,List.not_mem_nil,or_false,not_or]at hk;exact⟨(fun e=>absurd e hk.1),(fun e=>absurd e hk.2)⟩) kR _ _) ?_
     clear hK K
     try simp only[yA,yB,yC,Act.put,yD,yE,yF]
     refine z0f kR ?_ _
     have R5:Hid (RelX 89 w0 V bb H w5 (x.setM (pressM m' i))):=zh (by rw[EP.out];exact R3.out.turn LL.out KB3.out (((But.refl bb w3).drew.thenb hb4).put hp5) kD K5.out rfl rfl (by rw[<-EP.out];exact PI.out))
     have P5:Hid (Kp B NoX w w5):=zh (P3.out.trans ((((But.refl bb w3).drew.thenb hb4).put hp5).kp L2))
     clear KB3 KB4 K5 hp5 hb4 f2
     go_wp2
     go_roundw
     case rel=>exact⟨t,pressM m' i,HTT.out _ (fun hp=>if_neg kO),Q2,zh (by rw[kp.out.ck];exact E3.out),E4,R5,P5⟩
     case measure=>simp[slLen]
    ·rw[h1]at d1
     have PA:=zh (fun W=>z1V m'.p1 q5.out.inn.p1 dn W)
     go_wp2_with fail
     go_quiet (fail)
     go_wp2_with fail
     go_quiet (fail)
     go_wp2_with fail
     refine z0g (R:=fun W=>Hid (RelX 89 w0 V bb H W (x.setM m'))/\Hid (Kp B NoX w W)) ⟨zh (q5.out.stable LL.out (by repeat'(with_reducible first|exact St.refl _ _|refine St.drew ?_|refine St.drewN ?_ _))),zh (by repeat'(with_reducible first|exact q6.out|refine Kp.drew ?_|refine Kp.drewN ?_ _))⟩ ?_
     intro w3 ⟨R3,P3⟩
     have B3:=R3.out.old
     have f2:w3.cell? ⟨b,off+2,none⟩=some (.int .u8 dn):=(B3.cell (p:=⟨b,off+2,none⟩) (by show b<H;omega)).trans K2.out
     obtain⟨-,⟨wv3,hbx3,-⟩,-,-,-⟩:=R3.out
     have KB3:=zh hbx3
     have EP:Hid (pressM m' i=((x.setM m').wP1 (pressP m'.p1 dn)).m):=zh (by unfold pressM;rw[if_neg kO,<-edn.out];rfl)
     clear hbx3 KB c72 fb d0 d1 d2
     refine z0h (fun k W=>(k=3->Blk W bb (boxC V (x.setM m') wv3) 89)/\(k=7->W.cell? ⟨b,off+2,none⟩=some (.int .u8 dn))) [0,1,2,3,4,5,6,7,9] kR ?_
     refine tF 0 ⟨nD,nD⟩ ?_
     refine tF 1 ⟨nD,nD⟩ ?_
     refine tF 2 ⟨nD,nD⟩ ?_
     refine z0c (i:=3) rfl kR kR kR kR (fun _ _ _ h=>h) (z0d (by rfl) 29 (.tmp 30) rfl (bb) 38 3 rfl 89 (boxC V (x.setM m') wv3) (#[.int .u8 m'.p1.dn,.bool m'.p1.la,.int .u8 m'.p1.sh]) (fun W hF=>hF.1 rfl) _ Tryz.underlying29 rfl kR rfl rfl) ⟨(fun _=>KB3.out.drew),nD⟩ ?_
     try simp only[yA,yB,yC,Act.put,yD,yE,yF]
     refine tF 4 ⟨nD,nD⟩ ?_
     refine tF 5 ⟨nD,nD⟩ ?_
     refine tF 6 ⟨nD,nD⟩ ?_
     refine tG 7 rfl (by intro w hF;have hF2:=hF.2 rfl;clear hF;go_simp;try with_reducible rfl) ⟨nD,(fun _=>f2)⟩ ?_
     try simp only[yA,yB,yC,Act.put,yD,yE,yF]
     refine rF 8 fun K hK=> ?_
     go_simp
     refine(PA.out _).mono ?_
     rintro e w4 ⟨rfl,hb4⟩
     try go_wp2_with fail
     refine hK.out _ _ (Sat.all kR (fun k=>⟨(fun _=>(KB3.out.drew.below hb4)),(fun _=>((hb4.cell (p:=⟨b,_,none⟩) (by show b<w3.heap.size;have:=R3.out.old.size;omega)).trans f2))⟩)) ?_
     clear hK K
     try simp only[yA,yB,yC,Act.put,yD,yE,yF]
     refine tF 9 ⟨nD,nD⟩ ?_
     have KB4:=zh (KB3.out.drew.below hb4)
     refine rF 10 fun K hK=> ?_
     rw[if_pos (by rfl)]
     refine z0K 29 (.tmp 37) (.tmp 36) rfl bb 38 #[.int .u8 (pressP m'.p1 dn).dn,.bool (pressP m'.p1 dn).la,.int .u8 (pressP m'.p1 dn).sh] rfl rfl 89 (boxC V (x.setM m') wv3) (boxC V ((x.setM m').wP1 (pressP m'.p1 dn)) wv3) KB4.out kR kS (by simp[Value.oneCell']) rfl ?_
     intro w5 hp5 K5
     refine hK.out _ _ (Sat.off [3,7] (fun k w hk=>by simp only[List.mem_cons,List.not_mem_nil,or_false,not_or]at hk;exact⟨(fun e=>absurd e hk.1),(fun e=>absurd e hk.2)⟩) kR _ _) ?_
     clear hK K
     try simp only[yA,yB,yC,Act.put,yD,yE,yF]
     refine z0f kR ?_ _
     have R5:Hid (RelX 89 w0 V bb H w5 (x.setM (pressM m' i))):=zh (by rw[EP.out];exact R3.out.turn LL.out KB3.out (((But.refl bb w3).drew.thenb hb4).put hp5) kD K5.out rfl rfl (by rw[<-EP.out];exact PI.out))
     have P5:Hid (Kp B NoX w w5):=zh (P3.out.trans ((((But.refl bb w3).drew.thenb hb4).put hp5).kp L2))
     clear KB3 KB4 K5 hp5 hb4 f2
     go_wp2
     go_roundw
     case rel=>exact⟨t,pressM m' i,HTT.out _ (fun hp=>if_neg kO),Q2,zh (by rw[kp.out.ck];exact E3.out),E4,R5,P5⟩
     case measure=>simp[slLen]
   ·have tc:decide (i.ck<=m'.ck)=false:=decide_eq_false hc
    have E3:Hid (R=i::t):=zh (by rw[q3.out];show pressR m'.ck (i::t)=_;rw[pressR,if_neg hc])
    have E4:Hid (M=m'):=zh (by rw[q4.out];show pressA m' (i::t)=_;rw[pressA,if_neg hc])
    clear ob k0 k1 k2 iok HT q1 q2 q3 q4 hp hc d1 d2
    obtain⟨ck,eck⟩:∃c,c=i.ck:=⟨_,rfl⟩
    rw[<-eck]at d0 tc
    clear eck
    go_wp2_with fail
    go_quiet (fail)
    go_wp2
    go_ret
    exact⟨_,rfl,by rw[E3.out];exact OI1.out,by rw[E4.out];exact q5.out.stable LL.out (by repeat'(with_reducible first|exact St.refl _ _|refine St.drew ?_|refine St.drewN ?_ _)),(by repeat'(with_reducible first|exact q6.out|refine Kp.drew ?_|refine Kp.drewN ?_ _))⟩
end Go.Proofs.YtkoocfcnfolkhaaGreatDoor
namespace Go.Mq
open Go Go.RowKit
theorem z5l(X:Array Value)(s:Nat)(hs:s=18)(h:X.size=18)(z:Value):
  Instr.fill (fun i=>some (i*s,s)) ((Array.range (1*s)).map (z.cells[·%z.cells.size]!)) ([((0:Nat),Value.agg X)]:List (Nat×Value))=some X:=by
 subst hs
 have:=Great.fill_whole (s:=18) kO [Value.agg X] ((Array.range (1*18)).map (z.cells[·%z.cells.size]!)) (fun v hv=>by rw[List.mem_singleton]at hv;subst hv;exact h) kS
 simpa [Value.cells]using this
theorem z8l(xs:List Int)(hx:∀x∈xs,U8 x)(x d b:Int)(hb:U8 b):∀l:List Sp,U8 (pixL xs x b d l)
 |[]=>hb
 |s::r=>by
  have ih:=z8l xs hx x d b hb r
  unfold pixL
  repeat' split
  all_goals first
   |exact ih
   |exact bt_in xs hx _
   |exact hb
theorem lnL_u(xs:List Int)(hx:∀x∈xs,U8 x)(y:Int)(k:Nat):∀q∈lnL xs y k,U8 q:=fun q hq=>by
 unfold lnL at hq
 obtain⟨j,-,rfl⟩:=List.mem_map.1 hq
 split
 ·exact z8l xs hx _ _ _ (bt_in xs hx _) _
 ·unfold U8;omega
end Go.Mq
namespace Go.Proofs.YtkoocfcnfolkhaaGreatDoor
open Go.RowKit Go.Mq
theorem Blk.one_ty{w:World}{b:Nat}{cs cs':Array Value}{t t':TypeId}(h:Blk w b cs t)(k:Blk w b cs' t'):t=t':=by
 unfold Blk at h k
 rw[h]at k
 injection k with k
 injection k
theorem z0aA:(Tryz.prog.info? 67).map (fun i=>(i.zero,i.size,i.bytes))=some (some (.agg #[.int .i64 0,.int .i64 0,.int .u8 0,.int .u8 0,.int .u8 0,.int .u8 0,.int .u8 0,.int .u8 0,.int .u8 0,.int .u8 0,.int .u8 0,.int .u8 0,.int .u8 0,.int .u8 0,.int .u8 0,.int .u8 0,.int .u8 0,.int .u8 0]),18,32):=by kernel_rfl
theorem z5B{w0:World}{V:Nat->Value}{bb B H:Nat}(L:LiesX V bb B H)(w:World)(x:Bx)(ob:Nat)(ls:List Ln)(ss:List Int)(hbm:x.m.bm.In)(h:RelX 89 w0 V bb H w x)(ho:OutAt w B ob ls ss)(hl:ls.length<=100000)(hB:B<=w.heap.size):
  Calls Tryz.prog 31 #[.pointer (some ⟨bb,0,none⟩),.pointer (some ⟨ob,0,none⟩)] w fun e w'=>e= .returned (.tuple #[])/\RelX 89 w0 V bb H w' x/\OutAt w' B ob (ls++drawO x.m) ss/\w.heap.size<=w'.heap.size:=by
 have L1:=L.lo
 have L2:=L.hi
 have LL:=zh L
 have RX:=zh h
 have OO:=zh ho
 obtain⟨-,⟨wv,hbx,-⟩,-,-,-⟩:=h
 have KB:=zh hbx
 have lb:=hbx.lt
 have fb:=hbx.free
 obtain⟨ln,eln⟩:∃n,n=x.m.bm.ln:=⟨_,rfl⟩
 obtain⟨pt,ept⟩:∃n,n=x.m.bm.pt:=⟨_,rfl⟩
 obtain⟨fr,efr⟩:∃n,n=x.m.bm.fr:=⟨_,rfl⟩
 have c61:w.cell? ⟨bb,61,none⟩=some (.int .i64 ln):=(hbx.cell 61).trans (by rw[eln];exact bx61 ..)
 have c62:w.cell? ⟨bb,62,none⟩=some (.int .i64 pt):=(hbx.cell 62).trans (by rw[ept];exact bx62 ..)
 have l0:0<=ln:=by rw[eln];exact hbm.1
 have ED:Hid (drawO x.m=if pt=0/\ln<8 then [⟨fr,ln,lnL (x.m.mem 4) ln 16⟩]else []):=zh (by rw[eln,ept,efr];rfl)
 have q61:∀u,(boxC V x u)[61]? =some (.int .i64 ln):=fun u=>by rw[eln];exact bx61 ..
 have q64:∀u,(boxC V x u)[64]? =some (.int .i64 fr):=fun u=>by rw[efr];exact bx64 ..
 have FI:Hid (I64 fr):=zh (by rw[efr];exact RX.out.inn.fr)
 clear hbx eln ept efr hbm ho
 go_enter Tryz.func31,Tryz.ntmps31
 by_cases h1:pt=0
 ·have t1:(pt==0)=true:=beq_iff_eq.2 h1
  by_cases h2:ln<8
  ·have t2:decide (ln<8)=true:=decide_eq_true h2
   have EE:Hid (drawO x.m=[⟨fr,ln,lnL (x.m.mem 4) ln 16⟩]):=zh (by rw[ED.out,if_pos ⟨h1,h2⟩])
   have PL:=zh (fun W (hr:RelX 89 w0 V bb H W x)=>z5U (x.m.mem 4) (V 4) ln W ⟨hr.mv 4 kO,hr.fit.l4,hr.inn.mem 4⟩ l0 kO)
   obtain⟨p0,p1,p2,p3,p4,p5,p6,p7,p8,p9,pa,pb,pc,pd,pe,pf,hpx⟩:=row_16 (l:=lnL (x.m.mem 4) ln 16) (by simp[lnL])
   have hU:∀q∈lnL (x.m.mem 4) ln 16,U8 q:=lnL_u _ (RX.out.inn.mem 4) ln 16
   have hC:lnC (x.m.mem 4) ln 16= #[.int .u8 p0,.int .u8 p1,.int .u8 p2,.int .u8 p3,.int .u8 p4,.int .u8 p5,.int .u8 p6,.int .u8 p7,.int .u8 p8,.int .u8 p9,.int .u8 pa,.int .u8 pb,.int .u8 pc,.int .u8 pd,.int .u8 pe,.int .u8 pf]:=by unfold lnC;rw[hpx];rfl
   rw[hC]at PL
   rw[hpx]at EE hU
   have HU:=zh hU
   clear ED hC hpx hU
   go_wp2_with fail
   refine z0g (R:=fun W=>Hid (RelX 89 w0 V bb H W x)/\Hid (OutAt W B ob ls ss)/\w.heap.size<=W.heap.size) ⟨zh (RX.out.stable LL.out (by repeat'(with_reducible first|exact St.refl _ _|refine St.drew ?_|refine St.drewN ?_ _))),zh (OO.out.kp (by repeat'(with_reducible first|exact Kp.refl _ _ _|refine Kp.drew ?_|refine Kp.drewN ?_ _))),by simp⟩ ?_
   intro w3 ⟨R3,O3,s3⟩
   obtain⟨-,⟨wv3,hbx3,-⟩,-,-,-⟩:=R3.out
   have KB3:=zh hbx3
   clear hbx3 KB c61 c62 fb t1 t2
   apply gcutP (fun g W=>w3.heap.size<=g/\Below w3.heap.size w3 W/\Hid (Blk W g #[.int .u8 p0,.int .u8 p1,.int .u8 p2,.int .u8 p3,.int .u8 p4,.int .u8 p5,.int .u8 p6,.int .u8 p7,.int .u8 p8,.int .u8 p9,.int .u8 pa,.int .u8 pb,.int .u8 pc,.int .u8 pd,.int .u8 pe,.int .u8 pf] 65))
   ·intro hk
    refine z0h (fun k W=>(k=3->W.cell? ⟨bb,34,none⟩=some (V 4))/\(k=8->W.cell? ⟨bb,61,none⟩=some (.int .i64 ln))) [0,1,2,3,4,5,6,7,8,10,11,12,15] kR ?_
    refine tF 0 ⟨nD,nD⟩ ?_
    refine tF 1 ⟨nD,nD⟩ ?_
    refine tF 2 ⟨nD,nD⟩ ?_
    refine tG 3 rfl (by intro w hF;have hF2:=hF.1 rfl;clear hF;go_simp;try with_reducible rfl) ⟨(fun _=>((KB3.out.drew.cell 34).trans (bx34 ..))),nD⟩ ?_
    try simp only[yA,yB,yC,Act.put,yD,yE,yF]
    refine tF 4 ⟨nD,nD⟩ ?_
    refine tF 5 ⟨nD,nD⟩ ?_
    refine tF 6 ⟨nD,nD⟩ ?_
    refine tF 7 ⟨nD,nD⟩ ?_
    try simp only[yA,yB,yC,Act.put,yD,yE,yF]
    refine tG 8 rfl (by intro w hF;have hF2:=hF.2 rfl;clear hF;go_simp;try with_reducible rfl) ⟨nD,(fun _=>((KB3.out.drew.cell 61).trans (q61 _)))⟩ ?_
    refine z0e (rs:=[9,13]) kR kS (AllReadyF.cons rfl (fun K hK=> ?_) (AllReadyF.cons rfl (fun K hK=> ?_) AllReadyF.nil))
    ·go_simp
     refine(PL.out _ (R3.out.stable LL.out (St.of (Below.refl _ _).drew kO (Nat.le_refl _)))).mono ?_
     rintro e w4 ⟨rfl,hb4⟩
     try go_wp2_with fail
     have b4:Below w3.heap.size w3 w4:=below_then (Below.refl _ _).drew hb4
     have kb4:=zh (KB3.out.drew.below hb4)
     refine hK.out _ _ (Sat.all kR (fun k=>⟨(fun _=>(kb4.out.cell 34).trans (bx34 ..)),(fun _=>(kb4.out.cell 61).trans (q61 _))⟩)) ?_
     clear hK K
     try simp only[yA,yB,yC,Act.put,yD,yE,yF]
     refine tF 10 ⟨nD,nD⟩ ?_
     refine tF 11 ⟨nD,nD⟩ ?_
     try simp only[yA,yB,yC,Act.put,yD,yE,yF]
     refine tF 12 ⟨nD,nD⟩ ?_
     refine rF 13 fun K hK=> ?_
     go_simp
     obtain⟨g,hg⟩:∃g,g=w4.heap.size:=⟨_,rfl⟩
     refine hK.out _ _ (Sat.all kR (fun k=>⟨(fun _=>((kb4.out.alloc _).cell 34).trans (bx34 ..)),(fun _=>((kb4.out.alloc _).cell 61).trans (q61 _))⟩)) ?_
     clear hK K
     refine z0i (R:=fun X=>Below w3.heap.size w3 X/\Hid (Blk X g #[.int .u8 0,.int .u8 0,.int .u8 0,.int .u8 0,.int .u8 0,.int .u8 0,.int .u8 0,.int .u8 0,.int .u8 0,.int .u8 0,.int .u8 0,.int .u8 0,.int .u8 0,.int .u8 0,.int .u8 0,.int .u8 0] 65)/\w3.heap.size<=g) (F:=fun X=>wpAnyF _ _ _ _ _ _ _ _ _ X) ⟨b4.alloc b4.size _,zh (Blk.new_at _ _ _ _ hg),by rw[hg];exact b4.size⟩ ?_
     intro w5 ⟨b5,kg5,hl5⟩
     rw[<-hg]
     clear hg
     try simp only[yA,yB,yC,Act.put,yD,yE,yF]
     refine rF 14 fun K hK=> ?_
     rw[if_pos (by rfl)]
     refine z0s 65 (.tmp 4) (.tmp 31) rfl g #[.int .u8 p0,.int .u8 p1,.int .u8 p2,.int .u8 p3,.int .u8 p4,.int .u8 p5,.int .u8 p6,.int .u8 p7,.int .u8 p8,.int .u8 p9,.int .u8 pa,.int .u8 pb,.int .u8 pc,.int .u8 pd,.int .u8 pe,.int .u8 pf] rfl rfl 65 #[.int .u8 0,.int .u8 0,.int .u8 0,.int .u8 0,.int .u8 0,.int .u8 0,.int .u8 0,.int .u8 0,.int .u8 0,.int .u8 0,.int .u8 0,.int .u8 0,.int .u8 0,.int .u8 0,.int .u8 0,.int .u8 0] kg5.out kR rfl (by simp[Value.oneCell']) ?_
     intro w8 hp8 K8
     refine hK.out _ _ (Sat.off [3,8] (fun k w hk=>by simp only[List.mem_cons,List.not_mem_nil,or_false,not_or]at hk;exact⟨(fun e=>absurd e hk.1),(fun e=>absurd e hk.2)⟩) kR _ _) ?_
     clear hK K
     try simp only[yA,yB,yC,Act.put,yD,yE,yF]
     refine tF 15 ⟨nD,nD⟩ ?_
     try simp only[yA,yB,yC,Act.put,yD,yE,yF]
     refine z0f kR ?_ _
     exact hk g w8 ⟨hl5,below_put b5 hp8 hl5,K8⟩
    ·go_simp
     obtain⟨g,hg⟩:∃g,g=w3.heap.size:=⟨_,rfl⟩
     refine hK.out _ _ (Sat.all kR (fun k=>⟨(fun _=>((KB3.out.drew.alloc _).cell 34).trans (bx34 ..)),(fun _=>((KB3.out.drew.alloc _).cell 61).trans (q61 _))⟩)) ?_
     clear hK K
     refine z0i (R:=fun X=>Below w3.heap.size w3 X/\Hid (Blk X bb (boxC V x wv3) 89)/\Hid (Blk X g #[.int .u8 0,.int .u8 0,.int .u8 0,.int .u8 0,.int .u8 0,.int .u8 0,.int .u8 0,.int .u8 0,.int .u8 0,.int .u8 0,.int .u8 0,.int .u8 0,.int .u8 0,.int .u8 0,.int .u8 0,.int .u8 0] 65)/\w3.heap.size<=g) (F:=fun X=>wpAnyF _ _ _ _ _ _ _ _ _ X) ⟨(Below.refl _ _).drew.alloc (Nat.le_refl _) _,zh (KB3.out.drew.alloc _),zh (Blk.new_at _ _ _ _ hg),by rw[hg];exact Nat.le_refl _⟩ ?_
     intro w6 ⟨b6,kb6,kg6,hl5⟩
     rw[<-hg]
     clear hg
     try simp only[yA,yB,yC,Act.put,yD,yE,yF]
     refine rF 9 fun K hK=> ?_
     go_simp
     refine(PL.out _ (R3.out.stable LL.out (St.of b6 kO (Nat.le_refl _)))).mono ?_
     rintro e w5 ⟨rfl,hb4⟩
     try go_wp2_with fail
     have b5:Below w3.heap.size w3 w5:=below_then b6 hb4
     have kg5:=zh (kg6.out.below hb4)
     have kb4:=zh (kb6.out.below hb4)
     refine hK.out _ _ (Sat.all kR (fun k=>⟨(fun _=>(kb4.out.cell 34).trans (bx34 ..)),(fun _=>(kb4.out.cell 61).trans (q61 _))⟩)) ?_
     clear hK K
     try simp only[yA,yB,yC,Act.put,yD,yE,yF]
     refine tF 10 ⟨nD,nD⟩ ?_
     refine tF 11 ⟨nD,nD⟩ ?_
     try simp only[yA,yB,yC,Act.put,yD,yE,yF]
     refine tF 12 ⟨nD,nD⟩ ?_
     refine rF 14 fun K hK=> ?_
     rw[if_pos (by rfl)]
     refine z0s 65 (.tmp 4) (.tmp 31) rfl g #[.int .u8 p0,.int .u8 p1,.int .u8 p2,.int .u8 p3,.int .u8 p4,.int .u8 p5,.int .u8 p6,.int .u8 p7,.int .u8 p8,.int .u8 p9,.int .u8 pa,.int .u8 pb,.int .u8 pc,.int .u8 pd,.int .u8 pe,.int .u8 pf] rfl rfl 65 #[.int .u8 0,.int .u8 0,.int .u8 0,.int .u8 0,.int .u8 0,.int .u8 0,.int .u8 0,.int .u8 0,.int .u8 0,.int .u8 0,.int .u8 0,.int .u8 0,.int .u8 0,.int .u8 0,.int .u8 0,.int .u8 0] kg5.out kR rfl (by simp[Value.oneCell']) ?_
     intro w8 hp8 K8
     refine hK.out _ _ (Sat.off [3,8] (fun k w hk=>by simp only[List.mem_cons,List.not_mem_nil,or_false,not_or]at hk;exact⟨(fun e=>absurd e hk.1),(fun e=>absurd e hk.2)⟩) kR _ _) ?_
     clear hK K
     try simp only[yA,yB,yC,Act.put,yD,yE,yF]
     refine tF 15 ⟨nD,nD⟩ ?_
     try simp only[yA,yB,yC,Act.put,yD,yE,yF]
     refine z0f kR ?_ _
     exact hk g w8 ⟨hl5,below_put b5 hp8 hl5,K8⟩
   intro g w7 ⟨hg7,b7,kg7⟩
   have R7:Hid (RelX 89 w0 V bb H w7 x):=zh (R3.out.stable LL.out (St.of b7 kO (Nat.le_refl _)))
   have O7:Hid (OutAt w7 B ob ls ss):=zh (O3.out.kp ((Kp.refl _ _ _).below b7 (Nat.le_refl _)))
   have s7:=b7.size
   have KB7:=zh (KB3.out.below b7)
   have lg7:=kg7.out.lt
   obtain⟨hob,⟨lv,sv,hk0,hk1,hk2⟩,hk3,hk4⟩:=O7.out
   have KO7:=zh hk0
   have LN7:=zh hk1
   have SM7:=zh hk2
   have OK7:=zh (And.intro hk3 hk4)
   obtain⟨i0,hi,hz0,hz1,hz2⟩:=info_parts z0aA
   have LA:=zh (fun g hg=>z1h hk1 (g:=g) hg)
   clear hk0 hk1 hk2 hk3 hk4 KB3
   go_wp2_with fail
   refine z0h (fun k W=>(k=4->W.cell? ⟨ob,0,none⟩=some lv)/\(k=9->W.cell? ⟨bb,64,none⟩=some (.int .i64 fr))/\(k=14->W.cell? ⟨bb,61,none⟩=some (.int .i64 ln))/\(k=15->Blk W g #[.int .u8 p0,.int .u8 p1,.int .u8 p2,.int .u8 p3,.int .u8 p4,.int .u8 p5,.int .u8 p6,.int .u8 p7,.int .u8 p8,.int .u8 p9,.int .u8 pa,.int .u8 pb,.int .u8 pc,.int .u8 pd,.int .u8 pe,.int .u8 pf] 65)) [0,1,2,3,4,5,6,7,8,9,10,11,12,13,14,15,16,19,20] kR ?_
   refine tF 0 ⟨nD,nD,nD,nD⟩ ?_
   refine tF 1 ⟨nD,nD,nD,nD⟩ ?_
   refine tF 2 ⟨nD,nD,nD,nD⟩ ?_
   refine tF 3 ⟨nD,nD,nD,nD⟩ ?_
   try simp only[yA,yB,yC,Act.put,yD,yE,yF]
   refine tG 4 rfl (by intro w hF;have hF2:=hF.1 rfl;clear hF;go_simp;try with_reducible rfl) ⟨(fun _=>(KO7.out.drew.cell 0)),nD,nD,nD⟩ ?_
   refine tF 5 ⟨nD,nD,nD,nD⟩ ?_
   refine tF 6 ⟨nD,nD,nD,nD⟩ ?_
   refine tF 7 ⟨nD,nD,nD,nD⟩ ?_
   try simp only[yA,yB,yC,Act.put,yD,yE,yF]
   refine tF 8 ⟨nD,nD,nD,nD⟩ ?_
   refine tG 9 rfl (by intro w hF;have hF2:=hF.2.1 rfl;clear hF;go_simp;try with_reducible rfl) ⟨nD,(fun _=>((KB7.out.drew.cell 64).trans (q64 _))),nD,nD⟩ ?_
   refine tF 10 ⟨nD,nD,nD,nD⟩ ?_
   refine tF 11 ⟨nD,nD,nD,nD⟩ ?_
   try simp only[yA,yB,yC,Act.put,yD,yE,yF]
   refine tF 12 ⟨nD,nD,nD,nD⟩ ?_
   refine tF 13 ⟨nD,nD,nD,nD⟩ ?_
   refine tG 14 rfl (by intro w hF;have hF2:=hF.2.2.1 rfl;clear hF;go_simp;try with_reducible rfl) ⟨nD,nD,(fun _=>((KB7.out.drew.cell 61).trans (q61 _))),nD⟩ ?_
   refine z0c (i:=15) rfl kR kR kR kR (fun _ _ _ h=>h) (z0d (by rfl) 65 (.tmp 4) rfl (g) 0 16 rfl 65 (#[.int .u8 p0,.int .u8 p1,.int .u8 p2,.int .u8 p3,.int .u8 p4,.int .u8 p5,.int .u8 p6,.int .u8 p7,.int .u8 p8,.int .u8 p9,.int .u8 pa,.int .u8 pb,.int .u8 pc,.int .u8 pd,.int .u8 pe,.int .u8 pf]) (#[.int .u8 p0,.int .u8 p1,.int .u8 p2,.int .u8 p3,.int .u8 p4,.int .u8 p5,.int .u8 p6,.int .u8 p7,.int .u8 p8,.int .u8 p9,.int .u8 pa,.int .u8 pb,.int .u8 pc,.int .u8 pd,.int .u8 pe,.int .u8 pf]) (fun W hF=>hF.2.2.2 rfl) _ Tryz.underlying65 rfl kR rfl rfl) ⟨nD,nD,nD,(fun _=>kg7.out.drew)⟩ ?_
   try simp only[yA,yB,yC,Act.put,yD,yE,yF]
   refine tF 16 ⟨nD,nD,nD,nD⟩ ?_
   refine rF 17 fun K hK=> ?_
   rw[if_pos (by rfl)]
   refine wp_buildSlice 43 67 1 #[(0,.tmp 49)] rfl #[.int .i64 fr,.int .i64 ln,.int .u8 p0,.int .u8 p1,.int .u8 p2,.int .u8 p3,.int .u8 p4,.int .u8 p5,.int .u8 p6,.int .u8 p7,.int .u8 p8,.int .u8 p9,.int .u8 pa,.int .u8 pb,.int .u8 pc,.int .u8 pd,.int .u8 pe,.int .u8 pf] i0 _ Tryz.underlying43 hi hz0 kO kO (by rw[Array.toList_map];exact z5l #[.int .i64 fr,.int .i64 ln,.int .u8 p0,.int .u8 p1,.int .u8 p2,.int .u8 p3,.int .u8 p4,.int .u8 p5,.int .u8 p6,.int .u8 p7,.int .u8 p8,.int .u8 p9,.int .u8 pa,.int .u8 pb,.int .u8 pc,.int .u8 pd,.int .u8 pe,.int .u8 pf] _ hz1 rfl _) ?_
   have hgn:w7.drew.heap.size=w7.heap.size:=rfl
   refine hK.out _ _ (Sat.all kR (fun k=>⟨(fun _=>(KO7.out.drew.alloc _).cell 0),(fun _=>((KB7.out.drew.alloc _).cell 64).trans (q64 _)),(fun _=>((KB7.out.drew.alloc _).cell 61).trans (q61 _)),(fun _=>kg7.out.drew.alloc _)⟩)) ?_
   clear hK K
   try simp only[yA,yB,yC,Act.put,yD,yE,yF]
   refine rF 18 fun K hK=> ?_
   rw[if_pos (by rfl)]
   refine wp_append_own _ (.tmp 37) (.tmp 50) 43 rfl B 67 i0 _ 18 32 Tryz.underlying43 hi hz0 hz1 hz2 rfl kD lv ls.length (lnsC ls) rfl (World.ownsRow.alloc (World.ownsRow.drew LN7.out) _) ⟨w7.heap.size,0,none⟩ 1 1 #[.int .i64 fr,.int .i64 ln,.int .u8 p0,.int .u8 p1,.int .u8 p2,.int .u8 p3,.int .u8 p4,.int .u8 p5,.int .u8 p6,.int .u8 p7,.int .u8 p8,.int .u8 p9,.int .u8 pa,.int .u8 pb,.int .u8 pc,.int .u8 pd,.int .u8 pe,.int .u8 pf].toList rfl rfl ?c1 ?c2 ?c3 ?c4 ?c5 ?_
   case c1=>
    intro j u hj
    rw[Addr.add_lit,Nat.zero_add]
    exact((Blk.new w7.drew #[.int .i64 fr,.int .i64 ln,.int .u8 p0,.int .u8 p1,.int .u8 p2,.int .u8 p3,.int .u8 p4,.int .u8 p5,.int .u8 p6,.int .u8 p7,.int .u8 p8,.int .u8 p9,.int .u8 pa,.int .u8 pb,.int .u8 pc,.int .u8 pd,.int .u8 pe,.int .u8 pf] 67).cell j).trans (by simpa using hj)
   case c2=>simp[Value.oneCell']
   case c3=>unfold maxLen;omega
   case c4=>omega
   case c5=>simp;omega
   intro v' w9 hown hgrow _
   obtain⟨ao',cp',rfl⟩:=z0a hown
   refine hK.out _ _ (Sat.off [4,9,14,15] (fun k w hk=>by simp only[List.mem_cons,List.not_mem_nil,or_false,not_or]at hk;exact⟨(fun e=>absurd e hk.1),(fun e=>absurd e hk.2.1),(fun e=>absurd e hk.2.2.1),(fun e=>absurd e hk.2.2.2)⟩) kR _ _) ?_
   clear hK K
   try simp only[yA,yB,yC,Act.put,yD,yE,yF]
   refine tF 19 ⟨nD,nD,nD,nD⟩ ?_
   try simp only[yA,yB,yC,Act.put,yD,yE,yF]
   refine tF 20 ⟨nD,nD,nD,nD⟩ ?_
   have st9:St B w7 w9:=St.grown ((St.refl B w7).drew.alloc kO _) hgrow (fun g' hg'=>⟨(LA.out g' hg').1,by obtain⟨cs,hcs⟩:=(LA.out g' hg').2;exact Blk.nw (hcs.drew.alloc _) kD⟩) (by simp;omega)
   have ko9:=zh (Blk.growne (e:=67) (KO7.out.drew.alloc _) hgrow (fun g' hg'=>by obtain⟨cs,hcs⟩:=(LA.out g' hg').2;exact⟨cs,hcs.drew.alloc _⟩) kD)
   have sm9:=zh (z3h (e':=67) (World.ownsRow.alloc (World.ownsRow.drew SM7.out) _) hgrow (fun g' hg'=>by obtain⟨cs,hcs⟩:=(LA.out g' hg').2;exact⟨cs,hcs.drew.alloc _⟩) kD)
   have lo9:=ko9.out.lt
   have fo9:=ko9.out.free
   have eo9:w9.cell? ⟨ob,0,none⟩=some lv:=ko9.out.cell 0
   have hs9:=hgrow.size
   refine rF 21 fun K hK=> ?_
   go_simp
   refine hK.out _ _ (Sat.off [4,9,14,15] (fun k w hk=>by simp only[List.mem_cons,List.not_mem_nil,or_false,not_or]at hk;exact⟨(fun e=>absurd e hk.1),(fun e=>absurd e hk.2.1),(fun e=>absurd e hk.2.2.1),(fun e=>absurd e hk.2.2.2)⟩) kR _ _) ?_
   clear hK K
   try simp only[yA,yB,yC,Act.put,yD,yE,yF]
   refine z0f kR ?_ _
   go_wp2
   refine bodyPost_end (results_none rfl _ _ _) rfl ⟨rfl,R7.out.stable LL.out (St.setCell st9 hob (Or.inr (Blk.nw KO7.out kD)) _),⟨hob,⟨_,sv,Blk.set ko9.out rfl,?_,z0p sm9.out (fun g' hg' e=> ?_)⟩,?_,OK7.out.2⟩,?_⟩
   ·rw[EE.out]
    unfold Lns
    rw[z6k,List.length_append]
    refine z0p hown (fun g' hg' e=> ?_)
    obtain⟨cs,hcs⟩:=(z1h hown hg').2
    have e:g'=ob:=e
    rw[e]at hcs
    exact absurd (Blk.one_ty hcs ko9.out) kD
   ·obtain⟨cs,hcs⟩:=(z1h sm9.out hg').2
    have e:g'=ob:=e
    rw[e]at hcs
    exact absurd (Blk.one_ty hcs ko9.out) kD
   ·rw[EE.out]
    intro y hy
    rcases List.mem_append.1 hy with h|h
    ·exact OK7.out.1 y h
    ·rw[List.mem_singleton]at h
     subst h
     exact⟨FI.out,z0C (by show-1000000<=ln/\ln<=1000000;omega),rfl,HU.out⟩
   ·simp at hs9⊢
    omega
  ·have t2:decide (ln<8)=false:=decide_eq_false h2
   have EE:Hid (drawO x.m=[]):=zh (by rw[ED.out,if_neg (fun h=>h2 h.2)])
   rw[EE.out,List.append_nil]
   go_wp2
   exact bodyPost_end (results_none rfl _ _ _) rfl ⟨rfl,RX.out.stable LL.out (by repeat'(with_reducible first|exact St.refl _ _|refine St.drew ?_|refine St.drewN ?_ _)),OO.out.kp (by repeat'(with_reducible first|exact Kp.refl _ _ _|refine Kp.drew ?_|refine Kp.drewN ?_ _)),by simp⟩
 ·have t1:(pt==0)=false:=beq_eq_false_iff_ne.2 h1
  have EE:Hid (drawO x.m=[]):=zh (by rw[ED.out,if_neg (fun h=>h1 h.1)])
  rw[EE.out,List.append_nil]
  go_wp2
  exact bodyPost_end (results_none rfl _ _ _) rfl ⟨rfl,RX.out.stable LL.out (by repeat'(with_reducible first|exact St.refl _ _|refine St.drew ?_|refine St.drewN ?_ _)),OO.out.kp (by repeat'(with_reducible first|exact Kp.refl _ _ _|refine Kp.drew ?_|refine Kp.drewN ?_ _)),by simp⟩
end Go.Proofs.YtkoocfcnfolkhaaGreatDoor
