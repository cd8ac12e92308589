/- The program has the processors do what they do at a clock. Conditions: the machine lies in a box, the clock is small. -/
import Derived.Test.YtkoocfcnfolkhaaGreatDoorSq
import Derived.Test.YtkoocfcnfolkhaaGreatDoorSh
import Derived.Test.YtkoocfcnfolkhaaGreatDoorP29
import Derived.Test.YtkoocfcnfolkhaaGreatDoorCpuStep
import Derived.Test.YtkoocfcnfolkhaaGreatDoorRegF
import Derived.Deep.CutRange
set_option linter.unusedVariables false
set_option linter.unusedSimpArgs false
set_option maxHeartbeats 4000000
set_option maxRecDepth 100000
namespace Go.Mq
theorem gcutP{G:Prop}{F:Nat->World->Prop}(R:Nat->World->Prop)(h:(∀g W,R g W->F g W)->G)(H:∀g W,R g W->F g W):G:=h H
end Go.Mq
namespace Go.Proofs.YtkoocfcnfolkhaaGreatDoor
open Go.RowKit Go.Mq
theorem _root_.Go.Mq.RelX.turn{T:TypeId}{w0:World}{V:Nat->Value}{bb B H:Nat}(L:LiesX V bb B H){w w':World}{x x':Bx}{wv:Value}(h:RelX T w0 V bb H w x)(hl:Blk w bb (boxC V x wv) T)(k:But bb w w')(hT:T≠71)(hb:Blk w' bb (boxC V x' wv) T)(hm:x'.m.mem=x.m.mem)(hw:x'.ws=x.ws)(hi:x'.m.In):RelX T w0 V bb H w' x':=by
 obtain⟨h1,⟨wv',h2,h3⟩,h4,h5,h6⟩:=h
 have:wv'=wv:=by
  have e1:=(h2.cell 75).symm.trans (hl.cell 75)
  rw[bx75,bx75]at e1
  injection e1
 subst this
 exact RelX.box1 L ⟨h1,h3,h4,h5,h6⟩ hl k hT hb hm hw hi
theorem wI(n:Int):IntKind.i64.wrap n=wrap64 n:=by unfold wrap64;exact IntKind.wrap_i64 n
theorem z5A{w0:World}{V:Nat->Value}{bb B H:Nat}(L:LiesX V bb B H)(x:Bx)(hroom:x.ws.length+4<=1000000)(r:Bool)(w:World)(h:RelX 89 w0 V bb H w x)(hB:B<=w.heap.size):
  Calls Tryz.prog 65 #[.agg (cpuC x.m.mc),.agg #[.func (.func 75) #[.pointer (some ⟨bb,0,none⟩)] #[],.func (.func 76) #[.pointer (some ⟨bb,0,none⟩)] #[]],.bool r] w fun e w'=>e= .returned (.tuple #[.agg (cpuC (dC busM x x.m.mc r)),.int .i64 (dN busM x x.m.mc r)])/\RelX 89 w0 V bb H w' (dM busM x x.m.mc r)/\Kp B NoX w w':=
 z8x (z6f L) x (by show 4<=1000000-x.ws.length;omega) x.m.mc h.inn.mc r w h hB
theorem z6W{w0:World}{V:Nat->Value}{bb B H:Nat}(L:LiesX V bb B H)(x:Bx)(hroom:x.ws.length+4<=1000000)(r:Bool)(w:World)(h:RelX 89 w0 V bb H w x)(hB:B<=w.heap.size):
  Calls Tryz.prog 65 #[.agg (cpuC x.m.ac),.agg #[.func (.func 104) #[.pointer (some ⟨bb,0,none⟩)] #[],.func (.func 105) #[.pointer (some ⟨bb,0,none⟩)] #[]],.bool r] w fun e w'=>e= .returned (.tuple #[.agg (cpuC (dC busA x x.m.ac r)),.int .i64 (dN busA x x.m.ac r)])/\RelX 89 w0 V bb H w' (dM busA x x.m.ac r)/\Kp B NoX w w':=
 z8x (z8C L) x (by show 4<=1000000-x.ws.length;omega) x.m.ac h.inn.ac r w h hB
theorem z8J{w0:World}{V:Nat->Value}{bb B H:Nat}(L:LiesX V bb B H)(w:World)(x:Bx)(hroom:x.ws.length+4<=1000000)(c0:0<=x.m.ck)(c1:x.m.ck<=1000000)(h:RelX 89 w0 V bb H w x)(hB:B<=w.heap.size):
  Calls Tryz.prog 33 #[.pointer (some ⟨bb,0,none⟩)] w fun e w'=>e= .returned (.tuple #[])/\RelX 89 w0 V bb H w' (doX x)/\Kp B NoX w w':=by
 have L1:=L.lo
 have L2:=L.hi
 have LL:=zh L
 obtain⟨Z1,hZ1⟩:∃Z,Z=doM x:=⟨_,rfl⟩
 have EX:Hid (doX x=doA Z1):=zh (by rw[hZ1];rfl)
 have IN:=zh h.inn
 have K1:=zh (z2R x h.inn)
 have W1:Hid (Z1.ws.length+4<=1000000):=zh (by
  rw[hZ1]
  unfold doM
  split
  ·rw[z4I x h.inn];exact hroom
  ·exact hroom)
 have HR:=zh hroom
 have CK1:Hid (Z1.m.ck=x.m.ck):=zh (by rw[hZ1];exact K1.out.2.ck)
 have RX:=zh h
 rw[EX.out]
 have HZ:=zh hZ1
 obtain⟨-,⟨wv,hbx,-⟩,-,-,-⟩:=h
 have KB:=zh hbx
 have lb:=hbx.lt
 have fb:=hbx.free
 have c73:w.cell? ⟨bb,73,none⟩=some (.int .i64 x.m.mr):=(hbx.cell 73).trans (bx73 ..)
 have c72:w.cell? ⟨bb,72,none⟩=some (.int .i64 x.m.ck):=(hbx.cell 72).trans (bx72 ..)
 have c76:w.cell? ⟨bb,76,none⟩=some (.int .i64 x.dl):=(hbx.cell 76).trans (bx76 ..)
 clear hbx hZ1 hroom K1
 go_enter Tryz.func33,Tryz.ntmps33
 go_upto_region 1 with(fail)
 go_quiet (fail)
 go_upto_if 18 with(fail)
 go_cut [3,4]from 10 to 62 (fun s3 s4 wx=>Hid (RelX 89 w0 V bb H wx Z1)/\Hid (Kp B NoX w wx))
 case first=>
  by_cases hm:x.m.mr<=x.m.ck
  ·have t18:decide (x.m.mr<=x.m.ck)=true:=decide_eq_true hm
   go_wp2_with fail
   refine z0g (R:=fun W=>Hid (RelX 89 w0 V bb H W {x with dl:=0})/\Hid (Kp B NoX w W)) ?mk3 ?_
   case mk3=>exact⟨zh (RX.out.turn (x':={x with dl:=0}) LL.out KB.out (by repeat'(first|(with_reducible first|exact But.refl _ _|assumption|refine But.drew ?_|refine But.drewN ?_ _)|refine But.setCell (p:=⟨bb,_,none⟩) ?_ rfl _)) kD kB rfl rfl RX.out.inn),zh (But.kp (g:=bb) (by repeat'(first|(with_reducible first|exact But.refl _ _|assumption|refine But.drew ?_|refine But.drewN ?_ _)|refine But.setCell (p:=⟨bb,_,none⟩) ?_ rfl _)) kO)⟩
   intro w3 ⟨R3,P3⟩
   have s3:=P3.out.size
   clear c72 c73 c76 fb KB
   obtain⟨x0,hx0⟩:∃y:Bx,y={x with dl:=0}:=⟨_,rfl⟩
   rw[<-hx0]at R3
   have M0:x0.m=x.m:=by rw[hx0]
   have H0:Hid (x0.ws.length+4<=1000000):=zh (by rw[hx0];exact HR.out)
   obtain⟨r,er⟩:∃r,r=(x0.m.tm.rg||x0.m.bm.rg):=⟨_,rfl⟩
   have EZ:Hid (Z1={dM busM x0 x0.m.mc r with m:={(dM busM x0 x0.m.mc r).m with mc:=dC busM x0 x0.m.mc r,mr:=wrap64 (wrap64 (x0.m.ck+dN busM x0 x0.m.mc r*3)+(dM busM x0 x0.m.mc r).dl)}}):=zh (by
    rw[HZ.out,er,hx0]
    unfold doM
    rw[if_pos hm]
    rfl)
   have KI:=z6g x0 (c:=x0.m.mc) (by rw[M0];exact IN.out.mc) r (by rw[M0];exact IN.out)
   have CI:=zh (dC_in tells_M x0 (c:=x0.m.mc) (by rw[M0];exact IN.out.mc) r)
   have NB:=z4P busM x0 x0.m.mc r (wV_M _ _)
   have DO:=zh (fun W (hr:RelX 89 w0 V bb H W x0) (hB:B<=W.heap.size)=>z5A LL.out x0 H0.out r W hr hB)
   obtain⟨C,eC⟩:∃C,C=dC busM x0 x0.m.mc r:=⟨_,rfl⟩
   obtain⟨Y,eY⟩:∃Y,Y=dM busM x0 x0.m.mc r:=⟨_,rfl⟩
   obtain⟨N,eN⟩:∃N,N=dN busM x0 x0.m.mc r:=⟨_,rfl⟩
   rw[<-eC,<-eY,<-eN]at DO EZ
   rw[<-eY]at KI
   rw[<-eC]at CI
   rw[<-eN]at NB
   have YI:=zh KI.1
   have YK:Hid (Y.m.ck=x0.m.ck):=zh KI.2.ck
   have XK:0<=x0.m.ck/\x0.m.ck<=1000000:=by rw[M0];exact⟨c0,c1⟩
   have one:=z1l C
   obtain⟨-,⟨wv3,hbx3,-⟩,-,-,-⟩:=R3.out
   have KB3:=zh hbx3
   clear hbx3 KI eC eY eN hx0 H0 M0
   replace er:=zh er
   go_cut [3,4]from 18 to 43 (fun s3 s4 wx=>∃g,s3= .pointer (some ⟨g,0,none⟩)/\s4= .int .i64 N/\w3.heap.size<=g/\Hid (RelX 89 w0 V bb H wx Y)/\Hid (Kp B NoX w wx)/\Hid (Blk wx g (cpuC C) 27))
   case first=>
    cases ht:x0.m.tm.rg
    ·have er2:r=x0.m.bm.rg:=by rw[er.out,ht,Bool.false_or]
     subst er2
     have q44:(boxC V x0 wv3)[44]? =some (.bool false):=by rw[bx44];show some (Value.bool x0.m.tm.rg)=_;rw[ht]
     clear ht
     refine z0h (fun k W=>(k=3->Blk W bb (boxC V x0 wv3) 89)/\(k=10->W.cell? ⟨bb,44,none⟩=some (.bool false))/\(k=16->W.cell? ⟨bb,63,none⟩=some (.bool x0.m.bm.rg))) [0,1,2,3,4,6,7,8,9,10,11,12,13,14,15,16,17,19,20,21,24] kR ?_
     refine tF 0 ⟨nD,nD,nD⟩ ?_
     refine tF 1 ⟨nD,nD,nD⟩ ?_
     refine tF 2 ⟨nD,nD,nD⟩ ?_
     refine z0c (i:=3) rfl kR kR kR kR (fun _ _ _ h=>h) (z0d (by rfl) 27 (.tmp 25) rfl (bb) 0 15 rfl 89 (boxC V x0 wv3) (cpuC x0.m.mc) (fun W hF=>hF.1 rfl) _ Tryz.underlying27 rfl kR rfl rfl) ⟨(fun _=>KB3.out.drew),nD,nD⟩ ?_
     try simp only[yA,yB,yC,Act.put,yD,yE,yF]
     refine tF 4 ⟨nD,nD,nD⟩ ?_
     refine tF 6 ⟨nD,nD,nD⟩ ?_
     refine tF 7 ⟨nD,nD,nD⟩ ?_
     try simp only[yA,yB,yC,Act.put,yD,yE,yF]
     refine tF 8 ⟨nD,nD,nD⟩ ?_
     refine tF 9 ⟨nD,nD,nD⟩ ?_
     refine tG 10 rfl (by intro w hF;have hF2:=hF.2.1 rfl;clear hF;go_simp;try with_reducible rfl) ⟨nD,(fun _=>((Blk.cell KB3.out.drew 44).trans q44)),nD⟩ ?_
     refine z0e (rs:=[5,22]) kR kS (AllReadyF.cons rfl (fun K hK=> ?_) (AllReadyF.cons rfl (fun K hK=> ?_) AllReadyF.nil))
     ·skip
      go_simp
      refine(z0U bb _).mono ?_
      rintro e wf1 ⟨rfl,hbf2⟩
      try go_wp2_with fail
      have bf3:Below w3.heap.size w3 wf1:=below_then (Below.refl w3.heap.size w3).drew hbf2
      have kbf4:=zh (KB3.out.drew.below hbf2)
      refine hK.out _ _ (Sat.all kR (fun k=>⟨(fun _=>kbf4.out),(fun _=>((Blk.cell kbf4.out 44).trans q44)),(fun _=>((Blk.cell kbf4.out 63).trans (bx63 ..)))⟩)) ?_
      clear hK K
      try simp only[yA,yB,yC,Act.put,yD,yE,yF]
      refine tF 11 ⟨nD,nD,nD⟩ ?_
      try simp only[yA,yB,yC,Act.put,yD,yE,yF]
      refine tF 12 ⟨nD,nD,nD⟩ ?_
      refine tF 13 ⟨nD,nD,nD⟩ ?_
      refine tF 14 ⟨nD,nD,nD⟩ ?_
      refine tF 15 ⟨nD,nD,nD⟩ ?_
      try simp only[yA,yB,yC,Act.put,yD,yE,yF]
      refine tG 16 rfl (by intro w hF;have hF2:=hF.2.2 rfl;clear hF;go_simp;try with_reducible rfl) ⟨nD,nD,(fun _=>((Blk.cell kbf4.out 63).trans (bx63 ..)))⟩ ?_
      refine tF 17 ⟨nD,nD,nD⟩ ?_
      refine z0e (rs:=[18,22]) kR kS (AllReadyF.cons rfl (fun K hK=> ?_) (AllReadyF.cons rfl (fun K hK=> ?_) AllReadyF.nil))
      ·skip
       go_simp
       have sbf10:=(bf3).size
       refine(DO.out _ (R3.out.stable LL.out (St.of bf3 kO (Nat.le_refl _))) kO).mono ?_
       rintro e wf5 ⟨rfl,hrf6,hkf7⟩
       try go_wp2_with fail
       have szf11:=hkf7.size
       have Rf8:=zh hrf6
       have Pf9:Hid (Kp B NoX w wf5):=zh ((P3.out.below (n:=w3.heap.size) bf3 (P3.out.size)).trans hkf7)
       refine hK.out _ _ (Sat.off [3,10,16] (fun k w hk=>by simp only[List.mem_cons,List.not_mem_nil,or_false,not_or]at hk;exact⟨(fun e=>absurd e hk.1),(fun e=>absurd e hk.2.1),(fun e=>absurd e hk.2.2)⟩) kR _ _) ?_
       clear hK K hrf6 hkf7
       try simp only[yA,yB,yC,Act.put,yD,yE,yF]
       refine tF 19 ⟨nD,nD,nD⟩ ?_
       try simp only[yA,yB,yC,Act.put,yD,yE,yF]
       refine tF 20 ⟨nD,nD,nD⟩ ?_
       refine tF 21 ⟨nD,nD,nD⟩ ?_
       refine rF 22 fun K hK=> ?_
       go_simp
       obtain⟨g4,hgf12⟩:∃g,g=(wf5).heap.size:=⟨_,rfl⟩
       refine hK.out _ _ (Sat.off [3,10,16] (fun k w hk=>by simp only[List.mem_cons,List.not_mem_nil,or_false,not_or]at hk;exact⟨(fun e=>absurd e hk.1),(fun e=>absurd e hk.2.1),(fun e=>absurd e hk.2.2)⟩) kR _ _) ?_
       clear hK K
       refine z0i (R:=fun X=>Hid (RelX 89 w0 V bb H X Y)/\Hid (Kp B NoX w X)/\Hid (Blk X g4 #[.int .u16 0,.int .u16 0,.int .u16 0,.int .u16 0,.int .u16 0,.int .u16 0,.int .u16 0,.int .u16 0,.int .u16 0,.bool false,.bool false,.bool false,.bool false,.bool false,.bool false] 27)/\w3.heap.size<=g4) (F:=fun X=>wpAnyF _ _ _ _ _ _ _ _ _ X) ⟨zh (Rf8.out.stable LL.out (St.alloc (St.refl _ _) kO _)),zh (Pf9.out.alloc _),zh (Blk.new_at _ _ _ _ hgf12),by rw[hgf12];omega⟩ ?_
       intro wf13 ⟨hrf17,kpf18,kgf16,hlf19⟩
       rw[<-hgf12]
       clear hgf12
       try simp only[yA,yB,yC,Act.put,yD,yE,yF]
       refine rF 23 fun K hK=> ?_
       rw[if_pos (by rfl)]
       refine z0s 27 (.tmp 3) (.tmp 42) rfl g4 (cpuC C) rfl rfl 27 #[.int .u16 0,.int .u16 0,.int .u16 0,.int .u16 0,.int .u16 0,.int .u16 0,.int .u16 0,.int .u16 0,.int .u16 0,.bool false,.bool false,.bool false,.bool false,.bool false,.bool false] kgf16.out kR rfl one ?_
       intro wf20 hpf21 Kf22
       refine hK.out _ _ (Sat.off [3,10,16] (fun k w hk=>by simp only[List.mem_cons,List.not_mem_nil,or_false,not_or]at hk;exact⟨(fun e=>absurd e hk.1),(fun e=>absurd e hk.2.1),(fun e=>absurd e hk.2.2)⟩) kR _ _) ?_
       clear hK K
       try simp only[yA,yB,yC,Act.put,yD,yE,yF]
       refine tF 24 ⟨nD,nD,nD⟩ ?_
       refine z0f kR ?_ _
       go_wp2_with fail
       go_meet
       exact⟨g4,rfl,rfl,by omega,zh (hrf17.out.stable LL.out (St.put (St.refl _ _) hpf21 kO (Or.inr (Blk.nw kgf16.out kD)))),zh (kpf18.out.put hpf21 (Or.inl kO)),Kf22⟩
      ·skip
       go_simp
       obtain⟨g4,hgf23⟩:∃g,g=(wf1).heap.size:=⟨_,rfl⟩
       refine hK.out _ _ (Sat.all kR (fun k=>⟨(fun _=>(kbf4.out.alloc _)),(fun _=>((Blk.cell (kbf4.out.alloc _) 44).trans q44)),(fun _=>((Blk.cell (kbf4.out.alloc _) 63).trans (bx63 ..)))⟩)) ?_
       clear hK K
       refine z0i (R:=fun X=>Below w3.heap.size w3 X/\Hid (Blk X bb (boxC V x0 wv3) 89)/\Hid (Blk X g4 #[.int .u16 0,.int .u16 0,.int .u16 0,.int .u16 0,.int .u16 0,.int .u16 0,.int .u16 0,.int .u16 0,.int .u16 0,.bool false,.bool false,.bool false,.bool false,.bool false,.bool false] 27)/\w3.heap.size<=g4) (F:=fun X=>wpAnyF _ _ _ _ _ _ _ _ _ X) ⟨bf3.alloc bf3.size _,zh (kbf4.out.alloc _),zh (Blk.new_at _ _ _ _ hgf23),by rw[hgf23];exact bf3.size⟩ ?_
       intro wf24 ⟨bf25,kbf26,kgf27,hlf28⟩
       rw[<-hgf23]
       clear hgf23
       try simp only[yA,yB,yC,Act.put,yD,yE,yF]
       refine rF 18 fun K hK=> ?_
       go_simp
       have sbf34:=(bf25).size
       refine(DO.out _ (R3.out.stable LL.out (St.of bf25 kO (Nat.le_refl _))) kO).mono ?_
       rintro e wf29 ⟨rfl,hrf30,hkf31⟩
       try go_wp2_with fail
       have szf35:=hkf31.size
       have Rf32:=zh hrf30
       have Pf33:Hid (Kp B NoX w wf29):=zh ((P3.out.below (n:=w3.heap.size) bf25 (P3.out.size)).trans hkf31)
       have kgf36:=zh (Blk.kp kgf27.out hkf31 kO id)
       refine hK.out _ _ (Sat.off [3,10,16] (fun k w hk=>by simp only[List.mem_cons,List.not_mem_nil,or_false,not_or]at hk;exact⟨(fun e=>absurd e hk.1),(fun e=>absurd e hk.2.1),(fun e=>absurd e hk.2.2)⟩) kR _ _) ?_
       clear hK K hrf30 hkf31
       try simp only[yA,yB,yC,Act.put,yD,yE,yF]
       refine tF 19 ⟨nD,nD,nD⟩ ?_
       try simp only[yA,yB,yC,Act.put,yD,yE,yF]
       refine tF 20 ⟨nD,nD,nD⟩ ?_
       refine tF 21 ⟨nD,nD,nD⟩ ?_
       refine rF 23 fun K hK=> ?_
       rw[if_pos (by rfl)]
       refine z0s 27 (.tmp 3) (.tmp 42) rfl g4 (cpuC C) rfl rfl 27 #[.int .u16 0,.int .u16 0,.int .u16 0,.int .u16 0,.int .u16 0,.int .u16 0,.int .u16 0,.int .u16 0,.int .u16 0,.bool false,.bool false,.bool false,.bool false,.bool false,.bool false] kgf36.out kR rfl one ?_
       intro wf37 hpf38 Kf39
       refine hK.out _ _ (Sat.off [3,10,16] (fun k w hk=>by simp only[List.mem_cons,List.not_mem_nil,or_false,not_or]at hk;exact⟨(fun e=>absurd e hk.1),(fun e=>absurd e hk.2.1),(fun e=>absurd e hk.2.2)⟩) kR _ _) ?_
       clear hK K
       try simp only[yA,yB,yC,Act.put,yD,yE,yF]
       refine tF 24 ⟨nD,nD,nD⟩ ?_
       refine z0f kR ?_ _
       go_wp2_with fail
       go_meet
       exact⟨g4,rfl,rfl,by omega,zh (Rf32.out.stable LL.out (St.put (St.refl _ _) hpf38 kO (Or.inr (Blk.nw kgf36.out kD)))),zh (Pf33.out.put hpf38 (Or.inl kO)),Kf39⟩
     ·skip
      go_simp
      obtain⟨g4,hgf40⟩:∃g,g=(w3).heap.size:=⟨_,rfl⟩
      refine hK.out _ _ (Sat.all kR (fun k=>⟨(fun _=>(KB3.out.drew.alloc _)),(fun _=>((Blk.cell (KB3.out.drew.alloc _) 44).trans q44)),(fun _=>((Blk.cell (KB3.out.drew.alloc _) 63).trans (bx63 ..)))⟩)) ?_
      clear hK K
      refine z0i (R:=fun X=>Below w3.heap.size w3 X/\Hid (Blk X bb (boxC V x0 wv3) 89)/\Hid (Blk X g4 #[.int .u16 0,.int .u16 0,.int .u16 0,.int .u16 0,.int .u16 0,.int .u16 0,.int .u16 0,.int .u16 0,.int .u16 0,.bool false,.bool false,.bool false,.bool false,.bool false,.bool false] 27)/\w3.heap.size<=g4) (F:=fun X=>wpAnyF _ _ _ _ _ _ _ _ _ X) ⟨(Below.refl w3.heap.size w3).drew.alloc (Below.refl w3.heap.size w3).drew.size _,zh (KB3.out.drew.alloc _),zh (Blk.new_at _ _ _ _ hgf40),by rw[hgf40];exact Nat.le_refl _⟩ ?_
      intro wf41 ⟨bf42,kbf43,kgf44,hlf45⟩
      rw[<-hgf40]
      clear hgf40
      try simp only[yA,yB,yC,Act.put,yD,yE,yF]
      refine rF 5 fun K hK=> ?_
      go_simp
      refine(z0U bb _).mono ?_
      rintro e wf46 ⟨rfl,hbf47⟩
      try go_wp2_with fail
      have bf48:Below w3.heap.size w3 wf46:=below_then bf42 hbf47
      have kbf49:=zh (kbf43.out.below hbf47)
      refine hK.out _ _ (Sat.all kR (fun k=>⟨(fun _=>kbf49.out),(fun _=>((Blk.cell kbf49.out 44).trans q44)),(fun _=>((Blk.cell kbf49.out 63).trans (bx63 ..)))⟩)) ?_
      clear hK K
      try simp only[yA,yB,yC,Act.put,yD,yE,yF]
      have kgf50:=zh (Blk.below kgf44.out hbf47)
      refine tF 11 ⟨nD,nD,nD⟩ ?_
      try simp only[yA,yB,yC,Act.put,yD,yE,yF]
      refine tF 12 ⟨nD,nD,nD⟩ ?_
      refine tF 13 ⟨nD,nD,nD⟩ ?_
      refine tF 14 ⟨nD,nD,nD⟩ ?_
      refine tF 15 ⟨nD,nD,nD⟩ ?_
      try simp only[yA,yB,yC,Act.put,yD,yE,yF]
      refine tG 16 rfl (by intro w hF;have hF2:=hF.2.2 rfl;clear hF;go_simp;try with_reducible rfl) ⟨nD,nD,(fun _=>((Blk.cell kbf49.out 63).trans (bx63 ..)))⟩ ?_
      refine tF 17 ⟨nD,nD,nD⟩ ?_
      refine rF 18 fun K hK=> ?_
      go_simp
      have sbf56:=(bf48).size
      refine(DO.out _ (R3.out.stable LL.out (St.of bf48 kO (Nat.le_refl _))) kO).mono ?_
      rintro e wf51 ⟨rfl,hrf52,hkf53⟩
      try go_wp2_with fail
      have szf57:=hkf53.size
      have Rf54:=zh hrf52
      have Pf55:Hid (Kp B NoX w wf51):=zh ((P3.out.below (n:=w3.heap.size) bf48 (P3.out.size)).trans hkf53)
      have kgf58:=zh (Blk.kp kgf50.out hkf53 kO id)
      refine hK.out _ _ (Sat.off [3,10,16] (fun k w hk=>by simp only[List.mem_cons,List.not_mem_nil,or_false,not_or]at hk;exact⟨(fun e=>absurd e hk.1),(fun e=>absurd e hk.2.1),(fun e=>absurd e hk.2.2)⟩) kR _ _) ?_
      clear hK K hrf52 hkf53
      try simp only[yA,yB,yC,Act.put,yD,yE,yF]
      refine tF 19 ⟨nD,nD,nD⟩ ?_
      try simp only[yA,yB,yC,Act.put,yD,yE,yF]
      refine tF 20 ⟨nD,nD,nD⟩ ?_
      refine tF 21 ⟨nD,nD,nD⟩ ?_
      refine rF 23 fun K hK=> ?_
      rw[if_pos (by rfl)]
      refine z0s 27 (.tmp 3) (.tmp 42) rfl g4 (cpuC C) rfl rfl 27 #[.int .u16 0,.int .u16 0,.int .u16 0,.int .u16 0,.int .u16 0,.int .u16 0,.int .u16 0,.int .u16 0,.int .u16 0,.bool false,.bool false,.bool false,.bool false,.bool false,.bool false] kgf58.out kR rfl one ?_
      intro wf59 hpf60 Kf61
      refine hK.out _ _ (Sat.off [3,10,16] (fun k w hk=>by simp only[List.mem_cons,List.not_mem_nil,or_false,not_or]at hk;exact⟨(fun e=>absurd e hk.1),(fun e=>absurd e hk.2.1),(fun e=>absurd e hk.2.2)⟩) kR _ _) ?_
      clear hK K
      try simp only[yA,yB,yC,Act.put,yD,yE,yF]
      refine tF 24 ⟨nD,nD,nD⟩ ?_
      refine z0f kR ?_ _
      go_wp2_with fail
      go_meet
      exact⟨g4,rfl,rfl,by omega,zh (Rf54.out.stable LL.out (St.put (St.refl _ _) hpf60 kO (Or.inr (Blk.nw kgf58.out kD)))),zh (Pf55.out.put hpf60 (Or.inl kO)),Kf61⟩
    ·have er2:r=true:=by rw[er.out,ht,Bool.true_or]
     subst er2
     have q44:(boxC V x0 wv3)[44]? =some (.bool true):=by rw[bx44];show some (Value.bool x0.m.tm.rg)=_;rw[ht]
     clear ht
     refine z0h (fun k W=>(k=3->Blk W bb (boxC V x0 wv3) 89)/\(k=10->W.cell? ⟨bb,44,none⟩=some (.bool true))) [0,1,2,3,4,6,7,8,9,10,11,12,13,14,15,16,17,19,20,21,24] kR ?_
     refine tF 0 ⟨nD,nD⟩ ?_
     refine tF 1 ⟨nD,nD⟩ ?_
     refine tF 2 ⟨nD,nD⟩ ?_
     refine z0c (i:=3) rfl kR kR kR kR (fun _ _ _ h=>h) (z0d (by rfl) 27 (.tmp 25) rfl (bb) 0 15 rfl 89 (boxC V x0 wv3) (cpuC x0.m.mc) (fun W hF=>hF.1 rfl) _ Tryz.underlying27 rfl kR rfl rfl) ⟨(fun _=>KB3.out.drew),nD⟩ ?_
     try simp only[yA,yB,yC,Act.put,yD,yE,yF]
     refine tF 4 ⟨nD,nD⟩ ?_
     refine tF 6 ⟨nD,nD⟩ ?_
     refine tF 7 ⟨nD,nD⟩ ?_
     try simp only[yA,yB,yC,Act.put,yD,yE,yF]
     refine tF 8 ⟨nD,nD⟩ ?_
     refine tF 9 ⟨nD,nD⟩ ?_
     refine tG 10 rfl (by intro w hF;have hF2:=hF.2 rfl;clear hF;go_simp;try with_reducible rfl) ⟨nD,(fun _=>((Blk.cell KB3.out.drew 44).trans q44))⟩ ?_
     refine z0e (rs:=[5,22]) kR kS (AllReadyF.cons rfl (fun K hK=> ?_) (AllReadyF.cons rfl (fun K hK=> ?_) AllReadyF.nil))
     ·skip
      go_simp
      refine(z0U bb _).mono ?_
      rintro e wt1 ⟨rfl,hbt2⟩
      try go_wp2_with fail
      have bt3:Below w3.heap.size w3 wt1:=below_then (Below.refl w3.heap.size w3).drew hbt2
      have kbt4:=zh (KB3.out.drew.below hbt2)
      refine hK.out _ _ (Sat.all kR (fun k=>⟨(fun _=>kbt4.out),(fun _=>((Blk.cell kbt4.out 44).trans q44))⟩)) ?_
      clear hK K
      try simp only[yA,yB,yC,Act.put,yD,yE,yF]
      refine tF 11 ⟨nD,nD⟩ ?_
      try simp only[yA,yB,yC,Act.put,yD,yE,yF]
      refine z0c (i:=12) (v:=undef) rfl kR kR kR kR (fun _ _ _ h=>h) (Or.inr ⟨by rfl,rfl⟩) ⟨nD,nD⟩ ?_
      try simp only[yA,yB,yC,Act.put,yD,yE,yF]
      refine z0c (i:=13) (v:=undef) rfl kR kR kR kR (fun _ _ _ h=>h) (Or.inr ⟨by rfl,rfl⟩) ⟨nD,nD⟩ ?_
      try simp only[yA,yB,yC,Act.put,yD,yE,yF]
      refine z0c (i:=14) (v:=undef) rfl kR kR kR kR (fun _ _ _ h=>h) (Or.inr ⟨by rfl,rfl⟩) ⟨nD,nD⟩ ?_
      try simp only[yA,yB,yC,Act.put,yD,yE,yF]
      refine z0c (i:=15) (v:=undef) rfl kR kR kR kR (fun _ _ _ h=>h) (Or.inr ⟨by rfl,rfl⟩) ⟨nD,nD⟩ ?_
      try simp only[yA,yB,yC,Act.put,yD,yE,yF]
      refine z0c (i:=16) (v:=undef) rfl kR kR kR kR (fun _ _ _ h=>h) (Or.inr ⟨by rfl,rfl⟩) ⟨nD,nD⟩ ?_
      try simp only[yA,yB,yC,Act.put,yD,yE,yF]
      refine tF 17 ⟨nD,nD⟩ ?_
      refine z0e (rs:=[18,22]) kR kS (AllReadyF.cons rfl (fun K hK=> ?_) (AllReadyF.cons rfl (fun K hK=> ?_) AllReadyF.nil))
      ·skip
       go_simp
       have sbt10:=(bt3).size
       refine(DO.out _ (R3.out.stable LL.out (St.of bt3 kO (Nat.le_refl _))) kO).mono ?_
       rintro e wt5 ⟨rfl,hrt6,hkt7⟩
       try go_wp2_with fail
       have szt11:=hkt7.size
       have Rt8:=zh hrt6
       have Pt9:Hid (Kp B NoX w wt5):=zh ((P3.out.below (n:=w3.heap.size) bt3 (P3.out.size)).trans hkt7)
       refine hK.out _ _ (Sat.off [3,10] (fun k w hk=>by simp only[List.mem_cons,List.not_mem_nil,or_false,not_or]at hk;exact⟨(fun e=>absurd e hk.1),(fun e=>absurd e hk.2)⟩) kR _ _) ?_
       clear hK K hrt6 hkt7
       try simp only[yA,yB,yC,Act.put,yD,yE,yF]
       refine tF 19 ⟨nD,nD⟩ ?_
       try simp only[yA,yB,yC,Act.put,yD,yE,yF]
       refine tF 20 ⟨nD,nD⟩ ?_
       refine tF 21 ⟨nD,nD⟩ ?_
       refine rF 22 fun K hK=> ?_
       go_simp
       obtain⟨g4,hgt12⟩:∃g,g=(wt5).heap.size:=⟨_,rfl⟩
       refine hK.out _ _ (Sat.off [3,10] (fun k w hk=>by simp only[List.mem_cons,List.not_mem_nil,or_false,not_or]at hk;exact⟨(fun e=>absurd e hk.1),(fun e=>absurd e hk.2)⟩) kR _ _) ?_
       clear hK K
       refine z0i (R:=fun X=>Hid (RelX 89 w0 V bb H X Y)/\Hid (Kp B NoX w X)/\Hid (Blk X g4 #[.int .u16 0,.int .u16 0,.int .u16 0,.int .u16 0,.int .u16 0,.int .u16 0,.int .u16 0,.int .u16 0,.int .u16 0,.bool false,.bool false,.bool false,.bool false,.bool false,.bool false] 27)/\w3.heap.size<=g4) (F:=fun X=>wpAnyF _ _ _ _ _ _ _ _ _ X) ⟨zh (Rt8.out.stable LL.out (St.alloc (St.refl _ _) kO _)),zh (Pt9.out.alloc _),zh (Blk.new_at _ _ _ _ hgt12),by rw[hgt12];omega⟩ ?_
       intro wt13 ⟨hrt17,kpt18,kgt16,hlt19⟩
       rw[<-hgt12]
       clear hgt12
       try simp only[yA,yB,yC,Act.put,yD,yE,yF]
       refine rF 23 fun K hK=> ?_
       rw[if_pos (by rfl)]
       refine z0s 27 (.tmp 3) (.tmp 42) rfl g4 (cpuC C) rfl rfl 27 #[.int .u16 0,.int .u16 0,.int .u16 0,.int .u16 0,.int .u16 0,.int .u16 0,.int .u16 0,.int .u16 0,.int .u16 0,.bool false,.bool false,.bool false,.bool false,.bool false,.bool false] kgt16.out kR rfl one ?_
       intro wt20 hpt21 Kt22
       refine hK.out _ _ (Sat.off [3,10] (fun k w hk=>by simp only[List.mem_cons,List.not_mem_nil,or_false,not_or]at hk;exact⟨(fun e=>absurd e hk.1),(fun e=>absurd e hk.2)⟩) kR _ _) ?_
       clear hK K
       try simp only[yA,yB,yC,Act.put,yD,yE,yF]
       refine tF 24 ⟨nD,nD⟩ ?_
       refine z0f kR ?_ _
       go_wp2_with fail
       go_meet
       exact⟨g4,rfl,rfl,by omega,zh (hrt17.out.stable LL.out (St.put (St.refl _ _) hpt21 kO (Or.inr (Blk.nw kgt16.out kD)))),zh (kpt18.out.put hpt21 (Or.inl kO)),Kt22⟩
      ·skip
       go_simp
       obtain⟨g4,hgt23⟩:∃g,g=(wt1).heap.size:=⟨_,rfl⟩
       refine hK.out _ _ (Sat.all kR (fun k=>⟨(fun _=>(kbt4.out.alloc _)),(fun _=>((Blk.cell (kbt4.out.alloc _) 44).trans q44))⟩)) ?_
       clear hK K
       refine z0i (R:=fun X=>Below w3.heap.size w3 X/\Hid (Blk X bb (boxC V x0 wv3) 89)/\Hid (Blk X g4 #[.int .u16 0,.int .u16 0,.int .u16 0,.int .u16 0,.int .u16 0,.int .u16 0,.int .u16 0,.int .u16 0,.int .u16 0,.bool false,.bool false,.bool false,.bool false,.bool false,.bool false] 27)/\w3.heap.size<=g4) (F:=fun X=>wpAnyF _ _ _ _ _ _ _ _ _ X) ⟨bt3.alloc bt3.size _,zh (kbt4.out.alloc _),zh (Blk.new_at _ _ _ _ hgt23),by rw[hgt23];exact bt3.size⟩ ?_
       intro wt24 ⟨bt25,kbt26,kgt27,hlt28⟩
       rw[<-hgt23]
       clear hgt23
       try simp only[yA,yB,yC,Act.put,yD,yE,yF]
       refine rF 18 fun K hK=> ?_
       go_simp
       have sbt34:=(bt25).size
       refine(DO.out _ (R3.out.stable LL.out (St.of bt25 kO (Nat.le_refl _))) kO).mono ?_
       rintro e wt29 ⟨rfl,hrt30,hkt31⟩
       try go_wp2_with fail
       have szt35:=hkt31.size
       have Rt32:=zh hrt30
       have Pt33:Hid (Kp B NoX w wt29):=zh ((P3.out.below (n:=w3.heap.size) bt25 (P3.out.size)).trans hkt31)
       have kgt36:=zh (Blk.kp kgt27.out hkt31 kO id)
       refine hK.out _ _ (Sat.off [3,10] (fun k w hk=>by simp only[List.mem_cons,List.not_mem_nil,or_false,not_or]at hk;exact⟨(fun e=>absurd e hk.1),(fun e=>absurd e hk.2)⟩) kR _ _) ?_
       clear hK K hrt30 hkt31
       try simp only[yA,yB,yC,Act.put,yD,yE,yF]
       refine tF 19 ⟨nD,nD⟩ ?_
       try simp only[yA,yB,yC,Act.put,yD,yE,yF]
       refine tF 20 ⟨nD,nD⟩ ?_
       refine tF 21 ⟨nD,nD⟩ ?_
       refine rF 23 fun K hK=> ?_
       rw[if_pos (by rfl)]
       refine z0s 27 (.tmp 3) (.tmp 42) rfl g4 (cpuC C) rfl rfl 27 #[.int .u16 0,.int .u16 0,.int .u16 0,.int .u16 0,.int .u16 0,.int .u16 0,.int .u16 0,.int .u16 0,.int .u16 0,.bool false,.bool false,.bool false,.bool false,.bool false,.bool false] kgt36.out kR rfl one ?_
       intro wt37 hpt38 Kt39
       refine hK.out _ _ (Sat.off [3,10] (fun k w hk=>by simp only[List.mem_cons,List.not_mem_nil,or_false,not_or]at hk;exact⟨(fun e=>absurd e hk.1),(fun e=>absurd e hk.2)⟩) kR _ _) ?_
       clear hK K
       try simp only[yA,yB,yC,Act.put,yD,yE,yF]
       refine tF 24 ⟨nD,nD⟩ ?_
       refine z0f kR ?_ _
       go_wp2_with fail
       go_meet
       exact⟨g4,rfl,rfl,by omega,zh (Rt32.out.stable LL.out (St.put (St.refl _ _) hpt38 kO (Or.inr (Blk.nw kgt36.out kD)))),zh (Pt33.out.put hpt38 (Or.inl kO)),Kt39⟩
     ·skip
      go_simp
      obtain⟨g4,hgt40⟩:∃g,g=(w3).heap.size:=⟨_,rfl⟩
      refine hK.out _ _ (Sat.all kR (fun k=>⟨(fun _=>(KB3.out.drew.alloc _)),(fun _=>((Blk.cell (KB3.out.drew.alloc _) 44).trans q44))⟩)) ?_
      clear hK K
      refine z0i (R:=fun X=>Below w3.heap.size w3 X/\Hid (Blk X bb (boxC V x0 wv3) 89)/\Hid (Blk X g4 #[.int .u16 0,.int .u16 0,.int .u16 0,.int .u16 0,.int .u16 0,.int .u16 0,.int .u16 0,.int .u16 0,.int .u16 0,.bool false,.bool false,.bool false,.bool false,.bool false,.bool false] 27)/\w3.heap.size<=g4) (F:=fun X=>wpAnyF _ _ _ _ _ _ _ _ _ X) ⟨(Below.refl w3.heap.size w3).drew.alloc (Below.refl w3.heap.size w3).drew.size _,zh (KB3.out.drew.alloc _),zh (Blk.new_at _ _ _ _ hgt40),by rw[hgt40];exact Nat.le_refl _⟩ ?_
      intro wt41 ⟨bt42,kbt43,kgt44,hlt45⟩
      rw[<-hgt40]
      clear hgt40
      try simp only[yA,yB,yC,Act.put,yD,yE,yF]
      refine rF 5 fun K hK=> ?_
      go_simp
      refine(z0U bb _).mono ?_
      rintro e wt46 ⟨rfl,hbt47⟩
      try go_wp2_with fail
      have bt48:Below w3.heap.size w3 wt46:=below_then bt42 hbt47
      have kbt49:=zh (kbt43.out.below hbt47)
      refine hK.out _ _ (Sat.all kR (fun k=>⟨(fun _=>kbt49.out),(fun _=>((Blk.cell kbt49.out 44).trans q44))⟩)) ?_
      clear hK K
      try simp only[yA,yB,yC,Act.put,yD,yE,yF]
      have kgt50:=zh (Blk.below kgt44.out hbt47)
      refine tF 11 ⟨nD,nD⟩ ?_
      try simp only[yA,yB,yC,Act.put,yD,yE,yF]
      refine z0c (i:=12) (v:=undef) rfl kR kR kR kR (fun _ _ _ h=>h) (Or.inr ⟨by rfl,rfl⟩) ⟨nD,nD⟩ ?_
      try simp only[yA,yB,yC,Act.put,yD,yE,yF]
      refine z0c (i:=13) (v:=undef) rfl kR kR kR kR (fun _ _ _ h=>h) (Or.inr ⟨by rfl,rfl⟩) ⟨nD,nD⟩ ?_
      try simp only[yA,yB,yC,Act.put,yD,yE,yF]
      refine z0c (i:=14) (v:=undef) rfl kR kR kR kR (fun _ _ _ h=>h) (Or.inr ⟨by rfl,rfl⟩) ⟨nD,nD⟩ ?_
      try simp only[yA,yB,yC,Act.put,yD,yE,yF]
      refine z0c (i:=15) (v:=undef) rfl kR kR kR kR (fun _ _ _ h=>h) (Or.inr ⟨by rfl,rfl⟩) ⟨nD,nD⟩ ?_
      try simp only[yA,yB,yC,Act.put,yD,yE,yF]
      refine z0c (i:=16) (v:=undef) rfl kR kR kR kR (fun _ _ _ h=>h) (Or.inr ⟨by rfl,rfl⟩) ⟨nD,nD⟩ ?_
      try simp only[yA,yB,yC,Act.put,yD,yE,yF]
      refine tF 17 ⟨nD,nD⟩ ?_
      refine rF 18 fun K hK=> ?_
      go_simp
      have sbt56:=(bt48).size
      refine(DO.out _ (R3.out.stable LL.out (St.of bt48 kO (Nat.le_refl _))) kO).mono ?_
      rintro e wt51 ⟨rfl,hrt52,hkt53⟩
      try go_wp2_with fail
      have szt57:=hkt53.size
      have Rt54:=zh hrt52
      have Pt55:Hid (Kp B NoX w wt51):=zh ((P3.out.below (n:=w3.heap.size) bt48 (P3.out.size)).trans hkt53)
      have kgt58:=zh (Blk.kp kgt50.out hkt53 kO id)
      refine hK.out _ _ (Sat.off [3,10] (fun k w hk=>by simp only[List.mem_cons,List.not_mem_nil,or_false,not_or]at hk;exact⟨(fun e=>absurd e hk.1),(fun e=>absurd e hk.2)⟩) kR _ _) ?_
      clear hK K hrt52 hkt53
      try simp only[yA,yB,yC,Act.put,yD,yE,yF]
      refine tF 19 ⟨nD,nD⟩ ?_
      try simp only[yA,yB,yC,Act.put,yD,yE,yF]
      refine tF 20 ⟨nD,nD⟩ ?_
      refine tF 21 ⟨nD,nD⟩ ?_
      refine rF 23 fun K hK=> ?_
      rw[if_pos (by rfl)]
      refine z0s 27 (.tmp 3) (.tmp 42) rfl g4 (cpuC C) rfl rfl 27 #[.int .u16 0,.int .u16 0,.int .u16 0,.int .u16 0,.int .u16 0,.int .u16 0,.int .u16 0,.int .u16 0,.int .u16 0,.bool false,.bool false,.bool false,.bool false,.bool false,.bool false] kgt58.out kR rfl one ?_
      intro wt59 hpt60 Kt61
      refine hK.out _ _ (Sat.off [3,10] (fun k w hk=>by simp only[List.mem_cons,List.not_mem_nil,or_false,not_or]at hk;exact⟨(fun e=>absurd e hk.1),(fun e=>absurd e hk.2)⟩) kR _ _) ?_
      clear hK K
      try simp only[yA,yB,yC,Act.put,yD,yE,yF]
      refine tF 24 ⟨nD,nD⟩ ?_
      refine z0f kR ?_ _
      go_wp2_with fail
      go_meet
      exact⟨g4,rfl,rfl,by omega,zh (Rt54.out.stable LL.out (St.put (St.refl _ _) hpt60 kO (Or.inr (Blk.nw kgt58.out kD)))),zh (Pt55.out.put hpt60 (Or.inl kO)),Kt61⟩
   case rest=>
    obtain⟨g4,rfl,rfl,hg4,R4,P4,K4⟩:=hcut
    have s4:=P4.out.size
    have l4:=K4.out.lt
    obtain⟨-,⟨wv4,hbx4,-⟩,-,-,-⟩:=R4.out
    have KB4:=zh hbx4
    clear hbx4 DO
    go_wp2_with (first|((with_reducible show wpList _ _ _ _ _ _);first|(refine lW 27 3 rfl rfl (g4) rfl (cpuC C) kB Tryz.underlying27 ?_)|(refine sA 27 47 45 rfl rfl (bb) (0) (cpuC C) rfl rfl 89 (boxC V Y wv4) (boxC V (Y.wMc C) wv4) kB ?_;intro w5 hp_w5 K_w5)))
    have R5:Hid (RelX 89 w0 V bb H w5 (Y.wMc C)):=zh (R4.out.turn LL.out KB4.out ((But.refl _ _).put hp_w5) kD K_w5.out rfl rfl ⟨CI.out,YI.out.ac,YI.out.mem,YI.out.p0,YI.out.p1,YI.out.tm,YI.out.sd,YI.out.wt,YI.out.ln,YI.out.pt,YI.out.fr,YI.out.fm,YI.out.to,YI.out.m0,YI.out.m1,YI.out.ck,YI.out.mr,YI.out.ar⟩)
    have P5:Hid (Kp B NoX w w5):=zh (P4.out.trans (((But.refl bb wc).put hp_w5).kp L2))
    have EZ1:Hid (Z1={Y.wMc C with m:={(Y.wMc C).m with mr:=wrap64 (wrap64 ((Y.wMc C).m.ck+N*3)+(Y.wMc C).dl)}}):=zh (by rw[EZ.out,<-YK.out];rfl)
    have KB5:=zh K_w5.out
    have wN:IntKind.i64.wrap (N*3)=N*3:=(wI _).trans (z0n _ kO kO)
    obtain⟨Y1,hY1⟩:∃Y1,Y1=Y.wMc C:=⟨_,rfl⟩
    rw[<-hY1]at R5 EZ1 KB5
    clear hY1 K_w5 hp_w5 R4 P4 KB4 K4 EZ YI CI
    refine z0h (fun k W=>(k=4->W.cell? ⟨bb,72,none⟩=some (.int .i64 Y1.m.ck))/\(k=11->W.cell? ⟨bb,76,none⟩=some (.int .i64 Y1.dl))) [0,1,2,3,4,5,6,7,8,9,10,11,12,13,14] kR ?_
    refine tF 0 ⟨nD,nD⟩ ?_
    refine tF 1 ⟨nD,nD⟩ ?_
    refine tF 2 ⟨nD,nD⟩ ?_
    refine tF 3 ⟨nD,nD⟩ ?_
    try simp only[yA,yB,yC,Act.put,yD,yE,yF]
    refine tG 4 rfl (by intro w hF;have hF2:=hF.1 rfl;clear hF;go_simp;try with_reducible rfl) ⟨(fun _=>((KB5.out.drew.cell 72).trans (bx72 ..))),nD⟩ ?_
    refine tF 5 ⟨nD,nD⟩ ?_
    refine tF 6 ⟨nD,nD⟩ ?_
    try simp only[wN]
    refine tF 7 ⟨nD,nD⟩ ?_
    try simp only[yA,yB,yC,Act.put,yD,yE,yF]
    refine tF 8 ⟨nD,nD⟩ ?_
    refine tF 9 ⟨nD,nD⟩ ?_
    refine tF 10 ⟨nD,nD⟩ ?_
    refine tG 11 rfl (by intro w hF;have hF2:=hF.2 rfl;clear hF;go_simp;try with_reducible rfl) ⟨nD,(fun _=>((KB5.out.drew.cell 76).trans (bx76 ..)))⟩ ?_
    try simp only[yA,yB,yC,Act.put,yD,yE,yF]
    refine tF 12 ⟨nD,nD⟩ ?_
    refine tF 13 ⟨nD,nD⟩ ?_
    refine tF 14 ⟨nD,nD⟩ ?_
    have e73:w5.drew.cell? ⟨bb,73,none⟩=some (.int .i64 Y1.m.mr):=(KB5.out.drew.cell 73).trans (bx73 ..)
    have fb5:=KB5.out.drew.free
    have lb5:=KB5.out.drew.lt
    refine rF 15 fun K hK=> ?_
    go_simp
    refine hK.out _ _ (Sat.off [4,11] (fun k w hk=>by simp only[List.mem_cons,List.not_mem_nil,or_false,not_or]at hk;exact⟨(fun e=>absurd e hk.1),(fun e=>absurd e hk.2)⟩) kR _ _) ?_
    clear hK K
    try simp only[yA,yB,yC,Act.put,yD,yE,yF]
    refine z0f kR ?_ _
    go_wp2_with (first|((with_reducible show wpList _ _ _ _ _ _);first|(refine lW 27 3 rfl rfl (g4) rfl (cpuC C) kB Tryz.underlying27 ?_)|(refine sA 27 47 45 rfl rfl (bb) (0) (cpuC C) rfl rfl 89 (boxC V Y wv4) (boxC V (Y.wMc C) wv4) kB ?_;intro w5 hp_w5 K_w5)))
    go_meet
    exact⟨zh (by rw[EZ1.out];exact R5.out.turn LL.out KB5.out (by repeat'(first|(with_reducible first|exact But.refl _ _|assumption|refine But.drew ?_|refine But.drewN ?_ _)|refine But.setCell (p:=⟨bb,_,none⟩) ?_ rfl _)) kD (Blk.set KB5.out.drew (by simp only[wI];rfl)) rfl rfl (Mach.In.mcr R5.out.inn R5.out.inn.mc (z1W _))),zh (P5.out.trans (But.kp (g:=bb) (by repeat'(first|(with_reducible first|exact But.refl _ _|assumption|refine But.drew ?_|refine But.drewN ?_ _)|refine But.setCell (p:=⟨bb,_,none⟩) ?_ rfl _)) kO))⟩
  ·have t18:decide (x.m.mr<=x.m.ck)=false:=decide_eq_false hm
   have EZ:Hid (Z1=x):=zh (by rw[HZ.out];unfold doM;rw[if_neg hm])
   go_wp2_with (first|((with_reducible show wpList _ _ _ _ _ _);first|(refine lW 27 3 rfl rfl (g4) rfl (cpuC C) kB Tryz.underlying27 ?_)|(refine sA 27 47 45 rfl rfl (bb) (0) (cpuC C) rfl rfl 89 (boxC V Y wv4) (boxC V (Y.wMc C) wv4) kB ?_;intro w5 hp_w5 K_w5)))
   go_meet
   exact⟨zh (by rw[EZ.out];exact RX.out.stable LL.out (by repeat'(with_reducible first|exact St.refl _ _|refine St.drew ?_|refine St.drewN ?_ _))),zh (by repeat'(with_reducible first|exact Kp.refl _ _ _|refine Kp.drew ?_|refine Kp.drewN ?_ _))⟩
 case rest=>
  obtain⟨R6,P6⟩:=hcut
  have s6:=P6.out.size
  obtain⟨-,⟨wv6,hbx6,-⟩,-,-,-⟩:=R6.out
  have KB6:=zh hbx6
  have lb6:=hbx6.lt
  have fb6:=hbx6.free
  clear c72 c73 c76 fb lb KB
  have d72:wc.cell? ⟨bb,72,none⟩=some (.int .i64 Z1.m.ck):=(hbx6.cell 72).trans (bx72 ..)
  have d74:wc.cell? ⟨bb,74,none⟩=some (.int .i64 Z1.m.ar):=(hbx6.cell 74).trans (bx74 ..)
  have d68:wc.cell? ⟨bb,68,none⟩=some (.bool Z1.m.hd):=(hbx6.cell 68).trans (bx68 ..)
  clear hbx6
  cases hh:Z1.m.hd
  ·rw[hh]at d68
   by_cases ha:Z1.m.ar<=Z1.m.ck
   ·have t78:decide (Z1.m.ar<=Z1.m.ck)=true:=decide_eq_true ha
    go_wp2_with (first|((with_reducible show wpList _ _ _ _ _ _);first|(refine lW 27 3 rfl rfl (g4) rfl (cpuC C) kB Tryz.underlying27 ?_)|(refine sA 27 47 45 rfl rfl (bb) (0) (cpuC C) rfl rfl 89 (boxC V Y wv4) (boxC V (Y.wMc C) wv4) kB ?_;intro w5 hp_w5 K_w5)))
    go_quiet (fail)
    go_wp2_with (first|((with_reducible show wpList _ _ _ _ _ _);first|(refine lW 27 3 rfl rfl (g4) rfl (cpuC C) kB Tryz.underlying27 ?_)|(refine sA 27 47 45 rfl rfl (bb) (0) (cpuC C) rfl rfl 89 (boxC V Y wv4) (boxC V (Y.wMc C) wv4) kB ?_;intro w5 hp_w5 K_w5)))
    refine z0g (R:=fun W=>Hid (RelX 89 w0 V bb H W Z1)/\Hid (Kp B NoX w W)) ?mk4 ?_
    case mk4=>exact⟨zh (R6.out.stable LL.out (by repeat'(with_reducible first|exact St.refl _ _|refine St.drew ?_|refine St.drewN ?_ _))),zh (by repeat'(with_reducible first|exact P6.out|refine Kp.drew ?_|refine Kp.drewN ?_ _))⟩
    intro w3 ⟨R3,P3⟩
    have s3:=P3.out.size
    clear d72 d74 d68 fb6 KB6
    have EZ:Hid (doA Z1={dM busA Z1 Z1.m.ac Z1.m.rg with m:={(dM busA Z1 Z1.m.ac Z1.m.rg).m with ac:=dC busA Z1 Z1.m.ac Z1.m.rg,ar:=wrap64 (Z1.m.ck+dN busA Z1 Z1.m.ac Z1.m.rg*5)}}):=zh (by
     unfold doA
     rw[if_pos ⟨hh,ha⟩]
     rfl)
    have KI:=z8D Z1 (c:=Z1.m.ac) R3.out.inn.ac Z1.m.rg R3.out.inn
    have CI:=zh (dC_in tells_A Z1 (c:=Z1.m.ac) R3.out.inn.ac Z1.m.rg)
    have NB:=z4P busA Z1 Z1.m.ac Z1.m.rg (tells_A.w _ _)
    have DO:=zh (fun W (hr:RelX 89 w0 V bb H W Z1) (hB:B<=W.heap.size)=>z6W LL.out Z1 W1.out Z1.m.rg W hr hB)
    obtain⟨C,eC⟩:∃C,C=dC busA Z1 Z1.m.ac Z1.m.rg:=⟨_,rfl⟩
    obtain⟨Y,eY⟩:∃Y,Y=dM busA Z1 Z1.m.ac Z1.m.rg:=⟨_,rfl⟩
    obtain⟨N,eN⟩:∃N,N=dN busA Z1 Z1.m.ac Z1.m.rg:=⟨_,rfl⟩
    rw[<-eC,<-eY,<-eN]at DO EZ
    rw[<-eY]at KI
    rw[<-eC]at CI
    rw[<-eN]at NB
    have YI:=zh KI.1
    have YK:Hid (Y.m.ck=Z1.m.ck):=zh KI.2.ck
    have one:=z1l C
    obtain⟨-,⟨wv3,hbx3,-⟩,-,-,-⟩:=R3.out
    have KB3:=zh hbx3
    clear hbx3 KI eC eY eN hh ha t78
    apply gcutP (fun g W=>w3.heap.size<=g/\Hid (RelX 89 w0 V bb H W Y)/\Hid (Kp B NoX w W)/\Hid (Blk W g (cpuC C) 27))
    ·intro hk
     refine z0h (fun k W=>(k=3->Blk W bb (boxC V Z1 wv3) 89)/\(k=9->W.cell? ⟨bb,71,none⟩=some (.bool Z1.m.rg))) [0,1,2,3,4,6,7,8,9,11,12,13,16] kR ?_
     refine tF 0 ⟨nD,nD⟩ ?_
     refine tF 1 ⟨nD,nD⟩ ?_
     refine tF 2 ⟨nD,nD⟩ ?_
     refine z0c (i:=3) rfl kR kR kR kR (fun _ _ _ h=>h) (z0d (by rfl) 27 (.tmp 82) rfl (bb) 15 15 rfl 89 (boxC V Z1 wv3) (cpuC Z1.m.ac) (fun W hF=>hF.1 rfl) _ Tryz.underlying27 rfl kR rfl rfl) ⟨(fun _=>KB3.out.drew),nD⟩ ?_
     try simp only[yA,yB,yC,Act.put,yD,yE,yF]
     refine tF 4 ⟨nD,nD⟩ ?_
     refine tF 6 ⟨nD,nD⟩ ?_
     refine tF 7 ⟨nD,nD⟩ ?_
     try simp only[yA,yB,yC,Act.put,yD,yE,yF]
     refine tF 8 ⟨nD,nD⟩ ?_
     refine tG 9 rfl (by intro w hF;have hF2:=hF.2 rfl;clear hF;go_simp;try with_reducible rfl) ⟨nD,(fun _=>((Blk.cell KB3.out.drew 71).trans (bx71 ..)))⟩ ?_
     refine z0e (rs:=[5,14]) kR kS (AllReadyF.cons rfl (fun K hK=> ?_) (AllReadyF.cons rfl (fun K hK=> ?_) AllReadyF.nil))
     ·skip
      go_simp
      refine(z2w bb _).mono ?_
      rintro e wa1 ⟨rfl,hba2⟩
      try go_wp2_with fail
      have ba3:Below w3.heap.size w3 wa1:=below_then (Below.refl w3.heap.size w3).drew hba2
      have kba4:=zh (KB3.out.drew.below hba2)
      refine hK.out _ _ (Sat.all kR (fun k=>⟨(fun _=>kba4.out),(fun _=>((Blk.cell kba4.out 71).trans (bx71 ..)))⟩)) ?_
      clear hK K
      try simp only[yA,yB,yC,Act.put,yD,yE,yF]
      refine z0e (rs:=[10,14]) kR kS (AllReadyF.cons rfl (fun K hK=> ?_) (AllReadyF.cons rfl (fun K hK=> ?_) AllReadyF.nil))
      ·skip
       go_simp
       have sba10:=(ba3).size
       refine(DO.out _ (R3.out.stable LL.out (St.of ba3 kO (Nat.le_refl _))) kO).mono ?_
       rintro e wa5 ⟨rfl,hra6,hka7⟩
       try go_wp2_with fail
       have sza11:=hka7.size
       have Ra8:=zh hra6
       have Pa9:Hid (Kp B NoX w wa5):=zh ((P3.out.below (n:=w3.heap.size) ba3 (P3.out.size)).trans hka7)
       refine hK.out _ _ (Sat.off [3,9] (fun k w hk=>by simp only[List.mem_cons,List.not_mem_nil,or_false,not_or]at hk;exact⟨(fun e=>absurd e hk.1),(fun e=>absurd e hk.2)⟩) kR _ _) ?_
       clear hK K hra6 hka7
       try simp only[yA,yB,yC,Act.put,yD,yE,yF]
       refine tF 11 ⟨nD,nD⟩ ?_
       try simp only[yA,yB,yC,Act.put,yD,yE,yF]
       refine tF 12 ⟨nD,nD⟩ ?_
       refine tF 13 ⟨nD,nD⟩ ?_
       refine rF 14 fun K hK=> ?_
       go_simp
       obtain⟨g4,hga12⟩:∃g,g=(wa5).heap.size:=⟨_,rfl⟩
       refine hK.out _ _ (Sat.off [3,9] (fun k w hk=>by simp only[List.mem_cons,List.not_mem_nil,or_false,not_or]at hk;exact⟨(fun e=>absurd e hk.1),(fun e=>absurd e hk.2)⟩) kR _ _) ?_
       clear hK K
       refine z0i (R:=fun X=>Hid (RelX 89 w0 V bb H X Y)/\Hid (Kp B NoX w X)/\Hid (Blk X g4 #[.int .u16 0,.int .u16 0,.int .u16 0,.int .u16 0,.int .u16 0,.int .u16 0,.int .u16 0,.int .u16 0,.int .u16 0,.bool false,.bool false,.bool false,.bool false,.bool false,.bool false] 27)/\w3.heap.size<=g4) (F:=fun X=>wpAnyF _ _ _ _ _ _ _ _ _ X) ⟨zh (Ra8.out.stable LL.out (St.alloc (St.refl _ _) kO _)),zh (Pa9.out.alloc _),zh (Blk.new_at _ _ _ _ hga12),by rw[hga12];omega⟩ ?_
       intro wa13 ⟨hra17,kpa18,kga16,hla19⟩
       rw[<-hga12]
       clear hga12
       try simp only[yA,yB,yC,Act.put,yD,yE,yF]
       refine rF 15 fun K hK=> ?_
       rw[if_pos (by rfl)]
       refine z0s 27 (.tmp 5) (.tmp 91) rfl g4 (cpuC C) rfl rfl 27 #[.int .u16 0,.int .u16 0,.int .u16 0,.int .u16 0,.int .u16 0,.int .u16 0,.int .u16 0,.int .u16 0,.int .u16 0,.bool false,.bool false,.bool false,.bool false,.bool false,.bool false] kga16.out kR rfl one ?_
       intro wa20 hpa21 Ka22
       refine hK.out _ _ (Sat.off [3,9] (fun k w hk=>by simp only[List.mem_cons,List.not_mem_nil,or_false,not_or]at hk;exact⟨(fun e=>absurd e hk.1),(fun e=>absurd e hk.2)⟩) kR _ _) ?_
       clear hK K
       try simp only[yA,yB,yC,Act.put,yD,yE,yF]
       refine tF 16 ⟨nD,nD⟩ ?_
       refine z0f kR ?_ _
       exact hk g4 wa20 ⟨by omega,zh (hra17.out.stable LL.out (St.put (St.refl _ _) hpa21 kO (Or.inr (Blk.nw kga16.out kD)))),zh (kpa18.out.put hpa21 (Or.inl kO)),Ka22⟩
      ·skip
       go_simp
       obtain⟨g4,hga23⟩:∃g,g=(wa1).heap.size:=⟨_,rfl⟩
       refine hK.out _ _ (Sat.all kR (fun k=>⟨(fun _=>(kba4.out.alloc _)),(fun _=>((Blk.cell (kba4.out.alloc _) 71).trans (bx71 ..)))⟩)) ?_
       clear hK K
       refine z0i (R:=fun X=>Below w3.heap.size w3 X/\Hid (Blk X bb (boxC V Z1 wv3) 89)/\Hid (Blk X g4 #[.int .u16 0,.int .u16 0,.int .u16 0,.int .u16 0,.int .u16 0,.int .u16 0,.int .u16 0,.int .u16 0,.int .u16 0,.bool false,.bool false,.bool false,.bool false,.bool false,.bool false] 27)/\w3.heap.size<=g4) (F:=fun X=>wpAnyF _ _ _ _ _ _ _ _ _ X) ⟨ba3.alloc ba3.size _,zh (kba4.out.alloc _),zh (Blk.new_at _ _ _ _ hga23),by rw[hga23];exact ba3.size⟩ ?_
       intro wa24 ⟨ba25,kba26,kga27,hla28⟩
       rw[<-hga23]
       clear hga23
       try simp only[yA,yB,yC,Act.put,yD,yE,yF]
       refine rF 10 fun K hK=> ?_
       go_simp
       have sba34:=(ba25).size
       refine(DO.out _ (R3.out.stable LL.out (St.of ba25 kO (Nat.le_refl _))) kO).mono ?_
       rintro e wa29 ⟨rfl,hra30,hka31⟩
       try go_wp2_with fail
       have sza35:=hka31.size
       have Ra32:=zh hra30
       have Pa33:Hid (Kp B NoX w wa29):=zh ((P3.out.below (n:=w3.heap.size) ba25 (P3.out.size)).trans hka31)
       have kga36:=zh (Blk.kp kga27.out hka31 kO id)
       refine hK.out _ _ (Sat.off [3,9] (fun k w hk=>by simp only[List.mem_cons,List.not_mem_nil,or_false,not_or]at hk;exact⟨(fun e=>absurd e hk.1),(fun e=>absurd e hk.2)⟩) kR _ _) ?_
       clear hK K hra30 hka31
       try simp only[yA,yB,yC,Act.put,yD,yE,yF]
       refine tF 11 ⟨nD,nD⟩ ?_
       try simp only[yA,yB,yC,Act.put,yD,yE,yF]
       refine tF 12 ⟨nD,nD⟩ ?_
       refine tF 13 ⟨nD,nD⟩ ?_
       refine rF 15 fun K hK=> ?_
       rw[if_pos (by rfl)]
       refine z0s 27 (.tmp 5) (.tmp 91) rfl g4 (cpuC C) rfl rfl 27 #[.int .u16 0,.int .u16 0,.int .u16 0,.int .u16 0,.int .u16 0,.int .u16 0,.int .u16 0,.int .u16 0,.int .u16 0,.bool false,.bool false,.bool false,.bool false,.bool false,.bool false] kga36.out kR rfl one ?_
       intro wa37 hpa38 Ka39
       refine hK.out _ _ (Sat.off [3,9] (fun k w hk=>by simp only[List.mem_cons,List.not_mem_nil,or_false,not_or]at hk;exact⟨(fun e=>absurd e hk.1),(fun e=>absurd e hk.2)⟩) kR _ _) ?_
       clear hK K
       try simp only[yA,yB,yC,Act.put,yD,yE,yF]
       refine tF 16 ⟨nD,nD⟩ ?_
       refine z0f kR ?_ _
       exact hk g4 wa37 ⟨by omega,zh (Ra32.out.stable LL.out (St.put (St.refl _ _) hpa38 kO (Or.inr (Blk.nw kga36.out kD)))),zh (Pa33.out.put hpa38 (Or.inl kO)),Ka39⟩
     ·skip
      go_simp
      obtain⟨g4,hga40⟩:∃g,g=(w3).heap.size:=⟨_,rfl⟩
      refine hK.out _ _ (Sat.all kR (fun k=>⟨(fun _=>(KB3.out.drew.alloc _)),(fun _=>((Blk.cell (KB3.out.drew.alloc _) 71).trans (bx71 ..)))⟩)) ?_
      clear hK K
      refine z0i (R:=fun X=>Below w3.heap.size w3 X/\Hid (Blk X bb (boxC V Z1 wv3) 89)/\Hid (Blk X g4 #[.int .u16 0,.int .u16 0,.int .u16 0,.int .u16 0,.int .u16 0,.int .u16 0,.int .u16 0,.int .u16 0,.int .u16 0,.bool false,.bool false,.bool false,.bool false,.bool false,.bool false] 27)/\w3.heap.size<=g4) (F:=fun X=>wpAnyF _ _ _ _ _ _ _ _ _ X) ⟨(Below.refl w3.heap.size w3).drew.alloc (Below.refl w3.heap.size w3).drew.size _,zh (KB3.out.drew.alloc _),zh (Blk.new_at _ _ _ _ hga40),by rw[hga40];exact Nat.le_refl _⟩ ?_
      intro wa41 ⟨ba42,kba43,kga44,hla45⟩
      rw[<-hga40]
      clear hga40
      try simp only[yA,yB,yC,Act.put,yD,yE,yF]
      refine rF 5 fun K hK=> ?_
      go_simp
      refine(z2w bb _).mono ?_
      rintro e wa46 ⟨rfl,hba47⟩
      try go_wp2_with fail
      have ba48:Below w3.heap.size w3 wa46:=below_then ba42 hba47
      have kba49:=zh (kba43.out.below hba47)
      refine hK.out _ _ (Sat.all kR (fun k=>⟨(fun _=>kba49.out),(fun _=>((Blk.cell kba49.out 71).trans (bx71 ..)))⟩)) ?_
      clear hK K
      try simp only[yA,yB,yC,Act.put,yD,yE,yF]
      have kga50:=zh (Blk.below kga44.out hba47)
      refine rF 10 fun K hK=> ?_
      go_simp
      have sba56:=(ba48).size
      refine(DO.out _ (R3.out.stable LL.out (St.of ba48 kO (Nat.le_refl _))) kO).mono ?_
      rintro e wa51 ⟨rfl,hra52,hka53⟩
      try go_wp2_with fail
      have sza57:=hka53.size
      have Ra54:=zh hra52
      have Pa55:Hid (Kp B NoX w wa51):=zh ((P3.out.below (n:=w3.heap.size) ba48 (P3.out.size)).trans hka53)
      have kga58:=zh (Blk.kp kga50.out hka53 kO id)
      refine hK.out _ _ (Sat.off [3,9] (fun k w hk=>by simp only[List.mem_cons,List.not_mem_nil,or_false,not_or]at hk;exact⟨(fun e=>absurd e hk.1),(fun e=>absurd e hk.2)⟩) kR _ _) ?_
      clear hK K hra52 hka53
      try simp only[yA,yB,yC,Act.put,yD,yE,yF]
      refine tF 11 ⟨nD,nD⟩ ?_
      try simp only[yA,yB,yC,Act.put,yD,yE,yF]
      refine tF 12 ⟨nD,nD⟩ ?_
      refine tF 13 ⟨nD,nD⟩ ?_
      refine rF 15 fun K hK=> ?_
      rw[if_pos (by rfl)]
      refine z0s 27 (.tmp 5) (.tmp 91) rfl g4 (cpuC C) rfl rfl 27 #[.int .u16 0,.int .u16 0,.int .u16 0,.int .u16 0,.int .u16 0,.int .u16 0,.int .u16 0,.int .u16 0,.int .u16 0,.bool false,.bool false,.bool false,.bool false,.bool false,.bool false] kga58.out kR rfl one ?_
      intro wa59 hpa60 Ka61
      refine hK.out _ _ (Sat.off [3,9] (fun k w hk=>by simp only[List.mem_cons,List.not_mem_nil,or_false,not_or]at hk;exact⟨(fun e=>absurd e hk.1),(fun e=>absurd e hk.2)⟩) kR _ _) ?_
      clear hK K
      try simp only[yA,yB,yC,Act.put,yD,yE,yF]
      refine tF 16 ⟨nD,nD⟩ ?_
      refine z0f kR ?_ _
      exact hk g4 wa59 ⟨by omega,zh (Ra54.out.stable LL.out (St.put (St.refl _ _) hpa60 kO (Or.inr (Blk.nw kga58.out kD)))),zh (Pa55.out.put hpa60 (Or.inl kO)),Ka61⟩
    intro g4 w4 ⟨hg4,R4,P4,K4⟩
    have s4:=P4.out.size
    have l4:=K4.out.lt
    obtain⟨-,⟨wv4,hbx4,-⟩,-,-,-⟩:=R4.out
    have KB4:=zh hbx4
    clear hbx4 DO
    have wN:wrap64 (N*5)=N*5:=z0n _ kO kO
    have EZ1:Hid (doA Z1={Y.wAc C with m:={(Y.wAc C).m with ar:=wrap64 ((Y.wAc C).m.ck+N*5)}}):=zh (by rw[EZ.out,<-YK.out];rfl)
    have CE:(Y.wAc C).m.ck=Y.m.ck:=rfl
    rw[CE]at EZ1
    go_wp2_with (first|((with_reducible show wpList _ _ _ _ _ _);refine lW 27 5 rfl rfl (g4) rfl (cpuC C) kB Tryz.underlying27 ?_)|(((with_reducible show wpList _ _ _ _ _ _);refine sA 27 96 94 rfl rfl (bb) (15) (cpuC C) rfl rfl 89 (boxC V Y wv4) (boxC V (Y.wAc C) wv4) kB ?_;intro w5 hp_w5 K_w5);have e72:w5.cell? ⟨bb,72,none⟩=some (.int .i64 Y.m.ck):=(K_w5.out.cell 72).trans (bx72 ..);have e74:w5.cell? ⟨bb,74,none⟩=some (.int .i64 Y.m.ar):=(K_w5.out.cell 74).trans (bx74 ..);have fb5:=K_w5.out.free;have lb5:=K_w5.out.lt))
    have R5:Hid (RelX 89 w0 V bb H w5 (Y.wAc C)):=zh (R4.out.turn LL.out KB4.out ((But.refl _ _).put hp_w5) kD K_w5.out rfl rfl ⟨YI.out.mc,CI.out,YI.out.mem,YI.out.p0,YI.out.p1,YI.out.tm,YI.out.sd,YI.out.wt,YI.out.ln,YI.out.pt,YI.out.fr,YI.out.fm,YI.out.to,YI.out.m0,YI.out.m1,YI.out.ck,YI.out.mr,YI.out.ar⟩)
    have P5:Hid (Kp B NoX w w5):=zh (P4.out.trans (((But.refl bb w4).put hp_w5).kp L2))
    exact bodyPost_end (results_none rfl _ _ _) rfl ⟨rfl,by rw[EZ1.out];exact R5.out.turn LL.out K_w5.out (by repeat'(first|(with_reducible first|exact But.refl _ _|assumption|refine But.drew ?_|refine But.drewN ?_ _)|refine But.setCell (p:=⟨bb,_,none⟩) ?_ rfl _)) kD (Blk.set K_w5.out rfl) rfl rfl (Mach.In.acr R5.out.inn R5.out.inn.ac (z1W _)),P5.out.trans (But.kp (g:=bb) (by repeat'(first|(with_reducible first|exact But.refl _ _|assumption|refine But.drew ?_|refine But.drewN ?_ _)|refine But.setCell (p:=⟨bb,_,none⟩) ?_ rfl _)) kO)⟩
   ·have t78:decide (Z1.m.ar<=Z1.m.ck)=false:=decide_eq_false ha
    have EZ:Hid (doA Z1=Z1):=zh (by unfold doA;rw[if_neg (fun h=>ha h.2)])
    go_wp2_with (first|((with_reducible show wpList _ _ _ _ _ _);refine lW 27 5 rfl rfl (g4) rfl (cpuC C) kB Tryz.underlying27 ?_)|(((with_reducible show wpList _ _ _ _ _ _);refine sA 27 96 94 rfl rfl (bb) (15) (cpuC C) rfl rfl 89 (boxC V Y wv4) (boxC V (Y.wAc C) wv4) kB ?_;intro w5 hp_w5 K_w5);have e72:w5.cell? ⟨bb,72,none⟩=some (.int .i64 Y.m.ck):=(K_w5.out.cell 72).trans (bx72 ..);have e74:w5.cell? ⟨bb,74,none⟩=some (.int .i64 Y.m.ar):=(K_w5.out.cell 74).trans (bx74 ..);have fb5:=K_w5.out.free;have lb5:=K_w5.out.lt))
    go_quiet (fail)
    go_wp2_with (first|((with_reducible show wpList _ _ _ _ _ _);refine lW 27 5 rfl rfl (g4) rfl (cpuC C) kB Tryz.underlying27 ?_)|(((with_reducible show wpList _ _ _ _ _ _);refine sA 27 96 94 rfl rfl (bb) (15) (cpuC C) rfl rfl 89 (boxC V Y wv4) (boxC V (Y.wAc C) wv4) kB ?_;intro w5 hp_w5 K_w5);have e72:w5.cell? ⟨bb,72,none⟩=some (.int .i64 Y.m.ck):=(K_w5.out.cell 72).trans (bx72 ..);have e74:w5.cell? ⟨bb,74,none⟩=some (.int .i64 Y.m.ar):=(K_w5.out.cell 74).trans (bx74 ..);have fb5:=K_w5.out.free;have lb5:=K_w5.out.lt))
    exact bodyPost_end (results_none rfl _ _ _) rfl ⟨rfl,by rw[EZ.out];exact R6.out.stable LL.out (by repeat'(with_reducible first|exact St.refl _ _|refine St.drew ?_|refine St.drewN ?_ _)),(by repeat'(with_reducible first|exact P6.out|refine Kp.drew ?_|refine Kp.drewN ?_ _))⟩
  ·rw[hh]at d68
   have EZ:Hid (doA Z1=Z1):=zh (by unfold doA;rw[if_neg (fun h=>by have:=h.1;rw[hh]at this;cases this)])
   go_wp2_with (first|((with_reducible show wpList _ _ _ _ _ _);refine lW 27 5 rfl rfl (g4) rfl (cpuC C) kB Tryz.underlying27 ?_)|(((with_reducible show wpList _ _ _ _ _ _);refine sA 27 96 94 rfl rfl (bb) (15) (cpuC C) rfl rfl 89 (boxC V Y wv4) (boxC V (Y.wAc C) wv4) kB ?_;intro w5 hp_w5 K_w5);have e72:w5.cell? ⟨bb,72,none⟩=some (.int .i64 Y.m.ck):=(K_w5.out.cell 72).trans (bx72 ..);have e74:w5.cell? ⟨bb,74,none⟩=some (.int .i64 Y.m.ar):=(K_w5.out.cell 74).trans (bx74 ..);have fb5:=K_w5.out.free;have lb5:=K_w5.out.lt))
   go_quiet (fail)
   go_wp2_with (first|((with_reducible show wpList _ _ _ _ _ _);refine lW 27 5 rfl rfl (g4) rfl (cpuC C) kB Tryz.underlying27 ?_)|(((with_reducible show wpList _ _ _ _ _ _);refine sA 27 96 94 rfl rfl (bb) (15) (cpuC C) rfl rfl 89 (boxC V Y wv4) (boxC V (Y.wAc C) wv4) kB ?_;intro w5 hp_w5 K_w5);have e72:w5.cell? ⟨bb,72,none⟩=some (.int .i64 Y.m.ck):=(K_w5.out.cell 72).trans (bx72 ..);have e74:w5.cell? ⟨bb,74,none⟩=some (.int .i64 Y.m.ar):=(K_w5.out.cell 74).trans (bx74 ..);have fb5:=K_w5.out.free;have lb5:=K_w5.out.lt))
   exact bodyPost_end (results_none rfl _ _ _) rfl ⟨rfl,by rw[EZ.out];exact R6.out.stable LL.out (by repeat'(with_reducible first|exact St.refl _ _|refine St.drew ?_|refine St.drewN ?_ _)),(by repeat'(with_reducible first|exact P6.out|refine Kp.drew ?_|refine Kp.drewN ?_ _))⟩
end Go.Proofs.YtkoocfcnfolkhaaGreatDoor
