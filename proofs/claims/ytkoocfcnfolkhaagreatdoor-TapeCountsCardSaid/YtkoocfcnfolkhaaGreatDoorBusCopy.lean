/- A machine copied. Conditions: its memories are bytes. -/
import Derived.Test.YtkoocfcnfolkhaaGreatDoorSq
import Derived.Test.YtkoocfcnfolkhaaGreatDoorSh
import Derived.Test.YtkoocfcnfolkhaaGreatDoorP27
import Derived.Test.YtkoocfcnfolkhaaGreatDoorP08
import Derived.Test.YtkoocfcnfolkhaaGreatDoorRegF
import Derived.Test.YtkoocfcnfolkhaaGreatDoorP09
set_option linter.unusedVariables false
set_option linter.unusedSimpArgs false
set_option maxHeartbeats 2000000
set_option maxRecDepth 100000
namespace Go.Mq
open Go.RowKit
def MV(w:World)(V:Nat->Value)(m:Mach):Prop:=∀i,i<5->SliceAt w .u8 (V i) (m.mem i)
theorem MV.below{w w':World}{V:Nat->Value}{m:Mach}(h:MV w V m)(hb:Below w.heap.size w w'):MV w' V m:=fun i hi=>(h i hi).below hb
theorem MV.one{w:World}{V:Nat->Value}{m:Mach}(h:MV w V m)(i:Nat)(hi:i<5):(V i).oneCell'=true:=by
 obtain⟨a,c,hv,-⟩:=h i hi
 rw[hv]
 rfl
theorem z0G{V:Nat->Value}(m:Mach)(h:∀i,i<5->(V i).oneCell'=true):(machC V m).all (·.oneCell')=true:=by
 have h0:=h 0 kO
 have h1:=h 1 kO
 have h2:=h 2 kO
 have h3:=h 3 kO
 have h4:=h 4 kO
 unfold machC
 simp only[List.all_toArray,List.all_cons,List.all_nil,Value.oneCell',Bool.and_true,Bool.true_and]at h0 h1 h2 h3 h4⊢
 simp only[h0,h1,h2,h3,h4,Bool.and_self]
structure Fresh(w w':World)(U:Nat->Value)(m:Mach):Prop where
 below:Below w.heap.size w w'
 own:∀i,i<5->w'.ownsRow w.heap.size 5 1 (U i) (m.mem i).length ((m.mem i).map (Value.int .u8))
 ap:∀i j g,i<5->j<5->i≠j->(U i).ownBlock=some g->(U j).ownBlock≠some g
def Bd(w:World)(lo:Nat)(v:Value)(l:List Int):Prop:=w.ownsRow lo 5 1 v l.length (l.map (Value.int .u8))
theorem ap_lt{u v:Value}{a b:Nat}(h1:∀g,u.ownBlock=some g->g<a)(h2:∀g,v.ownBlock=some g->b<=g)(hab:a<=b):∀g,u.ownBlock=some g->v.ownBlock≠some g:=fun g h h'=>by
 have:=h1 g h
 have:=h2 g h'
 omega
end Go.Mq
namespace Go.Proofs.YtkoocfcnfolkhaaGreatDoor
open Go.RowKit Go.Mq
theorem z7T(V:Nat->Value)(m:Mach)(w:World)(hm:MV w V m)(hl:∀i,i<5->(m.mem i).length<=1000000):
  Calls Tryz.prog 29 #[.agg (machC V m)] w fun e w'=>∃U,e= .returned (.agg (machC U m))/\Fresh w w' U m:=by
 have C0:=zh (fun W (k:Below w.heap.size w W)=>z0O W (V 0) (m.mem 0) ((hm 0 kO).below k) (hl 0 kO))
 have C1:=zh (fun W (k:Below w.heap.size w W)=>z0O W (V 1) (m.mem 1) ((hm 1 kO).below k) (hl 1 kO))
 have C2:=zh (fun W (k:Below w.heap.size w W)=>z0O W (V 2) (m.mem 2) ((hm 2 kO).below k) (hl 2 kO))
 have C3:=zh (fun W (k:Below w.heap.size w W)=>z0O W (V 3) (m.mem 3) ((hm 3 kO).below k) (hl 3 kO))
 have C4:=zh (fun W (k:Below w.heap.size w W)=>z0O W (V 4) (m.mem 4) ((hm 4 kO).below k) (hl 4 kO))
 have ON:=zh (fun i hi=>hm.one i hi)
 clear hm hl
 go_enter Tryz.func29,Tryz.ntmps29
 go_wp2_with fail
 refine z0g (R:=fun W=>Below w.heap.size w W/\Hid (Blk W w.heap.size (machC V m) 42)/\∃Z,Hid (Blk W (w.heap.size+1) Z 42)/\Z.size=75) ⟨kL,zh kB,_,zh kB,rfl⟩ ?_
 intro w1 ⟨B1,K1,Z,KZ,hZ⟩
 have s1:=K1.out.lt
 have sz:=KZ.out.lt
 have f1:=K1.out.free
 refine z0h (fun k W=>(k=1->W.cell? ⟨w.heap.size,30,none⟩=some (V 0))/\(k=4->W.cell? ⟨w.heap.size,31,none⟩=some (V 1))) [0,1,3,4,6,8] kR ?_
 refine tF 0 ⟨nD,nD⟩ ?_
 refine tG 1 rfl (by intro w hF;have hF2:=hF.1 rfl;clear hF;go_simp;try with_reducible rfl) ⟨(fun _=>((K1.out.cell 30).trans (mx30 ..))),nD⟩ ?_
 refine tF 3 ⟨nD,nD⟩ ?_
 try simp only[yA,yB,yC,Act.put,yD,yE,yF]
 refine tG 4 rfl (by intro w hF;have hF2:=hF.2 rfl;clear hF;go_simp;try with_reducible rfl) ⟨nD,(fun _=>((K1.out.cell 31).trans (mx31 ..)))⟩ ?_
 refine rF 2 fun K hK=> ?_
 go_simp
 refine(C0.out _ B1.drew).mono ?_
 rintro e w2 ⟨u0,rfl,ho0,hb2⟩
 try go_wp2_with fail
 refine hK.out _ _ (Sat.all kR (fun k=>⟨(fun _=>(((K1.out.drew.below hb2).cell 30).trans (mx30 ..))),(fun _=>(((K1.out.drew.below hb2).cell 31).trans (mx31 ..)))⟩)) ?_
 clear hK K
 try simp only[yA,yB,yC,Act.put,yD,yE,yF]
 refine tF 6 ⟨nD,nD⟩ ?_
 have s2:=hb2.size
 have K2:=zh (K1.out.drew.below hb2)
 have KZ2:=zh (KZ.out.drew.below hb2)
 have B2:Below w.heap.size w w2:=below_then B1.drew hb2
 obtain⟨a0,q0,rfl⟩:=z0a ho0
 have O0:=zh ho0
 have N0:=zh (fun g hg=>(ho0.lt g hg).2)
 clear K1 KZ hb2 ho0
 refine rF 5 fun K hK=> ?_
 go_simp
 refine(C1.out _ B2).mono ?_
 rintro e w3 ⟨u1,rfl,ho1,hb3⟩
 try go_wp2_with fail
 refine hK.out _ _ (Sat.all kR (fun k=>⟨(fun _=>(((K2.out.below hb3).cell 30).trans (mx30 ..))),(fun _=>(((K2.out.below hb3).cell 31).trans (mx31 ..)))⟩)) ?_
 clear hK K
 try simp only[yA,yB,yC,Act.put,yD,yE,yF]
 have s3:=hb3.size
 have K3:=zh (K2.out.below hb3)
 have KZ3:=zh (KZ2.out.below hb3)
 have B3:Below w.heap.size w w3:=below_then B2 hb3
 have P0:=zh (own_below O0.out hb3)
 obtain⟨a1,q1,rfl⟩:=z0a ho1
 have P1:=zh ho1
 have N1:=zh (fun g hg=>(ho1.lt g hg).2)
 have l3:=K3.out.lt
 have f3:=K3.out.free
 have c30:=(K3.out.cell 30).trans (mx30 ..)
 clear K2 KZ2 O0 hb3 ho1 f1
 refine rF 7 fun K hK=> ?_
 go_simp
 refine hK.out _ _ (Sat.off [1,4] (fun k w hk=>by simp only[List.mem_cons,List.not_mem_nil,or_false,not_or]at hk;exact⟨(fun e=>absurd e hk.1),(fun e=>absurd e hk.2)⟩) kR _ _) ?_
 clear hK K
 try simp only[yA,yB,yC,Act.put,yD,yE,yF]
 have K4:=zh (Blk.set K3.out (msV30 V m (.slice a0 (m.mem 0).length q0)))
 have l4:=K4.out.lt
 have f4:=K4.out.free
 have c31:=(K4.out.cell 31).trans (mx31 ..)
 clear c30 K3 l3 f3
 refine tF 8 ⟨nD,nD⟩ ?_
 refine rF 9 fun K hK=> ?_
 go_simp
 refine hK.out _ _ (Sat.off [1,4] (fun k w hk=>by simp only[List.mem_cons,List.not_mem_nil,or_false,not_or]at hk;exact⟨(fun e=>absurd e hk.1),(fun e=>absurd e hk.2)⟩) kR _ _) ?_
 clear hK K
 try simp only[yA,yB,yC,Act.put,yD,yE,yF]
 refine z0f kR ?_ _
 have K5:=zh (Blk.set K4.out (msV31 _ m (.slice a1 (m.mem 1).length q1)))
 obtain⟨V1,hV1⟩:∃V1,V1=updV (updV V 0 (.slice a0 (m.mem 0).length q0)) 1 (.slice a1 (m.mem 1).length q1):=⟨_,rfl⟩
 obtain⟨w4,hw4⟩:∃W,W=(w3.setCell ⟨w.heap.size,30,none⟩ (.slice a0 (m.mem 0).length q0)).setCell ⟨w.heap.size,31,none⟩ (.slice a1 (m.mem 1).length q1):=⟨_,rfl⟩
 have U2:V1 2=V 2:=by rw[hV1];rfl
 have U3:V1 3=V 3:=by rw[hV1];rfl
 have U4:V1 4=V 4:=by rw[hV1];rfl
 have U0:V1 0= .slice a0 (m.mem 0).length q0:=by rw[hV1];rfl
 have U1:V1 1= .slice a1 (m.mem 1).length q1:=by rw[hV1];rfl
 have e34:w4.heap.size=w3.heap.size:=by rw[hw4];simp
 have B4:Below w.heap.size w w4:=by rw[hw4];exact(B3.setCell (Nat.le_refl _) _).setCell (Nat.le_refl _) _
 have KZ4:Hid (Blk w4 (w.heap.size+1) Z 42):=zh (by rw[hw4];exact Blk.setAt (Blk.setAt KZ3.out (by show w.heap.size+1≠w.heap.size;omega)) (by show w.heap.size+1≠w.heap.size;omega))
 have Q0:Hid (w4.ownsRow w1.drew.heap.size 5 1 (V1 0) (m.mem 0).length ((m.mem 0).map (Value.int .u8))):=zh (by rw[U0,hw4];exact z0p (z0p P0.out (fun g hg=>by have:=(P0.out.lt g hg).1;show g≠w.heap.size;have:w1.drew.heap.size=w1.heap.size:=rfl;omega)) (fun g hg=>by have:=(P0.out.lt g hg).1;show g≠w.heap.size;have:w1.drew.heap.size=w1.heap.size:=rfl;omega))
 have Q1:Hid (w4.ownsRow w2.heap.size 5 1 (V1 1) (m.mem 1).length ((m.mem 1).map (Value.int .u8))):=zh (by rw[U1,hw4];exact z0p (z0p P1.out (fun g hg=>by have:=(P1.out.lt g hg).1;show g≠w.heap.size;have:w1.drew.heap.size=w1.heap.size:=rfl;omega)) (fun g hg=>by have:=(P1.out.lt g hg).1;show g≠w.heap.size;have:w1.drew.heap.size=w1.heap.size:=rfl;omega))
 rw[<-U0]at N0
 rw[<-U1]at N1
 rw[<-hw4,<-hV1]at K5
 rw[<-hw4]
 have sd1:w1.drew.heap.size=w1.heap.size:=rfl
 clear hw4 hV1 U0 U1 K4 l4 f4 c31 P0 P1 KZ3 B3
 have l5:=K5.out.lt
 have f5:=K5.out.free
 go_wp2_with fail
 have B4d:Below w.heap.size w w4.drew:=B4.drew
 refine z0h (fun k W=>(k=1->W.cell? ⟨w.heap.size,32,none⟩=some (V 2))/\(k=4->W.cell? ⟨w.heap.size,33,none⟩=some (V 3))/\(k=7->W.cell? ⟨w.heap.size,34,none⟩=some (V 4))) [0,1,3,4,6,7,9,11,13] kR ?_
 refine tF 0 ⟨nD,nD,nD⟩ ?_
 refine tG 1 rfl (by intro w hF;have hF2:=hF.1 rfl;clear hF;go_simp;try with_reducible rfl) ⟨(fun _=>((K5.out.cell 32).trans (by rw[mx32,U2]))),nD,nD⟩ ?_
 refine tF 3 ⟨nD,nD,nD⟩ ?_
 try simp only[yA,yB,yC,Act.put,yD,yE,yF]
 refine tG 4 rfl (by intro w hF;have hF2:=hF.2.1 rfl;clear hF;go_simp;try with_reducible rfl) ⟨nD,(fun _=>((K5.out.cell 33).trans (by rw[mx33,U3]))),nD⟩ ?_
 refine tF 6 ⟨nD,nD,nD⟩ ?_
 refine tG 7 rfl (by intro w hF;have hF2:=hF.2.2 rfl;clear hF;go_simp;try with_reducible rfl) ⟨nD,nD,(fun _=>((K5.out.cell 34).trans (by rw[mx34,U4])))⟩ ?_
 try simp only[yA,yB,yC,Act.put,yD,yE,yF]
 refine rF 2 fun K hK=> ?_
 go_simp
 refine(C2.out _ B4d).mono ?_
 rintro e w5 ⟨u2,rfl,ho2,hb5⟩
 try go_wp2_with fail
 refine hK.out _ _ (Sat.all kR (fun k=>⟨(fun _=>(((K5.out.drew.below hb5).cell 32).trans (by rw[mx32,U2]))),(fun _=>(((K5.out.drew.below hb5).cell 33).trans (by rw[mx33,U3]))),(fun _=>(((K5.out.drew.below hb5).cell 34).trans (by rw[mx34,U4])))⟩)) ?_
 clear hK K
 try simp only[yA,yB,yC,Act.put,yD,yE,yF]
 refine tF 9 ⟨nD,nD,nD⟩ ?_
 have s5:w4.heap.size<=w5.heap.size:=hb5.size
 have K6:=zh (K5.out.drew.below hb5)
 have KZ5:=zh (KZ4.out.drew.below hb5)
 have B5:Below w.heap.size w w5:=below_then B4d hb5
 have R0:=zh (own_below (World.ownsRow.drew Q0.out) hb5)
 have R1:=zh (own_below (World.ownsRow.drew Q1.out) hb5)
 obtain⟨a2,q2,rfl⟩:=z0a ho2
 have O2:=zh ho2
 have N2:=zh (fun g hg=>(ho2.lt g hg).2)
 clear K5 KZ4 hb5 ho2 Q0 Q1 f5 l5 B4 B4d
 refine rF 5 fun K hK=> ?_
 go_simp
 refine(C3.out _ B5).mono ?_
 rintro e w6 ⟨u3,rfl,ho3,hb6⟩
 try go_wp2_with fail
 refine hK.out _ _ (Sat.all kR (fun k=>⟨(fun _=>(((K6.out.below hb6).cell 32).trans (by rw[mx32,U2]))),(fun _=>(((K6.out.below hb6).cell 33).trans (by rw[mx33,U3]))),(fun _=>(((K6.out.below hb6).cell 34).trans (by rw[mx34,U4])))⟩)) ?_
 clear hK K
 try simp only[yA,yB,yC,Act.put,yD,yE,yF]
 have s6:=hb6.size
 have K7:=zh (K6.out.below hb6)
 have KZ6:=zh (KZ5.out.below hb6)
 have B6:Below w.heap.size w w6:=below_then B5 hb6
 have T0:=zh (own_below R0.out hb6)
 have T1:=zh (own_below R1.out hb6)
 have T2:=zh (own_below O2.out hb6)
 obtain⟨a3,q3,rfl⟩:=z0a ho3
 have T3:=zh ho3
 have N3:=zh (fun g hg=>(ho3.lt g hg).2)
 clear K6 KZ5 hb6 ho3 R0 R1 O2 B5
 refine rF 8 fun K hK=> ?_
 go_simp
 refine(C4.out _ B6).mono ?_
 rintro e w7 ⟨u4,rfl,ho4,hb7⟩
 try go_wp2_with fail
 refine hK.out _ _ (Sat.all kR (fun k=>⟨(fun _=>(((K7.out.below hb7).cell 32).trans (by rw[mx32,U2]))),(fun _=>(((K7.out.below hb7).cell 33).trans (by rw[mx33,U3]))),(fun _=>(((K7.out.below hb7).cell 34).trans (by rw[mx34,U4])))⟩)) ?_
 clear hK K
 try simp only[yA,yB,yC,Act.put,yD,yE,yF]
 have s7:=hb7.size
 have K8:=zh (K7.out.below hb7)
 have KZ7:=zh (KZ6.out.below hb7)
 have B7:Below w.heap.size w w7:=below_then B6 hb7
 have X0:=zh (own_below T0.out hb7)
 have X1:=zh (own_below T1.out hb7)
 have X2:=zh (own_below T2.out hb7)
 have X3:=zh (own_below T3.out hb7)
 obtain⟨a4,q4,rfl⟩:=z0a ho4
 have X4:=zh ho4
 clear K7 KZ6 hb7 ho4 T0 T1 T2 T3 B6
 have l8:=K8.out.lt
 have f8:=K8.out.free
 have c32:=(K8.out.cell 32).trans (mx32 ..)
 refine rF 10 fun K hK=> ?_
 go_simp
 refine hK.out _ _ (Sat.off [1,4,7] (fun k w hk=>by simp only[List.mem_cons,List.not_mem_nil,or_false,not_or]at hk;exact⟨(fun e=>absurd e hk.1),(fun e=>absurd e hk.2.1),(fun e=>absurd e hk.2.2)⟩) kR _ _) ?_
 clear hK K
 try simp only[yA,yB,yC,Act.put,yD,yE,yF]
 have K9:=zh (Blk.set K8.out (msV32 V1 m (.slice a2 (m.mem 2).length q2)))
 have l9:=K9.out.lt
 have f9:=K9.out.free
 have c33:=(K9.out.cell 33).trans (mx33 ..)
 clear c32 K8 l8 f8
 refine tF 11 ⟨nD,nD,nD⟩ ?_
 try simp only[yA,yB,yC,Act.put,yD,yE,yF]
 refine rF 12 fun K hK=> ?_
 go_simp
 refine hK.out _ _ (Sat.off [1,4,7] (fun k w hk=>by simp only[List.mem_cons,List.not_mem_nil,or_false,not_or]at hk;exact⟨(fun e=>absurd e hk.1),(fun e=>absurd e hk.2.1),(fun e=>absurd e hk.2.2)⟩) kR _ _) ?_
 clear hK K
 try simp only[yA,yB,yC,Act.put,yD,yE,yF]
 have KA:=zh (Blk.set K9.out (msV33 _ m (.slice a3 (m.mem 3).length q3)))
 have lA:=KA.out.lt
 have fA:=KA.out.free
 have c34:=(KA.out.cell 34).trans (mx34 ..)
 clear c33 K9 l9 f9
 refine tF 13 ⟨nD,nD,nD⟩ ?_
 refine rF 14 fun K hK=> ?_
 go_simp
 refine hK.out _ _ (Sat.off [1,4,7] (fun k w hk=>by simp only[List.mem_cons,List.not_mem_nil,or_false,not_or]at hk;exact⟨(fun e=>absurd e hk.1),(fun e=>absurd e hk.2.1),(fun e=>absurd e hk.2.2)⟩) kR _ _) ?_
 clear hK K
 try simp only[yA,yB,yC,Act.put,yD,yE,yF]
 refine z0f kR ?_ _
 have KB:=zh (Blk.set KA.out (msV34 _ m (.slice a4 (m.mem 4).length q4)))
 obtain⟨w8,hw8⟩:∃W,W=((w7.setCell ⟨w.heap.size,32,none⟩ (.slice a2 (m.mem 2).length q2)).setCell ⟨w.heap.size,33,none⟩ (.slice a3 (m.mem 3).length q3)).setCell ⟨w.heap.size,34,none⟩ (.slice a4 (m.mem 4).length q4):=⟨_,rfl⟩
 obtain⟨U,hU⟩:∃U,U=updV (updV (updV V1 2 (.slice a2 (m.mem 2).length q2)) 3 (.slice a3 (m.mem 3).length q3)) 4 (.slice a4 (m.mem 4).length q4):=⟨_,rfl⟩
 have B8:Below w.heap.size w w8:=by rw[hw8];exact((B7.setCell (Nat.le_refl _) _).setCell (Nat.le_refl _) _).setCell (Nat.le_refl _) _
 have KZ8:Hid (Blk w8 (w.heap.size+1) Z 42):=zh (by rw[hw8];exact Blk.setAt (Blk.setAt (Blk.setAt KZ7.out (by show w.heap.size+1≠w.heap.size;omega)) (by show w.heap.size+1≠w.heap.size;omega)) (by show w.heap.size+1≠w.heap.size;omega))
 have OW:∀{lo n:Nat} {v:Value} {xs:List Value},w.heap.size<lo->w7.ownsRow lo 5 1 v n xs->w8.ownsRow lo 5 1 v n xs:=fun hlo h=>by
  rw[hw8]
  have hne:∀g,_=some g->g≠w.heap.size:=fun g hg=>by have:=(h.lt g hg).1;omega
  exact z0p (z0p (z0p h hne) hne) hne
 rw[<-hw8,<-hU]at KB
 rw[<-hw8]
 have e0:U 0=V1 0:=by rw[hU];rfl
 have e1:U 1=V1 1:=by rw[hU];rfl
 have e2:U 2= .slice a2 (m.mem 2).length q2:=by rw[hU];rfl
 have e3:U 3= .slice a3 (m.mem 3).length q3:=by rw[hU];rfl
 have e4:U 4= .slice a4 (m.mem 4).length q4:=by rw[hU];rfl
 have Y0:=OW kO X0.out
 have Y1:=OW kO X1.out
 have Y2:=OW (by have:w4.drew.heap.size=w4.heap.size:=rfl;omega) X2.out
 have Y3:=OW kO X3.out
 have Y4:=OW kO X4.out
 have s4d:w4.drew.heap.size=w4.heap.size:=rfl
 rw[<-e0]at Y0 N0
 rw[<-e1]at Y1 N1
 rw[<-e2]at Y2 N2
 rw[<-e3]at Y3 N3
 rw[<-e4]at Y4
 have sd4:w4.drew.heap.size=w4.heap.size:=rfl
 have FR:Hid ((∀i,i<5->w8.ownsRow w1.heap.size 5 1 (U i) (m.mem i).length ((m.mem i).map (Value.int .u8)))/\(∀i j g,i<5->j<5->i≠j->(U i).ownBlock=some g->(U j).ownBlock≠some g)):=zh (by
  have b1:∀g,(U 1).ownBlock=some g->w2.heap.size<=g:=fun g hg=>(Y1.lt g hg).1
  have b2:∀g,(U 2).ownBlock=some g->w3.heap.size<=g:=fun g hg=>by have:=(Y2.lt g hg).1;omega
  have b3:∀g,(U 3).ownBlock=some g->w5.heap.size<=g:=fun g hg=>(Y3.lt g hg).1
  have b4:∀g,(U 4).ownBlock=some g->w6.heap.size<=g:=fun g hg=>(Y4.lt g hg).1
  have a01:=ap_lt N0.out b1 (Nat.le_refl _)
  have a02:=ap_lt N0.out b2 kO
  have a03:=ap_lt N0.out b3 kO
  have a04:=ap_lt N0.out b4 kO
  have a12:=ap_lt N1.out b2 kO
  have a13:=ap_lt N1.out b3 kO
  have a14:=ap_lt N1.out b4 kO
  have a23:=ap_lt N2.out b3 kO
  have a24:=ap_lt N2.out b4 kO
  have a34:=ap_lt N3.out b4 kO
  refine⟨fun i hi=> ?_,fun i j g hi hj hne h1 h2=> ?_⟩
  ·match i,hi with
   |0,_=>exact z0t Y0 kO
   |1,_=>exact z0t Y1 kO
   |2,_=>exact z0t Y2 kO
   |3,_=>exact z0t Y3 kO
   |4,_=>exact z0t Y4 kO
  ·match i,hi,j,hj,hne,h1,h2 with
   |0,_,1,_,_,h1,h2=>exact a01 g h1 h2
   |0,_,2,_,_,h1,h2=>exact a02 g h1 h2
   |0,_,3,_,_,h1,h2=>exact a03 g h1 h2
   |0,_,4,_,_,h1,h2=>exact a04 g h1 h2
   |1,_,2,_,_,h1,h2=>exact a12 g h1 h2
   |1,_,3,_,_,h1,h2=>exact a13 g h1 h2
   |1,_,4,_,_,h1,h2=>exact a14 g h1 h2
   |2,_,3,_,_,h1,h2=>exact a23 g h1 h2
   |2,_,4,_,_,h1,h2=>exact a24 g h1 h2
   |3,_,4,_,_,h1,h2=>exact a34 g h1 h2
   |1,_,0,_,_,h1,h2=>exact a01 g h2 h1
   |2,_,0,_,_,h1,h2=>exact a02 g h2 h1
   |3,_,0,_,_,h1,h2=>exact a03 g h2 h1
   |4,_,0,_,_,h1,h2=>exact a04 g h2 h1
   |2,_,1,_,_,h1,h2=>exact a12 g h2 h1
   |3,_,1,_,_,h1,h2=>exact a13 g h2 h1
   |4,_,1,_,_,h1,h2=>exact a14 g h2 h1
   |3,_,2,_,_,h1,h2=>exact a23 g h2 h1
   |4,_,2,_,_,h1,h2=>exact a24 g h2 h1
   |4,_,3,_,_,h1,h2=>exact a34 g h2 h1
   |0,_,0,_,hne,_,_=>exact absurd rfl hne
   |1,_,1,_,hne,_,_=>exact absurd rfl hne
   |2,_,2,_,hne,_,_=>exact absurd rfl hne
   |3,_,3,_,hne,_,_=>exact absurd rfl hne
   |4,_,4,_,hne,_,_=>exact absurd rfl hne)
 have ONE:(machC U m).all (·.oneCell')=true:=z0G m (fun i hi=>by
  obtain⟨a,c,h⟩:=z0a (FR.out.1 i hi)
  rw[h]
  rfl)
 clear Y0 Y1 Y2 Y3 Y4 e0 e1 e2 e3 e4 OW N0 N1 N2 N3 X0 X1 X2 X3 X4 hU hw8 KA c34 lA fA
 go_wp2_with (first|((with_reducible show wpList _ _ _ _ _ _);first|(refine lW 42 1 rfl rfl (w.heap.size) rfl (machC U m) kB Tryz.underlying42 ?_)|(refine z0j rfl 42 (.tmp 2) (.tmp 23) rfl (w.heap.size+1) (machC U m) rfl rfl 42 _ (show Blk _ (w.heap.size+1) Z 42 from kB) kR (by rw[hZ];rfl) ONE ?_;intro w9 hp_w9 K_w9)))
 have Y9:∀i,i<5->w9.ownsRow w.heap.size 5 1 (U i) (m.mem i).length ((m.mem i).map (Value.int .u8)):=fun i hi=>z0t (own_put (FR.out.1 i hi) hp_w9 kO) kO
 exact bodyPost_ret (results_cell_row Tryz.results29 _ _ (w.heap.size+1) 42 _ (0,0) _ rfl K_w9.out Tryz.underlying42 rfl kR) rfl ⟨U,rfl,⟨kL,Y9,FR.out.2⟩⟩
end Go.Proofs.YtkoocfcnfolkhaaGreatDoor
