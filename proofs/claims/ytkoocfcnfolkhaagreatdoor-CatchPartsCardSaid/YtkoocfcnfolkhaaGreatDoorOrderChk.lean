/- The program checks an order. Conditions: the parts are ints. -/
import Derived.Test.YtkoocfcnfolkhaaGreatDoorSq
import Derived.Test.YtkoocfcnfolkhaaGreatDoorSh
import Derived.Test.YtkoocfcnfolkhaaGreatDoorRows
import Derived.Test.YtkoocfcnfolkhaaGreatDoorP16
set_option linter.unusedVariables false
set_option linter.unusedSimpArgs false
set_option maxHeartbeats 1000000
set_option maxRecDepth 100000
namespace Go.Proofs.YtkoocfcnfolkhaaGreatDoor
open Go.RowKit Go.Mq
def partV(h:Bool)(n lo hi:Int):Bool:=if h then decide (lo<=n)&&decide (n<=hi)else n==0
theorem z0M(h:Bool)(n lo hi:Int)(w:World):Calls Tryz.prog 128 #[.bool h,.int .i64 n,.int .i64 lo,.int .i64 hi] w fun e w'=>e= .returned (.bool (partV h n lo hi))/\Below w.heap.size w w':=by
 unfold partV
 cases h
 ·go_enter Tryz.func128,Tryz.ntmps128
  go_wp2
  go_ret
  exact⟨rfl,kL⟩
 ·by_cases g:lo<=n
  ·by_cases k:n<=hi
   ·go_enter Tryz.func128,Tryz.ntmps128
    go_wp2
    go_ret
    exact⟨by simp[g,k],kL⟩
   ·go_enter Tryz.func128,Tryz.ntmps128
    go_wp2
    go_ret
    exact⟨by simp[g,k],kL⟩
  ·go_enter Tryz.func128,Tryz.ntmps128
   go_wp2
   go_ret
   exact⟨by simp[g]<;>omega,kL⟩
theorem chk_x(op D S N W:Int)(w:World)(h0:0<=op)(h1:op<=31)(h3:¬op=30)(e1:(op==12)=true)(d s n x:Bool)(c:Int)(m:ByteArray)
  (hidx:∀w,(Instr.index 190 (.agg shC) (.int .i64 op)).run Tryz.prog w= .ok (.agg #[.bool d,.bool s,.bool n,.bool x,.int .i64 c,.string m]) w):
  Calls Tryz.prog 93 #[.agg #[.int .i64 op,.int .i64 D,.int .i64 S,.int .i64 N,.int .i64 W]] w fun e w'=>e= .returned (.int .i64 (if(partV d D 0 7&&partV s S 0 7&&partV n N (0) 15&&partV x W 0 65535)=true then 0 else 3))/\Below w.heap.size w w':=by
 have A:=zh z0N
 obtain⟨C1,C2,C3,C4⟩:Hid (∀w,Calls Tryz.prog 128 #[.bool d,.int .i64 D,.int .i64 0,.int .i64 7] w fun e w'=>e= .returned (.bool (partV d D 0 7))/\Below w.heap.size w w')/\
   Hid (∀w,Calls Tryz.prog 128 #[.bool s,.int .i64 S,.int .i64 0,.int .i64 7] w fun e w'=>e= .returned (.bool (partV s S 0 7))/\Below w.heap.size w w')/\
   Hid (∀w,Calls Tryz.prog 128 #[.bool n,.int .i64 N,.int .i64 (0),.int .i64 15] w fun e w'=>e= .returned (.bool (partV n N (0) 15))/\Below w.heap.size w w')/\
   Hid (∀w,Calls Tryz.prog 128 #[.bool x,.int .i64 W,.int .i64 0,.int .i64 65535] w fun e w'=>e= .returned (.bool (partV x W 0 65535))/\Below w.heap.size w w'):=
  ⟨zh (z0M _ _ _ _),zh (z0M _ _ _ _),zh (z0M _ _ _ _),zh (z0M _ _ _ _)⟩
 generalize partV d D 0 7=p1 at*
 generalize partV s S 0 7=p2 at*
 generalize partV n N (0) 15=p3 at*
 generalize partV x W 0 65535=p4 at*
 have h0':¬op<0:=by omega
 have h1':¬31<op:=by omega
 clear h0 h1
 generalize shC=C at*
 go_enter Tryz.func93,Tryz.ntmps93
 go_wp2_with fail
 apply gcut (fun g X=>w.heap.size+1<=g/\Below w.heap.size w X/\Hid (Blk X (w.heap.size) (#[.int .i64 op,.int .i64 D,.int .i64 S,.int .i64 N,.int .i64 W]) 148)/\Hid (Blk X (g) (#[.bool d,.bool s,.bool n,.bool x,.int .i64 c,.string m]) 189))
 ·intro hk
  refine wp_region_held_drew (S:=fun X=>Below w.heap.size w X/\Blk X (w.heap.size) (#[.int .i64 op,.int .i64 D,.int .i64 S,.int .i64 N,.int .i64 W]) 148) kR ⟨kL,(show Blk _ (w.heap.size) (#[.int .i64 op,.int .i64 D,.int .i64 S,.int .i64 N,.int .i64 W]) (148)from kB)⟩ (fun hS=> ?_)
  refine tI 1 rfl (by intro w hSw;have c0:=hSw.2.cell;go_simp;try with_reducible rfl) hS ?_
  try simp only[yA,yB,yC,Act.put,yD,yE,yF]
  refine tI 2 rfl (by intro w hSw;have c0:=hSw.2.cell;go_simp;try with_reducible rfl) hS ?_
  try simp only[yA,yB,yC,Act.put,yD,yE,yF]
  refine wpAnyH_ready (rs:=[0,4]) kR kS ?_
  refine AllReadyH.cons rfl (fun K hK=> ?_) (AllReadyH.cons rfl (fun K hK=> ?_) AllReadyH.nil)
  ·go_simp
   refine(A.out _).mono ?_
   rintro e w5 ⟨rfl,hb_w5⟩
   try go_wp2_with fail
   refine hK.out _ _ ⟨below_then hS.1 hb_w5,hS.2.below hb_w5⟩ (fun hS=> ?_)
   clear hK K
   try simp only[yA,yB,yC,Act.put,yD,yE,yF]
   refine tI 3 rfl (by intro w hSw;have c0:=hSw.2.cell;go_simp;try with_reducible rfl) hS ?_
   try simp only[yA,yB,yC,Act.put,yD,yE,yF]
   refine rH 4 fun K hK=> ?_
   go_simp
   obtain⟨g7,e7⟩:∃g,g=w5.heap.size:=⟨_,rfl⟩
   have hg7:w.heap.size+1<=g7:=by have:=hS.2.lt;omega
   refine hK.out _ _ ⟨below_alloc hS.1 _,hS.2.alloc _⟩ (fun hS=> ?_)
   clear hK K
   have a7:Hid (Blk (w5.alloc (.cells #[.bool false,.bool false,.bool false,.bool false,.int .i64 0,.string ⟨#[]⟩] 189)) g7 #[.bool false,.bool false,.bool false,.bool false,.int .i64 0,.string ⟨#[]⟩] 189):=zh (Blk.new_at _ _ _ _ e7)
   rw[<-e7]
   clear e7
   try simp only[yA,yB,yC,Act.put,yD,yE,yF]
   refine rH 5 fun K hK=> ?_
   rw[if_pos (by rfl)]
   refine wp_store_row 189 (.tmp 3) (.tmp 23) rfl g7 #[.bool d,.bool s,.bool n,.bool x,.int .i64 c,.string m] rfl rfl 189 #[.bool false,.bool false,.bool false,.bool false,.int .i64 0,.string ⟨#[]⟩] a7.out kR rfl (by simp[Value.oneCell']) ?_
   have K7:=zh (setRow_heap _ g7 _ #[.bool d,.bool s,.bool n,.bool x,.int .i64 c,.string m] 189 (0,0) a7.out)
   refine hK.out _ _ ⟨below_put hS.1 (z0d _ g7 _) kO,hS.2.put (z0d _ g7 _) kO⟩ (fun hS=> ?_)
   clear hK K
   try simp only[yA,yB,yC,Act.put,yD,yE,yF]
   refine wpAnyH_done kR ?_ _
   refine pmark (R:=fun X=>Below w.heap.size w X/\Hid (Blk X (w.heap.size) (#[.int .i64 op,.int .i64 D,.int .i64 S,.int .i64 N,.int .i64 W]) 148)/\Hid (Blk X g7 (#[.bool d,.bool s,.bool n,.bool x,.int .i64 c,.string m]) 189)) (F:=fun X=>Exit.then _ _ Exit.normal _ X) ⟨hS.1,zh hS.2,K7⟩ ?_
   clear hS K7 a7
   try clear hb_w5
   try clear w5
   intro W hbW
   exact hk g7 W ⟨hg7,hbW⟩
  ·go_simp
   obtain⟨g7,e7⟩:∃g,g=w.heap.size+1:=⟨_,rfl⟩
   have hg7:w.heap.size+1<=g7:=by omega
   refine hK.out _ _ ⟨below_alloc hS.1 _,hS.2.alloc _⟩ (fun hS=> ?_)
   clear hK K
   refine pmark (R:=fun X=>(Below w.heap.size w X/\Blk X (w.heap.size) (#[.int .i64 op,.int .i64 D,.int .i64 S,.int .i64 N,.int .i64 W]) 148)/\Hid (Blk X (w.heap.size+1) #[.bool false,.bool false,.bool false,.bool false,.int .i64 0,.string ⟨#[]⟩] 189)) (F:=fun X=>wpAnyH _ _ _ _ _ _ _ _ X) ⟨hS,zh kB⟩ ?_
   clear hS
   intro W7 hS
   obtain⟨hS,a7⟩:=hS
   rw[<-e7]at a7⊢
   clear e7
   try simp only[yA,yB,yC,Act.put,yD,yE,yF]
   refine rH 0 fun K hK=> ?_
   go_simp
   refine(A.out _).mono ?_
   rintro e w5 ⟨rfl,hb_w5⟩
   try go_wp2_with fail
   refine hK.out _ _ ⟨below_then hS.1 hb_w5,hS.2.below hb_w5⟩ (fun hS=> ?_)
   replace a7:=zh (a7.out.below hb_w5)
   clear hK K
   try simp only[yA,yB,yC,Act.put,yD,yE,yF]
   refine tI 3 rfl (by intro w hSw;have c0:=hSw.2.cell;go_simp;try with_reducible rfl) hS ?_
   try simp only[yA,yB,yC,Act.put,yD,yE,yF]
   refine rH 5 fun K hK=> ?_
   rw[if_pos (by rfl)]
   refine wp_store_row 189 (.tmp 3) (.tmp 23) rfl g7 #[.bool d,.bool s,.bool n,.bool x,.int .i64 c,.string m] rfl rfl 189 #[.bool false,.bool false,.bool false,.bool false,.int .i64 0,.string ⟨#[]⟩] a7.out kR rfl (by simp[Value.oneCell']) ?_
   have K7:=zh (setRow_heap _ g7 _ #[.bool d,.bool s,.bool n,.bool x,.int .i64 c,.string m] 189 (0,0) a7.out)
   refine hK.out _ _ ⟨below_put hS.1 (z0d _ g7 _) kO,hS.2.put (z0d _ g7 _) kO⟩ (fun hS=> ?_)
   clear hK K
   try simp only[yA,yB,yC,Act.put,yD,yE,yF]
   refine wpAnyH_done kR ?_ _
   refine pmark (R:=fun X=>Below w.heap.size w X/\Hid (Blk X (w.heap.size) (#[.int .i64 op,.int .i64 D,.int .i64 S,.int .i64 N,.int .i64 W]) 148)/\Hid (Blk X g7 (#[.bool d,.bool s,.bool n,.bool x,.int .i64 c,.string m]) 189)) (F:=fun X=>Exit.then _ _ Exit.normal _ X) ⟨hS.1,zh hS.2,K7⟩ ?_
   clear hS K7 a7
   try clear hb_w5
   try clear w5
   intro W hbW
   exact hk g7 W ⟨hg7,hbW⟩
 intro g7 w6 ⟨hg7,hbw6,Kw6_0,Kw6_1⟩
 obtain⟨lw6_0,cw6_0,fw6_0⟩:=Kw6_0.out.use
 obtain⟨lw6_1,cw6_1,fw6_1⟩:=Kw6_1.out.use
 clear hidx A
 have n1:¬w.heap.size=g7:=by omega
 clear h0' h1' h3
 cases p1
 ·skip
  go_wp2_with fail
  refine(C1.out _).mono ?_
  rintro e w11 ⟨rfl,hb11⟩
  go_wp2
  go_ret
  exact⟨by simp,kL⟩
 ·skip
  cases p2
  ·skip
   go_wp2_with fail
   refine(C1.out _).mono ?_
   rintro e w11 ⟨rfl,hb11⟩
   have Kw11_0:Hid (Blk w11 (w.heap.size) #[.int .i64 op,.int .i64 D,.int .i64 S,.int .i64 N,.int .i64 W] 148):=zh kB
   have Kw11_1:Hid (Blk w11 (g7) #[.bool d,.bool s,.bool n,.bool x,.int .i64 c,.string m] 189):=zh kB
   obtain⟨lw11_0,cw11_0,fw11_0⟩:=Kw11_0.out.use
   obtain⟨lw11_1,cw11_1,fw11_1⟩:=Kw11_1.out.use
   go_wp2_with fail
   refine(C2.out _).mono ?_
   rintro e w12 ⟨rfl,hb12⟩
   go_wp2
   go_ret
   exact⟨by simp,kL⟩
  ·skip
   cases p3
   ·skip
    go_wp2_with fail
    refine(C1.out _).mono ?_
    rintro e w11 ⟨rfl,hb11⟩
    have Kw11_0:Hid (Blk w11 (w.heap.size) #[.int .i64 op,.int .i64 D,.int .i64 S,.int .i64 N,.int .i64 W] 148):=zh kB
    have Kw11_1:Hid (Blk w11 (g7) #[.bool d,.bool s,.bool n,.bool x,.int .i64 c,.string m] 189):=zh kB
    obtain⟨lw11_0,cw11_0,fw11_0⟩:=Kw11_0.out.use
    obtain⟨lw11_1,cw11_1,fw11_1⟩:=Kw11_1.out.use
    go_wp2_with fail
    refine(C2.out _).mono ?_
    rintro e w12 ⟨rfl,hb12⟩
    have Kw12_0:Hid (Blk w12 (w.heap.size) #[.int .i64 op,.int .i64 D,.int .i64 S,.int .i64 N,.int .i64 W] 148):=zh kB
    have Kw12_1:Hid (Blk w12 (g7) #[.bool d,.bool s,.bool n,.bool x,.int .i64 c,.string m] 189):=zh kB
    clear Kw11_0 cw11_0 fw11_0 Kw11_1 cw11_1 fw11_1
    obtain⟨lw12_0,cw12_0,fw12_0⟩:=Kw12_0.out.use
    obtain⟨lw12_1,cw12_1,fw12_1⟩:=Kw12_1.out.use
    go_wp2_with fail
    refine(C3.out _).mono ?_
    rintro e w13 ⟨rfl,hb13⟩
    go_wp2
    go_ret
    exact⟨by simp,kL⟩
   ·skip
    cases p4
    ·skip
     go_wp2_with fail
     refine(C1.out _).mono ?_
     rintro e w11 ⟨rfl,hb11⟩
     have Kw11_0:Hid (Blk w11 (w.heap.size) #[.int .i64 op,.int .i64 D,.int .i64 S,.int .i64 N,.int .i64 W] 148):=zh kB
     have Kw11_1:Hid (Blk w11 (g7) #[.bool d,.bool s,.bool n,.bool x,.int .i64 c,.string m] 189):=zh kB
     obtain⟨lw11_0,cw11_0,fw11_0⟩:=Kw11_0.out.use
     obtain⟨lw11_1,cw11_1,fw11_1⟩:=Kw11_1.out.use
     go_wp2_with fail
     refine(C2.out _).mono ?_
     rintro e w12 ⟨rfl,hb12⟩
     have Kw12_0:Hid (Blk w12 (w.heap.size) #[.int .i64 op,.int .i64 D,.int .i64 S,.int .i64 N,.int .i64 W] 148):=zh kB
     have Kw12_1:Hid (Blk w12 (g7) #[.bool d,.bool s,.bool n,.bool x,.int .i64 c,.string m] 189):=zh kB
     clear Kw11_0 cw11_0 fw11_0 Kw11_1 cw11_1 fw11_1
     obtain⟨lw12_0,cw12_0,fw12_0⟩:=Kw12_0.out.use
     obtain⟨lw12_1,cw12_1,fw12_1⟩:=Kw12_1.out.use
     go_wp2_with fail
     refine(C3.out _).mono ?_
     rintro e w13 ⟨rfl,hb13⟩
     have Kw13_0:Hid (Blk w13 (w.heap.size) #[.int .i64 op,.int .i64 D,.int .i64 S,.int .i64 N,.int .i64 W] 148):=zh kB
     have Kw13_1:Hid (Blk w13 (g7) #[.bool d,.bool s,.bool n,.bool x,.int .i64 c,.string m] 189):=zh kB
     clear Kw12_0 cw12_0 fw12_0 Kw12_1 cw12_1 fw12_1
     obtain⟨lw13_0,cw13_0,fw13_0⟩:=Kw13_0.out.use
     obtain⟨lw13_1,cw13_1,fw13_1⟩:=Kw13_1.out.use
     go_wp2_with fail
     refine(C4.out _).mono ?_
     rintro e w14 ⟨rfl,hb14⟩
     go_wp2
     go_ret
     exact⟨by simp,kL⟩
    ·skip
     go_wp2_with fail
     refine(C1.out _).mono ?_
     rintro e w11 ⟨rfl,hb11⟩
     have Kw11_0:Hid (Blk w11 (w.heap.size) #[.int .i64 op,.int .i64 D,.int .i64 S,.int .i64 N,.int .i64 W] 148):=zh kB
     have Kw11_1:Hid (Blk w11 (g7) #[.bool d,.bool s,.bool n,.bool x,.int .i64 c,.string m] 189):=zh kB
     obtain⟨lw11_0,cw11_0,fw11_0⟩:=Kw11_0.out.use
     obtain⟨lw11_1,cw11_1,fw11_1⟩:=Kw11_1.out.use
     go_wp2_with fail
     refine(C2.out _).mono ?_
     rintro e w12 ⟨rfl,hb12⟩
     have Kw12_0:Hid (Blk w12 (w.heap.size) #[.int .i64 op,.int .i64 D,.int .i64 S,.int .i64 N,.int .i64 W] 148):=zh kB
     have Kw12_1:Hid (Blk w12 (g7) #[.bool d,.bool s,.bool n,.bool x,.int .i64 c,.string m] 189):=zh kB
     clear Kw11_0 cw11_0 fw11_0 Kw11_1 cw11_1 fw11_1
     obtain⟨lw12_0,cw12_0,fw12_0⟩:=Kw12_0.out.use
     obtain⟨lw12_1,cw12_1,fw12_1⟩:=Kw12_1.out.use
     go_wp2_with fail
     refine(C3.out _).mono ?_
     rintro e w13 ⟨rfl,hb13⟩
     have Kw13_0:Hid (Blk w13 (w.heap.size) #[.int .i64 op,.int .i64 D,.int .i64 S,.int .i64 N,.int .i64 W] 148):=zh kB
     have Kw13_1:Hid (Blk w13 (g7) #[.bool d,.bool s,.bool n,.bool x,.int .i64 c,.string m] 189):=zh kB
     clear Kw12_0 cw12_0 fw12_0 Kw12_1 cw12_1 fw12_1
     obtain⟨lw13_0,cw13_0,fw13_0⟩:=Kw13_0.out.use
     obtain⟨lw13_1,cw13_1,fw13_1⟩:=Kw13_1.out.use
     go_wp2_with fail
     refine(C4.out _).mono ?_
     rintro e w14 ⟨rfl,hb14⟩
     go_wp2
     go_ret
     exact⟨by simp,kL⟩
theorem chk_y(op D S N W:Int)(w:World)(h0:0<=op)(h1:op<=31)(h3:¬op=30)(e1:(op==12)=false)(e2:(op==13)=true)(d s n x:Bool)(c:Int)(m:ByteArray)
  (hidx:∀w,(Instr.index 190 (.agg shC) (.int .i64 op)).run Tryz.prog w= .ok (.agg #[.bool d,.bool s,.bool n,.bool x,.int .i64 c,.string m]) w):
  Calls Tryz.prog 93 #[.agg #[.int .i64 op,.int .i64 D,.int .i64 S,.int .i64 N,.int .i64 W]] w fun e w'=>e= .returned (.int .i64 (if(partV d D 0 7&&partV s S 0 7&&partV n N (0) 15&&partV x W 0 65535)=true then 0 else 3))/\Below w.heap.size w w':=by
 have A:=zh z0N
 obtain⟨C1,C2,C3,C4⟩:Hid (∀w,Calls Tryz.prog 128 #[.bool d,.int .i64 D,.int .i64 0,.int .i64 7] w fun e w'=>e= .returned (.bool (partV d D 0 7))/\Below w.heap.size w w')/\
   Hid (∀w,Calls Tryz.prog 128 #[.bool s,.int .i64 S,.int .i64 0,.int .i64 7] w fun e w'=>e= .returned (.bool (partV s S 0 7))/\Below w.heap.size w w')/\
   Hid (∀w,Calls Tryz.prog 128 #[.bool n,.int .i64 N,.int .i64 (0),.int .i64 15] w fun e w'=>e= .returned (.bool (partV n N (0) 15))/\Below w.heap.size w w')/\
   Hid (∀w,Calls Tryz.prog 128 #[.bool x,.int .i64 W,.int .i64 0,.int .i64 65535] w fun e w'=>e= .returned (.bool (partV x W 0 65535))/\Below w.heap.size w w'):=
  ⟨zh (z0M _ _ _ _),zh (z0M _ _ _ _),zh (z0M _ _ _ _),zh (z0M _ _ _ _)⟩
 generalize partV d D 0 7=p1 at*
 generalize partV s S 0 7=p2 at*
 generalize partV n N (0) 15=p3 at*
 generalize partV x W 0 65535=p4 at*
 have h0':¬op<0:=by omega
 have h1':¬31<op:=by omega
 clear h0 h1
 generalize shC=C at*
 go_enter Tryz.func93,Tryz.ntmps93
 go_wp2_with fail
 apply gcut (fun g X=>w.heap.size+1<=g/\Below w.heap.size w X/\Hid (Blk X (w.heap.size) (#[.int .i64 op,.int .i64 D,.int .i64 S,.int .i64 N,.int .i64 W]) 148)/\Hid (Blk X (g) (#[.bool d,.bool s,.bool n,.bool x,.int .i64 c,.string m]) 189))
 ·intro hk
  refine wp_region_held_drew (S:=fun X=>Below w.heap.size w X/\Blk X (w.heap.size) (#[.int .i64 op,.int .i64 D,.int .i64 S,.int .i64 N,.int .i64 W]) 148) kR ⟨kL,(show Blk _ (w.heap.size) (#[.int .i64 op,.int .i64 D,.int .i64 S,.int .i64 N,.int .i64 W]) (148)from kB)⟩ (fun hS=> ?_)
  refine tI 1 rfl (by intro w hSw;have c0:=hSw.2.cell;go_simp;try with_reducible rfl) hS ?_
  try simp only[yA,yB,yC,Act.put,yD,yE,yF]
  refine tI 2 rfl (by intro w hSw;have c0:=hSw.2.cell;go_simp;try with_reducible rfl) hS ?_
  try simp only[yA,yB,yC,Act.put,yD,yE,yF]
  refine wpAnyH_ready (rs:=[0,4]) kR kS ?_
  refine AllReadyH.cons rfl (fun K hK=> ?_) (AllReadyH.cons rfl (fun K hK=> ?_) AllReadyH.nil)
  ·go_simp
   refine(A.out _).mono ?_
   rintro e w5 ⟨rfl,hb_w5⟩
   try go_wp2_with fail
   refine hK.out _ _ ⟨below_then hS.1 hb_w5,hS.2.below hb_w5⟩ (fun hS=> ?_)
   clear hK K
   try simp only[yA,yB,yC,Act.put,yD,yE,yF]
   refine tI 3 rfl (by intro w hSw;have c0:=hSw.2.cell;go_simp;try with_reducible rfl) hS ?_
   try simp only[yA,yB,yC,Act.put,yD,yE,yF]
   refine rH 4 fun K hK=> ?_
   go_simp
   obtain⟨g7,e7⟩:∃g,g=w5.heap.size:=⟨_,rfl⟩
   have hg7:w.heap.size+1<=g7:=by have:=hS.2.lt;omega
   refine hK.out _ _ ⟨below_alloc hS.1 _,hS.2.alloc _⟩ (fun hS=> ?_)
   clear hK K
   have a7:Hid (Blk (w5.alloc (.cells #[.bool false,.bool false,.bool false,.bool false,.int .i64 0,.string ⟨#[]⟩] 189)) g7 #[.bool false,.bool false,.bool false,.bool false,.int .i64 0,.string ⟨#[]⟩] 189):=zh (Blk.new_at _ _ _ _ e7)
   rw[<-e7]
   clear e7
   try simp only[yA,yB,yC,Act.put,yD,yE,yF]
   refine rH 5 fun K hK=> ?_
   rw[if_pos (by rfl)]
   refine wp_store_row 189 (.tmp 3) (.tmp 23) rfl g7 #[.bool d,.bool s,.bool n,.bool x,.int .i64 c,.string m] rfl rfl 189 #[.bool false,.bool false,.bool false,.bool false,.int .i64 0,.string ⟨#[]⟩] a7.out kR rfl (by simp[Value.oneCell']) ?_
   have K7:=zh (setRow_heap _ g7 _ #[.bool d,.bool s,.bool n,.bool x,.int .i64 c,.string m] 189 (0,0) a7.out)
   refine hK.out _ _ ⟨below_put hS.1 (z0d _ g7 _) kO,hS.2.put (z0d _ g7 _) kO⟩ (fun hS=> ?_)
   clear hK K
   try simp only[yA,yB,yC,Act.put,yD,yE,yF]
   refine wpAnyH_done kR ?_ _
   refine pmark (R:=fun X=>Below w.heap.size w X/\Hid (Blk X (w.heap.size) (#[.int .i64 op,.int .i64 D,.int .i64 S,.int .i64 N,.int .i64 W]) 148)/\Hid (Blk X g7 (#[.bool d,.bool s,.bool n,.bool x,.int .i64 c,.string m]) 189)) (F:=fun X=>Exit.then _ _ Exit.normal _ X) ⟨hS.1,zh hS.2,K7⟩ ?_
   clear hS K7 a7
   try clear hb_w5
   try clear w5
   intro W hbW
   exact hk g7 W ⟨hg7,hbW⟩
  ·go_simp
   obtain⟨g7,e7⟩:∃g,g=w.heap.size+1:=⟨_,rfl⟩
   have hg7:w.heap.size+1<=g7:=by omega
   refine hK.out _ _ ⟨below_alloc hS.1 _,hS.2.alloc _⟩ (fun hS=> ?_)
   clear hK K
   refine pmark (R:=fun X=>(Below w.heap.size w X/\Blk X (w.heap.size) (#[.int .i64 op,.int .i64 D,.int .i64 S,.int .i64 N,.int .i64 W]) 148)/\Hid (Blk X (w.heap.size+1) #[.bool false,.bool false,.bool false,.bool false,.int .i64 0,.string ⟨#[]⟩] 189)) (F:=fun X=>wpAnyH _ _ _ _ _ _ _ _ X) ⟨hS,zh kB⟩ ?_
   clear hS
   intro W7 hS
   obtain⟨hS,a7⟩:=hS
   rw[<-e7]at a7⊢
   clear e7
   try simp only[yA,yB,yC,Act.put,yD,yE,yF]
   refine rH 0 fun K hK=> ?_
   go_simp
   refine(A.out _).mono ?_
   rintro e w5 ⟨rfl,hb_w5⟩
   try go_wp2_with fail
   refine hK.out _ _ ⟨below_then hS.1 hb_w5,hS.2.below hb_w5⟩ (fun hS=> ?_)
   replace a7:=zh (a7.out.below hb_w5)
   clear hK K
   try simp only[yA,yB,yC,Act.put,yD,yE,yF]
   refine tI 3 rfl (by intro w hSw;have c0:=hSw.2.cell;go_simp;try with_reducible rfl) hS ?_
   try simp only[yA,yB,yC,Act.put,yD,yE,yF]
   refine rH 5 fun K hK=> ?_
   rw[if_pos (by rfl)]
   refine wp_store_row 189 (.tmp 3) (.tmp 23) rfl g7 #[.bool d,.bool s,.bool n,.bool x,.int .i64 c,.string m] rfl rfl 189 #[.bool false,.bool false,.bool false,.bool false,.int .i64 0,.string ⟨#[]⟩] a7.out kR rfl (by simp[Value.oneCell']) ?_
   have K7:=zh (setRow_heap _ g7 _ #[.bool d,.bool s,.bool n,.bool x,.int .i64 c,.string m] 189 (0,0) a7.out)
   refine hK.out _ _ ⟨below_put hS.1 (z0d _ g7 _) kO,hS.2.put (z0d _ g7 _) kO⟩ (fun hS=> ?_)
   clear hK K
   try simp only[yA,yB,yC,Act.put,yD,yE,yF]
   refine wpAnyH_done kR ?_ _
   refine pmark (R:=fun X=>Below w.heap.size w X/\Hid (Blk X (w.heap.size) (#[.int .i64 op,.int .i64 D,.int .i64 S,.int .i64 N,.int .i64 W]) 148)/\Hid (Blk X g7 (#[.bool d,.bool s,.bool n,.bool x,.int .i64 c,.string m]) 189)) (F:=fun X=>Exit.then _ _ Exit.normal _ X) ⟨hS.1,zh hS.2,K7⟩ ?_
   clear hS K7 a7
   try clear hb_w5
   try clear w5
   intro W hbW
   exact hk g7 W ⟨hg7,hbW⟩
 intro g7 w6 ⟨hg7,hbw6,Kw6_0,Kw6_1⟩
 obtain⟨lw6_0,cw6_0,fw6_0⟩:=Kw6_0.out.use
 obtain⟨lw6_1,cw6_1,fw6_1⟩:=Kw6_1.out.use
 clear hidx A
 have n1:¬w.heap.size=g7:=by omega
 clear h0' h1' h3
 cases p1
 ·skip
  go_wp2_with fail
  refine(C1.out _).mono ?_
  rintro e w11 ⟨rfl,hb11⟩
  go_wp2
  go_ret
  exact⟨by simp,kL⟩
 ·skip
  cases p2
  ·skip
   go_wp2_with fail
   refine(C1.out _).mono ?_
   rintro e w11 ⟨rfl,hb11⟩
   have Kw11_0:Hid (Blk w11 (w.heap.size) #[.int .i64 op,.int .i64 D,.int .i64 S,.int .i64 N,.int .i64 W] 148):=zh kB
   have Kw11_1:Hid (Blk w11 (g7) #[.bool d,.bool s,.bool n,.bool x,.int .i64 c,.string m] 189):=zh kB
   obtain⟨lw11_0,cw11_0,fw11_0⟩:=Kw11_0.out.use
   obtain⟨lw11_1,cw11_1,fw11_1⟩:=Kw11_1.out.use
   go_wp2_with fail
   refine(C2.out _).mono ?_
   rintro e w12 ⟨rfl,hb12⟩
   go_wp2
   go_ret
   exact⟨by simp,kL⟩
  ·skip
   cases p3
   ·skip
    go_wp2_with fail
    refine(C1.out _).mono ?_
    rintro e w11 ⟨rfl,hb11⟩
    have Kw11_0:Hid (Blk w11 (w.heap.size) #[.int .i64 op,.int .i64 D,.int .i64 S,.int .i64 N,.int .i64 W] 148):=zh kB
    have Kw11_1:Hid (Blk w11 (g7) #[.bool d,.bool s,.bool n,.bool x,.int .i64 c,.string m] 189):=zh kB
    obtain⟨lw11_0,cw11_0,fw11_0⟩:=Kw11_0.out.use
    obtain⟨lw11_1,cw11_1,fw11_1⟩:=Kw11_1.out.use
    go_wp2_with fail
    refine(C2.out _).mono ?_
    rintro e w12 ⟨rfl,hb12⟩
    have Kw12_0:Hid (Blk w12 (w.heap.size) #[.int .i64 op,.int .i64 D,.int .i64 S,.int .i64 N,.int .i64 W] 148):=zh kB
    have Kw12_1:Hid (Blk w12 (g7) #[.bool d,.bool s,.bool n,.bool x,.int .i64 c,.string m] 189):=zh kB
    clear Kw11_0 cw11_0 fw11_0 Kw11_1 cw11_1 fw11_1
    obtain⟨lw12_0,cw12_0,fw12_0⟩:=Kw12_0.out.use
    obtain⟨lw12_1,cw12_1,fw12_1⟩:=Kw12_1.out.use
    go_wp2_with fail
    refine(C3.out _).mono ?_
    rintro e w13 ⟨rfl,hb13⟩
    go_wp2
    go_ret
    exact⟨by simp,kL⟩
   ·skip
    cases p4
    ·skip
     go_wp2_with fail
     refine(C1.out _).mono ?_
     rintro e w11 ⟨rfl,hb11⟩
     have Kw11_0:Hid (Blk w11 (w.heap.size) #[.int .i64 op,.int .i64 D,.int .i64 S,.int .i64 N,.int .i64 W] 148):=zh kB
     have Kw11_1:Hid (Blk w11 (g7) #[.bool d,.bool s,.bool n,.bool x,.int .i64 c,.string m] 189):=zh kB
     obtain⟨lw11_0,cw11_0,fw11_0⟩:=Kw11_0.out.use
     obtain⟨lw11_1,cw11_1,fw11_1⟩:=Kw11_1.out.use
     go_wp2_with fail
     refine(C2.out _).mono ?_
     rintro e w12 ⟨rfl,hb12⟩
     have Kw12_0:Hid (Blk w12 (w.heap.size) #[.int .i64 op,.int .i64 D,.int .i64 S,.int .i64 N,.int .i64 W] 148):=zh kB
     have Kw12_1:Hid (Blk w12 (g7) #[.bool d,.bool s,.bool n,.bool x,.int .i64 c,.string m] 189):=zh kB
     clear Kw11_0 cw11_0 fw11_0 Kw11_1 cw11_1 fw11_1
     obtain⟨lw12_0,cw12_0,fw12_0⟩:=Kw12_0.out.use
     obtain⟨lw12_1,cw12_1,fw12_1⟩:=Kw12_1.out.use
     go_wp2_with fail
     refine(C3.out _).mono ?_
     rintro e w13 ⟨rfl,hb13⟩
     have Kw13_0:Hid (Blk w13 (w.heap.size) #[.int .i64 op,.int .i64 D,.int .i64 S,.int .i64 N,.int .i64 W] 148):=zh kB
     have Kw13_1:Hid (Blk w13 (g7) #[.bool d,.bool s,.bool n,.bool x,.int .i64 c,.string m] 189):=zh kB
     clear Kw12_0 cw12_0 fw12_0 Kw12_1 cw12_1 fw12_1
     obtain⟨lw13_0,cw13_0,fw13_0⟩:=Kw13_0.out.use
     obtain⟨lw13_1,cw13_1,fw13_1⟩:=Kw13_1.out.use
     go_wp2_with fail
     refine(C4.out _).mono ?_
     rintro e w14 ⟨rfl,hb14⟩
     go_wp2
     go_ret
     exact⟨by simp,kL⟩
    ·skip
     go_wp2_with fail
     refine(C1.out _).mono ?_
     rintro e w11 ⟨rfl,hb11⟩
     have Kw11_0:Hid (Blk w11 (w.heap.size) #[.int .i64 op,.int .i64 D,.int .i64 S,.int .i64 N,.int .i64 W] 148):=zh kB
     have Kw11_1:Hid (Blk w11 (g7) #[.bool d,.bool s,.bool n,.bool x,.int .i64 c,.string m] 189):=zh kB
     obtain⟨lw11_0,cw11_0,fw11_0⟩:=Kw11_0.out.use
     obtain⟨lw11_1,cw11_1,fw11_1⟩:=Kw11_1.out.use
     go_wp2_with fail
     refine(C2.out _).mono ?_
     rintro e w12 ⟨rfl,hb12⟩
     have Kw12_0:Hid (Blk w12 (w.heap.size) #[.int .i64 op,.int .i64 D,.int .i64 S,.int .i64 N,.int .i64 W] 148):=zh kB
     have Kw12_1:Hid (Blk w12 (g7) #[.bool d,.bool s,.bool n,.bool x,.int .i64 c,.string m] 189):=zh kB
     clear Kw11_0 cw11_0 fw11_0 Kw11_1 cw11_1 fw11_1
     obtain⟨lw12_0,cw12_0,fw12_0⟩:=Kw12_0.out.use
     obtain⟨lw12_1,cw12_1,fw12_1⟩:=Kw12_1.out.use
     go_wp2_with fail
     refine(C3.out _).mono ?_
     rintro e w13 ⟨rfl,hb13⟩
     have Kw13_0:Hid (Blk w13 (w.heap.size) #[.int .i64 op,.int .i64 D,.int .i64 S,.int .i64 N,.int .i64 W] 148):=zh kB
     have Kw13_1:Hid (Blk w13 (g7) #[.bool d,.bool s,.bool n,.bool x,.int .i64 c,.string m] 189):=zh kB
     clear Kw12_0 cw12_0 fw12_0 Kw12_1 cw12_1 fw12_1
     obtain⟨lw13_0,cw13_0,fw13_0⟩:=Kw13_0.out.use
     obtain⟨lw13_1,cw13_1,fw13_1⟩:=Kw13_1.out.use
     go_wp2_with fail
     refine(C4.out _).mono ?_
     rintro e w14 ⟨rfl,hb14⟩
     go_wp2
     go_ret
     exact⟨by simp,kL⟩
theorem chk_z(op D S N W:Int)(w:World)(h0:0<=op)(h1:op<=31)(h3:¬op=30)(e1:(op==12)=false)(e2:(op==13)=false)(d s n x:Bool)(c:Int)(m:ByteArray)
  (hidx:∀w,(Instr.index 190 (.agg shC) (.int .i64 op)).run Tryz.prog w= .ok (.agg #[.bool d,.bool s,.bool n,.bool x,.int .i64 c,.string m]) w):
  Calls Tryz.prog 93 #[.agg #[.int .i64 op,.int .i64 D,.int .i64 S,.int .i64 N,.int .i64 W]] w fun e w'=>e= .returned (.int .i64 (if(partV d D 0 7&&partV s S 0 7&&partV n N (-16) 15&&partV x W 0 65535)=true then 0 else 3))/\Below w.heap.size w w':=by
 have A:=zh z0N
 obtain⟨C1,C2,C3,C4⟩:Hid (∀w,Calls Tryz.prog 128 #[.bool d,.int .i64 D,.int .i64 0,.int .i64 7] w fun e w'=>e= .returned (.bool (partV d D 0 7))/\Below w.heap.size w w')/\
   Hid (∀w,Calls Tryz.prog 128 #[.bool s,.int .i64 S,.int .i64 0,.int .i64 7] w fun e w'=>e= .returned (.bool (partV s S 0 7))/\Below w.heap.size w w')/\
   Hid (∀w,Calls Tryz.prog 128 #[.bool n,.int .i64 N,.int .i64 (-16),.int .i64 15] w fun e w'=>e= .returned (.bool (partV n N (-16) 15))/\Below w.heap.size w w')/\
   Hid (∀w,Calls Tryz.prog 128 #[.bool x,.int .i64 W,.int .i64 0,.int .i64 65535] w fun e w'=>e= .returned (.bool (partV x W 0 65535))/\Below w.heap.size w w'):=
  ⟨zh (z0M _ _ _ _),zh (z0M _ _ _ _),zh (z0M _ _ _ _),zh (z0M _ _ _ _)⟩
 generalize partV d D 0 7=p1 at*
 generalize partV s S 0 7=p2 at*
 generalize partV n N (-16) 15=p3 at*
 generalize partV x W 0 65535=p4 at*
 have h0':¬op<0:=by omega
 have h1':¬31<op:=by omega
 clear h0 h1
 generalize shC=C at*
 go_enter Tryz.func93,Tryz.ntmps93
 go_wp2_with fail
 apply gcut (fun g X=>w.heap.size+1<=g/\Below w.heap.size w X/\Hid (Blk X (w.heap.size) (#[.int .i64 op,.int .i64 D,.int .i64 S,.int .i64 N,.int .i64 W]) 148)/\Hid (Blk X (g) (#[.bool d,.bool s,.bool n,.bool x,.int .i64 c,.string m]) 189))
 ·intro hk
  refine wp_region_held_drew (S:=fun X=>Below w.heap.size w X/\Blk X (w.heap.size) (#[.int .i64 op,.int .i64 D,.int .i64 S,.int .i64 N,.int .i64 W]) 148) kR ⟨kL,(show Blk _ (w.heap.size) (#[.int .i64 op,.int .i64 D,.int .i64 S,.int .i64 N,.int .i64 W]) (148)from kB)⟩ (fun hS=> ?_)
  refine tI 1 rfl (by intro w hSw;have c0:=hSw.2.cell;go_simp;try with_reducible rfl) hS ?_
  try simp only[yA,yB,yC,Act.put,yD,yE,yF]
  refine tI 2 rfl (by intro w hSw;have c0:=hSw.2.cell;go_simp;try with_reducible rfl) hS ?_
  try simp only[yA,yB,yC,Act.put,yD,yE,yF]
  refine wpAnyH_ready (rs:=[0,4]) kR kS ?_
  refine AllReadyH.cons rfl (fun K hK=> ?_) (AllReadyH.cons rfl (fun K hK=> ?_) AllReadyH.nil)
  ·go_simp
   refine(A.out _).mono ?_
   rintro e w5 ⟨rfl,hb_w5⟩
   try go_wp2_with fail
   refine hK.out _ _ ⟨below_then hS.1 hb_w5,hS.2.below hb_w5⟩ (fun hS=> ?_)
   clear hK K
   try simp only[yA,yB,yC,Act.put,yD,yE,yF]
   refine tI 3 rfl (by intro w hSw;have c0:=hSw.2.cell;go_simp;try with_reducible rfl) hS ?_
   try simp only[yA,yB,yC,Act.put,yD,yE,yF]
   refine rH 4 fun K hK=> ?_
   go_simp
   obtain⟨g7,e7⟩:∃g,g=w5.heap.size:=⟨_,rfl⟩
   have hg7:w.heap.size+1<=g7:=by have:=hS.2.lt;omega
   refine hK.out _ _ ⟨below_alloc hS.1 _,hS.2.alloc _⟩ (fun hS=> ?_)
   clear hK K
   have a7:Hid (Blk (w5.alloc (.cells #[.bool false,.bool false,.bool false,.bool false,.int .i64 0,.string ⟨#[]⟩] 189)) g7 #[.bool false,.bool false,.bool false,.bool false,.int .i64 0,.string ⟨#[]⟩] 189):=zh (Blk.new_at _ _ _ _ e7)
   rw[<-e7]
   clear e7
   try simp only[yA,yB,yC,Act.put,yD,yE,yF]
   refine rH 5 fun K hK=> ?_
   rw[if_pos (by rfl)]
   refine wp_store_row 189 (.tmp 3) (.tmp 23) rfl g7 #[.bool d,.bool s,.bool n,.bool x,.int .i64 c,.string m] rfl rfl 189 #[.bool false,.bool false,.bool false,.bool false,.int .i64 0,.string ⟨#[]⟩] a7.out kR rfl (by simp[Value.oneCell']) ?_
   have K7:=zh (setRow_heap _ g7 _ #[.bool d,.bool s,.bool n,.bool x,.int .i64 c,.string m] 189 (0,0) a7.out)
   refine hK.out _ _ ⟨below_put hS.1 (z0d _ g7 _) kO,hS.2.put (z0d _ g7 _) kO⟩ (fun hS=> ?_)
   clear hK K
   try simp only[yA,yB,yC,Act.put,yD,yE,yF]
   refine wpAnyH_done kR ?_ _
   refine pmark (R:=fun X=>Below w.heap.size w X/\Hid (Blk X (w.heap.size) (#[.int .i64 op,.int .i64 D,.int .i64 S,.int .i64 N,.int .i64 W]) 148)/\Hid (Blk X g7 (#[.bool d,.bool s,.bool n,.bool x,.int .i64 c,.string m]) 189)) (F:=fun X=>Exit.then _ _ Exit.normal _ X) ⟨hS.1,zh hS.2,K7⟩ ?_
   clear hS K7 a7
   try clear hb_w5
   try clear w5
   intro W hbW
   exact hk g7 W ⟨hg7,hbW⟩
  ·go_simp
   obtain⟨g7,e7⟩:∃g,g=w.heap.size+1:=⟨_,rfl⟩
   have hg7:w.heap.size+1<=g7:=by omega
   refine hK.out _ _ ⟨below_alloc hS.1 _,hS.2.alloc _⟩ (fun hS=> ?_)
   clear hK K
   refine pmark (R:=fun X=>(Below w.heap.size w X/\Blk X (w.heap.size) (#[.int .i64 op,.int .i64 D,.int .i64 S,.int .i64 N,.int .i64 W]) 148)/\Hid (Blk X (w.heap.size+1) #[.bool false,.bool false,.bool false,.bool false,.int .i64 0,.string ⟨#[]⟩] 189)) (F:=fun X=>wpAnyH _ _ _ _ _ _ _ _ X) ⟨hS,zh kB⟩ ?_
   clear hS
   intro W7 hS
   obtain⟨hS,a7⟩:=hS
   rw[<-e7]at a7⊢
   clear e7
   try simp only[yA,yB,yC,Act.put,yD,yE,yF]
   refine rH 0 fun K hK=> ?_
   go_simp
   refine(A.out _).mono ?_
   rintro e w5 ⟨rfl,hb_w5⟩
   try go_wp2_with fail
   refine hK.out _ _ ⟨below_then hS.1 hb_w5,hS.2.below hb_w5⟩ (fun hS=> ?_)
   replace a7:=zh (a7.out.below hb_w5)
   clear hK K
   try simp only[yA,yB,yC,Act.put,yD,yE,yF]
   refine tI 3 rfl (by intro w hSw;have c0:=hSw.2.cell;go_simp;try with_reducible rfl) hS ?_
   try simp only[yA,yB,yC,Act.put,yD,yE,yF]
   refine rH 5 fun K hK=> ?_
   rw[if_pos (by rfl)]
   refine wp_store_row 189 (.tmp 3) (.tmp 23) rfl g7 #[.bool d,.bool s,.bool n,.bool x,.int .i64 c,.string m] rfl rfl 189 #[.bool false,.bool false,.bool false,.bool false,.int .i64 0,.string ⟨#[]⟩] a7.out kR rfl (by simp[Value.oneCell']) ?_
   have K7:=zh (setRow_heap _ g7 _ #[.bool d,.bool s,.bool n,.bool x,.int .i64 c,.string m] 189 (0,0) a7.out)
   refine hK.out _ _ ⟨below_put hS.1 (z0d _ g7 _) kO,hS.2.put (z0d _ g7 _) kO⟩ (fun hS=> ?_)
   clear hK K
   try simp only[yA,yB,yC,Act.put,yD,yE,yF]
   refine wpAnyH_done kR ?_ _
   refine pmark (R:=fun X=>Below w.heap.size w X/\Hid (Blk X (w.heap.size) (#[.int .i64 op,.int .i64 D,.int .i64 S,.int .i64 N,.int .i64 W]) 148)/\Hid (Blk X g7 (#[.bool d,.bool s,.bool n,.bool x,.int .i64 c,.string m]) 189)) (F:=fun X=>Exit.then _ _ Exit.normal _ X) ⟨hS.1,zh hS.2,K7⟩ ?_
   clear hS K7 a7
   try clear hb_w5
   try clear w5
   intro W hbW
   exact hk g7 W ⟨hg7,hbW⟩
 intro g7 w6 ⟨hg7,hbw6,Kw6_0,Kw6_1⟩
 obtain⟨lw6_0,cw6_0,fw6_0⟩:=Kw6_0.out.use
 obtain⟨lw6_1,cw6_1,fw6_1⟩:=Kw6_1.out.use
 clear hidx A
 have n1:¬w.heap.size=g7:=by omega
 clear h0' h1' h3
 cases p1
 ·skip
  go_wp2_with fail
  refine(C1.out _).mono ?_
  rintro e w11 ⟨rfl,hb11⟩
  go_wp2
  go_ret
  exact⟨by simp,kL⟩
 ·skip
  cases p2
  ·skip
   go_wp2_with fail
   refine(C1.out _).mono ?_
   rintro e w11 ⟨rfl,hb11⟩
   have Kw11_0:Hid (Blk w11 (w.heap.size) #[.int .i64 op,.int .i64 D,.int .i64 S,.int .i64 N,.int .i64 W] 148):=zh kB
   have Kw11_1:Hid (Blk w11 (g7) #[.bool d,.bool s,.bool n,.bool x,.int .i64 c,.string m] 189):=zh kB
   obtain⟨lw11_0,cw11_0,fw11_0⟩:=Kw11_0.out.use
   obtain⟨lw11_1,cw11_1,fw11_1⟩:=Kw11_1.out.use
   go_wp2_with fail
   refine(C2.out _).mono ?_
   rintro e w12 ⟨rfl,hb12⟩
   go_wp2
   go_ret
   exact⟨by simp,kL⟩
  ·skip
   cases p3
   ·skip
    go_wp2_with fail
    refine(C1.out _).mono ?_
    rintro e w11 ⟨rfl,hb11⟩
    have Kw11_0:Hid (Blk w11 (w.heap.size) #[.int .i64 op,.int .i64 D,.int .i64 S,.int .i64 N,.int .i64 W] 148):=zh kB
    have Kw11_1:Hid (Blk w11 (g7) #[.bool d,.bool s,.bool n,.bool x,.int .i64 c,.string m] 189):=zh kB
    obtain⟨lw11_0,cw11_0,fw11_0⟩:=Kw11_0.out.use
    obtain⟨lw11_1,cw11_1,fw11_1⟩:=Kw11_1.out.use
    go_wp2_with fail
    refine(C2.out _).mono ?_
    rintro e w12 ⟨rfl,hb12⟩
    have Kw12_0:Hid (Blk w12 (w.heap.size) #[.int .i64 op,.int .i64 D,.int .i64 S,.int .i64 N,.int .i64 W] 148):=zh kB
    have Kw12_1:Hid (Blk w12 (g7) #[.bool d,.bool s,.bool n,.bool x,.int .i64 c,.string m] 189):=zh kB
    clear Kw11_0 cw11_0 fw11_0 Kw11_1 cw11_1 fw11_1
    obtain⟨lw12_0,cw12_0,fw12_0⟩:=Kw12_0.out.use
    obtain⟨lw12_1,cw12_1,fw12_1⟩:=Kw12_1.out.use
    go_wp2_with fail
    refine(C3.out _).mono ?_
    rintro e w13 ⟨rfl,hb13⟩
    go_wp2
    go_ret
    exact⟨by simp,kL⟩
   ·skip
    cases p4
    ·skip
     go_wp2_with fail
     refine(C1.out _).mono ?_
     rintro e w11 ⟨rfl,hb11⟩
     have Kw11_0:Hid (Blk w11 (w.heap.size) #[.int .i64 op,.int .i64 D,.int .i64 S,.int .i64 N,.int .i64 W] 148):=zh kB
     have Kw11_1:Hid (Blk w11 (g7) #[.bool d,.bool s,.bool n,.bool x,.int .i64 c,.string m] 189):=zh kB
     obtain⟨lw11_0,cw11_0,fw11_0⟩:=Kw11_0.out.use
     obtain⟨lw11_1,cw11_1,fw11_1⟩:=Kw11_1.out.use
     go_wp2_with fail
     refine(C2.out _).mono ?_
     rintro e w12 ⟨rfl,hb12⟩
     have Kw12_0:Hid (Blk w12 (w.heap.size) #[.int .i64 op,.int .i64 D,.int .i64 S,.int .i64 N,.int .i64 W] 148):=zh kB
     have Kw12_1:Hid (Blk w12 (g7) #[.bool d,.bool s,.bool n,.bool x,.int .i64 c,.string m] 189):=zh kB
     clear Kw11_0 cw11_0 fw11_0 Kw11_1 cw11_1 fw11_1
     obtain⟨lw12_0,cw12_0,fw12_0⟩:=Kw12_0.out.use
     obtain⟨lw12_1,cw12_1,fw12_1⟩:=Kw12_1.out.use
     go_wp2_with fail
     refine(C3.out _).mono ?_
     rintro e w13 ⟨rfl,hb13⟩
     have Kw13_0:Hid (Blk w13 (w.heap.size) #[.int .i64 op,.int .i64 D,.int .i64 S,.int .i64 N,.int .i64 W] 148):=zh kB
     have Kw13_1:Hid (Blk w13 (g7) #[.bool d,.bool s,.bool n,.bool x,.int .i64 c,.string m] 189):=zh kB
     clear Kw12_0 cw12_0 fw12_0 Kw12_1 cw12_1 fw12_1
     obtain⟨lw13_0,cw13_0,fw13_0⟩:=Kw13_0.out.use
     obtain⟨lw13_1,cw13_1,fw13_1⟩:=Kw13_1.out.use
     go_wp2_with fail
     refine(C4.out _).mono ?_
     rintro e w14 ⟨rfl,hb14⟩
     go_wp2
     go_ret
     exact⟨by simp,kL⟩
    ·skip
     go_wp2_with fail
     refine(C1.out _).mono ?_
     rintro e w11 ⟨rfl,hb11⟩
     have Kw11_0:Hid (Blk w11 (w.heap.size) #[.int .i64 op,.int .i64 D,.int .i64 S,.int .i64 N,.int .i64 W] 148):=zh kB
     have Kw11_1:Hid (Blk w11 (g7) #[.bool d,.bool s,.bool n,.bool x,.int .i64 c,.string m] 189):=zh kB
     obtain⟨lw11_0,cw11_0,fw11_0⟩:=Kw11_0.out.use
     obtain⟨lw11_1,cw11_1,fw11_1⟩:=Kw11_1.out.use
     go_wp2_with fail
     refine(C2.out _).mono ?_
     rintro e w12 ⟨rfl,hb12⟩
     have Kw12_0:Hid (Blk w12 (w.heap.size) #[.int .i64 op,.int .i64 D,.int .i64 S,.int .i64 N,.int .i64 W] 148):=zh kB
     have Kw12_1:Hid (Blk w12 (g7) #[.bool d,.bool s,.bool n,.bool x,.int .i64 c,.string m] 189):=zh kB
     clear Kw11_0 cw11_0 fw11_0 Kw11_1 cw11_1 fw11_1
     obtain⟨lw12_0,cw12_0,fw12_0⟩:=Kw12_0.out.use
     obtain⟨lw12_1,cw12_1,fw12_1⟩:=Kw12_1.out.use
     go_wp2_with fail
     refine(C3.out _).mono ?_
     rintro e w13 ⟨rfl,hb13⟩
     have Kw13_0:Hid (Blk w13 (w.heap.size) #[.int .i64 op,.int .i64 D,.int .i64 S,.int .i64 N,.int .i64 W] 148):=zh kB
     have Kw13_1:Hid (Blk w13 (g7) #[.bool d,.bool s,.bool n,.bool x,.int .i64 c,.string m] 189):=zh kB
     clear Kw12_0 cw12_0 fw12_0 Kw12_1 cw12_1 fw12_1
     obtain⟨lw13_0,cw13_0,fw13_0⟩:=Kw13_0.out.use
     obtain⟨lw13_1,cw13_1,fw13_1⟩:=Kw13_1.out.use
     go_wp2_with fail
     refine(C4.out _).mono ?_
     rintro e w14 ⟨rfl,hb14⟩
     go_wp2
     go_ret
     exact⟨by simp,kL⟩
end Go.Proofs.YtkoocfcnfolkhaaGreatDoor
