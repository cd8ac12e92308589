/- The row of TapeCounts, and its card: for every input the law answers true, and each argument reads as it did. Conditions: the variables that the row lists hold what their initialisers lay (the card ties them to the text). -/
import Derived.Test.YtkoocfcnfolkhaaGreatDoorLawTapeCounts
import Derived.Test.YtkoocfcnfolkhaaGreatDoorDoorL
import Derived.Test.YtkoocfcnfolkhaaGreatDoorFrameD
import Derived.Test.YtkoocfcnfolkhaaGreatDoorCards
import Derived.Test.YtkoocfcnfolkhaaGreatDoorTie
set_option linter.unusedVariables false
namespace Go.Proofs.YtkoocfcnfolkhaaGreatDoor.tapeCounts
open Go.ChangeShapes Go.WideShapes Go.ChangeAt Go.RowKit Go.Mq
theorem own:ownKnob Tryz.prog.godebug=none:=by kernel_rfl
theorem laid:laidOutB Tryz.prog=true:=by kernel_rfl
theorem cells5:Tryz.prog.cellsOf 5=1:=by kernel_rfl
theorem cells63:Tryz.prog.cellsOf 63=3:=by kernel_rfl
theorem lok63:leavesOk Tryz.prog 4 63=true:=by kernel_rfl
theorem leaves63:leaves Tryz.prog 4 63 0=[(0,3),(1,3),(2,5)]:=by kernel_rfl
theorem cells3:Tryz.prog.cellsOf 3=1:=by kernel_rfl
set_option maxRecDepth 100000 in
theorem contract(H:Type)(enc:TypeId×Value->H)(W:World)(base:Nat)(args:Array Value)(ds gs:List (DataW H))(before:List MemPlace)
    (hval:∀(j:Nat) t v,Tryz.f3.params[j]? =some t->args[j]? =some v->Value.okWide Tryz.prog W .any base t v)
    (hW:DataW.Whole enc Tryz.prog Tryz.f3.params.toList Rows.tapeCountsSpec.vars false W args.toList ds gs before)
    (hsz:(DataW.weightsEach Tryz.prog (Tryz.f3.params.toList++(OpenSpec.ofChange Rows.tapeCountsSpec).bare.plain.varTypes Tryz.prog) (ds++gs)).all (·<=reachBytes)=true)(hK:Lk W):
    Calls Tryz.prog 3 args W fun e W'=>∃v,e= .returned v/\Rows.tapeCountsSpec.post enc Tryz.prog Tryz.f3 false true false false W args v W':=by
  have hW':=hW
  obtain⟨p,q,hA0,hV,rfl,hfz,hnd⟩:=hW
  have hA:DataW.TrodAll enc Tryz.prog W 0 (fun _=>true) true Tryz.f3.params.toList args.toList ds p:=hA0
  rw[Tryz.params3]at hA hval hsz
  obtain⟨v0,vs0,d0,ds0,p0,q0,hargs,rfl,rfl,h0,r0⟩:=trodAll_cons hA
  obtain⟨v1,vs1,d1,ds1,p1,q1,rfl,rfl,rfl,h1,r1⟩:=trodAll_cons r0
  obtain⟨v2,vs2,d2,ds2,p2,q2,rfl,rfl,rfl,h2,r2⟩:=trodAll_cons r1
  obtain⟨v3,vs3,d3,ds3,p3,q3,rfl,rfl,rfl,h3,r3⟩:=trodAll_cons r2
  obtain⟨rfl,rfl,rfl⟩:=trodAll_nil r3
  obtain rfl:args= #[v0,v1,v2,v3]:=by cases args;simp_all
  obtain⟨rfl,rfl⟩:=trodVars_none hV
  obtain⟨xs0,hx0⟩:=z1A (k:= .u8) Tryz.underlying22 Tryz.underlying5 cells5 (hval 0 22 v0 rfl rfl) h0
  obtain⟨xs1,hx1⟩:=z1A (k:= .u8) Tryz.underlying22 Tryz.underlying5 cells5 (hval 1 22 v1 rfl rfl) h1
  obtain⟨xs2,hx2⟩:=z9m Tryz.underlying23 cells63 lok63 leaves63 Tryz.underlying3 Tryz.underlying5 cells3 cells5 (hval 2 23 v2 rfl rfl) h2
  obtain⟨a3,rfl,rfl,rfl,w3⟩:=open_int Tryz.underlying3 (hval 3 3 v3 rfl rfl) h3
  clear hA0
  refine(walk v0 xs0 v1 xs1 v2 xs2 a3 W hx0 hx1 hx2 (bounds_i64 w3) hK).mono fun e W' ⟨he,hb⟩=> ?_
  subst he
  exact⟨_,rfl,z4K laid (by kernel_rfl) rfl Tryz.underlying4 rfl rfl hW' hb⟩
def wit:Array Value:= #[.slice none 0 0,.slice none 0 0,.slice none 0 0,.int .i64 0]
theorem reads(os:Os){H:Type}(enc:TypeId×Value->H):∃places,DataW.whole enc Tryz.prog ((laidWorld os).forCall (fun _ _=>0) ⟨#[],wit,[]⟩).memory Tryz.f3.params.toList Rows.tapeCountsSpec.vars false wit.toList 8=some ([.nil,.nil,.nil,.lit (.int .i64 0)],[],places):=
  ⟨[],by kernel_rfl⟩
set_option maxRecDepth 100000 in
theorem lifted(os:Os)(started:os.Started)(H:Type)(enc:TypeId×Value->H)(F:Stop.Interp):
    ReturnsInHanded {} Tryz.checked os 3 .any ((OpenSpec.ofChange Rows.tapeCountsSpec).preRow enc Tryz.prog Tryz.f3 Rows.tapeCountsRow.domain false Rows.tapeCountsRow.laid) (((OpenSpec.ofChange Rows.tapeCountsSpec).at F).post enc Tryz.prog Tryz.f3 false true false false):=by
  obtain⟨places,hx⟩:=reads os enc
  refine returnsInHanded_of_row (C:=Tryz.checked) (s:=OpenSpec.ofChange Rows.tapeCountsSpec) own started (by kernel_rfl) Tryz.func3
    (z1s (enc:=enc) (C:=Tryz.checked) false (laidWorld os) wit rfl (z4i os _) (by kernel_rfl)
      (OpenSpec.preRow_of_cond 8 hx (by kernel_rfl) (fun k hk=>by cases hk) (by kernel_rfl) (z6n os _))) ?_
  intro W base args ds gs before hval hW _ _ hsz hL hsh _
  exact contract H enc W base args ds gs before hval hW hsz (lk7 hL hsh)
theorem said:Rows.TapeCountsSaid:=
  OpenClaim.holds_of_cond 3 Tryz.f3 rfl rfl rfl rfl rfl rfl rfl ⟨rfl,rfl,rfl,rfl,rfl⟩ rfl rfl rfl rfl rfl (by kernel_rfl) Tryz.func3 (by kernel_rfl)
    (of_decide_eq_true (by kernel_rfl)) (by unfold Func.isWrapper;first|(rw[if_pos (by decide+kernel)];kernel_rfl)|(rw[if_neg (by decide+kernel)];exact⟨rfl,rfl⟩))
    (fun os started H enc _ F=>by rw[OpenClaim.pre_eq_preRow];exact lifted os started H enc F)
theorem plain(f:FuncId)(fn:Func)(hf:Tryz.pinned.checked.prog.funcNamed "marquee/marqueelaw.TapeCounts" =some f)(hfn:Tryz.pinned.checked.prog.funcs[f]? =some fn):
    true=Tryz.pinned.checked.prog.looks []/\∀(j:Nat) t,fn.params[j]? =some t->Tryz.pinned.checked.prog.wantsStandIn t=false:=by
  obtain rfl:f=3:=Option.some.inj ((show Tryz.prog.funcNamed "marquee/marqueelaw.TapeCounts" =some 3 by kernel_rfl).symm.trans hf) |>.symm
  obtain rfl:fn=Tryz.f3:=(Option.some.inj (Tryz.func3.symm.trans hfn)).symm
  refine⟨by kernel_rfl,fun j t ht=> ?_⟩
  rw[Tryz.params3]at ht
  have hm:t∈[22,22,23,3]:=by simpa using Array.mem_of_getElem? ht
  have hall:([22,22,23,3].all fun u=> !Tryz.prog.wantsStandIn u)=true:=by kernel_rfl
  exact(show Tryz.prog.wantsStandIn t=false by simpa using List.all_eq_true.1 hall t hm)
theorem proved:Rows.TapeCountsCardSaid:=
  Claim7.holds_tied_plain_at .later [] _ _ _ _ said (fun _ h=>by cases h) (by kernel_rfl) (fun _ h=>by cases h) tapeCounts_row_tie rfl ⟨rfl,rfl⟩ (by kernel_rfl) rfl plain (by kernel_rfl)
#print axioms proved
end Go.Proofs.YtkoocfcnfolkhaaGreatDoor.tapeCounts
