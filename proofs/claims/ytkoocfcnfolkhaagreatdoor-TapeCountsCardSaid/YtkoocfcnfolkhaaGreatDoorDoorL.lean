/- What a row's list of variables gives, and a world for the witness in which the list is met. Conditions: none of its own. -/
import Derived.Test.YtkoocfcnfolkhaaGreatDoorSq
import Derived.Test.YtkoocfcnfolkhaaGreatDoorTie
import Derived.Test.YtkoocfcnfolkhaaGreatDoorCards
import Derived.Test.YtkoocfcnfolkhaaGreatDoorP45
import Derived.Test.YtkoocfcnfolkhaaGreatDoorFrame
import Derived.WalkKit
import Derived.ProofKit
import Derived.OpenShut
import Derived.Deep.DeepHandedRow
import Derived.LaidMore
set_option maxRecDepth 100000
namespace Go.Proofs.YtkoocfcnfolkhaaGreatDoor
open Go.ChangeShapes Go.WideShapes Go.ChangeAt Go.RowKit Go.Mq
theorem z0ah:(Rows.laid_internal_strconv_uint64pow10:DataW Unit)=Lib.tabData .u64 Lib.pow10Tab:=by kernel_rfl
abbrev laid7:List (String×DataW Unit):=Rows.tapeCountsRow.laid
theorem z0aj:laid7.filter (fun x=>x.2.handleName?.isSome)=[]:=by kernel_rfl
theorem met7{W:World}(h:laidMetH Tryz.prog laid7 W):laidMet Tryz.prog laid7 W:=by
 unfold laidMetH at h
 rw[z0aj]at h
 exact h
theorem gES:(Tryz.prog).globalNamed "strconv.ErrSyntax" =some 1:=by kernel_rfl
theorem gER:(Tryz.prog).globalNamed "strconv.ErrRange" =some 2:=by kernel_rfl
theorem gPW:(Tryz.prog).globalNamed "internal/strconv.uint64pow10" =some 3:=by kernel_rfl
theorem tES:((Tryz.prog).globals[1]?).map (·.type)=some 130:=by kernel_rfl
theorem tER:((Tryz.prog).globals[2]?).map (·.type)=some 130:=by kernel_rfl
theorem tPW:((Tryz.prog).globals[3]?).map (·.type)=some 280:=by kernel_rfl
theorem z6J:(Tryz.prog).cellsOf 278=1:=by kernel_rfl
theorem z6I:(Tryz.prog).cellsOf 9=1:=by kernel_rfl
theorem z9I:(Tryz.prog).cellsOf 280=20:=by kernel_rfl
theorem z7V:(Tryz.prog).cellsOf 245=1:=by kernel_rfl
theorem star: "*" ++ "errors.errorString" = "*errors.errorString" :=by decide
theorem rowES(u:TypeId)(h:(Tryz.prog).typeName? 3 u=some "*errors.errorString"):u=276:=
 typeName_ptr_named (nm:= "errors.errorString") (by rw[star];kernel_rfl) kR kD u (by rw[star];exact h)
theorem lk_of{l:List (String×DataW Unit)}{W:World}(h:laidMet Tryz.prog l W)(hsh:W.ShapedOpen Tryz.prog)(hp:("internal/strconv.uint64pow10",Rows.laid_internal_strconv_uint64pow10)∈l)(r1 r2:List (String×DataW Unit))
  (h1:laidMet Tryz.prog (("strconv.ErrRange",Rows.laid_strconv_ErrRange)::r1) W)(h2:laidMet Tryz.prog (("strconv.ErrSyntax",Rows.laid_strconv_ErrSyntax)::r2) W):Lk W:=by
 refine⟨?_,?_,?_,Tryz.laysM146.s1_3 W hsh⟩
 ·obtain⟨g,t,cs,fuel,p,hg,ht,hv,hd⟩:=Lib.laidMet.reads h hp
  obtain rfl:=Option.some.inj (gPW.symm.trans hg)
  obtain rfl:=Option.some.inj (tPW.symm.trans ht)
  rw[z0ah]at hd
  unfold Lib.TabIs
  rw[hv,<-Lib.cells_of_tab Tryz.underlying280 Tryz.underlying245 z7V z9I hd]
 ·obtain⟨a0,s0,hv0,-,-,-⟩:=laid_sentinel h2 gES tES Tryz.underlying130 rowES Tryz.underlying276 Tryz.underlying278 rfl rfl Tryz.underlying9 z6J z6I
  exact⟨_,_,hv0⟩
 ·obtain⟨a0,s0,hv0,-,-,-⟩:=laid_sentinel h1 gER tER Tryz.underlying130 rowES Tryz.underlying276 Tryz.underlying278 rfl rfl Tryz.underlying9 z6J z6I
  exact⟨_,_,hv0⟩
theorem lk7{W:World}(h:laidMetH Tryz.prog laid7 W)(hsh:W.ShapedOpen Tryz.prog):Lk W:=by
 have hm:=met7 h
 refine lk_of hm hsh (by simp[laid7,Rows.tapeCountsRow]) _ _ (laidMet.tail (laidMet.tail (laidMet.tail (laidMet.tail hm)))) (laidMet.tail (laidMet.tail (laidMet.tail (laidMet.tail (laidMet.tail hm)))))
noncomputable def laidWorld (os:Os):World:=
 {World.doorLaid Tryz.prog 96 os with heap:=(World.doorLaid Tryz.prog 96 os).heap.modify 4 fun
   | .cells _ t frozen=> .cells (Go.Pinned.utf8FirstZ.map fun z:Nat=>Value.int .u8 z).toArray t frozen
   |o=>o}
theorem z6n(os:Os)(args:Array Value):laidMetH Tryz.prog laid7 ((laidWorld os).forCall (fun _ _=>0) ⟨#[],args,[]⟩).memory:=
 laidMetH_of_parts3 (fuel:=8) (laidMet_of_run' 8 kR kR) kR kR
theorem z4i(os:Os)(args:Array Value):((laidWorld os).forCall (fun _ _=>0) ⟨#[],args,[]⟩).Shaped Tryz.prog:=
 World.shaped_of_RefB kR kR
theorem z1s{H:Type}{enc:TypeId×Value->H}{C:Checked}{os:Os}{f:FuncId}{fn:Func}{s:OpenSpec}{conds:List PathCond}{apart:Bool}{laid:List (String×DataW Unit)}(modest:Bool)(w0:World)(args:Array Value)(hos:w0.os=os)
  (hsh:(w0.forCall (fun _ _=>0) ⟨#[],args,[]⟩).Shaped C.prog)(hok:Input.okWideB C.prog (w0.forCall (fun _ _=>0) ⟨#[],args,[]⟩) f ⟨#[],args,[]⟩=true)
  (hrow:s.preRow enc C.prog fn conds apart laid (w0.forCall (fun _ _=>0) ⟨#[],args,[]⟩).memory args):
  ∃(w:World) (tape:Tape) (i:Input),w.os=os/\(w.forCall tape i).Shaped C.prog/\i.vars=[]/\Input.okWide C.prog (w.forCall tape i) .any w.heap.size f i/\
   s.preRow enc C.prog fn conds apart laid (w.forCall tape i).memory i.args/\({modest:=modest}:Assume).holds C.prog (lone (Frame.enter C.prog f i.args .normal) [] (w.forCall tape i)):=
 ⟨w0,fun _ _=>0,⟨#[],args,[]⟩,hos,hsh,(Input.okWide_of_okWideB (base:=0) hok).1,(Input.okWide_of_okWideB hok).2,hrow,by
  simp only[Assume.holds]
  exact⟨by simp,by simp,fun _=>Modest.zero,by simp,by simp⟩⟩
end Go.Proofs.YtkoocfcnfolkhaaGreatDoor
