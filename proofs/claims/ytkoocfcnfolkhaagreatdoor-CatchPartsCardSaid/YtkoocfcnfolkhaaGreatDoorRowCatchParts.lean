/- The row of CatchParts, and its card: for every input the law answers true, and each argument reads as it did. Conditions: the variables that the row lists hold what their initialisers lay (the card ties them to the text). -/
import Derived.Test.YtkoocfcnfolkhaaGreatDoorLawCatchParts
import Derived.Test.YtkoocfcnfolkhaaGreatDoorDoorL
import Derived.Test.YtkoocfcnfolkhaaGreatDoorFrameD
import Derived.Test.YtkoocfcnfolkhaaGreatDoorCards
import Derived.Test.YtkoocfcnfolkhaaGreatDoorTie
import Derived.Test.YtkoocfcnfolkhaaGreatDoorFrame2
set_option linter.unusedVariables false
namespace Go.Proofs.YtkoocfcnfolkhaaGreatDoor.catchParts
open Go.ChangeShapes Go.WideShapes Go.ChangeAt Go.RowKit Go.Mq
theorem own:ownKnob Tryz.prog.godebug=none:=by kernel_rfl
theorem laid:laidOutB Tryz.prog=true:=by kernel_rfl
theorem cells42:Tryz.prog.cellsOf 42=75:=by kernel_rfl
theorem lok42:leavesOk Tryz.prog 4 42=true:=by kernel_rfl
theorem cells22:Tryz.prog.cellsOf 22=1:=by kernel_rfl
theorem cells5:Tryz.prog.cellsOf 5=1:=by kernel_rfl
theorem cells4:Tryz.prog.cellsOf 4=1:=by kernel_rfl
theorem cells3:Tryz.prog.cellsOf 3=1:=by kernel_rfl
theorem cells24:Tryz.prog.cellsOf 24=1:=by kernel_rfl
theorem leaves42:leaves Tryz.prog 4 42 0=[(0,24),(1,24),(2,24),(3,24),(4,24),(5,24),(6,24),(7,24),(8,24),(9,4),(10,4),(11,4),(12,4),(13,4),(14,4),(15,24),(16,24),(17,24),(18,24),(19,24),(20,24),(21,24),(22,24),(23,24),(24,4),(25,4),(26,4),(27,4),(28,4),(29,4),(30,22),(31,22),(32,22),(33,22),(34,22),(35,5),(36,4),(37,5),(38,5),(39,4),(40,5),(41,24),(42,24),(43,4),(44,4),(45,24),(46,24),(47,5),(48,4),(49,24),(50,24),(51,24),(52,5),(53,4),(54,24),(55,24),(56,24),(57,5),(58,4),(59,24),(60,3),(61,3),(62,3),(63,4),(64,3),(65,24),(66,24),(67,4),(68,4),(69,5),(70,5),(71,4),(72,3),(73,3),(74,3)]:=by kernel_rfl
theorem cells63:Tryz.prog.cellsOf 63=3:=by kernel_rfl
theorem lok63:leavesOk Tryz.prog 4 63=true:=by kernel_rfl
theorem leaves63:leaves Tryz.prog 4 63 0=[(0,3),(1,3),(2,5)]:=by kernel_rfl
set_option maxRecDepth 100000 in
theorem contract(H:Type)(enc:TypeId×Value->H)(W:World)(base:Nat)(args:Array Value)(ds gs:List (DataW H))(before:List MemPlace)
    (hval:∀(j:Nat) t v,Tryz.f5.params[j]? =some t->args[j]? =some v->Value.okWide Tryz.prog W .any base t v)
    (hW:DataW.Whole enc Tryz.prog Tryz.f5.params.toList Rows.catchPartsSpec.vars false W args.toList ds gs before)
    (hsz:(DataW.weightsEach Tryz.prog (Tryz.f5.params.toList++(OpenSpec.ofChange Rows.catchPartsSpec).bare.plain.varTypes Tryz.prog) (ds++gs)).all (·<=reachBytes)=true)(hK:Lk W):
    Calls Tryz.prog 5 args W fun e W'=>∃v,e= .returned v/\Rows.catchPartsSpec.post enc Tryz.prog Tryz.f5 false true false false W args v W':=by
  have hW':=hW
  obtain⟨p,q,hA0,hV,rfl,hfz,hnd⟩:=hW
  have hA:DataW.TrodAll enc Tryz.prog W 0 (fun _=>true) true Tryz.f5.params.toList args.toList ds p:=hA0
  rw[Tryz.params5]at hA hval hsz
  obtain⟨v0,vs0,d0,ds0,p0,q0,hargs,rfl,rfl,h0,r0⟩:=trodAll_cons hA
  obtain⟨v1,vs1,d1,ds1,p1,q1,rfl,rfl,rfl,h1,r1⟩:=trodAll_cons r0
  obtain⟨v2,vs2,d2,ds2,p2,q2,rfl,rfl,rfl,h2,r2⟩:=trodAll_cons r1
  obtain⟨v3,vs3,d3,ds3,p3,q3,rfl,rfl,rfl,h3,r3⟩:=trodAll_cons r2
  obtain⟨rfl,rfl,rfl⟩:=trodAll_nil r3
  obtain rfl:args= #[v0,v1,v2,v3]:=by cases args;simp_all
  obtain⟨rfl,rfl⟩:=trodVars_none hV
  obtain⟨cs0,rfl,hl0,fu0,hf0⟩:=Go.Mq.open_row Tryz.underlying42 (hval 0 42 v0 rfl rfl) h0
  obtain⟨a0_0,e0_0,w0_0⟩:=z0b (n:=4) (i:=0) (t':=24) (k:= .u16) lok42 (by rw[leaves42];simp) Tryz.underlying24 cells24 hl0 hf0
  obtain⟨a0_1,e0_1,w0_1⟩:=z0b (n:=4) (i:=1) (t':=24) (k:= .u16) lok42 (by rw[leaves42];simp) Tryz.underlying24 cells24 hl0 hf0
  obtain⟨a0_2,e0_2,w0_2⟩:=z0b (n:=4) (i:=2) (t':=24) (k:= .u16) lok42 (by rw[leaves42];simp) Tryz.underlying24 cells24 hl0 hf0
  obtain⟨a0_3,e0_3,w0_3⟩:=z0b (n:=4) (i:=3) (t':=24) (k:= .u16) lok42 (by rw[leaves42];simp) Tryz.underlying24 cells24 hl0 hf0
  obtain⟨a0_4,e0_4,w0_4⟩:=z0b (n:=4) (i:=4) (t':=24) (k:= .u16) lok42 (by rw[leaves42];simp) Tryz.underlying24 cells24 hl0 hf0
  obtain⟨a0_5,e0_5,w0_5⟩:=z0b (n:=4) (i:=5) (t':=24) (k:= .u16) lok42 (by rw[leaves42];simp) Tryz.underlying24 cells24 hl0 hf0
  obtain⟨a0_6,e0_6,w0_6⟩:=z0b (n:=4) (i:=6) (t':=24) (k:= .u16) lok42 (by rw[leaves42];simp) Tryz.underlying24 cells24 hl0 hf0
  obtain⟨a0_7,e0_7,w0_7⟩:=z0b (n:=4) (i:=7) (t':=24) (k:= .u16) lok42 (by rw[leaves42];simp) Tryz.underlying24 cells24 hl0 hf0
  obtain⟨a0_8,e0_8,w0_8⟩:=z0b (n:=4) (i:=8) (t':=24) (k:= .u16) lok42 (by rw[leaves42];simp) Tryz.underlying24 cells24 hl0 hf0
  obtain⟨a0_9,e0_9⟩:=z0e (n:=4) (i:=9) (t':=4) lok42 (by rw[leaves42];simp) Tryz.underlying4 cells4 hl0 hf0
  obtain⟨a0_10,e0_10⟩:=z0e (n:=4) (i:=10) (t':=4) lok42 (by rw[leaves42];simp) Tryz.underlying4 cells4 hl0 hf0
  obtain⟨a0_11,e0_11⟩:=z0e (n:=4) (i:=11) (t':=4) lok42 (by rw[leaves42];simp) Tryz.underlying4 cells4 hl0 hf0
  obtain⟨a0_12,e0_12⟩:=z0e (n:=4) (i:=12) (t':=4) lok42 (by rw[leaves42];simp) Tryz.underlying4 cells4 hl0 hf0
  obtain⟨a0_13,e0_13⟩:=z0e (n:=4) (i:=13) (t':=4) lok42 (by rw[leaves42];simp) Tryz.underlying4 cells4 hl0 hf0
  obtain⟨a0_14,e0_14⟩:=z0e (n:=4) (i:=14) (t':=4) lok42 (by rw[leaves42];simp) Tryz.underlying4 cells4 hl0 hf0
  obtain⟨a0_15,e0_15,w0_15⟩:=z0b (n:=4) (i:=15) (t':=24) (k:= .u16) lok42 (by rw[leaves42];simp) Tryz.underlying24 cells24 hl0 hf0
  obtain⟨a0_16,e0_16,w0_16⟩:=z0b (n:=4) (i:=16) (t':=24) (k:= .u16) lok42 (by rw[leaves42];simp) Tryz.underlying24 cells24 hl0 hf0
  obtain⟨a0_17,e0_17,w0_17⟩:=z0b (n:=4) (i:=17) (t':=24) (k:= .u16) lok42 (by rw[leaves42];simp) Tryz.underlying24 cells24 hl0 hf0
  obtain⟨a0_18,e0_18,w0_18⟩:=z0b (n:=4) (i:=18) (t':=24) (k:= .u16) lok42 (by rw[leaves42];simp) Tryz.underlying24 cells24 hl0 hf0
  obtain⟨a0_19,e0_19,w0_19⟩:=z0b (n:=4) (i:=19) (t':=24) (k:= .u16) lok42 (by rw[leaves42];simp) Tryz.underlying24 cells24 hl0 hf0
  obtain⟨a0_20,e0_20,w0_20⟩:=z0b (n:=4) (i:=20) (t':=24) (k:= .u16) lok42 (by rw[leaves42];simp) Tryz.underlying24 cells24 hl0 hf0
  obtain⟨a0_21,e0_21,w0_21⟩:=z0b (n:=4) (i:=21) (t':=24) (k:= .u16) lok42 (by rw[leaves42];simp) Tryz.underlying24 cells24 hl0 hf0
  obtain⟨a0_22,e0_22,w0_22⟩:=z0b (n:=4) (i:=22) (t':=24) (k:= .u16) lok42 (by rw[leaves42];simp) Tryz.underlying24 cells24 hl0 hf0
  obtain⟨a0_23,e0_23,w0_23⟩:=z0b (n:=4) (i:=23) (t':=24) (k:= .u16) lok42 (by rw[leaves42];simp) Tryz.underlying24 cells24 hl0 hf0
  obtain⟨a0_24,e0_24⟩:=z0e (n:=4) (i:=24) (t':=4) lok42 (by rw[leaves42];simp) Tryz.underlying4 cells4 hl0 hf0
  obtain⟨a0_25,e0_25⟩:=z0e (n:=4) (i:=25) (t':=4) lok42 (by rw[leaves42];simp) Tryz.underlying4 cells4 hl0 hf0
  obtain⟨a0_26,e0_26⟩:=z0e (n:=4) (i:=26) (t':=4) lok42 (by rw[leaves42];simp) Tryz.underlying4 cells4 hl0 hf0
  obtain⟨a0_27,e0_27⟩:=z0e (n:=4) (i:=27) (t':=4) lok42 (by rw[leaves42];simp) Tryz.underlying4 cells4 hl0 hf0
  obtain⟨a0_28,e0_28⟩:=z0e (n:=4) (i:=28) (t':=4) lok42 (by rw[leaves42];simp) Tryz.underlying4 cells4 hl0 hf0
  obtain⟨a0_29,e0_29⟩:=z0e (n:=4) (i:=29) (t':=4) lok42 (by rw[leaves42];simp) Tryz.underlying4 cells4 hl0 hf0
  obtain⟨a0_30,xs0_30,e0_30,hx0_30⟩:=z0B (n:=4) (i:=30) (t':=22) (k:= .u8) lok42 (by rw[leaves42];simp) Tryz.underlying22 Tryz.underlying5 cells5 cells22 hl0 hf0
  obtain⟨a0_31,xs0_31,e0_31,hx0_31⟩:=z0B (n:=4) (i:=31) (t':=22) (k:= .u8) lok42 (by rw[leaves42];simp) Tryz.underlying22 Tryz.underlying5 cells5 cells22 hl0 hf0
  obtain⟨a0_32,xs0_32,e0_32,hx0_32⟩:=z0B (n:=4) (i:=32) (t':=22) (k:= .u8) lok42 (by rw[leaves42];simp) Tryz.underlying22 Tryz.underlying5 cells5 cells22 hl0 hf0
  obtain⟨a0_33,xs0_33,e0_33,hx0_33⟩:=z0B (n:=4) (i:=33) (t':=22) (k:= .u8) lok42 (by rw[leaves42];simp) Tryz.underlying22 Tryz.underlying5 cells5 cells22 hl0 hf0
  obtain⟨a0_34,xs0_34,e0_34,hx0_34⟩:=z0B (n:=4) (i:=34) (t':=22) (k:= .u8) lok42 (by rw[leaves42];simp) Tryz.underlying22 Tryz.underlying5 cells5 cells22 hl0 hf0
  obtain⟨a0_35,e0_35,w0_35⟩:=z0b (n:=4) (i:=35) (t':=5) (k:= .u8) lok42 (by rw[leaves42];simp) Tryz.underlying5 cells5 hl0 hf0
  obtain⟨a0_36,e0_36⟩:=z0e (n:=4) (i:=36) (t':=4) lok42 (by rw[leaves42];simp) Tryz.underlying4 cells4 hl0 hf0
  obtain⟨a0_37,e0_37,w0_37⟩:=z0b (n:=4) (i:=37) (t':=5) (k:= .u8) lok42 (by rw[leaves42];simp) Tryz.underlying5 cells5 hl0 hf0
  obtain⟨a0_38,e0_38,w0_38⟩:=z0b (n:=4) (i:=38) (t':=5) (k:= .u8) lok42 (by rw[leaves42];simp) Tryz.underlying5 cells5 hl0 hf0
  obtain⟨a0_39,e0_39⟩:=z0e (n:=4) (i:=39) (t':=4) lok42 (by rw[leaves42];simp) Tryz.underlying4 cells4 hl0 hf0
  obtain⟨a0_40,e0_40,w0_40⟩:=z0b (n:=4) (i:=40) (t':=5) (k:= .u8) lok42 (by rw[leaves42];simp) Tryz.underlying5 cells5 hl0 hf0
  obtain⟨a0_41,e0_41,w0_41⟩:=z0b (n:=4) (i:=41) (t':=24) (k:= .u16) lok42 (by rw[leaves42];simp) Tryz.underlying24 cells24 hl0 hf0
  obtain⟨a0_42,e0_42,w0_42⟩:=z0b (n:=4) (i:=42) (t':=24) (k:= .u16) lok42 (by rw[leaves42];simp) Tryz.underlying24 cells24 hl0 hf0
  obtain⟨a0_43,e0_43⟩:=z0e (n:=4) (i:=43) (t':=4) lok42 (by rw[leaves42];simp) Tryz.underlying4 cells4 hl0 hf0
  obtain⟨a0_44,e0_44⟩:=z0e (n:=4) (i:=44) (t':=4) lok42 (by rw[leaves42];simp) Tryz.underlying4 cells4 hl0 hf0
  obtain⟨a0_45,e0_45,w0_45⟩:=z0b (n:=4) (i:=45) (t':=24) (k:= .u16) lok42 (by rw[leaves42];simp) Tryz.underlying24 cells24 hl0 hf0
  obtain⟨a0_46,e0_46,w0_46⟩:=z0b (n:=4) (i:=46) (t':=24) (k:= .u16) lok42 (by rw[leaves42];simp) Tryz.underlying24 cells24 hl0 hf0
  obtain⟨a0_47,e0_47,w0_47⟩:=z0b (n:=4) (i:=47) (t':=5) (k:= .u8) lok42 (by rw[leaves42];simp) Tryz.underlying5 cells5 hl0 hf0
  obtain⟨a0_48,e0_48⟩:=z0e (n:=4) (i:=48) (t':=4) lok42 (by rw[leaves42];simp) Tryz.underlying4 cells4 hl0 hf0
  obtain⟨a0_49,e0_49,w0_49⟩:=z0b (n:=4) (i:=49) (t':=24) (k:= .u16) lok42 (by rw[leaves42];simp) Tryz.underlying24 cells24 hl0 hf0
  obtain⟨a0_50,e0_50,w0_50⟩:=z0b (n:=4) (i:=50) (t':=24) (k:= .u16) lok42 (by rw[leaves42];simp) Tryz.underlying24 cells24 hl0 hf0
  obtain⟨a0_51,e0_51,w0_51⟩:=z0b (n:=4) (i:=51) (t':=24) (k:= .u16) lok42 (by rw[leaves42];simp) Tryz.underlying24 cells24 hl0 hf0
  obtain⟨a0_52,e0_52,w0_52⟩:=z0b (n:=4) (i:=52) (t':=5) (k:= .u8) lok42 (by rw[leaves42];simp) Tryz.underlying5 cells5 hl0 hf0
  obtain⟨a0_53,e0_53⟩:=z0e (n:=4) (i:=53) (t':=4) lok42 (by rw[leaves42];simp) Tryz.underlying4 cells4 hl0 hf0
  obtain⟨a0_54,e0_54,w0_54⟩:=z0b (n:=4) (i:=54) (t':=24) (k:= .u16) lok42 (by rw[leaves42];simp) Tryz.underlying24 cells24 hl0 hf0
  obtain⟨a0_55,e0_55,w0_55⟩:=z0b (n:=4) (i:=55) (t':=24) (k:= .u16) lok42 (by rw[leaves42];simp) Tryz.underlying24 cells24 hl0 hf0
  obtain⟨a0_56,e0_56,w0_56⟩:=z0b (n:=4) (i:=56) (t':=24) (k:= .u16) lok42 (by rw[leaves42];simp) Tryz.underlying24 cells24 hl0 hf0
  obtain⟨a0_57,e0_57,w0_57⟩:=z0b (n:=4) (i:=57) (t':=5) (k:= .u8) lok42 (by rw[leaves42];simp) Tryz.underlying5 cells5 hl0 hf0
  obtain⟨a0_58,e0_58⟩:=z0e (n:=4) (i:=58) (t':=4) lok42 (by rw[leaves42];simp) Tryz.underlying4 cells4 hl0 hf0
  obtain⟨a0_59,e0_59,w0_59⟩:=z0b (n:=4) (i:=59) (t':=24) (k:= .u16) lok42 (by rw[leaves42];simp) Tryz.underlying24 cells24 hl0 hf0
  obtain⟨a0_60,e0_60,w0_60⟩:=z0b (n:=4) (i:=60) (t':=3) (k:= .i64) lok42 (by rw[leaves42];simp) Tryz.underlying3 cells3 hl0 hf0
  obtain⟨a0_61,e0_61,w0_61⟩:=z0b (n:=4) (i:=61) (t':=3) (k:= .i64) lok42 (by rw[leaves42];simp) Tryz.underlying3 cells3 hl0 hf0
  obtain⟨a0_62,e0_62,w0_62⟩:=z0b (n:=4) (i:=62) (t':=3) (k:= .i64) lok42 (by rw[leaves42];simp) Tryz.underlying3 cells3 hl0 hf0
  obtain⟨a0_63,e0_63⟩:=z0e (n:=4) (i:=63) (t':=4) lok42 (by rw[leaves42];simp) Tryz.underlying4 cells4 hl0 hf0
  obtain⟨a0_64,e0_64,w0_64⟩:=z0b (n:=4) (i:=64) (t':=3) (k:= .i64) lok42 (by rw[leaves42];simp) Tryz.underlying3 cells3 hl0 hf0
  obtain⟨a0_65,e0_65,w0_65⟩:=z0b (n:=4) (i:=65) (t':=24) (k:= .u16) lok42 (by rw[leaves42];simp) Tryz.underlying24 cells24 hl0 hf0
  obtain⟨a0_66,e0_66,w0_66⟩:=z0b (n:=4) (i:=66) (t':=24) (k:= .u16) lok42 (by rw[leaves42];simp) Tryz.underlying24 cells24 hl0 hf0
  obtain⟨a0_67,e0_67⟩:=z0e (n:=4) (i:=67) (t':=4) lok42 (by rw[leaves42];simp) Tryz.underlying4 cells4 hl0 hf0
  obtain⟨a0_68,e0_68⟩:=z0e (n:=4) (i:=68) (t':=4) lok42 (by rw[leaves42];simp) Tryz.underlying4 cells4 hl0 hf0
  obtain⟨a0_69,e0_69,w0_69⟩:=z0b (n:=4) (i:=69) (t':=5) (k:= .u8) lok42 (by rw[leaves42];simp) Tryz.underlying5 cells5 hl0 hf0
  obtain⟨a0_70,e0_70,w0_70⟩:=z0b (n:=4) (i:=70) (t':=5) (k:= .u8) lok42 (by rw[leaves42];simp) Tryz.underlying5 cells5 hl0 hf0
  obtain⟨a0_71,e0_71⟩:=z0e (n:=4) (i:=71) (t':=4) lok42 (by rw[leaves42];simp) Tryz.underlying4 cells4 hl0 hf0
  obtain⟨a0_72,e0_72,w0_72⟩:=z0b (n:=4) (i:=72) (t':=3) (k:= .i64) lok42 (by rw[leaves42];simp) Tryz.underlying3 cells3 hl0 hf0
  obtain⟨a0_73,e0_73,w0_73⟩:=z0b (n:=4) (i:=73) (t':=3) (k:= .i64) lok42 (by rw[leaves42];simp) Tryz.underlying3 cells3 hl0 hf0
  obtain⟨a0_74,e0_74,w0_74⟩:=z0b (n:=4) (i:=74) (t':=3) (k:= .i64) lok42 (by rw[leaves42];simp) Tryz.underlying3 cells3 hl0 hf0
  have q0x:cs0= #[.int .u16 a0_0,.int .u16 a0_1,.int .u16 a0_2,.int .u16 a0_3,.int .u16 a0_4,.int .u16 a0_5,.int .u16 a0_6,.int .u16 a0_7,.int .u16 a0_8,.bool a0_9,.bool a0_10,.bool a0_11,.bool a0_12,.bool a0_13,.bool a0_14,.int .u16 a0_15,.int .u16 a0_16,.int .u16 a0_17,.int .u16 a0_18,.int .u16 a0_19,.int .u16 a0_20,.int .u16 a0_21,.int .u16 a0_22,.int .u16 a0_23,.bool a0_24,.bool a0_25,.bool a0_26,.bool a0_27,.bool a0_28,.bool a0_29,a0_30,a0_31,a0_32,a0_33,a0_34,.int .u8 a0_35,.bool a0_36,.int .u8 a0_37,.int .u8 a0_38,.bool a0_39,.int .u8 a0_40,.int .u16 a0_41,.int .u16 a0_42,.bool a0_43,.bool a0_44,.int .u16 a0_45,.int .u16 a0_46,.int .u8 a0_47,.bool a0_48,.int .u16 a0_49,.int .u16 a0_50,.int .u16 a0_51,.int .u8 a0_52,.bool a0_53,.int .u16 a0_54,.int .u16 a0_55,.int .u16 a0_56,.int .u8 a0_57,.bool a0_58,.int .u16 a0_59,.int .i64 a0_60,.int .i64 a0_61,.int .i64 a0_62,.bool a0_63,.int .i64 a0_64,.int .u16 a0_65,.int .u16 a0_66,.bool a0_67,.bool a0_68,.int .u8 a0_69,.int .u8 a0_70,.bool a0_71,.int .i64 a0_72,.int .i64 a0_73,.int .i64 a0_74]:=z4E (z0a e0_0 (z0a e0_1 (z0a e0_2 (z0a e0_3 (z0a e0_4 (z0a e0_5 (z0a e0_6 (z0a e0_7 (z0a e0_8 (z0a e0_9 (z0a e0_10 (z0a e0_11 (z0a e0_12 (z0a e0_13 (z0a e0_14 (z0a e0_15 (z0a e0_16 (z0a e0_17 (z0a e0_18 (z0a e0_19 (z0a e0_20 (z0a e0_21 (z0a e0_22 (z0a e0_23 (z0a e0_24 (z0a e0_25 (z0a e0_26 (z0a e0_27 (z0a e0_28 (z0a e0_29 (z0a e0_30 (z0a e0_31 (z0a e0_32 (z0a e0_33 (z0a e0_34 (z0a e0_35 (z0a e0_36 (z0a e0_37 (z0a e0_38 (z0a e0_39 (z0a e0_40 (z0a e0_41 (z0a e0_42 (z0a e0_43 (z0a e0_44 (z0a e0_45 (z0a e0_46 (z0a e0_47 (z0a e0_48 (z0a e0_49 (z0a e0_50 (z0a e0_51 (z0a e0_52 (z0a e0_53 (z0a e0_54 (z0a e0_55 (z0a e0_56 (z0a e0_57 (z0a e0_58 (z0a e0_59 (z0a e0_60 (z0a e0_61 (z0a e0_62 (z0a e0_63 (z0a e0_64 (z0a e0_65 (z0a e0_66 (z0a e0_67 (z0a e0_68 (z0a e0_69 (z0a e0_70 (z0a e0_71 (z0a e0_72 (z0a e0_73 (z0a e0_74 (List.drop_eq_nil_of_le (by rw[hl0,cells42];exact Nat.le_refl _)))))))))))))))))))))))))))))))))))))))))))))))))))))))))))))))))))))))))))))
  subst q0x
  obtain⟨xs1,hx1⟩:=z7K Tryz.underlying23 cells63 lok63 leaves63 Tryz.underlying3 Tryz.underlying5 cells3 cells5 (hval 1 23 v1 rfl rfl) h1
  obtain⟨a2,rfl,rfl,rfl,w2⟩:=open_int Tryz.underlying3 (hval 2 3 v2 rfl rfl) h2
  obtain⟨a3,rfl,rfl,rfl,w3⟩:=open_int Tryz.underlying3 (hval 3 3 v3 rfl rfl) h3
  clear hA0
  refine(walk (mkV a0_30 a0_31 a0_32 a0_33 a0_34) (⟨⟨mkR a0_0 a0_1 a0_2 a0_3 a0_4 a0_5 a0_6 a0_7,a0_8,a0_9,a0_10,a0_11,a0_12,a0_13,a0_14⟩,⟨mkR a0_15 a0_16 a0_17 a0_18 a0_19 a0_20 a0_21 a0_22,a0_23,a0_24,a0_25,a0_26,a0_27,a0_28,a0_29⟩,mkL xs0_30 xs0_31 xs0_32 xs0_33 xs0_34,⟨a0_35,a0_36,a0_37⟩,⟨a0_38,a0_39,a0_40⟩,⟨a0_41,a0_42,a0_43,a0_44⟩,⟨⟨a0_45,a0_46,a0_47,a0_48,a0_49⟩,⟨a0_50,a0_51,a0_52,a0_53,a0_54⟩,⟨a0_55,a0_56,a0_57,a0_58,a0_59⟩,a0_60⟩,⟨a0_61,a0_62,a0_63,a0_64⟩,a0_65,a0_66,a0_67,a0_68,a0_69,a0_70,a0_71,a0_72,a0_73,a0_74⟩:Mach) v1 xs1 a2 a3 W (mkMV rfl hx0_30 hx0_31 hx0_32 hx0_33 hx0_34) (⟨z5G (bounds_u16 w0_0) (bounds_u16 w0_1) (bounds_u16 w0_2) (bounds_u16 w0_3) (bounds_u16 w0_4) (bounds_u16 w0_5) (bounds_u16 w0_6) (bounds_u16 w0_7) (bounds_u16 w0_8),z5G (bounds_u16 w0_15) (bounds_u16 w0_16) (bounds_u16 w0_17) (bounds_u16 w0_18) (bounds_u16 w0_19) (bounds_u16 w0_20) (bounds_u16 w0_21) (bounds_u16 w0_22) (bounds_u16 w0_23),z0ah hx0_30 hx0_31 hx0_32 hx0_33 hx0_34,⟨(bounds_u8 w0_35),(bounds_u8 w0_37)⟩,⟨(bounds_u8 w0_38),(bounds_u8 w0_40)⟩,⟨(bounds_u16 w0_41),(bounds_u16 w0_42)⟩,⟨⟨(bounds_u16 w0_45),(bounds_u16 w0_46),(bounds_u8 w0_47),(bounds_u16 w0_49)⟩,⟨(bounds_u16 w0_50),(bounds_u16 w0_51),(bounds_u8 w0_52),(bounds_u16 w0_54)⟩,⟨(bounds_u16 w0_55),(bounds_u16 w0_56),(bounds_u8 w0_57),(bounds_u16 w0_59)⟩⟩,(bounds_i64 w0_60),(bounds_i64 w0_61),(bounds_i64 w0_62),(bounds_i64 w0_64),(bounds_u16 w0_65),(bounds_u16 w0_66),(bounds_u8 w0_69),(bounds_u8 w0_70),(bounds_i64 w0_72),(bounds_i64 w0_73),(bounds_i64 w0_74)⟩:Mach.In (⟨⟨mkR a0_0 a0_1 a0_2 a0_3 a0_4 a0_5 a0_6 a0_7,a0_8,a0_9,a0_10,a0_11,a0_12,a0_13,a0_14⟩,⟨mkR a0_15 a0_16 a0_17 a0_18 a0_19 a0_20 a0_21 a0_22,a0_23,a0_24,a0_25,a0_26,a0_27,a0_28,a0_29⟩,mkL xs0_30 xs0_31 xs0_32 xs0_33 xs0_34,⟨a0_35,a0_36,a0_37⟩,⟨a0_38,a0_39,a0_40⟩,⟨a0_41,a0_42,a0_43,a0_44⟩,⟨⟨a0_45,a0_46,a0_47,a0_48,a0_49⟩,⟨a0_50,a0_51,a0_52,a0_53,a0_54⟩,⟨a0_55,a0_56,a0_57,a0_58,a0_59⟩,a0_60⟩,⟨a0_61,a0_62,a0_63,a0_64⟩,a0_65,a0_66,a0_67,a0_68,a0_69,a0_70,a0_71,a0_72,a0_73,a0_74⟩:Mach)) hx1 (bounds_i64 w2) (bounds_i64 w3) hK).mono fun e W' ⟨he,hb⟩=> ?_
  subst he
  exact⟨_,rfl,z3N laid (by kernel_rfl) rfl Tryz.underlying4 rfl rfl hW' hb⟩
def wit:Array Value:= #[.agg #[.int .u16 0,.int .u16 0,.int .u16 0,.int .u16 0,.int .u16 0,.int .u16 0,.int .u16 0,.int .u16 0,.int .u16 0,.bool false,.bool false,.bool false,.bool false,.bool false,.bool false,.int .u16 0,.int .u16 0,.int .u16 0,.int .u16 0,.int .u16 0,.int .u16 0,.int .u16 0,.int .u16 0,.int .u16 0,.bool false,.bool false,.bool false,.bool false,.bool false,.bool false,.slice none 0 0,.slice none 0 0,.slice none 0 0,.slice none 0 0,.slice none 0 0,.int .u8 0,.bool false,.int .u8 0,.int .u8 0,.bool false,.int .u8 0,.int .u16 0,.int .u16 0,.bool false,.bool false,.int .u16 0,.int .u16 0,.int .u8 0,.bool false,.int .u16 0,.int .u16 0,.int .u16 0,.int .u8 0,.bool false,.int .u16 0,.int .u16 0,.int .u16 0,.int .u8 0,.bool false,.int .u16 0,.int .i64 0,.int .i64 0,.int .i64 0,.bool false,.int .i64 0,.int .u16 0,.int .u16 0,.bool false,.bool false,.int .u8 0,.int .u8 0,.bool false,.int .i64 0,.int .i64 0,.int .i64 0],.slice none 0 0,.int .i64 0,.int .i64 0]
theorem reads(os:Os){H:Type}(enc:TypeId×Value->H):∃places,DataW.whole enc Tryz.prog ((laidWorld os).forCall (fun _ _=>0) ⟨#[],wit,[]⟩).memory Tryz.f5.params.toList Rows.catchPartsSpec.vars false wit.toList 8=some ([.agg [.agg [.agg [.lit (.int .u16 0),.lit (.int .u16 0),.lit (.int .u16 0),.lit (.int .u16 0),.lit (.int .u16 0),.lit (.int .u16 0),.lit (.int .u16 0),.lit (.int .u16 0)],.lit (.int .u16 0),.lit (.bool false),.lit (.bool false),.lit (.bool false),.lit (.bool false),.lit (.bool false),.lit (.bool false)],.agg [.agg [.lit (.int .u16 0),.lit (.int .u16 0),.lit (.int .u16 0),.lit (.int .u16 0),.lit (.int .u16 0),.lit (.int .u16 0),.lit (.int .u16 0),.lit (.int .u16 0)],.lit (.int .u16 0),.lit (.bool false),.lit (.bool false),.lit (.bool false),.lit (.bool false),.lit (.bool false),.lit (.bool false)],.nil,.nil,.nil,.nil,.nil,.agg [.agg [.lit (.int .u8 0),.lit (.bool false),.lit (.int .u8 0)],.agg [.lit (.int .u8 0),.lit (.bool false),.lit (.int .u8 0)]],.agg [.lit (.int .u16 0),.lit (.int .u16 0),.lit (.bool false),.lit (.bool false)],.agg [.agg [.agg [.lit (.int .u16 0),.lit (.int .u16 0),.lit (.int .u8 0),.lit (.bool false),.lit (.int .u16 0)],.agg [.lit (.int .u16 0),.lit (.int .u16 0),.lit (.int .u8 0),.lit (.bool false),.lit (.int .u16 0)],.agg [.lit (.int .u16 0),.lit (.int .u16 0),.lit (.int .u8 0),.lit (.bool false),.lit (.int .u16 0)]],.lit (.int .i64 0)],.agg [.lit (.int .i64 0),.lit (.int .i64 0),.lit (.bool false),.lit (.int .i64 0)],.lit (.int .u16 0),.lit (.int .u16 0),.lit (.bool false),.lit (.bool false),.agg [.lit (.int .u8 0),.lit (.int .u8 0)],.lit (.bool false),.lit (.int .i64 0),.lit (.int .i64 0),.lit (.int .i64 0)],.nil,.lit (.int .i64 0),.lit (.int .i64 0)],[],places):=
  ⟨[],by kernel_rfl⟩
set_option maxRecDepth 100000 in
theorem lifted(os:Os)(started:os.Started)(H:Type)(enc:TypeId×Value->H)(F:Stop.Interp):
    ReturnsInHanded {} Tryz.checked os 5 .any ((OpenSpec.ofChange Rows.catchPartsSpec).preRow enc Tryz.prog Tryz.f5 Rows.catchPartsRow.domain false Rows.catchPartsRow.laid) (((OpenSpec.ofChange Rows.catchPartsSpec).at F).post enc Tryz.prog Tryz.f5 false true false false):=by
  obtain⟨places,hx⟩:=reads os enc
  refine returnsInHanded_of_row (C:=Tryz.checked) (s:=OpenSpec.ofChange Rows.catchPartsSpec) own started (by kernel_rfl) Tryz.func5
    (z1i (enc:=enc) (C:=Tryz.checked) false (laidWorld os) wit rfl (z2U os _) (by kernel_rfl)
      (OpenSpec.preRow_of_cond 8 hx (by kernel_rfl) (fun k hk=>by cases hk) (by kernel_rfl) (z4A os _))) ?_
  intro W base args ds gs before hval hW _ _ hsz hL hsh _
  exact contract H enc W base args ds gs before hval hW hsz (lk7 hL hsh)
theorem said:Rows.CatchPartsSaid:=
  OpenClaim.holds_of_cond 5 Tryz.f5 rfl rfl rfl rfl rfl rfl rfl ⟨rfl,rfl,rfl,rfl,rfl⟩ rfl rfl rfl rfl rfl (by kernel_rfl) Tryz.func5 (by kernel_rfl)
    (of_decide_eq_true (by kernel_rfl)) (by unfold Func.isWrapper;first|(rw[if_pos (by decide+kernel)];kernel_rfl)|(rw[if_neg (by decide+kernel)];exact⟨rfl,rfl⟩))
    (fun os started H enc _ F=>by rw[OpenClaim.pre_eq_preRow];exact lifted os started H enc F)
theorem plain(f:FuncId)(fn:Func)(hf:Tryz.pinned.checked.prog.funcNamed "marquee/marqueelaw.CatchParts" =some f)(hfn:Tryz.pinned.checked.prog.funcs[f]? =some fn):
    true=Tryz.pinned.checked.prog.looks []/\∀(j:Nat) t,fn.params[j]? =some t->Tryz.pinned.checked.prog.wantsStandIn t=false:=by
  obtain rfl:f=5:=Option.some.inj ((show Tryz.prog.funcNamed "marquee/marqueelaw.CatchParts" =some 5 by kernel_rfl).symm.trans hf) |>.symm
  obtain rfl:fn=Tryz.f5:=(Option.some.inj (Tryz.func5.symm.trans hfn)).symm
  refine⟨by kernel_rfl,fun j t ht=> ?_⟩
  rw[Tryz.params5]at ht
  have hm:t∈[42,23,3,3]:=by simpa using Array.mem_of_getElem? ht
  have hall:([42,23,3,3].all fun u=> !Tryz.prog.wantsStandIn u)=true:=by kernel_rfl
  exact(show Tryz.prog.wantsStandIn t=false by simpa using List.all_eq_true.1 hall t hm)
theorem proved:Rows.CatchPartsCardSaid:=
  Claim7.holds_tied_plain_at .later [] _ _ _ _ said (fun _ h=>by cases h) (by kernel_rfl) (fun _ h=>by cases h) catchParts_row_tie rfl ⟨rfl,rfl⟩ (by kernel_rfl) rfl plain (by kernel_rfl)
#print axioms proved
end Go.Proofs.YtkoocfcnfolkhaaGreatDoor.catchParts
