/- The library's number and string texts, in the words of my walks. Conditions: the library's variables hold what they were laid with; texts of bounded length. -/
import Derived.Test.YtkoocfcnfolkhaaGreatDoorSq
import Derived.Test.YtkoocfcnfolkhaaGreatDoorP30
import Derived.Test.YtkoocfcnfolkhaaGreatDoorP32
import Derived.Test.YtkoocfcnfolkhaaGreatDoorShelf
import Derived.Lib.ParseIntBTie
import Derived.Lib.AtoiErrMem
import Derived.Test.YtkoocfcnfolkhaaGreatDoorSh
import Derived.Test.YtkoocfcnfolkhaaGreatDoorRows
import Derived.Test.YtkoocfcnfolkhaaGreatDoorP16
import Derived.LoopTactic
import Derived.Test.YtkoocfcnfolkhaaGreatDoorRegF
import Derived.Test.YtkoocfcnfolkhaaGreatDoorP08
import Derived.Deep.RegionLawGrows
import Derived.Recover
set_option linter.unusedVariables false
set_option linter.unusedSimpArgs false
set_option maxHeartbeats 1000000
set_option maxRecDepth 100000
namespace Go.Proofs.YtkoocfcnfolkhaaGreatDoor
open Go.RowKit Go.Mq
def gMax:Nat:=0
abbrev Lk(w:World):Prop:=Lw Tryz.prog 0 w
theorem z6w(w:World)(k:Nat)(os:Array Obj):Below w.heap.size w (Sort.grow (w.drewN k) os):=
 ⟨rfl,rfl,rfl,by simp[Sort.grow],fun i hi=>by simp[Sort.grow,Array.getElem?_append_left,hi]⟩
theorem z5K(n:Int)(hn:I64 n)(w:World)(hL:Lk w):Calls Tryz.prog 55 #[.int .i64 n] w fun e w'=>e= .returned (.string ⟨(Lib.itoa n).toArray⟩)/\Below w.heap.size w w':=by
 refine(Tryz.strconv_Itoa n hn.1 hn.2 w hL.pow).mono ?_
 rintro e w' ⟨rfl,k,os,rfl⟩
 exact⟨rfl,z6w w k os⟩
theorem z9R(s:ByteArray)(hs:s.size<=281474976710656)(v:Int)(h:Lib.atoiAll s.data.toList= .ok v)(w:World):Calls Tryz.prog 53 #[.string s] w fun e w'=>e= .returned (.tuple #[.int .i64 v,.nilIface])/\Below w.heap.size w w':=by
 refine(Tryz.strconv_Atoi_ok s kO v h w).mono ?_
 rintro e w' ⟨rfl,hw⟩
 refine⟨rfl,?_⟩
 rcases hw with rfl|⟨t,rfl⟩
 ·exact Below.refl _ _
 ·exact Lib.bytesWorld_below _ _ _
theorem z0bX(s:ByteArray)(hs:s.size<=281474976710656)(h:∀v,Lib.atoiAll s.data.toList≠ .ok v)(w:World)(hL:Lk w):Calls Tryz.prog 53 #[.string s] w fun e w'=>(∃(n:Int) (N:Nat),e= .returned (.tuple #[.int .i64 n,.iface 217 (.pointer (some ⟨N,0,none⟩))]))/\Below w.heap.size w w':=by
 obtain⟨t2,p2,h2⟩:=hL.syn
 obtain⟨t3,p3,h3⟩:=hL.rng
 cases hq:Lib.atoiAll s.data.toList with
 |ok v=>exact absurd hq (h v)
 |range=>
  refine(Tryz.strconv_Atoi_range_var s hs hq t3 p3 w h3).mono ?_
  rintro e w' ⟨N,rfl,-,-,hb⟩
  exact⟨⟨_,N,rfl⟩,hb⟩
 |_=>
  refine(Tryz.strconv_Atoi_syntax_var s hs hq t2 p2 w h2).mono ?_
  rintro e w' ⟨N,rfl,-,-,hb⟩
  exact⟨⟨_,N,rfl⟩,hb⟩
def strV(l:List UInt8):Value:= .string ⟨l.toArray⟩
theorem z3k(s:ByteArray)(c:UInt8):(Lib.splitB ⟨#[c]⟩ 0 (Lib.countB s ⟨#[c]⟩) s).map Value.string=(sepBy c s.data.toList).map strV:=by
 have h:=Lib.splitB_data ⟨#[c]⟩ 0 (Lib.countB s ⟨#[c]⟩) s
 have h2:Lib.splitK [c] 0 (Lib.countB s ⟨#[c]⟩) s.data.toList=sepBy c s.data.toList:=z6S c _
 rw[show(⟨#[c]⟩:ByteArray).data.toList=[c]from rfl,h2]at h
 rw[<-h,List.map_map]
 refine List.map_congr_left fun x _=> ?_
 show Value.string x=Value.string ⟨x.data.toList.toArray⟩
 rw[Array.toArray_toList]
theorem z6R(s:ByteArray)(hs:s.size<4294967281)(c:UInt8)(w:World)(hL:Lk w):Calls Tryz.prog 52 #[.string s,.string ⟨#[c]⟩] w fun e w'=>
  e= .returned (.slice (some ⟨w.heap.size,0,none⟩) (sepBy c s.data.toList).length (sepBy c s.data.toList).length)/\w'=w.alloc (.cells ((sepBy c s.data.toList).map strV).toArray 9):=by
 obtain⟨m,hm⟩:=hL.mx
 refine(Tryz.strings_Split s ⟨#[c]⟩ m w hs hm (Nat.le_refl 1)).mono ?_
 rintro e w' ⟨rfl,rfl⟩
 have hl:=congrArg List.length (z3k s c)
 rw[List.length_map,List.length_map,Lib.splitB_all ⟨#[c]⟩ (Nat.le_refl 1) 0 _ s rfl]at hl
 rw[<-hl,z3k]
 exact⟨rfl,rfl⟩
theorem z0bL(s:ByteArray)(hs:s.size<4294967281)(c:UInt8)(w:World)(hL:Lk w):Calls Tryz.prog 51 #[.string s,.string ⟨#[c]⟩] w fun e w'=>
  e= .returned (.tuple #[strV (Lib.cut s.data.toList [c]).1,strV (Lib.cut s.data.toList [c]).2.1,.bool (Lib.cut s.data.toList [c]).2.2])/\Below w.heap.size w w':=by
 obtain⟨m,hm⟩:=hL.mx
 refine(Tryz.strings_Cut s ⟨#[c]⟩ m w hs hm).mono ?_
 rintro e w' ⟨rfl,n,rfl⟩
 exact⟨rfl,((Drew.refl w).drewN n).below _⟩
theorem z0aX(op:Int)(h:op<0\/31<op\/op=30)(w:World):Calls Tryz.prog 127 #[.int .i64 op] w fun e w'=>e= .returned (.tuple #[.string ⟨#[]⟩,.int .i64 5])/\Below w.heap.size w w':=by
 rcases h with h|h|h
 ·have q1:decide (op<0)=true:=by simpa using h
  clear h
  go_enter Tryz.func127,Tryz.ntmps127
  go_wp2
  refine bodyPost_ret (v:= .tuple #[.string ⟨#[]⟩,.int .i64 5]) (by simp[results,Tryz.results127,go_sem]) rfl ⟨rfl,?_⟩
  exact kL
 ·have q1:decide (op<0)=false:=by simp;omega
  have q2:decide (31<op)=true:=by simpa using h
  clear h
  go_enter Tryz.func127,Tryz.ntmps127
  go_wp2
  refine bodyPost_ret (v:= .tuple #[.string ⟨#[]⟩,.int .i64 5]) (by simp[results,Tryz.results127,go_sem]) rfl ⟨rfl,?_⟩
  exact kL
 ·subst h
  go_enter Tryz.func127,Tryz.ntmps127
  go_wp2
  refine bodyPost_ret (v:= .tuple #[.string ⟨#[]⟩,.int .i64 5]) (by simp[results,Tryz.results127,go_sem]) rfl ⟨rfl,?_⟩
  exact kL
theorem z8Y(op:Int)(h0:0<=op)(h1:op<32)(h3:op≠30)(w:World):Calls Tryz.prog 127 #[.int .i64 op] w fun e w'=>e= .returned (.tuple #[.string (namO op),.int .i64 0])/\Below w.heap.size w w':=by
 have hx:=z2e op h0 h1
 have A:=zh z0N
 have fd:∀w,(Instr.field 189 (.agg #[.bool (hasD op),.bool (hasS op),.bool (hasN op),.bool (hasW op),.int .i64 (cycO op),.string (namO op)]) 5).run Tryz.prog w= .ok (.string (namO op)) w:=fun w=>by kernel_rfl
 have q1:decide (op<0)=false:=by simp;omega
 have q2:decide (31<op)=false:=by simp;omega
 have q3:(op==30)=false:=by simpa using h3
 generalize hasD op=d at*
 generalize hasS op=s at*
 generalize hasN op=n at*
 generalize hasW op=x at*
 generalize cycO op=c at*
 generalize shC=G at*
 obtain⟨m,hm⟩:∃m,m=namO op:=⟨_,rfl⟩
 rw[<-hm]at hx fd⊢
 clear hm h0 h1 h3
 go_enter Tryz.func127,Tryz.ntmps127
 go_wp2_with fail
 refine(A.out _).mono ?_
 rintro e w1 ⟨rfl,hb1⟩
 go_wp2
 refine bodyPost_ret (v:= .tuple #[.string m,.int .i64 0]) (by simp[results,Tryz.results127,go_sem]) rfl ⟨rfl,?_⟩
 exact kL
theorem z0bG(op:Int)(h0:0<=op)(h1:op<32)(h3:op≠30)(w:World):Calls Tryz.prog 94 #[.int .i64 op] w fun e w'=>e= .returned (.tuple #[.int .i64 (cycO op),.int .i64 (if hasW op then 2 else 1),.int .i64 0])/\Below w.heap.size w w':=by
 have hx:=z2e op h0 h1
 have A:=zh z0N
 have q1:decide (op<0)=false:=by simp;omega
 have q2:decide (31<op)=false:=by simp;omega
 have q3:(op==30)=false:=by simpa using h3
 generalize namO op=m at*
 generalize hasD op=d at*
 generalize hasS op=s at*
 generalize hasN op=n at*
 generalize shC=G at*
 obtain⟨x,hx1⟩:∃m,m=hasW op:=⟨_,rfl⟩
 obtain⟨c,hc1⟩:∃m,m=cycO op:=⟨_,rfl⟩
 rw[<-hx1,<-hc1]at hx⊢
 clear hx1 hc1 h0 h1 h3
 cases x
 all_goals(
  go_enter Tryz.func94,Tryz.ntmps94
  go_wp2_with fail
  refine(A.out _).mono ?_
  rintro e w1 ⟨rfl,hb1⟩
  go_wp2)
 ·refine bodyPost_ret (v:= .tuple #[.int .i64 c,.int .i64 1,.int .i64 0]) (by simp[results,Tryz.results94,go_sem]) rfl ⟨rfl,?_⟩
  exact kL
 ·refine bodyPost_ret (v:= .tuple #[.int .i64 c,.int .i64 2,.int .i64 0]) (by simp[results,Tryz.results94,go_sem]) rfl ⟨rfl,?_⟩
  exact kL
def stopE(k:Int):Ending:= .panicked [{v:= .iface 177 (.agg #[.int .i64 k]),recovered:=false}]
theorem z1x(k:Int)(w:World):Calls Tryz.prog 87 #[.int .i64 k] w fun e w'=>e=stopE k/\w'=w:=by
 go_enter Tryz.func87,Tryz.ntmps87
 go_wp2
 exact⟨rfl,rfl,rfl⟩
theorem z7g(r d:UInt8)(h:r.toNat=114/\48<=d.toNat/\d.toNat<=55)(w:World):Calls Tryz.prog 126 #[.string ⟨#[r,d]⟩] w fun e w'=>e= .returned (.tuple #[.int .i64 ((d.toNat:Int)-48),.int .i64 0,.bool true])/\w'=w:=by
 have e0:∀h,((⟨#[r,d]⟩:ByteArray)[0]'h)=r:=fun _=>rfl
 have e1:∀h,((⟨#[r,d]⟩:ByteArray)[1]'h)=d:=fun _=>rfl
 obtain⟨x,hx⟩:∃x:Int,x=d.toNat:=⟨_,rfl⟩
 have q0:(r.toNat:Int)=114:=by omega
 have q1:48<=x:=by omega
 have q2:x<=55:=by omega
 rw[<-hx]
 replace hx:((d.toNat:Nat):Int)=x:=hx.symm
 clear h
 go_enter Tryz.func126,Tryz.ntmps126
 go_wp2
 go_ret3
 exact⟨rfl,rfl⟩
theorem z0aa(l:List UInt8)(h:regF l=none)(w:World):Calls Tryz.prog 126 #[.string ⟨l.toArray⟩] w fun e w'=>e= .returned (.tuple #[.int .i64 0,.int .i64 1,.bool false])/\w'=w:=by
 by_cases hl:l.length=2
 ·match l,hl with
  |[r,d],_=>
   have e0:∀h,((⟨#[r,d]⟩:ByteArray)[0]'h)=r:=fun _=>rfl
   have e1:∀h,((⟨#[r,d]⟩:ByteArray)[1]'h)=d:=fun _=>rfl
   have hn:¬(r.toNat=114/\48<=d.toNat/\d.toNat<=55):=fun hh=>by simp[regF,hh]at h
   obtain⟨x,hx⟩:∃x:Int,x=d.toNat:=⟨_,rfl⟩
   obtain⟨y,hy⟩:∃x:Int,x=r.toNat:=⟨_,rfl⟩
   have hn':¬(y=114/\48<=x/\x<=55):=by omega
   replace hx:((d.toNat:Nat):Int)=x:=hx.symm
   replace hy:((r.toNat:Nat):Int)=y:=hy.symm
   clear h hn
   by_cases h0:y=114
   ·by_cases h1:48<=x
    ·have h2:55<x:=by omega
     clear hn'
     go_enter Tryz.func126,Tryz.ntmps126
     go_wp2
     go_ret3
     exact⟨rfl,rfl⟩
    ·have h2:x<48:=by omega
     clear hn' h1
     go_enter Tryz.func126,Tryz.ntmps126
     go_wp2
     go_ret3
     exact⟨rfl,rfl⟩
   ·have h2:(y==114)=false:=beq_eq_false_iff_ne.2 h0
    clear hn' h0
    go_enter Tryz.func126,Tryz.ntmps126
    go_wp2
    go_ret3
    exact⟨rfl,rfl⟩
 ·have q:((l.length:Int)==2)=false:=beq_eq_false_iff_ne.2 kO
  clear h hl
  go_enter Tryz.func126,Tryz.ntmps126
  go_wp2
  go_ret3
  exact⟨rfl,rfl⟩
theorem z4k(l:List UInt8):regF l=none\/∃r d,l=[r,d]/\(r.toNat=114/\48<=d.toNat/\d.toNat<=55)/\regF l=some ((d.toNat:Int)-48):=by
 match l with
 |[]=>exact .inl rfl
 |[_]=>exact .inl rfl
 |[r,d]=>
  by_cases h:r.toNat=114/\48<=d.toNat/\d.toNat<=55
  ·exact .inr ⟨r,d,rfl,h,by rw[regF,if_pos h]⟩
  ·exact .inl (by rw[regF,if_neg h])
 |_::_::_::_=>exact .inl rfl
theorem z2o(l:List UInt8)(n:Int)(h:regF l=some n)(w:World):Calls Tryz.prog 92 #[.string ⟨l.toArray⟩] w fun e w'=>e= .returned (.int .i64 n)/\w'=w:=by
 rcases z4k l with h0|⟨r,d,rfl,hd,h0⟩
 ·rw[h0]at h;cases h
 ·rw[h0]at h
  injection h with h
  subst h
  have I:=zh (z7g r d hd)
  clear hd h0
  obtain⟨x,hx⟩:∃x:Int,x=(d.toNat:Int)-48:=⟨_,rfl⟩
  rw[<-hx]at I⊢
  clear hx
  go_enter Tryz.func92,Tryz.ntmps92
  go_wp2_with fail
  refine(I.out _).mono ?_
  rintro e w' ⟨rfl,rfl⟩
  go_wp2
  go_ret
  exact⟨rfl,rfl⟩
theorem z2M(l:List UInt8)(h:regF l=none)(w:World):Calls Tryz.prog 92 #[.string ⟨l.toArray⟩] w fun e w'=>e=stopE 1/\w'=w:=by
 have I:=zh (z0aa l h)
 have F:=zh z1x
 clear h
 go_enter Tryz.func92,Tryz.ntmps92
 go_wp2_with fail
 refine(I.out _).mono ?_
 rintro e w' ⟨rfl,rfl⟩
 go_wp2_with fail
 refine(F.out _ _).mono ?_
 rintro e w'' ⟨rfl,rfl⟩
 exact⟨rfl,rfl,rfl⟩
theorem z8m(x:List UInt8)(hx:x.length<=4000)(v:Int)(h:Lib.atoiAll x= .ok v)(w:World):Calls Tryz.prog 53 #[.string ⟨x.toArray⟩] w fun e w'=>e= .returned (.tuple #[.int .i64 v,.nilIface])/\Below w.heap.size w w':=
 z9R ⟨x.toArray⟩ (by show x.toArray.size<=_;rw[List.size_toArray];omega) v (by simpa using h) w
theorem z0bY(x:List UInt8)(hx:x.length<=4000)(h:∀v,Lib.atoiAll x≠ .ok v)(w:World)(hL:Lk w):Calls Tryz.prog 53 #[.string ⟨x.toArray⟩] w fun e w'=>(∃(n:Int) (N:Nat),e= .returned (.tuple #[.int .i64 n,.iface 217 (.pointer (some ⟨N,0,none⟩))]))/\Below w.heap.size w w':=
 z0bX ⟨x.toArray⟩ (by show x.toArray.size<=_;rw[List.size_toArray];omega) (by simpa using h) w hL
theorem z5X{l:List UInt8}{v:Int}(h:Lib.atoiAll l= .ok v):I64 v:=by
 have:=Lib.atoiAll_bounds h
 unfold I64
 omega
theorem z2c(x:List UInt8)(hx:x.length<=4000)(v:Int)(h:wholeZ x=some v)(w:World)(hL:Lk w):Calls Tryz.prog 88 #[.string ⟨x.toArray⟩] w fun e w'=>e= .returned (.int .i64 v)/\Below w.heap.size w w':=by
 obtain⟨h1,h2⟩:Lib.atoiAll x= .ok v/\Lib.itoa v=x:=by
  unfold wholeZ at h
  split at h
  ·next u hu=>split at h<;>simp_all
  ·cases h
 have A:=zh (z8m x hx v h1)
 have I:=zh (z5K v (z5X h1))
 rw[h2]at I
 have HL:=zh hL
 clear h h1 h2 hx hL
 go_enter Tryz.func88,Tryz.ntmps88
 go_wp2_with fail
 refine(A.out _).mono ?_
 rintro e w1 ⟨rfl,hb1⟩
 go_wp2_with fail
 refine(I.out _ (HL.out.below hb1)).mono ?_
 rintro e w2 ⟨rfl,hb2⟩
 go_wp2
 go_ret
 exact⟨rfl,kL⟩
theorem z2R(x:List UInt8)(hx:x.length<=4000)(h:wholeZ x=none)(w:World)(hL:Lk w):Calls Tryz.prog 88 #[.string ⟨x.toArray⟩] w fun e w'=>e=stopE 1/\Below w.heap.size w w':=by
 have F:=zh z1x
 have HL:=zh hL
 clear hL
 by_cases hv:∃v,Lib.atoiAll x= .ok v
 ·obtain⟨v,hv⟩:=hv
  have A:=zh (z8m x hx v hv)
  have I:=zh (z5K v (z5X hv))
  have q:(Lib.itoa v==x)=false:=by
   rw[beq_eq_false_iff_ne]
   intro e
   unfold wholeZ at h
   rw[hv]at h
   simp[e]at h
  clear h hx hv
  obtain⟨y,hy⟩:∃y,y=Lib.itoa v:=⟨_,rfl⟩
  rw[<-hy]at q I
  clear hy
  go_enter Tryz.func88,Tryz.ntmps88
  go_wp2_with fail
  refine(A.out _).mono ?_
  rintro e w1 ⟨rfl,hb1⟩
  go_wp2_with fail
  refine(I.out _ (HL.out.below hb1)).mono ?_
  rintro e w2 ⟨rfl,hb2⟩
  go_wp2_with fail
  refine(F.out _ _).mono ?_
  rintro e w3 ⟨rfl,rfl⟩
  exact⟨rfl,rfl,kL⟩
 ·have A:=zh (z0bY x hx (fun v e=>hv ⟨v,e⟩))
  clear h hx hv
  go_enter Tryz.func88,Tryz.ntmps88
  go_wp2_with fail
  refine(A.out _ HL.out).mono ?_
  rintro e w1 ⟨⟨n,N,rfl⟩,hb1⟩
  go_wp2_with fail
  refine(F.out _ _).mono ?_
  rintro e w3 ⟨rfl,rfl⟩
  exact⟨rfl,rfl,kL⟩
theorem z0aQ(K:Nat)(hk:K<32)(w:World):Calls Tryz.prog 91 #[.int .i64 K] w fun e w'=>e= .returned (.string ⟨(prtL K).toArray⟩)/\w'=w:=by
 rcases(by omega:K=0\/K=1\/K=2\/K=3\/K=4\/K=5\/K=6\/K=7\/K=8\/K=9\/K=10\/K=11\/K=12\/K=13\/K=14\/K=15\/K=16\/K=17\/K=18\/K=19\/K=20\/K=21\/K=22\/K=23\/K=24\/K=25\/K=26\/K=27\/K=28\/K=29\/K=30\/K=31)with rfl|rfl|rfl|rfl|rfl|rfl|rfl|rfl|rfl|rfl|rfl|rfl|rfl|rfl|rfl|rfl|rfl|rfl|rfl|rfl|rfl|rfl|rfl|rfl|rfl|rfl|rfl|rfl|rfl|rfl|rfl|rfl
 all_goals(
  go_enter Tryz.func91,Tryz.ntmps91
  go_wp2
  go_ret
  exact⟨rfl,rfl⟩)
theorem z0aV(s:List UInt8)(k:Nat)(hk:k<32):opGo s ((List.range 32).drop k)=if k≠30/\(namO k).data.toList=s then some k else opGo s ((List.range 32).drop (k+1)):=by
 rw[List.drop_eq_getElem_cons (by simpa using hk),List.getElem_range]
 rfl
def OpEnd(s:List UInt8)(w0:World)(e:Ending)(w':World):Prop:=(match opF s with
 |some k=>e= .returned (.int .i64 k)
 |none=>e=stopE 5)/\Below w0.heap.size w0 w'
theorem z0cv(l:List UInt8)(w:World):Calls Tryz.prog 90 #[.string ⟨l.toArray⟩] w (OpEnd l w):=by
 have F:=zh z1x
 have N30:=zh (z0aX 30 kO)
 go_enter Tryz.func90,Tryz.ntmps90
 go_wp2
 go_loopw [6] (fun i wr=>∃k:Nat,k<=32/\i= .int .i64 k/\Hid (opF l=opGo l ((List.range 32).drop k))/\Below w.heap.size w wr) (fun i _=>32-(intOf i).toNat)
 case atStart=>exact⟨0,by omega,rfl,zh rfl,Below.refl _ _⟩
 case round=>
  obtain⟨k,hk,rfl,hx,hb⟩:=hrel
  by_cases hkn:k<32
  ·have hki:(k:Int)<32:=by omega
   have ST:=zh (z0aV l k hkn)
   by_cases h30:k=30
   ·subst h30
    go_wp2_with fail
    refine(N30.out _).mono ?_
    rintro e w2 ⟨rfl,hb2⟩
    go_wp2
    go_roundw
    case rel=>exact⟨31,by omega,by go_num,zh (by rw[hx.out,ST.out,if_neg kS]),kL⟩
    case measure=>simp[intOf]
   ·have NM:=zh (z8Y k kO hki kO)
    obtain⟨m,hm⟩:∃m,m=shmL.getD k []:=⟨_,rfl⟩
    rw[show namO (k:Int)=⟨m.toArray⟩ by rw[hm];rfl]at NM
    have SM:Hid ((namO (k:Int)).data.toList=m):=zh (by rw[hm];unfold namO;simp)
    clear hm
    by_cases hq:m=l
    ·have q:(m==l)=true:=beq_iff_eq.2 hq
     have HE:Hid (opF l=some k):=zh (by rw[hx.out,ST.out,if_pos ⟨h30,by rw[SM.out];exact hq⟩])
     clear hq h30
     go_wp2_with fail
     refine(NM.out _).mono ?_
     rintro e w2 ⟨rfl,hb2⟩
     go_wp2
     go_ret
     refine⟨?_,kL⟩
     rw[HE.out]
     rfl
    ·have q:(m==l)=false:=beq_eq_false_iff_ne.2 hq
     have HE:Hid (opF l=opGo l ((List.range 32).drop (k+1))):=zh (by rw[hx.out,ST.out,if_neg (by rw[SM.out];exact fun h=>hq h.2)])
     clear hq h30
     go_wp2_with fail
     refine(NM.out _).mono ?_
     rintro e w2 ⟨rfl,hb2⟩
     go_wp2
     go_roundw
     case rel=>exact⟨k+1,by omega,by go_num,HE,kL⟩
     case measure=>simp[intOf];omega
  ·have h32:k=32:=by omega
   subst h32
   have HE:Hid (opF l=none):=zh (by rw[hx.out];rfl)
   go_wp2_with fail
   refine(F.out _ _).mono ?_
   rintro e w2 ⟨rfl,rfl⟩
   refine⟨rfl,?_,kL⟩
   rw[HE.out]
   rfl
theorem z0cy(k:Nat)(c:UInt8):nmB k c=decide ((97<=(c.toNat:Int)/\(c.toNat:Int)<=122)\/(c.toNat:Int)=95\/(0<(k:Int)/\48<=(c.toNat:Int)/\(c.toNat:Int)<=57)):=by
 unfold nmB
 rw[Bool.eq_iff_iff]
 simp
 omega
theorem z8V(l:List UInt8)(k:Nat)(hk:k<l.length):nmsB k (l.drop k)=(nmB k l[k]&&nmsB (k+1) (l.drop (k+1))):=by
 rw[List.drop_eq_getElem_cons hk]
 rfl
theorem z2y(l:List UInt8)(w:World):Calls Tryz.prog 86 #[.string ⟨l.toArray⟩] w fun e w'=>e= .returned (.bool (isNm l))/\w'=w:=by
 by_cases h0:l.length<1
 ·have hr:isNm l=false:=by unfold isNm;simp;omega
  rw[hr]
  have hi:(l.length:Int)<1:=by omega
  clear h0 hr
  go_enter Tryz.func86,Tryz.ntmps86
  go_wp2
  go_ret
  exact⟨rfl,rfl⟩
 by_cases h1:12<l.length
 ·have hr:isNm l=false:=by unfold isNm;simp;omega
  rw[hr]
  have hi:12<(l.length:Int):=by omega
  have hi2:1<=(l.length:Int):=by omega
  clear h0 h1 hr
  go_enter Tryz.func86,Tryz.ntmps86
  go_wp2
  go_ret
  exact⟨rfl,rfl⟩
 have R1:=zh (z4k l)
 have RY:=zh z7g
 have RN:=zh (z0aa l)
 have IS:Hid (isNm l=(nmsB 0 l&&(regF l).isNone)):=zh (by
  unfold isNm
  rw[decide_eq_true kO,decide_eq_true kO]
  rfl)
 obtain⟨n,hn⟩:∃n,n=l.length:=⟨_,rfl⟩
 obtain⟨R,hR⟩:∃R,R=isNm l:=⟨_,rfl⟩
 rw[<-hR]at IS⊢
 replace hR:=zh hR
 have hi1:1<=(l.length:Int):=by omega
 have hi2:(l.length:Int)<=12:=by omega
 clear h0 h1 hn
 go_enter Tryz.func86,Tryz.ntmps86
 go_wp2
 go_loop [18] (fun i=>∃k:Nat,k<=l.length/\i= .int .i64 k/\Hid (nmsB 0 l=nmsB k (l.drop k))) (fun i=>l.length-(intOf i).toNat)
 case atStart=>exact⟨0,by omega,rfl,zh rfl⟩
 case round=>
  obtain⟨k,hk,rfl,hx⟩:=hrel
  by_cases hkn:k<l.length
  ·have hki:(k:Int)<l.length:=by omega
   have ST:=zh (z8V l k hkn)
   have NI:=zh (z0cy k l[k])
   obtain⟨c,hc⟩:∃c,c=l[k]:=⟨_,rfl⟩
   have ec:∀h,((⟨l.toArray⟩:ByteArray)[k]'h)=c:=fun h=>by rw[hc];rfl
   rw[<-hc]at ST NI
   obtain⟨x,hx2⟩:∃x:Int,x=c.toNat:=⟨_,rfl⟩
   have hb:0<=x/\x<=255:=by have:=c.toNat_lt;omega
   rw[<-hx2]at NI
   replace hx2:((c.toNat:Nat):Int)=x:=hx2.symm
   obtain⟨hb0,hb1⟩:=hb
   clear hc
   go_wp2
   all_goals simp only[Bool.not_eq_true',Bool.not_eq_false',decide_eq_false_iff_not,decide_eq_true_eq,beq_iff_eq,beq_eq_false_iff_ne,ne_eq]at*
   all_goals(first
    |(
      have q:nmB k c=true:=by rw[NI.out];exact decide_eq_true kO
      refine⟨⟨k+1,by omega,by go_num,zh (by rw[hx.out,ST.out,q];rfl)⟩,by simp[intOf];omega⟩)
    |(
      have q:nmB k c=false:=by rw[NI.out];exact decide_eq_false kO
      have E:R=false:=by rw[IS.out,hx.out,ST.out,q];rfl
      rw[E]
      go_ret
      exact⟨rfl,rfl⟩))
  ·have hkn':k=l.length:=by omega
   have HE:Hid (nmsB 0 l=true):=zh (by rw[hx.out,List.drop_of_length_le kO];rfl)
   subst hkn'
   rcases R1.out with h0|⟨r,d,rfl,hd,h0⟩
   ·have I:=zh (RN.out h0)
    have E:R=true:=by rw[IS.out,HE.out,h0];rfl
    subst E
    clear h0
    go_wp2_with fail
    refine(I.out _).mono ?_
    rintro e w' ⟨rfl,rfl⟩
    go_wp2
    go_ret
    exact⟨rfl,rfl⟩
   ·have I:=zh (RY.out r d hd)
    have E:R=false:=by rw[IS.out,HE.out,h0];rfl
    subst E
    clear h0 hd
    go_wp2_with fail
    refine(I.out _).mono ?_
    rintro e w' ⟨rfl,rfl⟩
    go_wp2
    go_ret
    exact⟨rfl,rfl⟩
def itC(x:It):List Value:=[.int .i64 x.ln,.int .i64 x.o.op,.int .i64 x.o.d,.int .i64 x.o.s,.int .i64 x.o.n,.int .i64 x.o.w,.bool x.raw,.string ⟨x.nm.toArray⟩]
def itsC(l:List It):List Value:=l.flatMap itC
theorem z7G(l:List It)(x:It):itsC (l++[x])=itsC l++itC x:=by simp[itsC]
def MapAt(w:World)(g:Nat)(l:List (List UInt8×Int)):Prop:=∃es c,w.heap[g]? =some (.map es c)/\es.toList.map (fun e=>(e.key,e.val))=l.map (fun e=>(Value.string ⟨e.1.toArray⟩,Value.int .i64 e.2))
theorem MapAt.lt{w:World}{g:Nat}{l:List (List UInt8×Int)}(h:MapAt w g l):g<w.heap.size:=by
 obtain⟨es,c,h,_⟩:=h
 exact(Array.getElem?_eq_some_iff.1 h).1
structure BdAt(w:World)(g gm base:Nat)(b:Bd):Prop where
 ex:∃v,Blk w g #[v,.map (some gm),.int .i64 b.sz] 145/\w.ownsRow base 150 8 v b.its.length (itsC b.its)
 names:MapAt w gm b.nms
 size:0<=b.sz/\b.sz<=1024
 many:b.its.length*2<=b.sz
theorem BdAt.below{w w':World}{g gm base:Nat}{b:Bd}(h:BdAt w g gm base b)(hb:Below w.heap.size w w'):BdAt w' g gm base b:=by
 obtain⟨⟨v,h1,h2⟩,h3,h4,h5⟩:=h
 refine⟨⟨v,h1.below hb,own_below h2 hb⟩,?_,h4,h5⟩
 obtain⟨es,c,h,he⟩:=h3
 exact⟨es,c,by rw[hb.block gm (Array.getElem?_eq_some_iff.1 h).1];exact h,he⟩
theorem z0cV:(Tryz.prog.info? 150).map (fun i=>(i.zero,i.size,i.bytes))=some (some (.agg #[.int .i64 0,.int .i64 0,.int .i64 0,.int .i64 0,.int .i64 0,.int .i64 0,.bool false,.string ⟨#[]⟩]),8,72):=by kernel_rfl
def PutEnd(g gm base:Nat)(b:Bd)(it:It)(k:Int)(n:Nat)(X:World)(e:Ending)(w':World):Prop:=
 (if(putI b it k).1=0 then e= .returned (.tuple #[])/\BdAt w' g gm base (putI b it k).2 else e=stopE (putI b it k).1)/\Below gm X w'/\∀i,n<=i->i<X.heap.size->w'.heap[i]? =X.heap[i]?
theorem z9q(W:World)(x:It)(t:TypeId)(n:Nat)(hn:n=W.heap.size):∀j u,(itC x)[j]? =some u->(W.alloc (.cells (itC x).toArray t)).cell? ((⟨n,0,none⟩:Addr).add j)=some u:=by
 intro j u hj
 subst hn
 have h:=(Blk.new W (itC x).toArray t).cell j
 have e:(⟨W.heap.size,0,none⟩:Addr).add j=⟨W.heap.size,j,none⟩:=by rw[show(⟨W.heap.size,0,none⟩:Addr).add j=⟨W.heap.size,0+j,none⟩ by unfold Addr.add;split<;>simp_all];simp
 rw[e,h,List.getElem?_toArray]
 exact hj
theorem z7h(g gm base:Nat)(hg:gm<g)(hb:g<base)(b:Bd)(it:It)(k:Int)(hk1:1<=k)(hk2:k<=2)(n:Nat)(w:World)(hB:BdAt w g gm base b)(hn:∀v r,Blk w g #[v,.map (some gm),.int .i64 b.sz] 145->v.ownBlock=some r->r<n)(hgn:g<n)(hnw:n<=w.heap.size)(hbw:base<=w.heap.size):
  Calls Tryz.prog 89 #[.pointer (some ⟨g,0,none⟩),.agg (itC it).toArray,.int .i64 k] w (PutEnd g gm base b it k n w):=by
 obtain⟨⟨v,h1,h2⟩,h3,h4,h5⟩:=hB
 have F:=zh z1x
 have HN:=zh (hn v · h1)
 obtain⟨cl,cc,cf⟩:=h1.use
 have B1:=zh h1
 have B2:=zh h2
 have B3:=zh h3
 have B5:=zh h5
 have h4a:=h4.1
 have h4b:=h4.2
 have hs63:0<=2*k:=by omega
 unfold itC
 clear h1 h3 h5 hn h2 h4
 by_cases hs:1024<b.sz+2*k
 ·have HE:Hid ((putI b it k).1=2):=zh (by unfold putI;rw[if_pos hs])
  obtain⟨z,hz⟩:∃z,z=b.sz:=⟨_,rfl⟩
  rw[<-hz]at hs cc h4a h4b
  clear hz
  go_enter Tryz.func89,Tryz.ntmps89
  go_wp2_with fail
  refine(F.out _ _).mono ?_
  rintro e w' ⟨rfl,rfl⟩
  refine⟨rfl,?_,Below.alloc (Below.refl _ _) kO _,fun i h1 h2=>(MapKept.heap_alloc w _).2 i h2⟩
  rw[HE.out,if_neg kD]
  rfl
 ·have HE:Hid ((putI b it k).1=0/\(putI b it k).2=⟨b.its++[it],b.nms,b.sz+2*k⟩):=zh (by unfold putI;rw[if_neg hs];exact⟨rfl,rfl⟩)
  have HM:=zh (by have:=B5.out;omega:(b.its.length+1)*2<=b.sz+2*k/\b.its.length<=600)
  obtain⟨z,hz⟩:∃z,z=b.sz:=⟨_,rfl⟩
  have B1':=B1.out
  rw[<-hz]at hs cc h4a h4b B1'
  replace B1':=zh B1'
  obtain⟨ao,cp,rfl⟩:=z0c B2.out
  replace hz:=zh hz
  clear B1
  obtain⟨i0,hi,hz0,hz1,hz2⟩:=info_parts z0cV
  have HI:=zh (And.intro hi (And.intro hz0 (And.intro hz1 hz2)))
  clear hi hz0 hz1 hz2
  go_enter Tryz.func89,Tryz.ntmps89
  go_wp2_with fail
  have K0:Hid (Blk (w.alloc (.cells #[.int .i64 it.ln,.int .i64 it.o.op,.int .i64 it.o.d,.int .i64 it.o.s,.int .i64 it.o.n,.int .i64 it.o.w,.bool it.raw,.string ⟨it.nm.toArray⟩] 150)) w.heap.size #[.int .i64 it.ln,.int .i64 it.o.op,.int .i64 it.o.d,.int .i64 it.o.s,.int .i64 it.o.n,.int .i64 it.o.w,.bool it.raw,.string ⟨it.nm.toArray⟩] 150):=zh (Blk.new _ _ _)
  have G0:=zh (B1'.out.alloc (.cells #[.int .i64 it.ln,.int .i64 it.o.op,.int .i64 it.o.d,.int .i64 it.o.s,.int .i64 it.o.n,.int .i64 it.o.w,.bool it.raw,.string ⟨it.nm.toArray⟩] 150))
  refine z0k (fun k W=>(k=4->W.cell? ⟨g,0,none⟩=some (.slice ao b.its.length cp))/\(k=5->Blk W (w.heap.size) #[.int .i64 it.ln,.int .i64 it.o.op,.int .i64 it.o.d,.int .i64 it.o.s,.int .i64 it.o.n,.int .i64 it.o.w,.bool it.raw,.string ⟨it.nm.toArray⟩] 150)) [0,1,2,3,4,5,8,9] kR ?_
  refine tF 0 ⟨nD,nD⟩ ?_
  refine tF 1 ⟨nD,nD⟩ ?_
  refine tF 2 ⟨nD,nD⟩ ?_
  refine tF 3 ⟨nD,nD⟩ ?_
  try simp only[yA,yB,yC,Act.put,yD,yE,yF]
  refine tG 4 rfl (by intro w hF;have hF2:=hF.1 rfl;clear hF;go_simp;try with_reducible rfl) ⟨(fun _=>(G0.out.drew.cell 0)),nD⟩ ?_
  refine z0i (i:=5) rfl kR kR kR kR (fun _ _ _ h=>h) (z0f (by rfl) 150 (.tmp 4) rfl (w.heap.size) 0 8 rfl 150 (#[.int .i64 it.ln,.int .i64 it.o.op,.int .i64 it.o.d,.int .i64 it.o.s,.int .i64 it.o.n,.int .i64 it.o.w,.bool it.raw,.string ⟨it.nm.toArray⟩]) (#[.int .i64 it.ln,.int .i64 it.o.op,.int .i64 it.o.d,.int .i64 it.o.s,.int .i64 it.o.n,.int .i64 it.o.w,.bool it.raw,.string ⟨it.nm.toArray⟩]) (fun W hF=>hF.2 rfl) _ Tryz.underlying150 rfl kR rfl rfl) ⟨nD,(fun _=>K0.out.drew)⟩ ?_
  try simp only[yA,yB,yC,Act.put,yD,yE,yF]
  refine rF 6 fun K hK=> ?_
  go_simp
  refine hK.out _ _ (Sat.all kR (fun k=>⟨(fun _=>((G0.out.drew.alloc _).cell 0)),(fun _=>(K0.out.drew.alloc _))⟩)) ?_
  clear hK K
  try simp only[yA,yB,yC,Act.put,yD,yE,yF]
  have N0:Hid (some g≠(Value.slice ao b.its.length cp).ownBlock):=zh (fun h=>by obtain⟨q1,q2⟩:=B2.out.lt g h.symm;omega)
  have N1:Hid (some gm≠(Value.slice ao b.its.length cp).ownBlock):=zh (fun h=>by obtain⟨q1,q2⟩:=B2.out.lt gm h.symm;omega)
  have N2:Hid (some w.heap.size≠(Value.slice ao b.its.length cp).ownBlock):=zh (fun h=>by obtain⟨q1,q2⟩:=B2.out.lt _ h.symm;omega)
  refine rF 7 fun K hK=> ?_
  rw[if_pos (by rfl)]
  refine wp_append_own _ (.tmp 19) (.tmp 21) 143 rfl base 150 i0 (.agg #[.int .i64 0,.int .i64 0,.int .i64 0,.int .i64 0,.int .i64 0,.int .i64 0,.bool false,.string ⟨#[]⟩]) 8 72 Tryz.underlying143 HI.out.1 HI.out.2.1 HI.out.2.2.1 HI.out.2.2.2 rfl kD _ _ _ rfl (World.ownsRow.alloc (World.ownsRow.drew (World.ownsRow.alloc B2.out _)) _) ⟨w.heap.size+1,0,none⟩ 1 1 (itC it) rfl rfl ?c1 ?c2 ?c3 ?c4 ?c5 ?c6
  case c1=>exact z9q _ it _ _ kS
  case c2=>intro u hu;simp[itC]at hu;rcases hu with rfl|rfl|rfl|rfl|rfl|rfl|rfl|rfl<;>rfl
  case c3=>unfold maxLen;have:=HM.out.2;omega
  case c4=>have:=HM.out.2;omega
  case c5=>simp;omega
  intro v' w5 hown hgrow _
  obtain⟨a',q',ev'⟩:=z0c hown
  subst ev'
  have sz5:w.heap.size+2<=w5.heap.size:=by have:=hgrow.size;simpa using this
  have G5:Hid (Blk w5 g #[.slice ao b.its.length cp,.map (some gm),.int .i64 z] 145):=zh (by
   unfold Blk
   rw[hgrow.block g (by simp;omega) (fun e=>N0.out e)]
   exact(G0.out.drew.alloc _))
  have T5:Hid (Blk w5 w.heap.size #[.int .i64 it.ln,.int .i64 it.o.op,.int .i64 it.o.d,.int .i64 it.o.s,.int .i64 it.o.n,.int .i64 it.o.w,.bool it.raw,.string ⟨it.nm.toArray⟩] 150):=zh (by
   unfold Blk
   rw[hgrow.block w.heap.size (by simp;omega) (fun e=>N2.out e)]
   exact(K0.out.drew.alloc _))
  have R5:Hid (∀i,i<w.heap.size->some i≠(Value.slice ao b.its.length cp).ownBlock->w5.heap[i]? =w.heap[i]?):=zh (fun i h1 h2=>by
   rw[hgrow.block i (by simp;omega) h2]
   show((w.alloc _).alloc _).heap[i]? =_
   rw[(MapKept.heap_alloc _ _).2 i (by simp;omega)]
   exact(MapKept.heap_alloc w _).2 i h1)
  have H5:Hid (Below gm w w5):=zh (z0p (base:=base) (by first|exact((((Below.refl gm w).alloc kO _).drew).alloc (by simp;omega) _)) (by simp;omega) hgrow (World.ownsRow.alloc (World.ownsRow.drew (World.ownsRow.alloc B2.out _)) _) kO)
  have O5:=zh hown
  have f5:=G5.out.free
  have l5:g<w5.heap.size:=G5.out.lt
  have c50:w5.cell? ⟨g,0,none⟩=some (.slice ao b.its.length cp):=G5.out.cell 0
  refine hK.out _ _ (Sat.all kR (fun k=>⟨(fun _=>G5.out.cell 0),(fun _=>T5.out)⟩)) ?_
  clear hK K hown hgrow
  try simp only[yA,yB,yC,Act.put,yD,yE,yF]
  refine tF 8 ⟨nD,nD⟩ ?_
  refine tF 9 ⟨nD,nD⟩ ?_
  refine rF 10 fun K hK=> ?_
  go_simp
  refine hK.out _ _ (Sat.off [4,5] (fun k w hk=>by simp only[List.mem_cons,List.not_mem_nil,or_false,not_or]at hk;exact⟨(fun e=>absurd e hk.1),(fun e=>absurd e hk.2)⟩) kR _ _) ?_
  clear hK K
  try simp only[yA,yB,yC,Act.put,yD,yE,yF]
  refine z0g kR ?_ _
  have G6:=zh (Blk.set (i:=0) (v:= .slice a' (b.its.length+1) q') G5.out rfl)
  have l6:g<(w5.setCell ⟨g,0,none⟩ (.slice a' (b.its.length+1) q')).heap.size:=by simpa using l5
  have c62:(w5.setCell ⟨g,0,none⟩ (.slice a' (b.its.length+1) q')).cell? ⟨g,2,none⟩=some (.int .i64 z):=G6.out.cell 2
  have f6:=G6.out.free
  have h6:gm<=g:=by omega
  have O6:Hid ((w5.setCell ⟨g,0,none⟩ (.slice a' (b.its.length+1) q')).ownsRow base 150 8 (.slice a' (b.its.length+1) q') (b.its.length+1) (itsC b.its++itC it)):=zh (z0o O5.out (fun r hr=>by have:=(O5.out.lt r hr).1;show r≠g;omega))
  have R6:Hid (∀i,i≠g->(w5.setCell ⟨g,0,none⟩ (.slice a' (b.its.length+1) q')).heap[i]? =w5.heap[i]?):=zh (fun i h=>Below.heap_setCell _ _ _ _ h)
  have H6:Hid (Below gm w (w5.setCell ⟨g,0,none⟩ (.slice a' (b.its.length+1) q'))):=zh (Below.setCell H5.out (by show gm<=g;omega) _)
  clear G5 f5 l5 c50 O5 H5 cc cf K0 G0
  obtain⟨w6,hw6⟩:∃w6,w6=w5.setCell ⟨g,0,none⟩ (.slice a' (b.its.length+1) q'):=⟨_,rfl⟩
  rw[<-hw6]at l6 c62 f6 O6 R6 H6 G6⊢
  clear hw6
  go_wp2
  refine bodyPost_end (results_none rfl _ _ _) rfl ⟨?_,?_,?_⟩
  ·rw[HE.out.1,if_pos rfl,HE.out.2]
   refine⟨rfl,⟨⟨.slice a' (b.its.length+1) q',?_,?_⟩,?_,?_,?_⟩⟩
   ·have:=Blk.set (i:=2) (v:= .int .i64 (z+2*k)) G6.out rfl
    rw[<-hz.out]
    exact this
   ·rw[List.length_append,z7G]
    exact z0o O6.out (fun r hr=>by have:=(O6.out.lt r hr).1;show r≠g;omega)
   ·obtain⟨es,c,h,he⟩:=B3.out
    refine⟨es,c,?_,he⟩
    rw[Below.heap_setCell _ _ _ _ (show gm≠g by omega),R6.out gm kO,R5.out gm (Array.getElem?_eq_some_iff.1 h).1 N1.out]
    exact h
   ·show 0<=b.sz+2*k/\b.sz+2*k<=1024
    rw[<-hz.out]
    omega
   ·show(((b.its++[it]).length:Nat):Int)*2<=b.sz+2*k
    rw[List.length_append]
    exact HM.out.1
  ·exact Below.setCell H6.out (by show gm<=g;omega) _
  ·intro i h1 h2
   rw[Below.heap_setCell _ _ _ _ (show i≠g by omega),R6.out i kO,R5.out i h2 (fun e=>by have:=HN.out i e.symm;omega)]
theorem z8f(a b:List UInt8):((⟨a.toArray⟩:ByteArray)==⟨b.toArray⟩)=(a==b):=by
 show(a.toArray==b.toArray)=_
 simp
theorem z3Q(k:List UInt8):∀(es:List MapEntry) (l:List (List UInt8×Int)) (i:Nat),es.map (fun e=>(e.key,e.val))=l.map (fun e=>(Value.string ⟨e.1.toArray⟩,Value.int .i64 e.2))->
  (findN l k=none->Instr.findNow .string (.string ⟨k.toArray⟩) es i=some none)/\(∀v,findN l k=some v->∃j,Instr.findNow .string (.string ⟨k.toArray⟩) es i=some (some (j,.int .i64 v)))
 |[],[],i,_=>⟨fun _=>rfl,fun v h=>by simp[findN]at h⟩
 |e::es,[],i,h=>by simp at h
 |[],e::l,i,h=>by simp at h
 |e::es,x::l,i,h=>by
  simp only[List.map_cons,List.cons.injEq,Prod.mk.injEq]at h
  obtain⟨⟨h1,h2⟩,h3⟩:=h
  obtain⟨r1,r2⟩:=z3Q k es l (i+1) h3
  unfold findN at r1 r2⊢
  unfold Instr.findNow
  rw[h1]
  simp only[Instr.sameNow,z8f]
  by_cases hx:x.1=k
  ·subst hx
   simp[h2]
  ·have e1:(x.1==k)=false:=beq_eq_false_iff_ne.2 hx
   have e2:(k==x.1)=false:=beq_eq_false_iff_ne.2 (fun h=>hx h.symm)
   rw[List.find?_cons,e1,e2]
   exact⟨r1,r2⟩
theorem z3C(w:World)(g:Nat)(l:List (List UInt8×Int))(k:List UInt8)(h:MapAt w g l):
  (Instr.lookup 142 (.map (some g)) (.string ⟨k.toArray⟩) true).run Tryz.prog w= .ok (.tuple #[.int .i64 ((findN l k).getD 0),.bool (findN l k).isSome]) w:=by
 obtain⟨es,c,hb,he⟩:=h
 obtain⟨r1,r2⟩:=z3Q k es.toList l 0 he
 have hc:=MapKept.run_checkKey (P:=Tryz.prog) (w:=w) (k:= .string ⟨k.toArray⟩) Tryz.underlying9 trivial es.isEmpty 9999
 have hz:(zeroValue 3).run Tryz.prog w= .ok (.int .i64 0) w:=by kernel_rfl
 cases hq:findN l k with
 |none=>
  have hfk:=MapKept.run_findKey (P:=Tryz.prog) (w:=w) Tryz.underlying9 (r1 hq)
  simp[Instr.lookup,run_underlying Tryz.underlying142,MapKept.run_getObj_map hb,hc,hfk,hz,Result.andThen]
 |some v=>
  obtain⟨j,hj⟩:=r2 v hq
  have hfk:=MapKept.run_findKey (P:=Tryz.prog) (w:=w) Tryz.underlying9 hj
  simp[Instr.lookup,run_underlying Tryz.underlying142,MapKept.run_getObj_map hb,hc,hfk,Result.andThen]
theorem z0aN(w:World)(g:Nat)(o:Obj):Put g w {w with heap:=w.heap.setIfInBounds g o}:=
 ⟨⟨rfl,rfl,rfl,by simp,fun k hk=>by simp[Array.getElem?_setIfInBounds,show ¬g=k by omega]⟩,by simp,fun k hk=>by simp[Array.getElem?_setIfInBounds,show ¬g=k from fun h=>hk h.symm]⟩
theorem z8G(w:World)(g:Nat)(l:List (List UInt8×Int))(k:List UInt8)(v:Int)(h:MapAt w g l)(hn:findN l k=none):
  ∃w',(Instr.mapUpdate 142 (.map (some g)) (.string ⟨k.toArray⟩) (.int .i64 v)).run Tryz.prog w= .ok () w'/\Put g w w'/\MapAt w' g (l++[(k,v)]):=by
 obtain⟨es,c,hb,he⟩:=h
 obtain⟨r1,r2⟩:=z3Q k es.toList l 0 he
 have hc:=MapKept.run_checkKey (P:=Tryz.prog) (w:=w) (k:= .string ⟨k.toArray⟩) Tryz.underlying9 trivial false 9999
 have hfk:=MapKept.run_findKey (P:=Tryz.prog) (w:=w) Tryz.underlying9 (r1 hn)
 refine⟨_,?_,z0aN w g (.map (es.push {key:= .string ⟨k.toArray⟩,val:= .int .i64 v,born:=c}) (c+1)),⟨_,_,(MapKept.heap_set hb).1,?_⟩⟩
 ·simp[Instr.mapUpdate,run_underlying Tryz.underlying142,MapKept.run_getObj_map hb,hc,hfk,MapKept.run_setObj_map _ hb,Result.andThen]
 ·simp[he]
theorem z9J(p:Nat)(k:Int)(w:World)(o:Obj)(hp:Blk w p #[.int .i64 0] 47):Blk ((w.setCell ⟨p,0,none⟩ (.int .i64 k)).alloc o) p #[.int .i64 k] 47/\Below p w ((w.setCell ⟨p,0,none⟩ (.int .i64 k)).alloc o)/\∀i,¬i=p->i<w.heap.size->((w.setCell ⟨p,0,none⟩ (.int .i64 k)).alloc o).heap[i]? =w.heap[i]? :=
 ⟨(hp.set rfl).alloc _,Below.alloc (Below.setCell (Below.refl _ _) (Nat.le_refl p) _) (by have:=hp.lt;simp;omega) _,fun i h1 h2=>by
  rw[(MapKept.heap_alloc _ _).2 i (by simpa using h2)]
  exact Below.heap_setCell _ _ _ _ h1⟩
theorem z8e(p:Nat)(k:Int)(older:List PanicEntry)(w:World)(hp:Blk w p #[.int .i64 0] 47):
  CallsD Tryz.prog 84 #[.pointer (some ⟨p,0,none⟩)] (.panicking ({v:= .iface 177 (.agg #[.int .i64 k]),recovered:=false}::older)) w fun e u' w'=>
   e= .returned (.tuple #[])/\u'= .panicking ({v:= .iface 177 (.agg #[.int .i64 k]),recovered:=true}::older)/\(Blk w' p #[.int .i64 k] 47/\Below p w w'/\∀i,i≠p->i<w.heap.size->w'.heap[i]? =w.heap[i]?):=by
 obtain⟨l,c,f⟩:=hp.use
 have ta:∀w,(Instr.typeAssert (.iface 177 (.agg #[.int .i64 k])) 20 177 true).run Tryz.prog w= .ok (.tuple #[.agg #[.int .i64 k],.bool true]) w:=fun w=>by kernel_rfl
 refine callsD_of_wpS Tryz.func84 rfl fun c₀ cs hu=> ?_
 apply wpS_seq
 apply wpS_region
 simp[wpOpsS,go_sem,recoverD,hu,Tryz.ntmps84,Exit.thenS]
 refine wpS_of_wp ?_
 change Code.wp _ _ _ {tmps:= #[.pointer (some ⟨p,0,none⟩),(.iface 177 (.agg #[.int .i64 k])),undef,undef,(.iface 177 (.agg #[.int .i64 k])),undef,undef,undef,undef,undef,undef,undef,undef,undef,undef,undef,undef],defers:=[]} _
 go_wp2
 have HF:=z9J p k w (.cells #[.int .i64 k] 177) hp
 cases c₀
 simp[bodyPostS,results,Tryz.results84]
 exact HF
theorem z6q(p:Nat)(w:World):
  CallsD Tryz.prog 84 #[.pointer (some ⟨p,0,none⟩)] .returning w fun e u' w'=>e= .returned (.tuple #[])/\u'= .returning/\w'=w:=by
 refine callsD_of_wpS Tryz.func84 rfl fun c₀ cs hu=> ?_
 apply wpS_seq
 apply wpS_region
 simp[wpOpsS,go_sem,recoverD,hu,Tryz.ntmps84,Exit.thenS]
 refine wpS_of_wp ?_
 change Code.wp _ _ _ {tmps:= #[.pointer (some ⟨p,0,none⟩),.nilIface,undef,undef,.nilIface,undef,undef,undef,undef,undef,undef,undef,undef,undef,undef,undef,undef],defers:=[]} _
 go_wp2
 cases c₀
 simp_all [bodyPostS,results,Tryz.results84]
theorem z5l(l:List UInt8):Lib.hasSuffix l [58]=decide (l.getLast? =some 58):=by
 rcases List.eq_nil_or_concat l with rfl|⟨r,c,rfl⟩
 ·rfl
 ·rw[Bool.eq_iff_iff]
  simp[Lib.hasSuffix,List.isSuffixOf]
  exact eq_comm
theorem z3T(l:List UInt8)(hl:l.length<=4000)(h:l.getLast? =some 58)(w:World):Calls Tryz.prog 85 #[.string ⟨l.toArray⟩,.string ⟨#[58]⟩] w fun e w'=>e= .returned (.tuple #[.string ⟨l.dropLast.toArray⟩,.bool true])/\w'=w:=by
 have:=Tryz.strings_CutSuffix ⟨l.toArray⟩ ⟨#[58]⟩ w (by rw[Lib.size_eq];simp;omega)
 rw[show(⟨l.toArray⟩:ByteArray).data.toList=l by simp,show(⟨#[58]⟩:ByteArray).data.toList=[58]from rfl,z5l,decide_eq_true h]at this
 rw[show Lib.trimSuffix l [58]=l.dropLast by unfold Lib.trimSuffix;rw[z5l,decide_eq_true h,if_pos rfl,List.dropLast_eq_take];rfl]at this
 exact this
theorem z9B(l:List UInt8)(hl:l.length<=4000)(h:¬l.getLast? =some 58)(w:World):Calls Tryz.prog 85 #[.string ⟨l.toArray⟩,.string ⟨#[58]⟩] w fun e w'=>e= .returned (.tuple #[.string ⟨l.toArray⟩,.bool false])/\w'=w:=by
 have:=Tryz.strings_CutSuffix ⟨l.toArray⟩ ⟨#[58]⟩ w (by rw[Lib.size_eq];simp;omega)
 rw[show(⟨l.toArray⟩:ByteArray).data.toList=l by simp,show(⟨#[58]⟩:ByteArray).data.toList=[58]from rfl,z5l,decide_eq_false h]at this
 rw[show Lib.trimSuffix l [58]=l by unfold Lib.trimSuffix;rw[z5l,decide_eq_false h,if_neg kS]]at this
 exact this
theorem cut32(l:List UInt8)(hl:l.length<=4000)(w:World)(hL:Lk w):Calls Tryz.prog 51 #[.string ⟨l.toArray⟩,.string ⟨#[32]⟩] w fun e w'=>e= .returned (.tuple #[.string ⟨(Lib.cut l [32]).1.toArray⟩,.string ⟨(Lib.cut l [32]).2.1.toArray⟩,.bool (Lib.cut l [32]).2.2])/\Below w.heap.size w w':=by
 have:=z0bL ⟨l.toArray⟩ (by rw[Lib.size_eq];simp;omega) 32 w hL
 rw[show(⟨l.toArray⟩:ByteArray).data.toList=l by simp]at this
 exact this
theorem z3i(sep:List UInt8)(hs:1<=sep.length):∀(n:Nat) (s:List UInt8),∀a∈Lib.splitK sep 0 n s,a.length<=s.length
 |0,s,a,h=>by simp[Lib.splitK]at h;subst h;exact Nat.le_refl _
 |n+1,s,a,h=>by
  unfold Lib.splitK at h
  split at h
  ·simp at h;subst h;exact Nat.le_refl _
  ·simp only[List.mem_cons]at h
   rcases h with rfl|h
   ·simp only[List.length_take];omega
   ·have:=z3i sep hs n _ a h
    simp only[List.length_drop]at this
    omega
theorem z9S(r:List UInt8):∀a∈argsF r,a.length<=r.length:=fun a h=>by
 unfold argsF at h
 split at h
 ·cases h
 ·exact z3i _ kD _ _ a h
theorem z0bJ(l:List UInt8):(Lib.cut l [32]).1.length<=l.length/\(Lib.cut l [32]).2.1.length<=l.length:=by
 by_cases h:(32:UInt8)∈l
 ·rcases z1k l 32 with⟨_,h2⟩|⟨a,b,rfl,h2,_⟩
  ·exact absurd h h2
  ·rw[z0bK 32 a b h2]
   simp
   omega
 ·rw[z9C 32 l h]
  simp
theorem z3j(s:List UInt8):(Lib.splitB ⟨#[44,32]⟩ 0 (Lib.countB ⟨s.toArray⟩ ⟨#[44,32]⟩) ⟨s.toArray⟩).map Value.string=(Lib.splitK [44,32] 0 (Lib.count s [44,32]) s).map strV:=by
 have h:=Lib.splitB_data ⟨#[44,32]⟩ 0 (Lib.countB ⟨s.toArray⟩ ⟨#[44,32]⟩) ⟨s.toArray⟩
 rw[show(⟨s.toArray⟩:ByteArray).data.toList=s by simp]at h
 have h2:Lib.splitK (⟨#[44,32]⟩:ByteArray).data.toList 0 (Lib.countB ⟨s.toArray⟩ ⟨#[44,32]⟩) s=Lib.splitK [44,32] 0 (Lib.count s [44,32]) s:=by
  show Lib.splitK [44,32] 0 (Lib.count (⟨s.toArray⟩:ByteArray).data.toList [44,32]) s=_
  simp
 rw[h2]at h
 rw[<-h,List.map_map]
 refine List.map_congr_left fun x _=> ?_
 show Value.string x=Value.string ⟨x.data.toList.toArray⟩
 rw[Array.toArray_toList]
theorem z0cl(r:List UInt8)(hr:r.length<=4000)(h0:r≠[])(w:World)(hL:Lk w):Calls Tryz.prog 52 #[.string ⟨r.toArray⟩,.string ⟨#[44,32]⟩] w fun e w'=>
  e= .returned (.slice (some ⟨w.heap.size,0,none⟩) (argsF r).length (argsF r).length)/\w'=w.alloc (.cells ((argsF r).map strV).toArray 9):=by
 obtain⟨m,hm⟩:=hL.mx
 refine(Tryz.strings_Split ⟨r.toArray⟩ ⟨#[44,32]⟩ m w (by rw[Lib.size_eq];simp;omega) hm kD).mono ?_
 rintro e w' ⟨rfl,rfl⟩
 have hl:=congrArg List.length (z3j r)
 rw[List.length_map,List.length_map,Lib.splitB_all ⟨#[44,32]⟩ kD 0 _ ⟨r.toArray⟩ rfl]at hl
 have e:argsF r=Lib.splitK [44,32] 0 (Lib.count r [44,32]) r:=by unfold argsF;rw[if_neg h0]
 rw[e,<-hl,z3j]
 exact⟨rfl,rfl⟩
end Go.Proofs.YtkoocfcnfolkhaaGreatDoor
