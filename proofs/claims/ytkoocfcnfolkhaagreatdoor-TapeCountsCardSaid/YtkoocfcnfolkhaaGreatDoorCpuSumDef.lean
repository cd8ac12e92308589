/- An order's sums of registers. Conditions: the bus is one, the fields are words, the order's parts in their ranges. -/
import Derived.Test.YtkoocfcnfolkhaaGreatDoorP09
set_option linter.unusedVariables false
set_option linter.unusedSimpArgs false
set_option maxHeartbeats 400000
set_option maxRecDepth 100000
namespace Go.Mq
open Go.RowKit
def isFl(op:Int):Bool:=op==7||op==8||op==9||op==10||op==11||op==14||op==15||op==28
def isSum(op:Int):Bool:=op==12||op==13||isFl op
def flN(op a b:Int):Int:=if op=7\/op=15 then addN a b else if op=8\/op=14 then subN a b else if op=9 then bAnd a b else if op=10 then bOr a b else if op=11 then bXor a b else mulN a b
def flC(op a b:Int):Bool:=if op=7\/op=15 then addC a b else if op=8\/op=14 then subC a b else if op=9 then false else if op=10 then false else if op=11 then false else mulH a b
def flV(op a b:Int):Bool:=if op=7\/op=15 then addV a b else if op=8\/op=14 then subV a b else false
def flagged(c:Cp)(x:Int)(cr v:Bool):Cp:=c.fl (x==0) (decide (32768<=x)) cr v
def sumC(c:Cp)(op:Int)(D S:Nat)(n:Int):Cp:=
 if op=12 then(flagged c (shlN (c.r D) n.toNat) (shlO (c.r D) n.toNat) false).reg D (shlN (c.r D) n.toNat)
 else if op=13 then(flagged c (shrN (c.r D) n.toNat) (shrO (c.r D) n.toNat) false).reg D (shrN (c.r D) n.toNat)
 else if op=15 then(flagged c (flN 15 (c.r D) (n%65536)) (flC 15 (c.r D) (n%65536)) (flV 15 (c.r D) (n%65536))).reg D (flN 15 (c.r D) (n%65536))
 else if op=14 then flagged c (flN 14 (c.r D) (c.r S)) (flC 14 (c.r D) (c.r S)) (flV 14 (c.r D) (c.r S))
 else(flagged c (flN op (c.r D) (c.r S)) (flC op (c.r D) (c.r S)) (flV op (c.r D) (c.r S))).reg D (flN op (c.r D) (c.r S))
def sumR(c:Cp)(op:Int)(D S:Nat)(n:Int):Cp:=if isSum op then sumC c op D S n else c
theorem z6X{c:Cp}{op:Int}{D S:Nat}{n:Int}(h:isSum op=true):sumR c op D S n=sumC c op D S n:=if_pos h
theorem z3U{c:Cp}{op:Int}{D S:Nat}{n:Int}(h:isSum op=false):sumR c op D S n=c:=if_neg (by rw[h];decide)
def doC(cb:Nat)(get put:Value)(op:Int)(D S:Nat)(n v cy:Int):Array Value:= #[.pointer (some ⟨cb,0,none⟩),get,put,.int .i64 op,.int .i64 D,.int .i64 S,.int .i64 n,.int .i64 v,.int .i64 cy]
theorem z0i{F R:World->Prop}{W:World}(h:R W)(k:∀W',R W'->F W'):F W:=k W h
theorem gcut2{G:Prop}{F:Nat->Nat->World->Prop}(R:Nat->Nat->World->Prop)(h:(∀x y W,R x y W->F x y W)->G)(H:∀x y W,R x y W->F x y W):G:=h H
theorem gcut3{G:Prop}{F:Nat->Nat->Nat->World->Prop}(R:Nat->Nat->Nat->World->Prop)(h:(∀x y z W,R x y z W->F x y z W)->G)(H:∀x y z W,R x y z W->F x y z W):G:=h H
theorem Blk.cp{w:World}{cb:Nat}{c:Cp}{t:TypeId}(h:Blk w cb (cpuC c) t){D S:Nat}(hD:D<8)(hS:S<8):
  w.cell? ⟨cb,D,none⟩=some (.int .u16 (c.r D))/\w.cell? ⟨cb,S,none⟩=some (.int .u16 (c.r S))/\(∀i,w.frozen? ⟨cb,i,none⟩=false)/\cb<w.heap.size/\
   w.cell? ⟨cb,8,none⟩=some (.int .u16 c.pc)/\w.cell? ⟨cb,9,none⟩=some (.bool c.z)/\w.cell? ⟨cb,10,none⟩=some (.bool c.n)/\w.cell? ⟨cb,11,none⟩=some (.bool c.c)/\w.cell? ⟨cb,12,none⟩=some (.bool c.v)/\w.cell? ⟨cb,13,none⟩=some (.bool c.may)/\w.cell? ⟨cb,14,none⟩=some (.bool c.wt):=
 ⟨(h.cell D).trans (z3q c D hD),(h.cell S).trans (z3q c S hS),h.free,h.lt,h.cell 8,h.cell 9,h.cell 10,h.cell 11,h.cell 12,h.cell 13,h.cell 14⟩
theorem Blk.dn{w:World}{cb db:Nat}{get put:Value}{op:Int}{D S:Nat}{n v cy:Int}{t:TypeId}(h:Blk w db (doC cb get put op D S n v cy) t):
  w.cell? ⟨db,0,none⟩=some (.pointer (some ⟨cb,0,none⟩))/\w.cell? ⟨db,1,none⟩=some get/\w.cell? ⟨db,2,none⟩=some put/\w.cell? ⟨db,3,none⟩=some (.int .i64 op)/\w.cell? ⟨db,4,none⟩=some (.int .i64 D)/\w.cell? ⟨db,5,none⟩=some (.int .i64 S)/\
   w.cell? ⟨db,6,none⟩=some (.int .i64 n)/\w.cell? ⟨db,7,none⟩=some (.int .i64 v)/\w.cell? ⟨db,8,none⟩=some (.int .i64 cy)/\(∀i,w.frozen? ⟨db,i,none⟩=false)/\db<w.heap.size:=
 ⟨h.cell 0,h.cell 1,h.cell 2,h.cell 3,h.cell 4,h.cell 5,h.cell 6,h.cell 7,h.cell 8,h.free,h.lt⟩
end Go.Mq
namespace Go.Proofs.YtkoocfcnfolkhaaGreatDoor
open Go.RowKit Go.Mq
theorem z2z(op a b:Int)(h:isFl op=true)(ha:U16 a)(hb:U16 b)(w:World):
  Calls Tryz.prog 135 #[.int .i64 op,.int .u16 a,.int .u16 b] w fun e w'=>e= .returned (.tuple #[.int .u16 (flN op a b),.bool (flN op a b==0),.bool (decide (32768<=flN op a b)),.bool (flC op a b),.bool (flV op a b),.int .i64 0])/\Below w.heap.size w w':=by
 simp only[isFl,Bool.or_eq_true,beq_iff_eq]at h
 rcases h with((((((h|h)|h)|h)|h)|h)|h)|h<;>subst h
 ·exact z9s a b ha hb w
 ·exact z9r a b ha hb w
 ·exact z9q a b ha hb w
 ·exact z7Q a b ha hb w
 ·exact z7P a b ha hb w
 ·exact z7O a b ha hb w
 ·exact z7N a b ha hb w
 ·exact z7M a b ha hb w
theorem flN_u(op a b:Int)(ha:U16 a)(hb:U16 b):U16 (flN op a b):=by
 unfold flN
 repeat' split
 ·exact z3T a b
 ·exact z4w a b
 ·exact z8B a b ha hb
 ·exact bOr_u a b ha hb
 ·exact z8A a b ha hb
 ·exact z8r a b
end Go.Proofs.YtkoocfcnfolkhaaGreatDoor
