/- A machine's data, its row of cells, what each cell holds, what a store into each makes. Conditions: none; no program in sight. Printed by mkmach.py. -/
import Derived.Test.YtimccpmdgfneoaaCpuCp
import Derived.Test.YtimccpmdgfneoaaPartP
import Derived.Test.YtimccpmdgfneoaaTonePure
import Derived.Test.YtimccpmdgfneoaaOwnB
namespace Go.Mq
open Go.RowKit
set_option linter.unusedVariables false
set_option maxRecDepth 100000
/-- a machine; its memories: the main program, the other one, the main memory, the own one, the picture's -/
structure Mach where
  mc : Cp
  ac : Cp
  mem : Nat → List Int
  p0 : Pd
  p1 : Pd
  tm : Tim
  sd : Sd
  bm : Bm
  fm : Int
  to : Int
  gr : Bool
  hd : Bool
  m0 : Int
  m1 : Int
  rg : Bool
  ck : Int
  mr : Int
  ar : Int
/-- the fields are what their types hold -/
structure Mach.In (m : Mach) : Prop where
  mc : m.mc.In
  ac : m.ac.In
  mem : ∀ i, Bytes8 (m.mem i)
  p0 : m.p0.Ok
  p1 : m.p1.Ok
  tm : m.tm.Ok
  sd : m.sd.In
  wt : I64 m.sd.wt
  ln : I64 m.bm.ln
  pt : I64 m.bm.pt
  fr : I64 m.bm.fr
  fm : U16 m.fm
  to : U16 m.to
  m0 : U8 m.m0
  m1 : U8 m.m1
  ck : I64 m.ck
  mr : I64 m.mr
  ar : I64 m.ar
/-- the memories have their sizes -/
structure Mach.Fit (m : Mach) : Prop where
  l0 : (m.mem 0).length ≤ 1024
  l1 : (m.mem 1).length ≤ 1024
  l2 : (m.mem 2).length = 128
  l3 : (m.mem 3).length = 64
  l4 : (m.mem 4).length = 256
def updV (f : Nat → Value) (i : Nat) (v : Value) : Nat → Value := fun k => if k = i then v else f k
def updM (f : Nat → List Int) (i : Nat) (l : List Int) : Nat → List Int := fun k => if k = i then l else f k
/-- a write to the sound -/
structure Wr where
  ck : Int
  at' : Int
  v : Int
/-- a machine at work -/
structure Bx where
  m : Mach
  ws : List Wr
  dl : Int
def wrC : List Wr → List Value
  | [] => []
  | x :: t => [.int .i64 x.ck, .int .i64 x.at', .int .u8 x.v] ++ wrC t
theorem wrC_len (l : List Wr) : (wrC l).length = l.length * 3 := by
  induction l with
  | nil => rfl
  | cons x t ih => simp only [wrC, List.length_append, List.length_cons, List.length_nil, ih]; omega
theorem wrC_snoc (l : List Wr) (x : Wr) : wrC (l ++ [x]) = wrC l ++ [.int .i64 x.ck, .int .i64 x.at', .int .u8 x.v] := by
  induction l with
  | nil => rfl
  | cons y t ih => simp only [wrC, List.cons_append, ih]; rfl
def machC (V : Nat → Value) (m : Mach) : Array Value := #[.int .u16 (m.mc.r 0), .int .u16 (m.mc.r 1), .int .u16 (m.mc.r 2), .int .u16 (m.mc.r 3), .int .u16 (m.mc.r 4), .int .u16 (m.mc.r 5), .int .u16 (m.mc.r 6), .int .u16 (m.mc.r 7), .int .u16 m.mc.pc, .bool m.mc.z, .bool m.mc.n, .bool m.mc.c, .bool m.mc.v, .bool m.mc.may, .bool m.mc.wt, .int .u16 (m.ac.r 0), .int .u16 (m.ac.r 1), .int .u16 (m.ac.r 2), .int .u16 (m.ac.r 3), .int .u16 (m.ac.r 4), .int .u16 (m.ac.r 5), .int .u16 (m.ac.r 6), .int .u16 (m.ac.r 7), .int .u16 m.ac.pc, .bool m.ac.z, .bool m.ac.n, .bool m.ac.c, .bool m.ac.v, .bool m.ac.may, .bool m.ac.wt, V 0, V 1, V 2, V 3, V 4, .int .u8 m.p0.dn, .bool m.p0.la, .int .u8 m.p0.sh, .int .u8 m.p1.dn, .bool m.p1.la, .int .u8 m.p1.sh, .int .u16 m.tm.rl, .int .u16 m.tm.ct, .bool m.tm.on, .bool m.tm.rg, .int .u16 m.sd.a.pd, .int .u16 m.sd.a.ct, .int .u8 m.sd.a.ld, .bool m.sd.a.hi, .int .u16 m.sd.a.nz, .int .u16 m.sd.b.pd, .int .u16 m.sd.b.ct, .int .u8 m.sd.b.ld, .bool m.sd.b.hi, .int .u16 m.sd.b.nz, .int .u16 m.sd.c.pd, .int .u16 m.sd.c.ct, .int .u8 m.sd.c.ld, .bool m.sd.c.hi, .int .u16 m.sd.c.nz, .int .i64 m.sd.wt, .int .i64 m.bm.ln, .int .i64 m.bm.pt, .bool m.bm.rg, .int .i64 m.bm.fr, .int .u16 m.fm, .int .u16 m.to, .bool m.gr, .bool m.hd, .int .u8 m.m0, .int .u8 m.m1, .bool m.rg, .int .i64 m.ck, .int .i64 m.mr, .int .i64 m.ar]
def boxC (V : Nat → Value) (x : Bx) (wv : Value) : Array Value := #[.int .u16 (x.m.mc.r 0), .int .u16 (x.m.mc.r 1), .int .u16 (x.m.mc.r 2), .int .u16 (x.m.mc.r 3), .int .u16 (x.m.mc.r 4), .int .u16 (x.m.mc.r 5), .int .u16 (x.m.mc.r 6), .int .u16 (x.m.mc.r 7), .int .u16 x.m.mc.pc, .bool x.m.mc.z, .bool x.m.mc.n, .bool x.m.mc.c, .bool x.m.mc.v, .bool x.m.mc.may, .bool x.m.mc.wt, .int .u16 (x.m.ac.r 0), .int .u16 (x.m.ac.r 1), .int .u16 (x.m.ac.r 2), .int .u16 (x.m.ac.r 3), .int .u16 (x.m.ac.r 4), .int .u16 (x.m.ac.r 5), .int .u16 (x.m.ac.r 6), .int .u16 (x.m.ac.r 7), .int .u16 x.m.ac.pc, .bool x.m.ac.z, .bool x.m.ac.n, .bool x.m.ac.c, .bool x.m.ac.v, .bool x.m.ac.may, .bool x.m.ac.wt, V 0, V 1, V 2, V 3, V 4, .int .u8 x.m.p0.dn, .bool x.m.p0.la, .int .u8 x.m.p0.sh, .int .u8 x.m.p1.dn, .bool x.m.p1.la, .int .u8 x.m.p1.sh, .int .u16 x.m.tm.rl, .int .u16 x.m.tm.ct, .bool x.m.tm.on, .bool x.m.tm.rg, .int .u16 x.m.sd.a.pd, .int .u16 x.m.sd.a.ct, .int .u8 x.m.sd.a.ld, .bool x.m.sd.a.hi, .int .u16 x.m.sd.a.nz, .int .u16 x.m.sd.b.pd, .int .u16 x.m.sd.b.ct, .int .u8 x.m.sd.b.ld, .bool x.m.sd.b.hi, .int .u16 x.m.sd.b.nz, .int .u16 x.m.sd.c.pd, .int .u16 x.m.sd.c.ct, .int .u8 x.m.sd.c.ld, .bool x.m.sd.c.hi, .int .u16 x.m.sd.c.nz, .int .i64 x.m.sd.wt, .int .i64 x.m.bm.ln, .int .i64 x.m.bm.pt, .bool x.m.bm.rg, .int .i64 x.m.bm.fr, .int .u16 x.m.fm, .int .u16 x.m.to, .bool x.m.gr, .bool x.m.hd, .int .u8 x.m.m0, .int .u8 x.m.m1, .bool x.m.rg, .int .i64 x.m.ck, .int .i64 x.m.mr, .int .i64 x.m.ar, wv, .int .i64 x.dl]
theorem mx0 (V : Nat → Value) (m : Mach) : (machC V m)[0]? = some (.int .u16 (m.mc.r 0)) := rfl
theorem ms0 (V : Nat → Value) (m : Mach) (v : Int) : (machC V m).setIfInBounds 0 (.int .u16 v) = machC V { m with mc := m.mc.reg 0 v } := rfl
theorem bx0 (V : Nat → Value) (x : Bx) (wv : Value) : (boxC V x wv)[0]? = some (.int .u16 (x.m.mc.r 0)) := rfl
theorem bs0 (V : Nat → Value) (x : Bx) (wv : Value) (v : Int) : (boxC V x wv).setIfInBounds 0 (.int .u16 v) = boxC V { x with m := { x.m with mc := x.m.mc.reg 0 v } } wv := rfl
theorem mx1 (V : Nat → Value) (m : Mach) : (machC V m)[1]? = some (.int .u16 (m.mc.r 1)) := rfl
theorem ms1 (V : Nat → Value) (m : Mach) (v : Int) : (machC V m).setIfInBounds 1 (.int .u16 v) = machC V { m with mc := m.mc.reg 1 v } := rfl
theorem bx1 (V : Nat → Value) (x : Bx) (wv : Value) : (boxC V x wv)[1]? = some (.int .u16 (x.m.mc.r 1)) := rfl
theorem bs1 (V : Nat → Value) (x : Bx) (wv : Value) (v : Int) : (boxC V x wv).setIfInBounds 1 (.int .u16 v) = boxC V { x with m := { x.m with mc := x.m.mc.reg 1 v } } wv := rfl
theorem mx2 (V : Nat → Value) (m : Mach) : (machC V m)[2]? = some (.int .u16 (m.mc.r 2)) := rfl
theorem ms2 (V : Nat → Value) (m : Mach) (v : Int) : (machC V m).setIfInBounds 2 (.int .u16 v) = machC V { m with mc := m.mc.reg 2 v } := rfl
theorem bx2 (V : Nat → Value) (x : Bx) (wv : Value) : (boxC V x wv)[2]? = some (.int .u16 (x.m.mc.r 2)) := rfl
theorem bs2 (V : Nat → Value) (x : Bx) (wv : Value) (v : Int) : (boxC V x wv).setIfInBounds 2 (.int .u16 v) = boxC V { x with m := { x.m with mc := x.m.mc.reg 2 v } } wv := rfl
theorem mx3 (V : Nat → Value) (m : Mach) : (machC V m)[3]? = some (.int .u16 (m.mc.r 3)) := rfl
theorem ms3 (V : Nat → Value) (m : Mach) (v : Int) : (machC V m).setIfInBounds 3 (.int .u16 v) = machC V { m with mc := m.mc.reg 3 v } := rfl
theorem bx3 (V : Nat → Value) (x : Bx) (wv : Value) : (boxC V x wv)[3]? = some (.int .u16 (x.m.mc.r 3)) := rfl
theorem bs3 (V : Nat → Value) (x : Bx) (wv : Value) (v : Int) : (boxC V x wv).setIfInBounds 3 (.int .u16 v) = boxC V { x with m := { x.m with mc := x.m.mc.reg 3 v } } wv := rfl
theorem mx4 (V : Nat → Value) (m : Mach) : (machC V m)[4]? = some (.int .u16 (m.mc.r 4)) := rfl
theorem ms4 (V : Nat → Value) (m : Mach) (v : Int) : (machC V m).setIfInBounds 4 (.int .u16 v) = machC V { m with mc := m.mc.reg 4 v } := rfl
theorem bx4 (V : Nat → Value) (x : Bx) (wv : Value) : (boxC V x wv)[4]? = some (.int .u16 (x.m.mc.r 4)) := rfl
theorem bs4 (V : Nat → Value) (x : Bx) (wv : Value) (v : Int) : (boxC V x wv).setIfInBounds 4 (.int .u16 v) = boxC V { x with m := { x.m with mc := x.m.mc.reg 4 v } } wv := rfl
theorem mx5 (V : Nat → Value) (m : Mach) : (machC V m)[5]? = some (.int .u16 (m.mc.r 5)) := rfl
theorem ms5 (V : Nat → Value) (m : Mach) (v : Int) : (machC V m).setIfInBounds 5 (.int .u16 v) = machC V { m with mc := m.mc.reg 5 v } := rfl
theorem bx5 (V : Nat → Value) (x : Bx) (wv : Value) : (boxC V x wv)[5]? = some (.int .u16 (x.m.mc.r 5)) := rfl
theorem bs5 (V : Nat → Value) (x : Bx) (wv : Value) (v : Int) : (boxC V x wv).setIfInBounds 5 (.int .u16 v) = boxC V { x with m := { x.m with mc := x.m.mc.reg 5 v } } wv := rfl
theorem mx6 (V : Nat → Value) (m : Mach) : (machC V m)[6]? = some (.int .u16 (m.mc.r 6)) := rfl
theorem ms6 (V : Nat → Value) (m : Mach) (v : Int) : (machC V m).setIfInBounds 6 (.int .u16 v) = machC V { m with mc := m.mc.reg 6 v } := rfl
theorem bx6 (V : Nat → Value) (x : Bx) (wv : Value) : (boxC V x wv)[6]? = some (.int .u16 (x.m.mc.r 6)) := rfl
theorem bs6 (V : Nat → Value) (x : Bx) (wv : Value) (v : Int) : (boxC V x wv).setIfInBounds 6 (.int .u16 v) = boxC V { x with m := { x.m with mc := x.m.mc.reg 6 v } } wv := rfl
theorem mx7 (V : Nat → Value) (m : Mach) : (machC V m)[7]? = some (.int .u16 (m.mc.r 7)) := rfl
theorem ms7 (V : Nat → Value) (m : Mach) (v : Int) : (machC V m).setIfInBounds 7 (.int .u16 v) = machC V { m with mc := m.mc.reg 7 v } := rfl
theorem bx7 (V : Nat → Value) (x : Bx) (wv : Value) : (boxC V x wv)[7]? = some (.int .u16 (x.m.mc.r 7)) := rfl
theorem bs7 (V : Nat → Value) (x : Bx) (wv : Value) (v : Int) : (boxC V x wv).setIfInBounds 7 (.int .u16 v) = boxC V { x with m := { x.m with mc := x.m.mc.reg 7 v } } wv := rfl
theorem mx8 (V : Nat → Value) (m : Mach) : (machC V m)[8]? = some (.int .u16 (m.mc.pc)) := rfl
theorem ms8 (V : Nat → Value) (m : Mach) (v : Int) : (machC V m).setIfInBounds 8 (.int .u16 v) = machC V { m with mc := { m.mc with pc := v } } := rfl
theorem bx8 (V : Nat → Value) (x : Bx) (wv : Value) : (boxC V x wv)[8]? = some (.int .u16 (x.m.mc.pc)) := rfl
theorem bs8 (V : Nat → Value) (x : Bx) (wv : Value) (v : Int) : (boxC V x wv).setIfInBounds 8 (.int .u16 v) = boxC V { x with m := { x.m with mc := { x.m.mc with pc := v } } } wv := rfl
theorem mx9 (V : Nat → Value) (m : Mach) : (machC V m)[9]? = some (.bool (m.mc.z)) := rfl
theorem ms9 (V : Nat → Value) (m : Mach) (v : Bool) : (machC V m).setIfInBounds 9 (.bool v) = machC V { m with mc := { m.mc with z := v } } := rfl
theorem bx9 (V : Nat → Value) (x : Bx) (wv : Value) : (boxC V x wv)[9]? = some (.bool (x.m.mc.z)) := rfl
theorem bs9 (V : Nat → Value) (x : Bx) (wv : Value) (v : Bool) : (boxC V x wv).setIfInBounds 9 (.bool v) = boxC V { x with m := { x.m with mc := { x.m.mc with z := v } } } wv := rfl
theorem mx10 (V : Nat → Value) (m : Mach) : (machC V m)[10]? = some (.bool (m.mc.n)) := rfl
theorem ms10 (V : Nat → Value) (m : Mach) (v : Bool) : (machC V m).setIfInBounds 10 (.bool v) = machC V { m with mc := { m.mc with n := v } } := rfl
theorem bx10 (V : Nat → Value) (x : Bx) (wv : Value) : (boxC V x wv)[10]? = some (.bool (x.m.mc.n)) := rfl
theorem bs10 (V : Nat → Value) (x : Bx) (wv : Value) (v : Bool) : (boxC V x wv).setIfInBounds 10 (.bool v) = boxC V { x with m := { x.m with mc := { x.m.mc with n := v } } } wv := rfl
theorem mx11 (V : Nat → Value) (m : Mach) : (machC V m)[11]? = some (.bool (m.mc.c)) := rfl
theorem ms11 (V : Nat → Value) (m : Mach) (v : Bool) : (machC V m).setIfInBounds 11 (.bool v) = machC V { m with mc := { m.mc with c := v } } := rfl
theorem bx11 (V : Nat → Value) (x : Bx) (wv : Value) : (boxC V x wv)[11]? = some (.bool (x.m.mc.c)) := rfl
theorem bs11 (V : Nat → Value) (x : Bx) (wv : Value) (v : Bool) : (boxC V x wv).setIfInBounds 11 (.bool v) = boxC V { x with m := { x.m with mc := { x.m.mc with c := v } } } wv := rfl
theorem mx12 (V : Nat → Value) (m : Mach) : (machC V m)[12]? = some (.bool (m.mc.v)) := rfl
theorem ms12 (V : Nat → Value) (m : Mach) (v : Bool) : (machC V m).setIfInBounds 12 (.bool v) = machC V { m with mc := { m.mc with v := v } } := rfl
theorem bx12 (V : Nat → Value) (x : Bx) (wv : Value) : (boxC V x wv)[12]? = some (.bool (x.m.mc.v)) := rfl
theorem bs12 (V : Nat → Value) (x : Bx) (wv : Value) (v : Bool) : (boxC V x wv).setIfInBounds 12 (.bool v) = boxC V { x with m := { x.m with mc := { x.m.mc with v := v } } } wv := rfl
theorem mx13 (V : Nat → Value) (m : Mach) : (machC V m)[13]? = some (.bool (m.mc.may)) := rfl
theorem ms13 (V : Nat → Value) (m : Mach) (v : Bool) : (machC V m).setIfInBounds 13 (.bool v) = machC V { m with mc := { m.mc with may := v } } := rfl
theorem bx13 (V : Nat → Value) (x : Bx) (wv : Value) : (boxC V x wv)[13]? = some (.bool (x.m.mc.may)) := rfl
theorem bs13 (V : Nat → Value) (x : Bx) (wv : Value) (v : Bool) : (boxC V x wv).setIfInBounds 13 (.bool v) = boxC V { x with m := { x.m with mc := { x.m.mc with may := v } } } wv := rfl
theorem mx14 (V : Nat → Value) (m : Mach) : (machC V m)[14]? = some (.bool (m.mc.wt)) := rfl
theorem ms14 (V : Nat → Value) (m : Mach) (v : Bool) : (machC V m).setIfInBounds 14 (.bool v) = machC V { m with mc := { m.mc with wt := v } } := rfl
theorem bx14 (V : Nat → Value) (x : Bx) (wv : Value) : (boxC V x wv)[14]? = some (.bool (x.m.mc.wt)) := rfl
theorem bs14 (V : Nat → Value) (x : Bx) (wv : Value) (v : Bool) : (boxC V x wv).setIfInBounds 14 (.bool v) = boxC V { x with m := { x.m with mc := { x.m.mc with wt := v } } } wv := rfl
theorem mx15 (V : Nat → Value) (m : Mach) : (machC V m)[15]? = some (.int .u16 (m.ac.r 0)) := rfl
theorem ms15 (V : Nat → Value) (m : Mach) (v : Int) : (machC V m).setIfInBounds 15 (.int .u16 v) = machC V { m with ac := m.ac.reg 0 v } := rfl
theorem bx15 (V : Nat → Value) (x : Bx) (wv : Value) : (boxC V x wv)[15]? = some (.int .u16 (x.m.ac.r 0)) := rfl
theorem bs15 (V : Nat → Value) (x : Bx) (wv : Value) (v : Int) : (boxC V x wv).setIfInBounds 15 (.int .u16 v) = boxC V { x with m := { x.m with ac := x.m.ac.reg 0 v } } wv := rfl
theorem mx16 (V : Nat → Value) (m : Mach) : (machC V m)[16]? = some (.int .u16 (m.ac.r 1)) := rfl
theorem ms16 (V : Nat → Value) (m : Mach) (v : Int) : (machC V m).setIfInBounds 16 (.int .u16 v) = machC V { m with ac := m.ac.reg 1 v } := rfl
theorem bx16 (V : Nat → Value) (x : Bx) (wv : Value) : (boxC V x wv)[16]? = some (.int .u16 (x.m.ac.r 1)) := rfl
theorem bs16 (V : Nat → Value) (x : Bx) (wv : Value) (v : Int) : (boxC V x wv).setIfInBounds 16 (.int .u16 v) = boxC V { x with m := { x.m with ac := x.m.ac.reg 1 v } } wv := rfl
theorem mx17 (V : Nat → Value) (m : Mach) : (machC V m)[17]? = some (.int .u16 (m.ac.r 2)) := rfl
theorem ms17 (V : Nat → Value) (m : Mach) (v : Int) : (machC V m).setIfInBounds 17 (.int .u16 v) = machC V { m with ac := m.ac.reg 2 v } := rfl
theorem bx17 (V : Nat → Value) (x : Bx) (wv : Value) : (boxC V x wv)[17]? = some (.int .u16 (x.m.ac.r 2)) := rfl
theorem bs17 (V : Nat → Value) (x : Bx) (wv : Value) (v : Int) : (boxC V x wv).setIfInBounds 17 (.int .u16 v) = boxC V { x with m := { x.m with ac := x.m.ac.reg 2 v } } wv := rfl
theorem mx18 (V : Nat → Value) (m : Mach) : (machC V m)[18]? = some (.int .u16 (m.ac.r 3)) := rfl
theorem ms18 (V : Nat → Value) (m : Mach) (v : Int) : (machC V m).setIfInBounds 18 (.int .u16 v) = machC V { m with ac := m.ac.reg 3 v } := rfl
theorem bx18 (V : Nat → Value) (x : Bx) (wv : Value) : (boxC V x wv)[18]? = some (.int .u16 (x.m.ac.r 3)) := rfl
theorem bs18 (V : Nat → Value) (x : Bx) (wv : Value) (v : Int) : (boxC V x wv).setIfInBounds 18 (.int .u16 v) = boxC V { x with m := { x.m with ac := x.m.ac.reg 3 v } } wv := rfl
theorem mx19 (V : Nat → Value) (m : Mach) : (machC V m)[19]? = some (.int .u16 (m.ac.r 4)) := rfl
theorem ms19 (V : Nat → Value) (m : Mach) (v : Int) : (machC V m).setIfInBounds 19 (.int .u16 v) = machC V { m with ac := m.ac.reg 4 v } := rfl
theorem bx19 (V : Nat → Value) (x : Bx) (wv : Value) : (boxC V x wv)[19]? = some (.int .u16 (x.m.ac.r 4)) := rfl
theorem bs19 (V : Nat → Value) (x : Bx) (wv : Value) (v : Int) : (boxC V x wv).setIfInBounds 19 (.int .u16 v) = boxC V { x with m := { x.m with ac := x.m.ac.reg 4 v } } wv := rfl
theorem mx20 (V : Nat → Value) (m : Mach) : (machC V m)[20]? = some (.int .u16 (m.ac.r 5)) := rfl
theorem ms20 (V : Nat → Value) (m : Mach) (v : Int) : (machC V m).setIfInBounds 20 (.int .u16 v) = machC V { m with ac := m.ac.reg 5 v } := rfl
theorem bx20 (V : Nat → Value) (x : Bx) (wv : Value) : (boxC V x wv)[20]? = some (.int .u16 (x.m.ac.r 5)) := rfl
theorem bs20 (V : Nat → Value) (x : Bx) (wv : Value) (v : Int) : (boxC V x wv).setIfInBounds 20 (.int .u16 v) = boxC V { x with m := { x.m with ac := x.m.ac.reg 5 v } } wv := rfl
theorem mx21 (V : Nat → Value) (m : Mach) : (machC V m)[21]? = some (.int .u16 (m.ac.r 6)) := rfl
theorem ms21 (V : Nat → Value) (m : Mach) (v : Int) : (machC V m).setIfInBounds 21 (.int .u16 v) = machC V { m with ac := m.ac.reg 6 v } := rfl
theorem bx21 (V : Nat → Value) (x : Bx) (wv : Value) : (boxC V x wv)[21]? = some (.int .u16 (x.m.ac.r 6)) := rfl
theorem bs21 (V : Nat → Value) (x : Bx) (wv : Value) (v : Int) : (boxC V x wv).setIfInBounds 21 (.int .u16 v) = boxC V { x with m := { x.m with ac := x.m.ac.reg 6 v } } wv := rfl
theorem mx22 (V : Nat → Value) (m : Mach) : (machC V m)[22]? = some (.int .u16 (m.ac.r 7)) := rfl
theorem ms22 (V : Nat → Value) (m : Mach) (v : Int) : (machC V m).setIfInBounds 22 (.int .u16 v) = machC V { m with ac := m.ac.reg 7 v } := rfl
theorem bx22 (V : Nat → Value) (x : Bx) (wv : Value) : (boxC V x wv)[22]? = some (.int .u16 (x.m.ac.r 7)) := rfl
theorem bs22 (V : Nat → Value) (x : Bx) (wv : Value) (v : Int) : (boxC V x wv).setIfInBounds 22 (.int .u16 v) = boxC V { x with m := { x.m with ac := x.m.ac.reg 7 v } } wv := rfl
theorem mx23 (V : Nat → Value) (m : Mach) : (machC V m)[23]? = some (.int .u16 (m.ac.pc)) := rfl
theorem ms23 (V : Nat → Value) (m : Mach) (v : Int) : (machC V m).setIfInBounds 23 (.int .u16 v) = machC V { m with ac := { m.ac with pc := v } } := rfl
theorem bx23 (V : Nat → Value) (x : Bx) (wv : Value) : (boxC V x wv)[23]? = some (.int .u16 (x.m.ac.pc)) := rfl
theorem bs23 (V : Nat → Value) (x : Bx) (wv : Value) (v : Int) : (boxC V x wv).setIfInBounds 23 (.int .u16 v) = boxC V { x with m := { x.m with ac := { x.m.ac with pc := v } } } wv := rfl
theorem mx24 (V : Nat → Value) (m : Mach) : (machC V m)[24]? = some (.bool (m.ac.z)) := rfl
theorem ms24 (V : Nat → Value) (m : Mach) (v : Bool) : (machC V m).setIfInBounds 24 (.bool v) = machC V { m with ac := { m.ac with z := v } } := rfl
theorem bx24 (V : Nat → Value) (x : Bx) (wv : Value) : (boxC V x wv)[24]? = some (.bool (x.m.ac.z)) := rfl
theorem bs24 (V : Nat → Value) (x : Bx) (wv : Value) (v : Bool) : (boxC V x wv).setIfInBounds 24 (.bool v) = boxC V { x with m := { x.m with ac := { x.m.ac with z := v } } } wv := rfl
theorem mx25 (V : Nat → Value) (m : Mach) : (machC V m)[25]? = some (.bool (m.ac.n)) := rfl
theorem ms25 (V : Nat → Value) (m : Mach) (v : Bool) : (machC V m).setIfInBounds 25 (.bool v) = machC V { m with ac := { m.ac with n := v } } := rfl
theorem bx25 (V : Nat → Value) (x : Bx) (wv : Value) : (boxC V x wv)[25]? = some (.bool (x.m.ac.n)) := rfl
theorem bs25 (V : Nat → Value) (x : Bx) (wv : Value) (v : Bool) : (boxC V x wv).setIfInBounds 25 (.bool v) = boxC V { x with m := { x.m with ac := { x.m.ac with n := v } } } wv := rfl
theorem mx26 (V : Nat → Value) (m : Mach) : (machC V m)[26]? = some (.bool (m.ac.c)) := rfl
theorem ms26 (V : Nat → Value) (m : Mach) (v : Bool) : (machC V m).setIfInBounds 26 (.bool v) = machC V { m with ac := { m.ac with c := v } } := rfl
theorem bx26 (V : Nat → Value) (x : Bx) (wv : Value) : (boxC V x wv)[26]? = some (.bool (x.m.ac.c)) := rfl
theorem bs26 (V : Nat → Value) (x : Bx) (wv : Value) (v : Bool) : (boxC V x wv).setIfInBounds 26 (.bool v) = boxC V { x with m := { x.m with ac := { x.m.ac with c := v } } } wv := rfl
theorem mx27 (V : Nat → Value) (m : Mach) : (machC V m)[27]? = some (.bool (m.ac.v)) := rfl
theorem ms27 (V : Nat → Value) (m : Mach) (v : Bool) : (machC V m).setIfInBounds 27 (.bool v) = machC V { m with ac := { m.ac with v := v } } := rfl
theorem bx27 (V : Nat → Value) (x : Bx) (wv : Value) : (boxC V x wv)[27]? = some (.bool (x.m.ac.v)) := rfl
theorem bs27 (V : Nat → Value) (x : Bx) (wv : Value) (v : Bool) : (boxC V x wv).setIfInBounds 27 (.bool v) = boxC V { x with m := { x.m with ac := { x.m.ac with v := v } } } wv := rfl
theorem mx28 (V : Nat → Value) (m : Mach) : (machC V m)[28]? = some (.bool (m.ac.may)) := rfl
theorem ms28 (V : Nat → Value) (m : Mach) (v : Bool) : (machC V m).setIfInBounds 28 (.bool v) = machC V { m with ac := { m.ac with may := v } } := rfl
theorem bx28 (V : Nat → Value) (x : Bx) (wv : Value) : (boxC V x wv)[28]? = some (.bool (x.m.ac.may)) := rfl
theorem bs28 (V : Nat → Value) (x : Bx) (wv : Value) (v : Bool) : (boxC V x wv).setIfInBounds 28 (.bool v) = boxC V { x with m := { x.m with ac := { x.m.ac with may := v } } } wv := rfl
theorem mx29 (V : Nat → Value) (m : Mach) : (machC V m)[29]? = some (.bool (m.ac.wt)) := rfl
theorem ms29 (V : Nat → Value) (m : Mach) (v : Bool) : (machC V m).setIfInBounds 29 (.bool v) = machC V { m with ac := { m.ac with wt := v } } := rfl
theorem bx29 (V : Nat → Value) (x : Bx) (wv : Value) : (boxC V x wv)[29]? = some (.bool (x.m.ac.wt)) := rfl
theorem bs29 (V : Nat → Value) (x : Bx) (wv : Value) (v : Bool) : (boxC V x wv).setIfInBounds 29 (.bool v) = boxC V { x with m := { x.m with ac := { x.m.ac with wt := v } } } wv := rfl
theorem mx30 (V : Nat → Value) (m : Mach) : (machC V m)[30]? = some (V 0) := rfl
theorem bx30 (V : Nat → Value) (x : Bx) (wv : Value) : (boxC V x wv)[30]? = some (V 0) := rfl
theorem mx31 (V : Nat → Value) (m : Mach) : (machC V m)[31]? = some (V 1) := rfl
theorem bx31 (V : Nat → Value) (x : Bx) (wv : Value) : (boxC V x wv)[31]? = some (V 1) := rfl
theorem mx32 (V : Nat → Value) (m : Mach) : (machC V m)[32]? = some (V 2) := rfl
theorem bx32 (V : Nat → Value) (x : Bx) (wv : Value) : (boxC V x wv)[32]? = some (V 2) := rfl
theorem mx33 (V : Nat → Value) (m : Mach) : (machC V m)[33]? = some (V 3) := rfl
theorem bx33 (V : Nat → Value) (x : Bx) (wv : Value) : (boxC V x wv)[33]? = some (V 3) := rfl
theorem mx34 (V : Nat → Value) (m : Mach) : (machC V m)[34]? = some (V 4) := rfl
theorem bx34 (V : Nat → Value) (x : Bx) (wv : Value) : (boxC V x wv)[34]? = some (V 4) := rfl
theorem mx35 (V : Nat → Value) (m : Mach) : (machC V m)[35]? = some (.int .u8 (m.p0.dn)) := rfl
theorem ms35 (V : Nat → Value) (m : Mach) (v : Int) : (machC V m).setIfInBounds 35 (.int .u8 v) = machC V { m with p0 := { m.p0 with dn := v } } := rfl
theorem bx35 (V : Nat → Value) (x : Bx) (wv : Value) : (boxC V x wv)[35]? = some (.int .u8 (x.m.p0.dn)) := rfl
theorem bs35 (V : Nat → Value) (x : Bx) (wv : Value) (v : Int) : (boxC V x wv).setIfInBounds 35 (.int .u8 v) = boxC V { x with m := { x.m with p0 := { x.m.p0 with dn := v } } } wv := rfl
theorem mx36 (V : Nat → Value) (m : Mach) : (machC V m)[36]? = some (.bool (m.p0.la)) := rfl
theorem ms36 (V : Nat → Value) (m : Mach) (v : Bool) : (machC V m).setIfInBounds 36 (.bool v) = machC V { m with p0 := { m.p0 with la := v } } := rfl
theorem bx36 (V : Nat → Value) (x : Bx) (wv : Value) : (boxC V x wv)[36]? = some (.bool (x.m.p0.la)) := rfl
theorem bs36 (V : Nat → Value) (x : Bx) (wv : Value) (v : Bool) : (boxC V x wv).setIfInBounds 36 (.bool v) = boxC V { x with m := { x.m with p0 := { x.m.p0 with la := v } } } wv := rfl
theorem mx37 (V : Nat → Value) (m : Mach) : (machC V m)[37]? = some (.int .u8 (m.p0.sh)) := rfl
theorem ms37 (V : Nat → Value) (m : Mach) (v : Int) : (machC V m).setIfInBounds 37 (.int .u8 v) = machC V { m with p0 := { m.p0 with sh := v } } := rfl
theorem bx37 (V : Nat → Value) (x : Bx) (wv : Value) : (boxC V x wv)[37]? = some (.int .u8 (x.m.p0.sh)) := rfl
theorem bs37 (V : Nat → Value) (x : Bx) (wv : Value) (v : Int) : (boxC V x wv).setIfInBounds 37 (.int .u8 v) = boxC V { x with m := { x.m with p0 := { x.m.p0 with sh := v } } } wv := rfl
theorem mx38 (V : Nat → Value) (m : Mach) : (machC V m)[38]? = some (.int .u8 (m.p1.dn)) := rfl
theorem ms38 (V : Nat → Value) (m : Mach) (v : Int) : (machC V m).setIfInBounds 38 (.int .u8 v) = machC V { m with p1 := { m.p1 with dn := v } } := rfl
theorem bx38 (V : Nat → Value) (x : Bx) (wv : Value) : (boxC V x wv)[38]? = some (.int .u8 (x.m.p1.dn)) := rfl
theorem bs38 (V : Nat → Value) (x : Bx) (wv : Value) (v : Int) : (boxC V x wv).setIfInBounds 38 (.int .u8 v) = boxC V { x with m := { x.m with p1 := { x.m.p1 with dn := v } } } wv := rfl
theorem mx39 (V : Nat → Value) (m : Mach) : (machC V m)[39]? = some (.bool (m.p1.la)) := rfl
theorem ms39 (V : Nat → Value) (m : Mach) (v : Bool) : (machC V m).setIfInBounds 39 (.bool v) = machC V { m with p1 := { m.p1 with la := v } } := rfl
theorem bx39 (V : Nat → Value) (x : Bx) (wv : Value) : (boxC V x wv)[39]? = some (.bool (x.m.p1.la)) := rfl
theorem bs39 (V : Nat → Value) (x : Bx) (wv : Value) (v : Bool) : (boxC V x wv).setIfInBounds 39 (.bool v) = boxC V { x with m := { x.m with p1 := { x.m.p1 with la := v } } } wv := rfl
theorem mx40 (V : Nat → Value) (m : Mach) : (machC V m)[40]? = some (.int .u8 (m.p1.sh)) := rfl
theorem ms40 (V : Nat → Value) (m : Mach) (v : Int) : (machC V m).setIfInBounds 40 (.int .u8 v) = machC V { m with p1 := { m.p1 with sh := v } } := rfl
theorem bx40 (V : Nat → Value) (x : Bx) (wv : Value) : (boxC V x wv)[40]? = some (.int .u8 (x.m.p1.sh)) := rfl
theorem bs40 (V : Nat → Value) (x : Bx) (wv : Value) (v : Int) : (boxC V x wv).setIfInBounds 40 (.int .u8 v) = boxC V { x with m := { x.m with p1 := { x.m.p1 with sh := v } } } wv := rfl
theorem mx41 (V : Nat → Value) (m : Mach) : (machC V m)[41]? = some (.int .u16 (m.tm.rl)) := rfl
theorem ms41 (V : Nat → Value) (m : Mach) (v : Int) : (machC V m).setIfInBounds 41 (.int .u16 v) = machC V { m with tm := { m.tm with rl := v } } := rfl
theorem bx41 (V : Nat → Value) (x : Bx) (wv : Value) : (boxC V x wv)[41]? = some (.int .u16 (x.m.tm.rl)) := rfl
theorem bs41 (V : Nat → Value) (x : Bx) (wv : Value) (v : Int) : (boxC V x wv).setIfInBounds 41 (.int .u16 v) = boxC V { x with m := { x.m with tm := { x.m.tm with rl := v } } } wv := rfl
theorem mx42 (V : Nat → Value) (m : Mach) : (machC V m)[42]? = some (.int .u16 (m.tm.ct)) := rfl
theorem ms42 (V : Nat → Value) (m : Mach) (v : Int) : (machC V m).setIfInBounds 42 (.int .u16 v) = machC V { m with tm := { m.tm with ct := v } } := rfl
theorem bx42 (V : Nat → Value) (x : Bx) (wv : Value) : (boxC V x wv)[42]? = some (.int .u16 (x.m.tm.ct)) := rfl
theorem bs42 (V : Nat → Value) (x : Bx) (wv : Value) (v : Int) : (boxC V x wv).setIfInBounds 42 (.int .u16 v) = boxC V { x with m := { x.m with tm := { x.m.tm with ct := v } } } wv := rfl
theorem mx43 (V : Nat → Value) (m : Mach) : (machC V m)[43]? = some (.bool (m.tm.on)) := rfl
theorem ms43 (V : Nat → Value) (m : Mach) (v : Bool) : (machC V m).setIfInBounds 43 (.bool v) = machC V { m with tm := { m.tm with on := v } } := rfl
theorem bx43 (V : Nat → Value) (x : Bx) (wv : Value) : (boxC V x wv)[43]? = some (.bool (x.m.tm.on)) := rfl
theorem bs43 (V : Nat → Value) (x : Bx) (wv : Value) (v : Bool) : (boxC V x wv).setIfInBounds 43 (.bool v) = boxC V { x with m := { x.m with tm := { x.m.tm with on := v } } } wv := rfl
theorem mx44 (V : Nat → Value) (m : Mach) : (machC V m)[44]? = some (.bool (m.tm.rg)) := rfl
theorem ms44 (V : Nat → Value) (m : Mach) (v : Bool) : (machC V m).setIfInBounds 44 (.bool v) = machC V { m with tm := { m.tm with rg := v } } := rfl
theorem bx44 (V : Nat → Value) (x : Bx) (wv : Value) : (boxC V x wv)[44]? = some (.bool (x.m.tm.rg)) := rfl
theorem bs44 (V : Nat → Value) (x : Bx) (wv : Value) (v : Bool) : (boxC V x wv).setIfInBounds 44 (.bool v) = boxC V { x with m := { x.m with tm := { x.m.tm with rg := v } } } wv := rfl
theorem mx45 (V : Nat → Value) (m : Mach) : (machC V m)[45]? = some (.int .u16 (m.sd.a.pd)) := rfl
theorem ms45 (V : Nat → Value) (m : Mach) (v : Int) : (machC V m).setIfInBounds 45 (.int .u16 v) = machC V { m with sd := { m.sd with a := { m.sd.a with pd := v } } } := rfl
theorem bx45 (V : Nat → Value) (x : Bx) (wv : Value) : (boxC V x wv)[45]? = some (.int .u16 (x.m.sd.a.pd)) := rfl
theorem bs45 (V : Nat → Value) (x : Bx) (wv : Value) (v : Int) : (boxC V x wv).setIfInBounds 45 (.int .u16 v) = boxC V { x with m := { x.m with sd := { x.m.sd with a := { x.m.sd.a with pd := v } } } } wv := rfl
theorem mx46 (V : Nat → Value) (m : Mach) : (machC V m)[46]? = some (.int .u16 (m.sd.a.ct)) := rfl
theorem ms46 (V : Nat → Value) (m : Mach) (v : Int) : (machC V m).setIfInBounds 46 (.int .u16 v) = machC V { m with sd := { m.sd with a := { m.sd.a with ct := v } } } := rfl
theorem bx46 (V : Nat → Value) (x : Bx) (wv : Value) : (boxC V x wv)[46]? = some (.int .u16 (x.m.sd.a.ct)) := rfl
theorem bs46 (V : Nat → Value) (x : Bx) (wv : Value) (v : Int) : (boxC V x wv).setIfInBounds 46 (.int .u16 v) = boxC V { x with m := { x.m with sd := { x.m.sd with a := { x.m.sd.a with ct := v } } } } wv := rfl
theorem mx47 (V : Nat → Value) (m : Mach) : (machC V m)[47]? = some (.int .u8 (m.sd.a.ld)) := rfl
theorem ms47 (V : Nat → Value) (m : Mach) (v : Int) : (machC V m).setIfInBounds 47 (.int .u8 v) = machC V { m with sd := { m.sd with a := { m.sd.a with ld := v } } } := rfl
theorem bx47 (V : Nat → Value) (x : Bx) (wv : Value) : (boxC V x wv)[47]? = some (.int .u8 (x.m.sd.a.ld)) := rfl
theorem bs47 (V : Nat → Value) (x : Bx) (wv : Value) (v : Int) : (boxC V x wv).setIfInBounds 47 (.int .u8 v) = boxC V { x with m := { x.m with sd := { x.m.sd with a := { x.m.sd.a with ld := v } } } } wv := rfl
theorem mx48 (V : Nat → Value) (m : Mach) : (machC V m)[48]? = some (.bool (m.sd.a.hi)) := rfl
theorem ms48 (V : Nat → Value) (m : Mach) (v : Bool) : (machC V m).setIfInBounds 48 (.bool v) = machC V { m with sd := { m.sd with a := { m.sd.a with hi := v } } } := rfl
theorem bx48 (V : Nat → Value) (x : Bx) (wv : Value) : (boxC V x wv)[48]? = some (.bool (x.m.sd.a.hi)) := rfl
theorem bs48 (V : Nat → Value) (x : Bx) (wv : Value) (v : Bool) : (boxC V x wv).setIfInBounds 48 (.bool v) = boxC V { x with m := { x.m with sd := { x.m.sd with a := { x.m.sd.a with hi := v } } } } wv := rfl
theorem mx49 (V : Nat → Value) (m : Mach) : (machC V m)[49]? = some (.int .u16 (m.sd.a.nz)) := rfl
theorem ms49 (V : Nat → Value) (m : Mach) (v : Int) : (machC V m).setIfInBounds 49 (.int .u16 v) = machC V { m with sd := { m.sd with a := { m.sd.a with nz := v } } } := rfl
theorem bx49 (V : Nat → Value) (x : Bx) (wv : Value) : (boxC V x wv)[49]? = some (.int .u16 (x.m.sd.a.nz)) := rfl
theorem bs49 (V : Nat → Value) (x : Bx) (wv : Value) (v : Int) : (boxC V x wv).setIfInBounds 49 (.int .u16 v) = boxC V { x with m := { x.m with sd := { x.m.sd with a := { x.m.sd.a with nz := v } } } } wv := rfl
theorem mx50 (V : Nat → Value) (m : Mach) : (machC V m)[50]? = some (.int .u16 (m.sd.b.pd)) := rfl
theorem ms50 (V : Nat → Value) (m : Mach) (v : Int) : (machC V m).setIfInBounds 50 (.int .u16 v) = machC V { m with sd := { m.sd with b := { m.sd.b with pd := v } } } := rfl
theorem bx50 (V : Nat → Value) (x : Bx) (wv : Value) : (boxC V x wv)[50]? = some (.int .u16 (x.m.sd.b.pd)) := rfl
theorem bs50 (V : Nat → Value) (x : Bx) (wv : Value) (v : Int) : (boxC V x wv).setIfInBounds 50 (.int .u16 v) = boxC V { x with m := { x.m with sd := { x.m.sd with b := { x.m.sd.b with pd := v } } } } wv := rfl
theorem mx51 (V : Nat → Value) (m : Mach) : (machC V m)[51]? = some (.int .u16 (m.sd.b.ct)) := rfl
theorem ms51 (V : Nat → Value) (m : Mach) (v : Int) : (machC V m).setIfInBounds 51 (.int .u16 v) = machC V { m with sd := { m.sd with b := { m.sd.b with ct := v } } } := rfl
theorem bx51 (V : Nat → Value) (x : Bx) (wv : Value) : (boxC V x wv)[51]? = some (.int .u16 (x.m.sd.b.ct)) := rfl
theorem bs51 (V : Nat → Value) (x : Bx) (wv : Value) (v : Int) : (boxC V x wv).setIfInBounds 51 (.int .u16 v) = boxC V { x with m := { x.m with sd := { x.m.sd with b := { x.m.sd.b with ct := v } } } } wv := rfl
theorem mx52 (V : Nat → Value) (m : Mach) : (machC V m)[52]? = some (.int .u8 (m.sd.b.ld)) := rfl
theorem ms52 (V : Nat → Value) (m : Mach) (v : Int) : (machC V m).setIfInBounds 52 (.int .u8 v) = machC V { m with sd := { m.sd with b := { m.sd.b with ld := v } } } := rfl
theorem bx52 (V : Nat → Value) (x : Bx) (wv : Value) : (boxC V x wv)[52]? = some (.int .u8 (x.m.sd.b.ld)) := rfl
theorem bs52 (V : Nat → Value) (x : Bx) (wv : Value) (v : Int) : (boxC V x wv).setIfInBounds 52 (.int .u8 v) = boxC V { x with m := { x.m with sd := { x.m.sd with b := { x.m.sd.b with ld := v } } } } wv := rfl
theorem mx53 (V : Nat → Value) (m : Mach) : (machC V m)[53]? = some (.bool (m.sd.b.hi)) := rfl
theorem ms53 (V : Nat → Value) (m : Mach) (v : Bool) : (machC V m).setIfInBounds 53 (.bool v) = machC V { m with sd := { m.sd with b := { m.sd.b with hi := v } } } := rfl
theorem bx53 (V : Nat → Value) (x : Bx) (wv : Value) : (boxC V x wv)[53]? = some (.bool (x.m.sd.b.hi)) := rfl
theorem bs53 (V : Nat → Value) (x : Bx) (wv : Value) (v : Bool) : (boxC V x wv).setIfInBounds 53 (.bool v) = boxC V { x with m := { x.m with sd := { x.m.sd with b := { x.m.sd.b with hi := v } } } } wv := rfl
theorem mx54 (V : Nat → Value) (m : Mach) : (machC V m)[54]? = some (.int .u16 (m.sd.b.nz)) := rfl
theorem ms54 (V : Nat → Value) (m : Mach) (v : Int) : (machC V m).setIfInBounds 54 (.int .u16 v) = machC V { m with sd := { m.sd with b := { m.sd.b with nz := v } } } := rfl
theorem bx54 (V : Nat → Value) (x : Bx) (wv : Value) : (boxC V x wv)[54]? = some (.int .u16 (x.m.sd.b.nz)) := rfl
theorem bs54 (V : Nat → Value) (x : Bx) (wv : Value) (v : Int) : (boxC V x wv).setIfInBounds 54 (.int .u16 v) = boxC V { x with m := { x.m with sd := { x.m.sd with b := { x.m.sd.b with nz := v } } } } wv := rfl
theorem mx55 (V : Nat → Value) (m : Mach) : (machC V m)[55]? = some (.int .u16 (m.sd.c.pd)) := rfl
theorem ms55 (V : Nat → Value) (m : Mach) (v : Int) : (machC V m).setIfInBounds 55 (.int .u16 v) = machC V { m with sd := { m.sd with c := { m.sd.c with pd := v } } } := rfl
theorem bx55 (V : Nat → Value) (x : Bx) (wv : Value) : (boxC V x wv)[55]? = some (.int .u16 (x.m.sd.c.pd)) := rfl
theorem bs55 (V : Nat → Value) (x : Bx) (wv : Value) (v : Int) : (boxC V x wv).setIfInBounds 55 (.int .u16 v) = boxC V { x with m := { x.m with sd := { x.m.sd with c := { x.m.sd.c with pd := v } } } } wv := rfl
theorem mx56 (V : Nat → Value) (m : Mach) : (machC V m)[56]? = some (.int .u16 (m.sd.c.ct)) := rfl
theorem ms56 (V : Nat → Value) (m : Mach) (v : Int) : (machC V m).setIfInBounds 56 (.int .u16 v) = machC V { m with sd := { m.sd with c := { m.sd.c with ct := v } } } := rfl
theorem bx56 (V : Nat → Value) (x : Bx) (wv : Value) : (boxC V x wv)[56]? = some (.int .u16 (x.m.sd.c.ct)) := rfl
theorem bs56 (V : Nat → Value) (x : Bx) (wv : Value) (v : Int) : (boxC V x wv).setIfInBounds 56 (.int .u16 v) = boxC V { x with m := { x.m with sd := { x.m.sd with c := { x.m.sd.c with ct := v } } } } wv := rfl
theorem mx57 (V : Nat → Value) (m : Mach) : (machC V m)[57]? = some (.int .u8 (m.sd.c.ld)) := rfl
theorem ms57 (V : Nat → Value) (m : Mach) (v : Int) : (machC V m).setIfInBounds 57 (.int .u8 v) = machC V { m with sd := { m.sd with c := { m.sd.c with ld := v } } } := rfl
theorem bx57 (V : Nat → Value) (x : Bx) (wv : Value) : (boxC V x wv)[57]? = some (.int .u8 (x.m.sd.c.ld)) := rfl
theorem bs57 (V : Nat → Value) (x : Bx) (wv : Value) (v : Int) : (boxC V x wv).setIfInBounds 57 (.int .u8 v) = boxC V { x with m := { x.m with sd := { x.m.sd with c := { x.m.sd.c with ld := v } } } } wv := rfl
theorem mx58 (V : Nat → Value) (m : Mach) : (machC V m)[58]? = some (.bool (m.sd.c.hi)) := rfl
theorem ms58 (V : Nat → Value) (m : Mach) (v : Bool) : (machC V m).setIfInBounds 58 (.bool v) = machC V { m with sd := { m.sd with c := { m.sd.c with hi := v } } } := rfl
theorem bx58 (V : Nat → Value) (x : Bx) (wv : Value) : (boxC V x wv)[58]? = some (.bool (x.m.sd.c.hi)) := rfl
theorem bs58 (V : Nat → Value) (x : Bx) (wv : Value) (v : Bool) : (boxC V x wv).setIfInBounds 58 (.bool v) = boxC V { x with m := { x.m with sd := { x.m.sd with c := { x.m.sd.c with hi := v } } } } wv := rfl
theorem mx59 (V : Nat → Value) (m : Mach) : (machC V m)[59]? = some (.int .u16 (m.sd.c.nz)) := rfl
theorem ms59 (V : Nat → Value) (m : Mach) (v : Int) : (machC V m).setIfInBounds 59 (.int .u16 v) = machC V { m with sd := { m.sd with c := { m.sd.c with nz := v } } } := rfl
theorem bx59 (V : Nat → Value) (x : Bx) (wv : Value) : (boxC V x wv)[59]? = some (.int .u16 (x.m.sd.c.nz)) := rfl
theorem bs59 (V : Nat → Value) (x : Bx) (wv : Value) (v : Int) : (boxC V x wv).setIfInBounds 59 (.int .u16 v) = boxC V { x with m := { x.m with sd := { x.m.sd with c := { x.m.sd.c with nz := v } } } } wv := rfl
theorem mx60 (V : Nat → Value) (m : Mach) : (machC V m)[60]? = some (.int .i64 (m.sd.wt)) := rfl
theorem ms60 (V : Nat → Value) (m : Mach) (v : Int) : (machC V m).setIfInBounds 60 (.int .i64 v) = machC V { m with sd := { m.sd with wt := v } } := rfl
theorem bx60 (V : Nat → Value) (x : Bx) (wv : Value) : (boxC V x wv)[60]? = some (.int .i64 (x.m.sd.wt)) := rfl
theorem bs60 (V : Nat → Value) (x : Bx) (wv : Value) (v : Int) : (boxC V x wv).setIfInBounds 60 (.int .i64 v) = boxC V { x with m := { x.m with sd := { x.m.sd with wt := v } } } wv := rfl
theorem mx61 (V : Nat → Value) (m : Mach) : (machC V m)[61]? = some (.int .i64 (m.bm.ln)) := rfl
theorem ms61 (V : Nat → Value) (m : Mach) (v : Int) : (machC V m).setIfInBounds 61 (.int .i64 v) = machC V { m with bm := { m.bm with ln := v } } := rfl
theorem bx61 (V : Nat → Value) (x : Bx) (wv : Value) : (boxC V x wv)[61]? = some (.int .i64 (x.m.bm.ln)) := rfl
theorem bs61 (V : Nat → Value) (x : Bx) (wv : Value) (v : Int) : (boxC V x wv).setIfInBounds 61 (.int .i64 v) = boxC V { x with m := { x.m with bm := { x.m.bm with ln := v } } } wv := rfl
theorem mx62 (V : Nat → Value) (m : Mach) : (machC V m)[62]? = some (.int .i64 (m.bm.pt)) := rfl
theorem ms62 (V : Nat → Value) (m : Mach) (v : Int) : (machC V m).setIfInBounds 62 (.int .i64 v) = machC V { m with bm := { m.bm with pt := v } } := rfl
theorem bx62 (V : Nat → Value) (x : Bx) (wv : Value) : (boxC V x wv)[62]? = some (.int .i64 (x.m.bm.pt)) := rfl
theorem bs62 (V : Nat → Value) (x : Bx) (wv : Value) (v : Int) : (boxC V x wv).setIfInBounds 62 (.int .i64 v) = boxC V { x with m := { x.m with bm := { x.m.bm with pt := v } } } wv := rfl
theorem mx63 (V : Nat → Value) (m : Mach) : (machC V m)[63]? = some (.bool (m.bm.rg)) := rfl
theorem ms63 (V : Nat → Value) (m : Mach) (v : Bool) : (machC V m).setIfInBounds 63 (.bool v) = machC V { m with bm := { m.bm with rg := v } } := rfl
theorem bx63 (V : Nat → Value) (x : Bx) (wv : Value) : (boxC V x wv)[63]? = some (.bool (x.m.bm.rg)) := rfl
theorem bs63 (V : Nat → Value) (x : Bx) (wv : Value) (v : Bool) : (boxC V x wv).setIfInBounds 63 (.bool v) = boxC V { x with m := { x.m with bm := { x.m.bm with rg := v } } } wv := rfl
theorem mx64 (V : Nat → Value) (m : Mach) : (machC V m)[64]? = some (.int .i64 (m.bm.fr)) := rfl
theorem ms64 (V : Nat → Value) (m : Mach) (v : Int) : (machC V m).setIfInBounds 64 (.int .i64 v) = machC V { m with bm := { m.bm with fr := v } } := rfl
theorem bx64 (V : Nat → Value) (x : Bx) (wv : Value) : (boxC V x wv)[64]? = some (.int .i64 (x.m.bm.fr)) := rfl
theorem bs64 (V : Nat → Value) (x : Bx) (wv : Value) (v : Int) : (boxC V x wv).setIfInBounds 64 (.int .i64 v) = boxC V { x with m := { x.m with bm := { x.m.bm with fr := v } } } wv := rfl
theorem mx65 (V : Nat → Value) (m : Mach) : (machC V m)[65]? = some (.int .u16 (m.fm)) := rfl
theorem ms65 (V : Nat → Value) (m : Mach) (v : Int) : (machC V m).setIfInBounds 65 (.int .u16 v) = machC V { m with fm := v } := rfl
theorem bx65 (V : Nat → Value) (x : Bx) (wv : Value) : (boxC V x wv)[65]? = some (.int .u16 (x.m.fm)) := rfl
theorem bs65 (V : Nat → Value) (x : Bx) (wv : Value) (v : Int) : (boxC V x wv).setIfInBounds 65 (.int .u16 v) = boxC V { x with m := { x.m with fm := v } } wv := rfl
theorem mx66 (V : Nat → Value) (m : Mach) : (machC V m)[66]? = some (.int .u16 (m.to)) := rfl
theorem ms66 (V : Nat → Value) (m : Mach) (v : Int) : (machC V m).setIfInBounds 66 (.int .u16 v) = machC V { m with to := v } := rfl
theorem bx66 (V : Nat → Value) (x : Bx) (wv : Value) : (boxC V x wv)[66]? = some (.int .u16 (x.m.to)) := rfl
theorem bs66 (V : Nat → Value) (x : Bx) (wv : Value) (v : Int) : (boxC V x wv).setIfInBounds 66 (.int .u16 v) = boxC V { x with m := { x.m with to := v } } wv := rfl
theorem mx67 (V : Nat → Value) (m : Mach) : (machC V m)[67]? = some (.bool (m.gr)) := rfl
theorem ms67 (V : Nat → Value) (m : Mach) (v : Bool) : (machC V m).setIfInBounds 67 (.bool v) = machC V { m with gr := v } := rfl
theorem bx67 (V : Nat → Value) (x : Bx) (wv : Value) : (boxC V x wv)[67]? = some (.bool (x.m.gr)) := rfl
theorem bs67 (V : Nat → Value) (x : Bx) (wv : Value) (v : Bool) : (boxC V x wv).setIfInBounds 67 (.bool v) = boxC V { x with m := { x.m with gr := v } } wv := rfl
theorem mx68 (V : Nat → Value) (m : Mach) : (machC V m)[68]? = some (.bool (m.hd)) := rfl
theorem ms68 (V : Nat → Value) (m : Mach) (v : Bool) : (machC V m).setIfInBounds 68 (.bool v) = machC V { m with hd := v } := rfl
theorem bx68 (V : Nat → Value) (x : Bx) (wv : Value) : (boxC V x wv)[68]? = some (.bool (x.m.hd)) := rfl
theorem bs68 (V : Nat → Value) (x : Bx) (wv : Value) (v : Bool) : (boxC V x wv).setIfInBounds 68 (.bool v) = boxC V { x with m := { x.m with hd := v } } wv := rfl
theorem mx69 (V : Nat → Value) (m : Mach) : (machC V m)[69]? = some (.int .u8 (m.m0)) := rfl
theorem ms69 (V : Nat → Value) (m : Mach) (v : Int) : (machC V m).setIfInBounds 69 (.int .u8 v) = machC V { m with m0 := v } := rfl
theorem bx69 (V : Nat → Value) (x : Bx) (wv : Value) : (boxC V x wv)[69]? = some (.int .u8 (x.m.m0)) := rfl
theorem bs69 (V : Nat → Value) (x : Bx) (wv : Value) (v : Int) : (boxC V x wv).setIfInBounds 69 (.int .u8 v) = boxC V { x with m := { x.m with m0 := v } } wv := rfl
theorem mx70 (V : Nat → Value) (m : Mach) : (machC V m)[70]? = some (.int .u8 (m.m1)) := rfl
theorem ms70 (V : Nat → Value) (m : Mach) (v : Int) : (machC V m).setIfInBounds 70 (.int .u8 v) = machC V { m with m1 := v } := rfl
theorem bx70 (V : Nat → Value) (x : Bx) (wv : Value) : (boxC V x wv)[70]? = some (.int .u8 (x.m.m1)) := rfl
theorem bs70 (V : Nat → Value) (x : Bx) (wv : Value) (v : Int) : (boxC V x wv).setIfInBounds 70 (.int .u8 v) = boxC V { x with m := { x.m with m1 := v } } wv := rfl
theorem mx71 (V : Nat → Value) (m : Mach) : (machC V m)[71]? = some (.bool (m.rg)) := rfl
theorem ms71 (V : Nat → Value) (m : Mach) (v : Bool) : (machC V m).setIfInBounds 71 (.bool v) = machC V { m with rg := v } := rfl
theorem bx71 (V : Nat → Value) (x : Bx) (wv : Value) : (boxC V x wv)[71]? = some (.bool (x.m.rg)) := rfl
theorem bs71 (V : Nat → Value) (x : Bx) (wv : Value) (v : Bool) : (boxC V x wv).setIfInBounds 71 (.bool v) = boxC V { x with m := { x.m with rg := v } } wv := rfl
theorem mx72 (V : Nat → Value) (m : Mach) : (machC V m)[72]? = some (.int .i64 (m.ck)) := rfl
theorem ms72 (V : Nat → Value) (m : Mach) (v : Int) : (machC V m).setIfInBounds 72 (.int .i64 v) = machC V { m with ck := v } := rfl
theorem bx72 (V : Nat → Value) (x : Bx) (wv : Value) : (boxC V x wv)[72]? = some (.int .i64 (x.m.ck)) := rfl
theorem bs72 (V : Nat → Value) (x : Bx) (wv : Value) (v : Int) : (boxC V x wv).setIfInBounds 72 (.int .i64 v) = boxC V { x with m := { x.m with ck := v } } wv := rfl
theorem mx73 (V : Nat → Value) (m : Mach) : (machC V m)[73]? = some (.int .i64 (m.mr)) := rfl
theorem ms73 (V : Nat → Value) (m : Mach) (v : Int) : (machC V m).setIfInBounds 73 (.int .i64 v) = machC V { m with mr := v } := rfl
theorem bx73 (V : Nat → Value) (x : Bx) (wv : Value) : (boxC V x wv)[73]? = some (.int .i64 (x.m.mr)) := rfl
theorem bs73 (V : Nat → Value) (x : Bx) (wv : Value) (v : Int) : (boxC V x wv).setIfInBounds 73 (.int .i64 v) = boxC V { x with m := { x.m with mr := v } } wv := rfl
theorem mx74 (V : Nat → Value) (m : Mach) : (machC V m)[74]? = some (.int .i64 (m.ar)) := rfl
theorem ms74 (V : Nat → Value) (m : Mach) (v : Int) : (machC V m).setIfInBounds 74 (.int .i64 v) = machC V { m with ar := v } := rfl
theorem bx74 (V : Nat → Value) (x : Bx) (wv : Value) : (boxC V x wv)[74]? = some (.int .i64 (x.m.ar)) := rfl
theorem bs74 (V : Nat → Value) (x : Bx) (wv : Value) (v : Int) : (boxC V x wv).setIfInBounds 74 (.int .i64 v) = boxC V { x with m := { x.m with ar := v } } wv := rfl
theorem msV30 (V : Nat → Value) (m : Mach) (v : Value) : (machC V m).setIfInBounds 30 v = machC (updV V 0 v) m := rfl
theorem msV31 (V : Nat → Value) (m : Mach) (v : Value) : (machC V m).setIfInBounds 31 v = machC (updV V 1 v) m := rfl
theorem msV32 (V : Nat → Value) (m : Mach) (v : Value) : (machC V m).setIfInBounds 32 v = machC (updV V 2 v) m := rfl
theorem msV33 (V : Nat → Value) (m : Mach) (v : Value) : (machC V m).setIfInBounds 33 v = machC (updV V 3 v) m := rfl
theorem msV34 (V : Nat → Value) (m : Mach) (v : Value) : (machC V m).setIfInBounds 34 v = machC (updV V 4 v) m := rfl
theorem bx75 (V : Nat → Value) (x : Bx) (wv : Value) : (boxC V x wv)[75]? = some wv := rfl
theorem bs75 (V : Nat → Value) (x : Bx) (wv v : Value) : (boxC V x wv).setIfInBounds 75 v = boxC V x v := rfl
theorem bx76 (V : Nat → Value) (x : Bx) (wv : Value) : (boxC V x wv)[76]? = some (.int .i64 x.dl) := rfl
theorem bs76 (V : Nat → Value) (x : Bx) (wv : Value) (v : Int) : (boxC V x wv).setIfInBounds 76 (.int .i64 v) = boxC V { x with dl := v } wv := rfl
theorem boxC_mem (V : Nat → Value) (x : Bx) (wv : Value) (i : Nat) (l : List Int) : boxC V { x with m := { x.m with mem := updM x.m.mem i l } } wv = boxC V x wv := rfl
theorem boxC_ws (V : Nat → Value) (x : Bx) (wv : Value) (l : List Wr) : boxC V { x with ws := l } wv = boxC V x wv := rfl
@[simp] theorem boxC_size (V : Nat → Value) (x : Bx) (wv : Value) : (boxC V x wv).size = 77 := rfl
@[simp] theorem machC_size (V : Nat → Value) (m : Mach) : (machC V m).size = 75 := rfl
theorem boxC_mach (V : Nat → Value) (x : Bx) (wv : Value) : ((boxC V x wv).toList.drop 0).take 75 = (machC V x.m).toList := rfl
end Go.Mq
