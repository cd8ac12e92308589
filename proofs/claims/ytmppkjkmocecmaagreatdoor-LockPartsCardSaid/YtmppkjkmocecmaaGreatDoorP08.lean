/- Plain mathematics of voices and sounds. Conditions: none; no program in sight. -/
import Derived.Test.YtmppkjkmocecmaaGreatDoorSq
import Derived.Test.YtmppkjkmocecmaaGreatDoorBase
import Derived.Test.YtmppkjkmocecmaaGreatDoorP07
set_option linter.unusedVariables false
set_option maxRecDepth 100000
namespace Go.Mq
structure Vc where
 pd : Int
 ct : Int
 ld : Int
 hi : Bool
 nz : Int
def Vc.Ok (v : Vc) : Prop := U16 v.pd ∧ U16 v.ct ∧ U8 v.ld ∧ U16 v.nz
def xorV (n : Int) : Int := bits .xor .u16 (n / 2) 46080
def stepV (v : Vc) : Vc :=
 if v.nz = 0 then ⟨v.pd, v.pd, v.ld, !v.hi, 0⟩ else if v.nz % 2 = 1 then ⟨v.pd, v.pd, v.ld, true, xorV v.nz⟩ else ⟨v.pd, v.pd, v.ld, false, v.nz / 2⟩
def tickV (v : Vc) : Vc := if v.ct = 0 then stepV v else ⟨v.pd, v.ct - 1, v.ld, v.hi, v.nz⟩
def runV (v : Vc) : Nat → Vc
 | 0 => v
 | n + 1 => runV (tickV v) n
theorem xorV_nat (n : Int) (h : U16 n) : xorV n = (((n / 2).toNat ^^^ 46080 : Nat) : Int) := by
 unfold U16 at h
 unfold xorV
 rw [u16_xor _ _ kO kO kO kO]
 rfl
theorem xorV_in (n : Int) (h : U16 n) : U16 (xorV n) := by
 rw [xorV_nat n h]
 unfold U16 at h
 have := Nat.xor_lt_two_pow (n := 16) (x := (n / 2).toNat) (y := 46080) kO kO
 unfold U16
 omega
theorem stepV_ok (v : Vc) (h : v.Ok) : (stepV v).Ok := by
 obtain ⟨h1, h2, h3, h4⟩ := h
 unfold stepV Vc.Ok
 split
 ·exact ⟨h1, h1, h3, by unfold U16; simp⟩
 ·split
  ·exact ⟨h1, h1, h3, xorV_in _ h4⟩
  ·exact ⟨h1, h1, h3, by unfold U16 at *; simp only; omega⟩
theorem tickV_ok (v : Vc) (h : v.Ok) : (tickV v).Ok := by
 unfold tickV
 split
 ·exact stepV_ok v h
 ·obtain ⟨h1, h2, h3, h4⟩ := h
  exact ⟨h1, by unfold U16 at *; simp only; omega, h3, h4⟩
theorem runV_ok : ∀ (n : Nat) (v : Vc), v.Ok → (runV v n).Ok
 | 0, _, h => h
 | n + 1, v, h => runV_ok n _ (tickV_ok v h)
theorem runV_add (v : Vc) (n m : Nat) : runV v (n + m) = runV (runV v n) m := by
 induction n generalizing v with
 | zero => simp [runV]
 | succ n ih => rw [show n + 1 + m = (n + m) + 1 from by omega]; exact ih (tickV v)
theorem runV_last (v : Vc) (n : Nat) : runV v (n + 1) = tickV (runV v n) := by rw [runV_add]; rfl
theorem runV_le (v : Vc) (n : Nat) (h : (n : Int) ≤ v.ct) : runV v n = ⟨v.pd, v.ct - n, v.ld, v.hi, v.nz⟩ := by
 induction n with
 | zero => simp [runV]
 | succ n ih =>
  rw [runV_last, ih kO]
  unfold tickV
  simp only
  rw [if_neg kO]
  congr 1
  omega
theorem runV_over (v : Vc) (h : 0 ≤ v.ct) (m : Nat) : runV v (v.ct.toNat + 1 + m) = runV (stepV v) m := by
 rw [runV_add, runV_last, runV_le v _ kO]
 congr 1
 unfold tickV
 simp only
 rw [if_pos kO]
 unfold stepV
 rfl
/-! ### A sound: three voices and what is waited -/
structure Sd where
 a : Vc
 b : Vc
 c : Vc
 wt : Int
def Sd.In (s : Sd) : Prop := s.a.Ok ∧ s.b.Ok ∧ s.c.Ok
def Sd.Ok (s : Sd) : Prop := s.In ∧ 0 ≤ s.wt ∧ s.wt ≤ 15
def levV (v : Vc) : Int := if v.hi then v.ld % 16 else 0
def levS (s : Sd) : Int := levV s.a + levV s.b + levV s.c
def tickS (s : Sd) : Sd := ⟨tickV s.a, tickV s.b, tickV s.c, if s.wt = 0 then 15 else s.wt - 1⟩
def runS (s : Sd) : Nat → Sd
 | 0 => s
 | n + 1 => runS (tickS s) n
def smp (s : Sd) : Nat → List Int
 | 0 => []
 | n + 1 => (if s.wt = 0 then [levS s] else []) ++ smp (tickS s) n
/-- all three go on for n clocks, the wait is told -/
def goSd (s : Sd) (n : Nat) (wt : Int) : Sd := ⟨runV s.a n, runV s.b n, runV s.c n, wt⟩
theorem levV_in (v : Vc) : 0 ≤ levV v ∧ levV v ≤ 15 := by unfold levV; split <;> omega
theorem levS_in (s : Sd) : 0 ≤ levS s ∧ levS s ≤ 45 := by
 have := levV_in s.a
 have := levV_in s.b
 have := levV_in s.c
 unfold levS; omega
theorem runS_add (s : Sd) (n m : Nat) : runS s (n + m) = runS (runS s n) m := by
 induction n generalizing s with
 | zero => simp [runS]
 | succ n ih => rw [show n + 1 + m = (n + m) + 1 from by omega]; exact ih (tickS s)
theorem runS_last (s : Sd) (n : Nat) : runS s (n + 1) = tickS (runS s n) := by rw [runS_add]; rfl
theorem smp_add (s : Sd) (n m : Nat) : smp s (n + m) = smp s n ++ smp (runS s n) m := by
 induction n generalizing s with
 | zero => simp [smp, runS]
 | succ n ih => rw [show n + 1 + m = (n + m) + 1 from by omega]; simp only [smp, runS, ih, List.append_assoc]
theorem smp_last (s : Sd) (n : Nat) : smp s (n + 1) = smp s n ++ (if (runS s n).wt = 0 then [levS (runS s n)] else []) := by rw [smp_add]; simp [smp]
theorem tickS_ok (s : Sd) (h : s.Ok) : (tickS s).Ok := by
 obtain ⟨⟨h1, h2, h3⟩, h4, h5⟩ := h
 refine ⟨⟨tickV_ok _ h1, tickV_ok _ h2, tickV_ok _ h3⟩, ?_⟩
 unfold tickS
 simp only
 split <;> omega
/-- while it waits nothing is heard -/
theorem runS_wait (s : Sd) (n : Nat) (h : (n : Int) ≤ s.wt) : runS s n = goSd s n (s.wt - n) := by
 induction n with
 | zero => simp [runS, goSd, runV]
 | succ n ih =>
  rw [runS_last, ih kO]
  unfold tickS goSd
  simp only [runV_last]
  rw [if_neg kO]
  congr 1
  omega
theorem smp_wait (s : Sd) (n : Nat) (h : (n : Int) ≤ s.wt) : smp s n = [] := by
 induction n with
 | zero => rfl
 | succ n ih =>
  rw [smp_last, ih kO, runS_wait s n kO]
  unfold goSd
  simp only
  rw [if_neg kO]
  rfl
/-- from a sample on: sixteen clocks -/
theorem runS_heard (s : Sd) (n : Nat) (h0 : s.wt = 0) (n1 : 1 ≤ n) (h : n ≤ 16) : runS s n = goSd s n (16 - n) := by
 obtain ⟨m, rfl⟩ : ∃ m, n = m + 1 := ⟨n - 1, by omega⟩
 show runS (tickS s) m = _
 have hw : (tickS s).wt = 15 := by unfold tickS; simp [h0]
 rw [runS_wait _ _ kO]
 unfold goSd
 rw [hw]
 unfold tickS
 simp only [runV]
 congr 1
 omega
theorem smp_heard (s : Sd) (n : Nat) (h0 : s.wt = 0) (n1 : 1 ≤ n) (h : n ≤ 16) : smp s n = [levS s] := by
 obtain ⟨m, rfl⟩ : ∃ m, n = m + 1 := ⟨n - 1, by omega⟩
 have hw : (tickS s).wt = 15 := by unfold tickS; simp [h0]
 simp only [smp]
 rw [if_pos h0, smp_wait _ _ kO]
 rfl
theorem smp_length (s : Sd) (h : s.Ok) (n : Nat) : ((smp s n).length : Int) = if s.wt < n then (n - s.wt - 1) / 16 + 1 else 0 := by
 induction n generalizing s with
 | zero => have := h.2; simp [smp]; omega
 | succ n ih =>
  simp only [smp, List.length_append]
  have hi := ih (tickS s) (tickS_ok s h)
  have hh := h.2
  unfold tickS at hi
  simp only at hi
  split
  ·rename_i h0
   rw [if_pos h0] at hi
   simp only [List.length_singleton]
   rw [if_pos kO]
   split at hi <;> (rw [show tickS s = ⟨tickV s.a, tickV s.b, tickV s.c, if s.wt = 0 then 15 else s.wt - 1⟩ from rfl, if_pos h0]; omega)
  ·rename_i h0
   rw [if_neg h0] at hi
   simp only [List.length_nil]
   rw [show tickS s = ⟨tickV s.a, tickV s.b, tickV s.c, if s.wt = 0 then 15 else s.wt - 1⟩ from rfl, if_neg h0]
   split at hi <;> split <;> omega
theorem smp_le (s : Sd) (h : s.Ok) (n : Nat) : (smp s n).length ≤ n := by
 have hl := smp_length s h n
 have := h.2
 split at hl <;> omega
theorem smp_in (s : Sd) (n : Nat) : ∀ x ∈ smp s n, 0 ≤ x ∧ x ≤ 45 := by
 induction n generalizing s with
 | zero => simp [smp]
 | succ n ih =>
  intro x hx
  simp only [smp, List.mem_append] at hx
  rcases hx with h | h
  ·split at h
   ·simp at h; subst h; exact levS_in s
   ·simp at h
  ·exact ih _ x h
theorem goS_ok (s : Sd) (h : s.Ok) (n : Nat) (wt : Int) (h0 : 0 ≤ wt) (h1 : wt ≤ 15) : (goSd s n wt).Ok := ⟨⟨runV_ok n _ h.1.1, runV_ok n _ h.1.2.1, runV_ok n _ h.1.2.2⟩, h0, h1⟩
theorem heard_step (u : Sd) (hu : u.Ok) (m k : Nat) (h0 : u.wt = 0) (k1 : 1 ≤ k) (k16 : k ≤ 16) (hkm : k ≤ m) :
  (goSd u k (16 - k)).Ok ∧ levS u :: smp (goSd u k (16 - k)) (m - k) = smp u m ∧ runS (goSd u k (16 - k)) (m - k) = runS u m := by
 refine ⟨goS_ok u hu k _ kO kO, ?_, ?_⟩
 ·have := smp_add u k (m - k)
  rw [show k + (m - k) = m from by omega, smp_heard u k h0 k1 k16, runS_heard u k h0 k1 k16] at this
  exact this.symm
 ·have := runS_add u k (m - k)
  rw [show k + (m - k) = m from by omega, runS_heard u k h0 k1 k16] at this
  exact this.symm
theorem wait_step (u : Sd) (hu : u.Ok) (m k : Nat) (hk : (k : Int) ≤ u.wt) (hkm : k ≤ m) :
  (goSd u k (u.wt - k)).Ok ∧ smp (goSd u k (u.wt - k)) (m - k) = smp u m ∧ runS (goSd u k (u.wt - k)) (m - k) = runS u m := by
 refine ⟨goS_ok u hu k _ kO (by have := hu.2; omega), ?_, ?_⟩
 ·have := smp_add u k (m - k)
  rw [show k + (m - k) = m from by omega, smp_wait u k hk, runS_wait u k hk] at this
  exact this.symm
 ·have := runS_add u k (m - k)
  rw [show k + (m - k) = m from by omega, runS_wait u k hk] at this
  exact this.symm
open Go.RowKit
def Bytes8 (l : List Int) : Prop := ∀ x ∈ l, 0 ≤ x ∧ x ≤ 255
theorem own_setAt {w : World} {base size n : Nat} {e : TypeId} {v : Value} {xs : List Value} (h : w.ownsRow base e size v n xs) {p : Addr} {u : Value} (hp : ∀ g, v.ownBlock = some g → g ≠ p.block) : (w.setCell p u).ownsRow base e size v n xs := by
 refine ⟨h.1, ?_⟩
 rcases h.2 with hn | ⟨g, cap, cur, rfl, hbg, hgg, rest⟩
 ·exact .inl hn
 ·exact .inr ⟨g, cap, cur, rfl, hbg, by rw [Below.heap_setCell w p u g (hp g rfl)]; exact hgg, rest⟩
theorem own_set {w : World} {base n g cap : Nat} {e : TypeId} {xs : List Value} (h : w.ownsRow base e 1 (.slice (some ⟨g, 0, none⟩) n cap) n xs) (i : Nat) (u : Value) : (w.setCell ⟨g, i, none⟩ u).ownsRow base e 1 (.slice (some ⟨g, 0, none⟩) n cap) n (xs.set i u) := by
 refine ⟨by rw [List.length_set]; exact h.1, ?_⟩
 rcases h.2 with ⟨hn, -⟩ | ⟨g', cap', cur, hv, hbg, hgg, h1, h2, h3, h4⟩
 ·cases hn
 ·injection hv with e1 e2 e3
  injection e1 with e1
  injection e1 with e1
  subst e1 e3
  refine .inr ⟨g, cap, cur.setIfInBounds i u, rfl, hbg, Joins.block_setCell hgg u, h1, h2, by simpa using h3, ?_⟩
  rw [← h4, Array.toList_setIfInBounds, List.take_set]
theorem own_cell {w : World} {base n g cap : Nat} {e : TypeId} {k : IntKind} {xs : List Int} (h : w.ownsRow base e 1 (.slice (some ⟨g, 0, none⟩) n cap) n (xs.map (Value.int k))) (i : Nat) (hi : i < xs.length) : w.cell? ⟨g, i, none⟩ = some (.int k (xs.getD i 0)) := by
 have := h.cells (g := g) rfl i (.int k (xs.getD i 0)) (by simp [List.getElem?_eq_getElem hi])
 rw [Addr.add_lit, Nat.zero_add] at this
 exact this
theorem getD_byte {l : List Int} (h : Bytes8 l) (i : Nat) : U8 (l.getD i 0) := by
 unfold U8
 rw [List.getD_eq_getElem?_getD]
 cases hi : l[i]? with
 | none => simp
 | some x => simpa using h x (List.mem_of_getElem? hi)
theorem byte_set {l : List Int} (h : Bytes8 l) (i : Nat) {v : Int} (hv : U8 v) : Bytes8 (l.set i v) := fun x hx => by
 rcases List.mem_or_eq_of_mem_set hx with hx | rfl
 ·exact h x hx
 ·exact hv
/-- a machine; its memories: the main program, the other one, the main memory, the own one, the picture's -/
structure Mach where
 mc : Cp
 ac : Cp
 mem : Nat → List Int
 p0 : Pd
 p1 : Pd
 tm : Tim
 sd : Sd
 bm : Bm
 fm : Int
 to : Int
 gr : Bool
 hd : Bool
 m0 : Int
 m1 : Int
 rg : Bool
 ck : Int
 mr : Int
 ar : Int
/-- the fields are what their types hold -/
structure Mach.In (m : Mach) : Prop where
 mc : m.mc.In
 ac : m.ac.In
 mem : ∀ i, Bytes8 (m.mem i)
 p0 : m.p0.Ok
 p1 : m.p1.Ok
 tm : m.tm.Ok
 sd : m.sd.In
 wt : I64 m.sd.wt
 ln : I64 m.bm.ln
 pt : I64 m.bm.pt
 fr : I64 m.bm.fr
 fm : U16 m.fm
 to : U16 m.to
 m0 : U8 m.m0
 m1 : U8 m.m1
 ck : I64 m.ck
 mr : I64 m.mr
 ar : I64 m.ar
/-- the memories have their sizes -/
structure Mach.Fit (m : Mach) : Prop where
 l0 : (m.mem 0).length ≤ 1024
 l1 : (m.mem 1).length ≤ 1024
 l2 : (m.mem 2).length = 128
 l3 : (m.mem 3).length = 64
 l4 : (m.mem 4).length = 256
def updV (f : Nat → Value) (i : Nat) (v : Value) : Nat → Value := fun k => if k = i then v else f k
def updM (f : Nat → List Int) (i : Nat) (l : List Int) : Nat → List Int := fun k => if k = i then l else f k
/-- a write to the sound -/
structure Wr where
 ck : Int
 at' : Int
 v : Int
/-- a machine at work -/
structure Bx where
 m : Mach
 ws : List Wr
 dl : Int
def wrC : List Wr → List Value
 | [] => []
 | x :: t => [.int .i64 x.ck, .int .i64 x.at', .int .u8 x.v] ++ wrC t
theorem wrC_snoc (l : List Wr) (x : Wr) : wrC (l ++ [x]) = wrC l ++ [.int .i64 x.ck, .int .i64 x.at', .int .u8 x.v] := by
 induction l with
 | nil => rfl
 | cons y t ih => simp only [wrC, List.cons_append, ih]; rfl
def machC (V : Nat → Value) (m : Mach) : Array Value := #[.int .u16 (m.mc.r 0), .int .u16 (m.mc.r 1), .int .u16 (m.mc.r 2), .int .u16 (m.mc.r 3), .int .u16 (m.mc.r 4), .int .u16 (m.mc.r 5), .int .u16 (m.mc.r 6), .int .u16 (m.mc.r 7), .int .u16 m.mc.pc, .bool m.mc.z, .bool m.mc.n, .bool m.mc.c, .bool m.mc.v, .bool m.mc.may, .bool m.mc.wt, .int .u16 (m.ac.r 0), .int .u16 (m.ac.r 1), .int .u16 (m.ac.r 2), .int .u16 (m.ac.r 3), .int .u16 (m.ac.r 4), .int .u16 (m.ac.r 5), .int .u16 (m.ac.r 6), .int .u16 (m.ac.r 7), .int .u16 m.ac.pc, .bool m.ac.z, .bool m.ac.n, .bool m.ac.c, .bool m.ac.v, .bool m.ac.may, .bool m.ac.wt, V 0, V 1, V 2, V 3, V 4, .int .u8 m.p0.dn, .bool m.p0.la, .int .u8 m.p0.sh, .int .u8 m.p1.dn, .bool m.p1.la, .int .u8 m.p1.sh, .int .u16 m.tm.rl, .int .u16 m.tm.ct, .bool m.tm.on, .bool m.tm.rg, .int .u16 m.sd.a.pd, .int .u16 m.sd.a.ct, .int .u8 m.sd.a.ld, .bool m.sd.a.hi, .int .u16 m.sd.a.nz, .int .u16 m.sd.b.pd, .int .u16 m.sd.b.ct, .int .u8 m.sd.b.ld, .bool m.sd.b.hi, .int .u16 m.sd.b.nz, .int .u16 m.sd.c.pd, .int .u16 m.sd.c.ct, .int .u8 m.sd.c.ld, .bool m.sd.c.hi, .int .u16 m.sd.c.nz, .int .i64 m.sd.wt, .int .i64 m.bm.ln, .int .i64 m.bm.pt, .bool m.bm.rg, .int .i64 m.bm.fr, .int .u16 m.fm, .int .u16 m.to, .bool m.gr, .bool m.hd, .int .u8 m.m0, .int .u8 m.m1, .bool m.rg, .int .i64 m.ck, .int .i64 m.mr, .int .i64 m.ar]
def boxC (V : Nat → Value) (x : Bx) (wv : Value) : Array Value := #[.int .u16 (x.m.mc.r 0), .int .u16 (x.m.mc.r 1), .int .u16 (x.m.mc.r 2), .int .u16 (x.m.mc.r 3), .int .u16 (x.m.mc.r 4), .int .u16 (x.m.mc.r 5), .int .u16 (x.m.mc.r 6), .int .u16 (x.m.mc.r 7), .int .u16 x.m.mc.pc, .bool x.m.mc.z, .bool x.m.mc.n, .bool x.m.mc.c, .bool x.m.mc.v, .bool x.m.mc.may, .bool x.m.mc.wt, .int .u16 (x.m.ac.r 0), .int .u16 (x.m.ac.r 1), .int .u16 (x.m.ac.r 2), .int .u16 (x.m.ac.r 3), .int .u16 (x.m.ac.r 4), .int .u16 (x.m.ac.r 5), .int .u16 (x.m.ac.r 6), .int .u16 (x.m.ac.r 7), .int .u16 x.m.ac.pc, .bool x.m.ac.z, .bool x.m.ac.n, .bool x.m.ac.c, .bool x.m.ac.v, .bool x.m.ac.may, .bool x.m.ac.wt, V 0, V 1, V 2, V 3, V 4, .int .u8 x.m.p0.dn, .bool x.m.p0.la, .int .u8 x.m.p0.sh, .int .u8 x.m.p1.dn, .bool x.m.p1.la, .int .u8 x.m.p1.sh, .int .u16 x.m.tm.rl, .int .u16 x.m.tm.ct, .bool x.m.tm.on, .bool x.m.tm.rg, .int .u16 x.m.sd.a.pd, .int .u16 x.m.sd.a.ct, .int .u8 x.m.sd.a.ld, .bool x.m.sd.a.hi, .int .u16 x.m.sd.a.nz, .int .u16 x.m.sd.b.pd, .int .u16 x.m.sd.b.ct, .int .u8 x.m.sd.b.ld, .bool x.m.sd.b.hi, .int .u16 x.m.sd.b.nz, .int .u16 x.m.sd.c.pd, .int .u16 x.m.sd.c.ct, .int .u8 x.m.sd.c.ld, .bool x.m.sd.c.hi, .int .u16 x.m.sd.c.nz, .int .i64 x.m.sd.wt, .int .i64 x.m.bm.ln, .int .i64 x.m.bm.pt, .bool x.m.bm.rg, .int .i64 x.m.bm.fr, .int .u16 x.m.fm, .int .u16 x.m.to, .bool x.m.gr, .bool x.m.hd, .int .u8 x.m.m0, .int .u8 x.m.m1, .bool x.m.rg, .int .i64 x.m.ck, .int .i64 x.m.mr, .int .i64 x.m.ar, wv, .int .i64 x.dl]
theorem mx14 (V : Nat → Value) (m : Mach) : (machC V m)[14]? = some (.bool (m.mc.wt)) := rfl
theorem mx30 (V : Nat → Value) (m : Mach) : (machC V m)[30]? = some (V 0) := rfl
theorem bx30 (V : Nat → Value) (x : Bx) (wv : Value) : (boxC V x wv)[30]? = some (V 0) := rfl
theorem mx31 (V : Nat → Value) (m : Mach) : (machC V m)[31]? = some (V 1) := rfl
theorem bx31 (V : Nat → Value) (x : Bx) (wv : Value) : (boxC V x wv)[31]? = some (V 1) := rfl
theorem mx32 (V : Nat → Value) (m : Mach) : (machC V m)[32]? = some (V 2) := rfl
theorem bx32 (V : Nat → Value) (x : Bx) (wv : Value) : (boxC V x wv)[32]? = some (V 2) := rfl
theorem mx33 (V : Nat → Value) (m : Mach) : (machC V m)[33]? = some (V 3) := rfl
theorem bx33 (V : Nat → Value) (x : Bx) (wv : Value) : (boxC V x wv)[33]? = some (V 3) := rfl
theorem mx34 (V : Nat → Value) (m : Mach) : (machC V m)[34]? = some (V 4) := rfl
theorem bx34 (V : Nat → Value) (x : Bx) (wv : Value) : (boxC V x wv)[34]? = some (V 4) := rfl
theorem bx41 (V : Nat → Value) (x : Bx) (wv : Value) : (boxC V x wv)[41]? = some (.int .u16 (x.m.tm.rl)) := rfl
theorem bs41 (V : Nat → Value) (x : Bx) (wv : Value) (v : Int) : (boxC V x wv).setIfInBounds 41 (.int .u16 v) = boxC V { x with m := { x.m with tm := { x.m.tm with rl := v } } } wv := rfl
theorem bx43 (V : Nat → Value) (x : Bx) (wv : Value) : (boxC V x wv)[43]? = some (.bool (x.m.tm.on)) := rfl
theorem bx44 (V : Nat → Value) (x : Bx) (wv : Value) : (boxC V x wv)[44]? = some (.bool (x.m.tm.rg)) := rfl
theorem bs44 (V : Nat → Value) (x : Bx) (wv : Value) (v : Bool) : (boxC V x wv).setIfInBounds 44 (.bool v) = boxC V { x with m := { x.m with tm := { x.m.tm with rg := v } } } wv := rfl
theorem mx60 (V : Nat → Value) (m : Mach) : (machC V m)[60]? = some (.int .i64 (m.sd.wt)) := rfl
theorem bx60 (V : Nat → Value) (x : Bx) (wv : Value) : (boxC V x wv)[60]? = some (.int .i64 (x.m.sd.wt)) := rfl
theorem mx61 (V : Nat → Value) (m : Mach) : (machC V m)[61]? = some (.int .i64 (m.bm.ln)) := rfl
theorem bx61 (V : Nat → Value) (x : Bx) (wv : Value) : (boxC V x wv)[61]? = some (.int .i64 (x.m.bm.ln)) := rfl
theorem bx62 (V : Nat → Value) (x : Bx) (wv : Value) : (boxC V x wv)[62]? = some (.int .i64 (x.m.bm.pt)) := rfl
theorem bx63 (V : Nat → Value) (x : Bx) (wv : Value) : (boxC V x wv)[63]? = some (.bool (x.m.bm.rg)) := rfl
theorem bs63 (V : Nat → Value) (x : Bx) (wv : Value) (v : Bool) : (boxC V x wv).setIfInBounds 63 (.bool v) = boxC V { x with m := { x.m with bm := { x.m.bm with rg := v } } } wv := rfl
theorem mx64 (V : Nat → Value) (m : Mach) : (machC V m)[64]? = some (.int .i64 (m.bm.fr)) := rfl
theorem bx64 (V : Nat → Value) (x : Bx) (wv : Value) : (boxC V x wv)[64]? = some (.int .i64 (x.m.bm.fr)) := rfl
theorem mx65 (V : Nat → Value) (m : Mach) : (machC V m)[65]? = some (.int .u16 (m.fm)) := rfl
theorem bx65 (V : Nat → Value) (x : Bx) (wv : Value) : (boxC V x wv)[65]? = some (.int .u16 (x.m.fm)) := rfl
theorem bs65 (V : Nat → Value) (x : Bx) (wv : Value) (v : Int) : (boxC V x wv).setIfInBounds 65 (.int .u16 v) = boxC V { x with m := { x.m with fm := v } } wv := rfl
theorem mx66 (V : Nat → Value) (m : Mach) : (machC V m)[66]? = some (.int .u16 (m.to)) := rfl
theorem bx66 (V : Nat → Value) (x : Bx) (wv : Value) : (boxC V x wv)[66]? = some (.int .u16 (x.m.to)) := rfl
theorem bs66 (V : Nat → Value) (x : Bx) (wv : Value) (v : Int) : (boxC V x wv).setIfInBounds 66 (.int .u16 v) = boxC V { x with m := { x.m with to := v } } wv := rfl
theorem mx67 (V : Nat → Value) (m : Mach) : (machC V m)[67]? = some (.bool (m.gr)) := rfl
theorem bx67 (V : Nat → Value) (x : Bx) (wv : Value) : (boxC V x wv)[67]? = some (.bool (x.m.gr)) := rfl
theorem bs67 (V : Nat → Value) (x : Bx) (wv : Value) (v : Bool) : (boxC V x wv).setIfInBounds 67 (.bool v) = boxC V { x with m := { x.m with gr := v } } wv := rfl
theorem mx68 (V : Nat → Value) (m : Mach) : (machC V m)[68]? = some (.bool (m.hd)) := rfl
theorem bx68 (V : Nat → Value) (x : Bx) (wv : Value) : (boxC V x wv)[68]? = some (.bool (x.m.hd)) := rfl
theorem bs68 (V : Nat → Value) (x : Bx) (wv : Value) (v : Bool) : (boxC V x wv).setIfInBounds 68 (.bool v) = boxC V { x with m := { x.m with hd := v } } wv := rfl
theorem bx69 (V : Nat → Value) (x : Bx) (wv : Value) : (boxC V x wv)[69]? = some (.int .u8 (x.m.m0)) := rfl
theorem bs69 (V : Nat → Value) (x : Bx) (wv : Value) (v : Int) : (boxC V x wv).setIfInBounds 69 (.int .u8 v) = boxC V { x with m := { x.m with m0 := v } } wv := rfl
theorem bx70 (V : Nat → Value) (x : Bx) (wv : Value) : (boxC V x wv)[70]? = some (.int .u8 (x.m.m1)) := rfl
theorem bs70 (V : Nat → Value) (x : Bx) (wv : Value) (v : Int) : (boxC V x wv).setIfInBounds 70 (.int .u8 v) = boxC V { x with m := { x.m with m1 := v } } wv := rfl
theorem mx71 (V : Nat → Value) (m : Mach) : (machC V m)[71]? = some (.bool (m.rg)) := rfl
theorem bx71 (V : Nat → Value) (x : Bx) (wv : Value) : (boxC V x wv)[71]? = some (.bool (x.m.rg)) := rfl
theorem bs71 (V : Nat → Value) (x : Bx) (wv : Value) (v : Bool) : (boxC V x wv).setIfInBounds 71 (.bool v) = boxC V { x with m := { x.m with rg := v } } wv := rfl
theorem mx72 (V : Nat → Value) (m : Mach) : (machC V m)[72]? = some (.int .i64 (m.ck)) := rfl
theorem bx72 (V : Nat → Value) (x : Bx) (wv : Value) : (boxC V x wv)[72]? = some (.int .i64 (x.m.ck)) := rfl
theorem mx73 (V : Nat → Value) (m : Mach) : (machC V m)[73]? = some (.int .i64 (m.mr)) := rfl
theorem bx73 (V : Nat → Value) (x : Bx) (wv : Value) : (boxC V x wv)[73]? = some (.int .i64 (x.m.mr)) := rfl
theorem mx74 (V : Nat → Value) (m : Mach) : (machC V m)[74]? = some (.int .i64 (m.ar)) := rfl
theorem bx74 (V : Nat → Value) (x : Bx) (wv : Value) : (boxC V x wv)[74]? = some (.int .i64 (x.m.ar)) := rfl
theorem bs74 (V : Nat → Value) (x : Bx) (wv : Value) (v : Int) : (boxC V x wv).setIfInBounds 74 (.int .i64 v) = boxC V { x with m := { x.m with ar := v } } wv := rfl
theorem msV30 (V : Nat → Value) (m : Mach) (v : Value) : (machC V m).setIfInBounds 30 v = machC (updV V 0 v) m := rfl
theorem msV31 (V : Nat → Value) (m : Mach) (v : Value) : (machC V m).setIfInBounds 31 v = machC (updV V 1 v) m := rfl
theorem msV32 (V : Nat → Value) (m : Mach) (v : Value) : (machC V m).setIfInBounds 32 v = machC (updV V 2 v) m := rfl
theorem msV33 (V : Nat → Value) (m : Mach) (v : Value) : (machC V m).setIfInBounds 33 v = machC (updV V 3 v) m := rfl
theorem msV34 (V : Nat → Value) (m : Mach) (v : Value) : (machC V m).setIfInBounds 34 v = machC (updV V 4 v) m := rfl
theorem bx75 (V : Nat → Value) (x : Bx) (wv : Value) : (boxC V x wv)[75]? = some wv := rfl
theorem bs75 (V : Nat → Value) (x : Bx) (wv v : Value) : (boxC V x wv).setIfInBounds 75 v = boxC V x v := rfl
theorem bx76 (V : Nat → Value) (x : Bx) (wv : Value) : (boxC V x wv)[76]? = some (.int .i64 x.dl) := rfl
theorem bs76 (V : Nat → Value) (x : Bx) (wv : Value) (v : Int) : (boxC V x wv).setIfInBounds 76 (.int .i64 v) = boxC V { x with dl := v } wv := rfl
@[simp] theorem boxC_size (V : Nat → Value) (x : Bx) (wv : Value) : (boxC V x wv).size = 77 := rfl
@[simp] theorem machC_size (V : Nat → Value) (m : Mach) : (machC V m).size = 75 := rfl
/-- where the memories lie: apart from one another, from the box, within bounds -/
structure LiesX (V : Nat → Value) (bb B H : Nat) : Prop where
 lo : H ≤ bb
 hi : bb < B
 own : ∀ i g, i < 5 → (V i).ownBlock = some g → H ≤ g ∧ g < B ∧ g ≠ bb
 ap : ∀ i j g, i < 5 → j < 5 → i ≠ j → (V i).ownBlock = some g → (V j).ownBlock ≠ some g
def Mems (w : World) (V : Nat → Value) (m : Mach) : Prop := ∀ i, i < 5 → w.ownsRow 0 5 1 (V i) (m.mem i).length ((m.mem i).map (Value.int .u8))
def Wrs (w : World) (H : Nat) (wv : Value) (l : List Wr) : Prop := w.ownsRow H 68 3 wv l.length (wrC l)
structure RelX (T : TypeId) (w0 : World) (V : Nat → Value) (bb H : Nat) (w : World) (x : Bx) : Prop where
 old : Below H w0 w
 box : ∃ wv, Blk w bb (boxC V x wv) T ∧ Wrs w H wv x.ws
 mems : Mems w V x.m
 fit : x.m.Fit
 inn : x.m.In
theorem Wrs.lt {w : World} {H : Nat} {wv : Value} {l : List Wr} (h : Wrs w H wv l) {g : Nat} (hg : wv.ownBlock = some g) : H ≤ g ∧ IsW w g := by
 rcases h.2 with ⟨rfl, -⟩ | ⟨g', cap, cur, rfl, h1, h2, -⟩
 ·cases hg
 ·injection hg with hg
  subst hg
  exact ⟨h1, cur, h2⟩
theorem Wrs.keep {w w' : World} {H : Nat} {wv : Value} {l : List Wr} (h : Wrs w H wv l) (hk : ∀ k, IsW w k → w'.heap[k]? = w.heap[k]?) : Wrs w' H wv l := by
 refine ⟨h.1, ?_⟩
 rcases h.2 with hn | ⟨g, cap, cur, rfl, hbg, hgg, rest⟩
 ·exact .inl hn
 ·exact .inr ⟨g, cap, cur, rfl, hbg, by rw [hk g ⟨cur, hgg⟩]; exact hgg, rest⟩
theorem Mems.keep {w w' : World} {V : Nat → Value} {m : Mach} (h : Mems w V m) (hk : ∀ i g, i < 5 → (V i).ownBlock = some g → w'.heap[g]? = w.heap[g]?) : Mems w' V m := by
 intro i hi
 obtain ⟨h1, h2⟩ := h i hi
 refine ⟨h1, ?_⟩
 rcases h2 with hn | ⟨g, cap, cur, hv, hbg, hgg, rest⟩
 ·exact .inl hn
 ·exact .inr ⟨g, cap, cur, hv, hbg, by rw [hk i g hi (by rw [hv]; rfl)]; exact hgg, rest⟩
theorem RelX.stable {T : TypeId} {w0 : World} {V : Nat → Value} {bb B H : Nat} (L : LiesX V bb B H) {w w' : World} {x : Bx} (h : RelX T w0 V bb H w x) (k : St B w w') : RelX T w0 V bb H w' x := by
 obtain ⟨h1, ⟨wv, h2, h3⟩, h4, h5, h6⟩ := h
 refine ⟨h1.trans (k.below.mono (by have := L.lo; have := L.hi; omega)), ⟨wv, ?_, h3.keep k.keep⟩, h4.keep (fun i g hi hg => k.below.block g (L.own i g hi hg).2.1), h5, h6⟩
 unfold Blk
 rw [k.below.block bb L.hi]
 exact h2
/-- a memory that isn't empty, as a block -/
theorem Mems.at {w : World} {V : Nat → Value} {m : Mach} (h : Mems w V m) (i : Nat) (hi : i < 5) (k : Nat) (hk : k < (m.mem i).length) : ∃ g cap, V i = .slice (some ⟨g, 0, none⟩) (m.mem i).length cap ∧ (V i).ownBlock = some g ∧ w.cell? ⟨g, k, none⟩ = some (.int .u8 ((m.mem i).getD k 0)) ∧ w.frozen? ⟨g, k, none⟩ = false ∧ g < w.heap.size := by
 have h0 := h i hi
 rcases h0.2 with ⟨hn, h1⟩ | ⟨g, cap, cur, hv, -, hgg, -⟩
 ·omega
 ·refine ⟨g, cap, hv, by rw [hv]; rfl, ?_, Blk.free (show Blk w g cur 5 from hgg) k, (Array.getElem?_eq_some_iff.1 hgg).1⟩
  rw [hv] at h0
  exact own_cell h0 k hk
theorem Mems.shape {w : World} {V : Nat → Value} {m : Mach} (h : Mems w V m) (i : Nat) (hi : i < 5) : ∃ ao cp, V i = .slice ao (m.mem i).length cp := own_shape (h i hi)
/-- a byte is written into a memory -/
theorem RelX.poke {T : TypeId} {w0 : World} {V : Nat → Value} {bb B H : Nat} (L : LiesX V bb B H) {w : World} {x : Bx} (h : RelX T w0 V bb H w x) (i : Nat) (hi : i < 5) (k : Nat) (v : Int) (hv : U8 v) (g : Nat) (hg : (V i).ownBlock = some g) (ht : T ≠ 5) :
  RelX T w0 V bb H (w.setCell ⟨g, k, none⟩ (.int .u8 v)) { x with m := { x.m with mem := updM x.m.mem i ((x.m.mem i).set k v) } } := by
 obtain ⟨h1, ⟨wv, h2, h3⟩, h4, h5, h6⟩ := h
 obtain ⟨o1, o2, o3⟩ := L.own i g hi hg
 have lm : ∀ j, (updM x.m.mem i ((x.m.mem i).set k v) j).length = (x.m.mem j).length := fun j => by
  unfold updM
  split
  ·next e => subst e; simp
  ·rfl
 have hb : ∃ cur, w.heap[g]? = some (.cells cur 5 (0, 0)) := by
  rcases (h4 i hi).2 with ⟨hn, -⟩ | ⟨g', cap, cur, hv', -, hgg, -⟩
  ·rw [hn] at hg; cases hg
  ·rw [hv'] at hg
   injection hg with hg
   subst hg
   exact ⟨cur, hgg⟩
 obtain ⟨cur, hb⟩ := hb
 refine ⟨Below.setCell (p := ⟨g, k, none⟩) h1 o1 _, ⟨wv, ?_, ?_⟩, ?_, ⟨by rw [lm]; exact h5.l0, by rw [lm]; exact h5.l1, by rw [lm]; exact h5.l2, by rw [lm]; exact h5.l3, by rw [lm]; exact h5.l4⟩, ?_⟩
 ·exact Blk.setAt h2 (fun e => o3 e.symm)
 ·refine Wrs.keep h3 (fun q hq => ?_)
  refine Below.heap_setCell w _ _ q (fun e => ?_)
  have e : q = g := e
  subst e
  obtain ⟨cs, hc⟩ := hq
  unfold Blk at hc
  rw [hc] at hb
  injection hb with hb
  injection hb with _ hb
  exact absurd hb kD
 ·intro j hj
  by_cases hji : j = i
  ·subst hji
   have hh := h4 j hj
   obtain ⟨ao, cp, hs⟩ := h4.shape j hj
   rw [hs] at hg hh
   cases ao with
   | none => cases hg
   | some a =>
    obtain ⟨b, o, d⟩ := a
    injection hg with hg
    have hg : b = g := hg
    subst hg
    have hz : (⟨b, o, d⟩ : Addr) = ⟨b, 0, none⟩ := by
     rcases hh.2 with ⟨hn, -⟩ | ⟨g', cap, cur, hv', -⟩
     ·cases hn
     ·injection hv' with e1
      injection e1 with e1
      rw [e1]
      injection e1 with e2
      rw [e2]
    rw [hz] at hh
    have := own_set hh k (Value.int .u8 v)
    show World.ownsRow _ _ _ _ (V j) (updM x.m.mem j ((x.m.mem j).set k v) j).length _
    rw [lm, hs, hz]
    have e2 : updM x.m.mem j ((x.m.mem j).set k v) j = (x.m.mem j).set k v := by unfold updM; rw [if_pos rfl]
    show World.ownsRow _ _ _ _ _ _ ((updM x.m.mem j ((x.m.mem j).set k v) j).map _)
    rw [e2, List.map_set]
    exact this
  ·have e2 : updM x.m.mem i ((x.m.mem i).set k v) j = x.m.mem j := by unfold updM; rw [if_neg hji]
   show World.ownsRow _ _ _ _ (V j) (updM x.m.mem i ((x.m.mem i).set k v) j).length ((updM x.m.mem i ((x.m.mem i).set k v) j).map _)
   rw [e2]
   exact own_setAt (h4 j hj) (fun g' hg' e => L.ap i j g hi hj (fun e => hji e.symm) hg (by rw [hg', show g' = g from e]))
 ·exact ⟨h6.mc, h6.ac, fun j => by
   show Bytes8 (updM x.m.mem i ((x.m.mem i).set k v) j)
   unfold updM
   split
   ·exact byte_set (h6.mem i) k hv
   ·exact h6.mem j, h6.p0, h6.p1, h6.tm, h6.sd, h6.wt, h6.ln, h6.pt, h6.fr, h6.fm, h6.to, h6.m0, h6.m1, h6.ck, h6.mr, h6.ar⟩
/-- all stays but one block -/
structure But (g : Nat) (w w' : World) : Prop where
 os : w'.os = w.os
 tape : w'.tape = w.tape
 output : w'.output = w.output
 size : w.heap.size ≤ w'.heap.size
 block : ∀ k, k < w.heap.size → k ≠ g → w'.heap[k]? = w.heap[k]?
theorem But.refl (g : Nat) (w : World) : But g w w := ⟨rfl, rfl, rfl, Nat.le_refl _, fun _ _ _ => rfl⟩
theorem But.trans {g : Nat} {a b c : World} (h : But g a b) (k : But g b c) : But g a c :=
 ⟨k.os.trans h.os, k.tape.trans h.tape, k.output.trans h.output, Nat.le_trans h.size k.size, fun i hi hn => (k.block i (Nat.lt_of_lt_of_le hi h.size) hn).trans (h.block i hi hn)⟩
theorem But.below {g n : Nat} {a b c : World} (h : But g a b) (k : Below n b c) (hn : a.heap.size ≤ n) : But g a c :=
 ⟨k.os.trans h.os, k.tape.trans h.tape, k.output.trans h.output, Nat.le_trans h.size k.size, fun i hi hg => (k.block i kO).trans (h.block i hi hg)⟩
theorem But.of {g n : Nat} {a b : World} (k : Below n a b) (hn : a.heap.size ≤ n) : But g a b := (But.refl g a).below k hn
theorem But.thenb {g : Nat} {a b c : World} (h : But g a b) (k : Below b.heap.size b c) : But g a c := h.below k h.size
theorem But.put {g : Nat} {a b c : World} (h : But g a b) (k : Put g b c) : But g a c :=
 ⟨k.below.os.trans h.os, k.below.tape.trans h.tape, k.below.output.trans h.output, by rw [k.size]; exact h.size, fun i hi hg => (k.other i hg).trans (h.block i hi hg)⟩
theorem But.setCell {g : Nat} {a b : World} (h : But g a b) {p : Addr} (hp : p.block = g) (v : Value) : But g a (b.setCell p v) :=
 ⟨h.os, h.tape, h.output, by simpa using h.size, fun i hi hg => by rw [Below.heap_setCell b p v i (fun e => hg (e.trans hp))]; exact h.block i hi hg⟩
theorem But.drew {g : Nat} {a b : World} (h : But g a b) : But g a b.drew := ⟨h.os, h.tape, h.output, h.size, h.block⟩
theorem But.drewN {g : Nat} {a b : World} (h : But g a b) (n : Nat) : But g a (b.drewN n) := ⟨h.os, h.tape, h.output, h.size, h.block⟩
theorem But.alloc {g : Nat} {a b : World} (h : But g a b) (o : Obj) : But g a (b.alloc o) := h.thenb ((Below.refl b.heap.size b).alloc (Nat.le_refl _) o)
theorem But.kp {g B : Nat} {a b : World} (h : But g a b) (hg : g < B) : Kp B NoX a b := ⟨h.os, h.tape, h.output, h.size, fun k hk hl _ _ => h.block k hl kO⟩
theorem But.belowH {g H : Nat} {w0 a b : World} (h : But g a b) (k : Below H w0 a) (hg : H ≤ g) (hl : H ≤ a.heap.size) : Below H w0 b :=
 k.trans ⟨h.os, h.tape, h.output, h.size, fun i hi => h.block i kO kO⟩
theorem Blk.but {w w' : World} {b g : Nat} {cs : Array Value} {t : TypeId} (h : Blk w b cs t) (k : But g w w') (hb : b ≠ g) : Blk w' b cs t := by
 unfold Blk
 rw [k.block b h.lt hb]
 exact h
/-- the box alone was written -/
theorem RelX.box1 {T : TypeId} {w0 : World} {V : Nat → Value} {bb B H : Nat} (L : LiesX V bb B H) {w w' : World} {x x' : Bx} {wv : Value} (S : Below H w0 w ∧ Wrs w H wv x.ws ∧ Mems w V x.m ∧ x.m.Fit ∧ x.m.In) (hl : Blk w bb (boxC V x wv) T)
  (k : But bb w w') (hT : T ≠ 68) (hb : Blk w' bb (boxC V x' wv) T) (hm : x'.m.mem = x.m.mem) (hw : x'.ws = x.ws) (hi : x'.m.In) : RelX T w0 V bb H w' x' := by
 obtain ⟨h1, h2, h3, h4, h5⟩ := S
 have h0 := hl.lt
 refine ⟨k.belowH h1 L.lo (by have := L.lo; omega), ⟨wv, hb, ?_⟩, ?_, ?_, hi⟩
 ·rw [hw]
  refine h2.keep (fun g hg => k.block g hg.lt (fun e => ?_))
  subst e
  exact hl.nw hT hg
 ·have : Mems w' V x.m := h3.keep (fun i g hi hg => by
   refine k.block g ?_ (L.own i g hi hg).2.2
   exact ((h3 i hi).lt g hg).2)
  intro i hi
  rw [hm]
  exact this i hi
 ·exact ⟨by rw [hm]; exact h4.l0, by rw [hm]; exact h4.l1, by rw [hm]; exact h4.l2, by rw [hm]; exact h4.l3, by rw [hm]; exact h4.l4⟩
theorem But.kp0 {g : Nat} {a b : World} (h : But g a b) : Kp 0 (· = g) a b := ⟨h.os, h.tape, h.output, h.size, fun k _ hl hx _ => h.block k hl hx⟩
theorem Kp.grown {B : Nat} {X : Nat → Prop} {a b c : World} {row : Option Nat} (h : Kp B X a b) (hg : b.grownBy c row) (hr : ∀ g, row = some g → IsW b g) : Kp B X a c :=
 ⟨hg.os.trans h.os, hg.tape.trans h.tape, hg.output.trans h.output, Nat.le_trans h.size hg.size, fun i hi hl hx hw => (hg.block i (Nat.lt_of_lt_of_le hl h.size) (fun e => hw (IsW.at (h.block i hi hl hx hw) (hr i e.symm)))).trans (h.block i hi hl hx hw)⟩
theorem Kp.up {g B : Nat} {a b : World} (h : Kp 0 (· = g) a b) (hg : g < B) : Kp B NoX a b := ⟨h.os, h.tape, h.output, h.size, fun k hk hl _ hw => h.block k (Nat.zero_le _) hl kO hw⟩
/-- the box and its list of writes were written -/
theorem RelX.box2 {T : TypeId} {w0 : World} {V : Nat → Value} {bb B H : Nat} (L : LiesX V bb B H) {w w' : World} {x x' : Bx} (S : Mems w V x.m ∧ x.m.Fit) (ht : 5 ≠ 68)
  (k : Kp 0 (· = bb) w w') (hB : Below H w0 w') {wv' : Value} (hb : Blk w' bb (boxC V x' wv') T) (hm : x'.m.mem = x.m.mem) (hw : Wrs w' H wv' x'.ws) (hi : x'.m.In) : RelX T w0 V bb H w' x' := by
 obtain ⟨h3, h4⟩ := S
 refine ⟨hB, ⟨wv', hb, hw⟩, ?_, ?_, hi⟩
 ·have : Mems w' V x.m := h3.keep (fun i g hi hg => by
   refine k.block g (Nat.zero_le _) ((h3 i hi).lt g hg).2 (L.own i g hi hg).2.2 ?_
   rcases (h3 i hi).2 with ⟨hn, -⟩ | ⟨g', cap, cur, hv, -, hgg, -⟩
   ·rw [hn] at hg; cases hg
   ·rw [hv] at hg
    injection hg with hg
    subst hg
    exact Blk.nw (show Blk w g' cur 5 from hgg) ht)
  intro i hi
  rw [hm]
  exact this i hi
 ·exact ⟨by rw [hm]; exact h4.l0, by rw [hm]; exact h4.l1, by rw [hm]; exact h4.l2, by rw [hm]; exact h4.l3, by rw [hm]; exact h4.l4⟩
theorem IsW.alloc {w : World} {k : Nat} (h : IsW w k) (o : Obj) : IsW (w.alloc o) k := by
 obtain ⟨cs, hc⟩ := h
 exact ⟨cs, hc.alloc o⟩
end Go.Mq
