/- Plain mathematics of voices and sounds. Conditions: none; no program in sight. -/
import Derived.Test.YtimccpmdgfneoaaBase
namespace Go.Mq
structure Vc where
  pd : Int
  ct : Int
  ld : Int
  hi : Bool
  nz : Int
def Vc.Ok (v : Vc) : Prop := U16 v.pd ∧ U16 v.ct ∧ U8 v.ld ∧ U16 v.nz
def xorV (n : Int) : Int := bits .xor .u16 (n / 2) 46080
def stepV (v : Vc) : Vc :=
  if v.nz = 0 then ⟨v.pd, v.pd, v.ld, !v.hi, 0⟩ else if v.nz % 2 = 1 then ⟨v.pd, v.pd, v.ld, true, xorV v.nz⟩ else ⟨v.pd, v.pd, v.ld, false, v.nz / 2⟩
def tickV (v : Vc) : Vc := if v.ct = 0 then stepV v else ⟨v.pd, v.ct - 1, v.ld, v.hi, v.nz⟩
def runV (v : Vc) : Nat → Vc
  | 0 => v
  | n + 1 => runV (tickV v) n

theorem xorV_nat (n : Int) (h : U16 n) : xorV n = (((n / 2).toNat ^^^ 46080 : Nat) : Int) := by
  unfold U16 at h
  unfold xorV
  rw [u16_xor _ _ (by omega) (by omega) (by omega) (by omega)]
  rfl
theorem xorV_in (n : Int) (h : U16 n) : U16 (xorV n) := by
  rw [xorV_nat n h]
  unfold U16 at h
  have := Nat.xor_lt_two_pow (n := 16) (x := (n / 2).toNat) (y := 46080) (by omega) (by omega)
  unfold U16
  omega
theorem xorV_ne (n : Int) (h : U16 n) : xorV n ≠ 0 := by
  rw [xorV_nat n h]
  unfold U16 at h
  intro h0
  have h1 : (n / 2).toNat ^^^ 46080 = 0 := by omega
  have h2 : (n / 2).toNat = 46080 := by
    have := congrArg (fun x => x ^^^ 46080) h1
    simpa [Nat.xor_assoc] using this
  omega
theorem stepV_ok (v : Vc) (h : v.Ok) : (stepV v).Ok := by
  obtain ⟨h1, h2, h3, h4⟩ := h
  unfold stepV Vc.Ok
  split
  · exact ⟨h1, h1, h3, by unfold U16; simp⟩
  · split
    · exact ⟨h1, h1, h3, xorV_in _ h4⟩
    · exact ⟨h1, h1, h3, by unfold U16 at *; simp only; omega⟩
theorem tickV_ok (v : Vc) (h : v.Ok) : (tickV v).Ok := by
  unfold tickV
  split
  · exact stepV_ok v h
  · obtain ⟨h1, h2, h3, h4⟩ := h
    exact ⟨h1, by unfold U16 at *; simp only; omega, h3, h4⟩
theorem runV_ok : ∀ (n : Nat) (v : Vc), v.Ok → (runV v n).Ok
  | 0, _, h => h
  | n + 1, v, h => runV_ok n _ (tickV_ok v h)
theorem runV_add (v : Vc) (n m : Nat) : runV v (n + m) = runV (runV v n) m := by
  induction n generalizing v with
  | zero => simp [runV]
  | succ n ih => rw [show n + 1 + m = (n + m) + 1 from by omega]; exact ih (tickV v)
theorem runV_last (v : Vc) (n : Nat) : runV v (n + 1) = tickV (runV v n) := by rw [runV_add]; rfl
theorem runV_le (v : Vc) (n : Nat) (h : (n : Int) ≤ v.ct) : runV v n = ⟨v.pd, v.ct - n, v.ld, v.hi, v.nz⟩ := by
  induction n with
  | zero => simp [runV]
  | succ n ih =>
    rw [runV_last, ih (by omega)]
    unfold tickV
    simp only
    rw [if_neg (by omega)]
    congr 1
    omega
theorem runV_over (v : Vc) (h : 0 ≤ v.ct) (m : Nat) : runV v (v.ct.toNat + 1 + m) = runV (stepV v) m := by
  rw [runV_add, runV_last, runV_le v _ (by omega)]
  congr 1
  unfold tickV
  simp only
  rw [if_pos (by omega)]
  unfold stepV
  rfl
theorem tickV_ld (v : Vc) : (tickV v).ld = v.ld := by
  unfold tickV stepV
  split
  · split
    · rfl
    · split <;> rfl
  · rfl
theorem runV_ld (v : Vc) (n : Nat) : (runV v n).ld = v.ld := by
  induction n with
  | zero => rfl
  | succ n ih => rw [runV_last, tickV_ld, ih]
theorem tickV_nz (v : Vc) (h : v.Ok) : (tickV v).nz = 0 ↔ v.nz = 0 := by
  unfold tickV stepV
  split
  · split
    · simp [*]
    · split
      · simp only
        constructor
        · intro h0; exact absurd h0 (xorV_ne _ h.2.2.2)
        · intro h0; omega
      · simp only; have := h.2.2.2; unfold U16 at this; omega
  · rfl
theorem runV_nz (v : Vc) (h : v.Ok) (n : Nat) : (runV v n).nz = 0 ↔ v.nz = 0 := by
  induction n with
  | zero => rfl
  | succ n ih => rw [runV_last, tickV_nz _ (runV_ok n v h), ih]

/-! ### A sound: three voices and what is waited -/
structure Sd where
  a : Vc
  b : Vc
  c : Vc
  wt : Int
def Sd.In (s : Sd) : Prop := s.a.Ok ∧ s.b.Ok ∧ s.c.Ok
def Sd.Ok (s : Sd) : Prop := s.In ∧ 0 ≤ s.wt ∧ s.wt ≤ 15
def levV (v : Vc) : Int := if v.hi then v.ld % 16 else 0
def levS (s : Sd) : Int := levV s.a + levV s.b + levV s.c
def tickS (s : Sd) : Sd := ⟨tickV s.a, tickV s.b, tickV s.c, if s.wt = 0 then 15 else s.wt - 1⟩
def runS (s : Sd) : Nat → Sd
  | 0 => s
  | n + 1 => runS (tickS s) n
def smp (s : Sd) : Nat → List Int
  | 0 => []
  | n + 1 => (if s.wt = 0 then [levS s] else []) ++ smp (tickS s) n
/-- all three go on for n clocks, the wait is told -/
def goS (s : Sd) (n : Nat) (wt : Int) : Sd := ⟨runV s.a n, runV s.b n, runV s.c n, wt⟩

theorem levV_in (v : Vc) : 0 ≤ levV v ∧ levV v ≤ 15 := by unfold levV; split <;> omega
theorem levS_in (s : Sd) : 0 ≤ levS s ∧ levS s ≤ 45 := by
  have := levV_in s.a
  have := levV_in s.b
  have := levV_in s.c
  unfold levS; omega
theorem runS_add (s : Sd) (n m : Nat) : runS s (n + m) = runS (runS s n) m := by
  induction n generalizing s with
  | zero => simp [runS]
  | succ n ih => rw [show n + 1 + m = (n + m) + 1 from by omega]; exact ih (tickS s)
theorem runS_last (s : Sd) (n : Nat) : runS s (n + 1) = tickS (runS s n) := by rw [runS_add]; rfl
theorem smp_add (s : Sd) (n m : Nat) : smp s (n + m) = smp s n ++ smp (runS s n) m := by
  induction n generalizing s with
  | zero => simp [smp, runS]
  | succ n ih => rw [show n + 1 + m = (n + m) + 1 from by omega]; simp only [smp, runS, ih, List.append_assoc]
theorem smp_last (s : Sd) (n : Nat) : smp s (n + 1) = smp s n ++ (if (runS s n).wt = 0 then [levS (runS s n)] else []) := by rw [smp_add]; simp [smp]
theorem tickS_ok (s : Sd) (h : s.Ok) : (tickS s).Ok := by
  obtain ⟨⟨h1, h2, h3⟩, h4, h5⟩ := h
  refine ⟨⟨tickV_ok _ h1, tickV_ok _ h2, tickV_ok _ h3⟩, ?_⟩
  unfold tickS
  simp only
  split <;> omega
theorem runS_ok (s : Sd) (h : s.Ok) (n : Nat) : (runS s n).Ok := by
  induction n with
  | zero => exact h
  | succ n ih => rw [runS_last]; exact tickS_ok _ ih
theorem runS_abc (s : Sd) (n : Nat) : (runS s n).a = runV s.a n ∧ (runS s n).b = runV s.b n ∧ (runS s n).c = runV s.c n := by
  induction n with
  | zero => exact ⟨rfl, rfl, rfl⟩
  | succ n ih =>
    rw [runS_last, runV_last, runV_last, runV_last, ← ih.1, ← ih.2.1, ← ih.2.2]
    exact ⟨rfl, rfl, rfl⟩
/-- while it waits nothing is heard -/
theorem runS_wait (s : Sd) (n : Nat) (h : (n : Int) ≤ s.wt) : runS s n = goS s n (s.wt - n) := by
  induction n with
  | zero => simp [runS, goS, runV]
  | succ n ih =>
    rw [runS_last, ih (by omega)]
    unfold tickS goS
    simp only [runV_last]
    rw [if_neg (by omega)]
    congr 1
    omega
theorem smp_wait (s : Sd) (n : Nat) (h : (n : Int) ≤ s.wt) : smp s n = [] := by
  induction n with
  | zero => rfl
  | succ n ih =>
    rw [smp_last, ih (by omega), runS_wait s n (by omega)]
    unfold goS
    simp only
    rw [if_neg (by omega)]
    rfl
/-- from a sample on: sixteen clocks -/
theorem runS_heard (s : Sd) (n : Nat) (h0 : s.wt = 0) (n1 : 1 ≤ n) (h : n ≤ 16) : runS s n = goS s n (16 - n) := by
  obtain ⟨m, rfl⟩ : ∃ m, n = m + 1 := ⟨n - 1, by omega⟩
  show runS (tickS s) m = _
  have hw : (tickS s).wt = 15 := by unfold tickS; simp [h0]
  rw [runS_wait _ _ (by omega)]
  unfold goS
  rw [hw]
  unfold tickS
  simp only [runV]
  congr 1
  omega
theorem smp_heard (s : Sd) (n : Nat) (h0 : s.wt = 0) (n1 : 1 ≤ n) (h : n ≤ 16) : smp s n = [levS s] := by
  obtain ⟨m, rfl⟩ : ∃ m, n = m + 1 := ⟨n - 1, by omega⟩
  have hw : (tickS s).wt = 15 := by unfold tickS; simp [h0]
  simp only [smp]
  rw [if_pos h0, smp_wait _ _ (by omega)]
  rfl
theorem smp_length (s : Sd) (h : s.Ok) (n : Nat) : ((smp s n).length : Int) = if s.wt < n then (n - s.wt - 1) / 16 + 1 else 0 := by
  induction n generalizing s with
  | zero => have := h.2; simp [smp]; omega
  | succ n ih =>
    simp only [smp, List.length_append]
    have hi := ih (tickS s) (tickS_ok s h)
    have hh := h.2
    unfold tickS at hi
    simp only at hi
    split
    · rename_i h0
      rw [if_pos h0] at hi
      simp only [List.length_singleton]
      rw [if_pos (by omega)]
      split at hi <;> (rw [show tickS s = ⟨tickV s.a, tickV s.b, tickV s.c, if s.wt = 0 then 15 else s.wt - 1⟩ from rfl, if_pos h0]; omega)
    · rename_i h0
      rw [if_neg h0] at hi
      simp only [List.length_nil]
      rw [show tickS s = ⟨tickV s.a, tickV s.b, tickV s.c, if s.wt = 0 then 15 else s.wt - 1⟩ from rfl, if_neg h0]
      split at hi <;> split <;> omega
theorem smp_le (s : Sd) (h : s.Ok) (n : Nat) : (smp s n).length ≤ n := by
  have hl := smp_length s h n
  have := h.2
  split at hl <;> omega
theorem smp_in (s : Sd) (n : Nat) : ∀ x ∈ smp s n, 0 ≤ x ∧ x ≤ 45 := by
  induction n generalizing s with
  | zero => simp [smp]
  | succ n ih =>
    intro x hx
    simp only [smp, List.mem_append] at hx
    rcases hx with h | h
    · split at h
      · simp at h; subst h; exact levS_in s
      · simp at h
    · exact ih _ x h
theorem goS_ok (s : Sd) (h : s.Ok) (n : Nat) (wt : Int) (h0 : 0 ≤ wt) (h1 : wt ≤ 15) : (goS s n wt).Ok := ⟨⟨runV_ok n _ h.1.1, runV_ok n _ h.1.2.1, runV_ok n _ h.1.2.2⟩, h0, h1⟩
theorem heard_step (u : Sd) (hu : u.Ok) (m k : Nat) (h0 : u.wt = 0) (k1 : 1 ≤ k) (k16 : k ≤ 16) (hkm : k ≤ m) :
    (goS u k (16 - k)).Ok ∧ levS u :: smp (goS u k (16 - k)) (m - k) = smp u m ∧ runS (goS u k (16 - k)) (m - k) = runS u m := by
  refine ⟨goS_ok u hu k _ (by omega) (by omega), ?_, ?_⟩
  · have := smp_add u k (m - k)
    rw [show k + (m - k) = m from by omega, smp_heard u k h0 k1 k16, runS_heard u k h0 k1 k16] at this
    exact this.symm
  · have := runS_add u k (m - k)
    rw [show k + (m - k) = m from by omega, runS_heard u k h0 k1 k16] at this
    exact this.symm
theorem wait_step (u : Sd) (hu : u.Ok) (m k : Nat) (hk : (k : Int) ≤ u.wt) (hkm : k ≤ m) :
    (goS u k (u.wt - k)).Ok ∧ smp (goS u k (u.wt - k)) (m - k) = smp u m ∧ runS (goS u k (u.wt - k)) (m - k) = runS u m := by
  refine ⟨goS_ok u hu k _ (by omega) (by have := hu.2; omega), ?_, ?_⟩
  · have := smp_add u k (m - k)
    rw [show k + (m - k) = m from by omega, smp_wait u k hk, runS_wait u k hk] at this
    exact this.symm
  · have := runS_add u k (m - k)
    rw [show k + (m - k) = m from by omega, runS_wait u k hk] at this
    exact this.symm
/-- voices without loudness are silence -/
theorem smp_silent (s : Sd) (h : s.a.ld % 16 = 0 ∧ s.b.ld % 16 = 0 ∧ s.c.ld % 16 = 0) (n : Nat) : ∀ x ∈ smp s n, x = 0 := by
  induction n generalizing s with
  | zero => simp [smp]
  | succ n ih =>
    intro x hx
    simp only [smp, List.mem_append] at hx
    rcases hx with h' | h'
    · split at h'
      · simp at h'; subst h'; unfold levS levV; simp [h.1, h.2.1, h.2.2]
      · simp at h'
    · exact ih (tickS s) (by unfold tickS; simp only [tickV_ld]; exact h) x h'
end Go.Mq
