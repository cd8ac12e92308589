/- A processor does one order that it reads. Conditions: the bus is one, the fields are words. -/
import Derived.Test.YteihggfcafoogaaCpuDo
namespace Go.Proofs.Yteihggfcafoogaa
open Go.RowKit Go.Mq
set_option linter.unusedVariables false
set_option linter.unusedSimpArgs false
set_option maxHeartbeats 4000000
set_option maxRecDepth 100000

def finC {σ : Type} (b : Bus σ) (m1 : σ) (c1 : Cp) (op : Int) (D S : Nat) (n v : Int) : Cp := if isSum op then sumC c1 op D S n else if isMov op then movC b m1 c1 op D S n v else goC b m1 c1 op v
def finS {σ : Type} (b : Bus σ) (m1 : σ) (c1 : Cp) (op : Int) (D S : Nat) (n : Int) : σ := if isSum op then m1 else if isMov op then movS b m1 c1 op D S n else goS b m1 c1 op
def finN (c1 : Cp) (op : Int) : Int := if isSum op then cycO op else if isMov op then cycO op else goY c1 op (cycO op)
theorem movC_no {σ : Type} {b : Bus σ} {m : σ} {c : Cp} {op : Int} {D S : Nat} {n v : Int} (h : isMov op = false) : movC b m c op D S n v = c ∧ movS b m c op D S n = m := by
  simp only [isMov, Bool.or_eq_false_iff, beq_eq_false_iff_ne] at h
  obtain ⟨⟨⟨⟨⟨⟨⟨h1, h2⟩, h3⟩, h4⟩, h5⟩, h6⟩, h7⟩, h8⟩ := h
  unfold movC movS
  rw [if_neg h1, if_neg h2, if_neg h3, if_neg h5, if_neg h7, if_neg h8, if_neg h3, if_neg h4, if_neg h5, if_neg h6, if_neg h7, if_neg h8]
  exact ⟨rfl, rfl⟩
theorem go_in {c : Cp} (h : c.In) {p : Int} (hp : U16 p) : (c.go p).In := ⟨h.1, hp⟩
theorem cyc_b (op : Int) (h0 : 0 ≤ op) (h1 : op < 32) : 0 ≤ cycO op ∧ cycO op ≤ 100 := by
  obtain ⟨k, rfl⟩ := Int.eq_ofNat_of_zero_le h0
  have hk : k < 32 := by omega
  have : ∀ k : Nat, k < 32 → 0 ≤ cycO (k : Int) ∧ cycO (k : Int) ≤ 100 := by decide
  exact this k hk
theorem do_0_1 {fg fp : FuncId} {cg cp : Value} {σ : Type} {b : Bus σ} {Rel : World → σ → Prop} {B : Nat} (hb : BusOk Try.prog fg fp cg cp b Rel B) (m : σ) (c : Cp) (hi : c.In) (w : World) (hr : Rel w m) (hB : B ≤ w.heap.size)  (hwt : c.wt = false) (op : Int) (D S : Nat) (n : Int)
    (eO : readO (wV b m c.pc) 0 = ⟨op, D, S, n, 0⟩) (eL : readL (wV b m c.pc) = 1) (hD : D < 8) (hS8 : S < 8) (hn : -16 ≤ n ∧ n ≤ 15) (hsh : op = 12 ∨ op = 13 → 0 ≤ n) (h0 : 0 ≤ op) (h1 : op < 32) (h30 : op ≠ 30) :
    Calls Try.prog 17 #[.agg (cpuC c), .agg #[.func (.func fg) #[] #[cg], .func (.func fp) #[] #[cp]], .bool false] w fun e w' => e = .returned (.tuple #[.agg (cpuC (finC b (wS b m c.pc) (c.go ((c.pc + 2) % 65536)) op D S n 0)), .int .i64 (finN (c.go ((c.pc + 2) % 65536)) op)]) ∧ Rel w' (finS b (wS b m c.pc) (c.go ((c.pc + 2) % 65536)) op D S n) ∧ Kp B NoX w w' := by
  have HR := Lib.hid (fun w' (h : Below B w w') => hb.stable w w' m hr h)
  have ha : U16 (wV b m c.pc) := wV_u hb m c.pc
  have W1 := Lib.hid (fun w' => word_any hb m c.pc hi.2 w')
  have rd := read_any (wV b m c.pc) 0 ha (by unfold U16; omega)
  rw [eO, eL] at rd
  have RD := Lib.hid rd
  have CY := Lib.hid (cycles_any op h0 h1 h30)
  have hcy := cyc_b op h0 h1
  have hp2 : IntKind.u16.wrap (c.pc + 2) = (c.pc + 2) % 65536 := wrap16 _
  have hp4 : IntKind.u16.wrap (c.pc + 4) = (c.pc + 4) % 65536 := wrap16 _
  have hpu : U16 ((c.pc + 2) % 65536) := by unfold U16; omega
  have hi1 : (c.go ((c.pc + 2) % 65536)).In := go_in hi hpu
  have hvu : U16 0 := by unfold U16; omega
  have hc0 : ∀ W, Blk W w.heap.size #[.int .u16 (c.r 0), .int .u16 (c.r 1), .int .u16 (c.r 2), .int .u16 (c.r 3), .int .u16 (c.r 4), .int .u16 (c.r 5), .int .u16 (c.r 6), .int .u16 (c.r 7), .int .u16 c.pc, .bool c.z, .bool c.n, .bool c.c, .bool c.v, .bool c.may, .bool false] 28 → Blk W w.heap.size (cpuC c) 28 := fun W h => by unfold cpuC; rw [hwt]; exact h
  obtain ⟨cy, ecy⟩ : ∃ cy, cy = cycO op := ⟨_, rfl⟩
  rw [← ecy] at CY hcy
  replace ecy := Lib.hid ecy
  obtain ⟨a, ea⟩ : ∃ a, a = wV b m c.pc := ⟨_, rfl⟩
  rw [← ea] at W1 RD
  obtain ⟨m1, em⟩ : ∃ m1, m1 = (wS b m c.pc) := ⟨_, rfl⟩
  obtain ⟨c1, ec⟩ : ∃ c1, c1 = (c.go ((c.pc + 2) % 65536)) := ⟨_, rfl⟩
  rw [← em, ← ec]
  rw [← ec] at hi1
  rw [← em] at W1
  replace em := Lib.hid em
  have hcc : cpuC (c.go ((c.pc + 2) % 65536)) = cpuC c1 := by rw [ec]
  replace ec := Lib.hid ec
  have HCC := Lib.hid hcc
  clear ha rd eO eL ea hcc hr
  rw [show (#[.agg (cpuC c), .agg #[.func (.func fg) #[] #[cg], .func (.func fp) #[] #[cp]], .bool false] : Array Value) = #[.agg #[.int .u16 (c.r 0), .int .u16 (c.r 1), .int .u16 (c.r 2), .int .u16 (c.r 3), .int .u16 (c.r 4), .int .u16 (c.r 5), .int .u16 (c.r 6), .int .u16 (c.r 7), .int .u16 c.pc, .bool c.z, .bool c.n, .bool c.c, .bool c.v, .bool c.may, .bool false], .agg #[.func (.func fg) #[] #[cg], .func (.func fp) #[] #[cp]], .bool false] from by unfold cpuC; rw [hwt]]
  have hd1 : 0 ≤ wordsN op ∧ wordsN op ≤ 2 := by unfold wordsN; split <;> omega
  generalize wordsN op = wn at *
  go_enter Try.func17, Try.ntmps17
  go_wp2_with (first | ((with_reducible show wpList _ _ _ _ _ _); refine wpList_loadW rfl 52 (.tmp 4) rfl (w.heap.size + 1) rfl 52 #[.func (.func fg) #[] #[cg], .func (.func fp) #[] #[cp]] (show Blk _ (w.heap.size + 1) #[.func (.func fg) #[] #[cg], .func (.func fp) #[] #[cp]] 52 from (by repeat' (first | (with_reducible first | exact Hid.out (by assumption) | exact Blk.new _ _ _ | (refine Blk.new_at _ _ _ _ ?_; simp; done) | refine Blk.alloc ?_ _ | refine Blk.drewN ?_ _ | refine Blk.drew ?_ | apply Blk.set | refine Blk.put ?_ (by assumption) (by first | (simp; done) | (simp; omega) | omega) | refine Blk.below ?_ (by assumption)) | (refine Blk.setAt ?_ (by first | (simp; done) | (simp; omega))) | rfl))) _ Try.underlying52 rfl (by kernel_rfl) ?_))
  refine (W1.out _ (HR.out _ (by repeat' (first | (with_reducible first | exact Below.refl _ _ | assumption | refine Below.alloc ?_ ?_ _ | refine Below.drew ?_ | refine below_drewN ?_ _ | refine Below.setCell ?_ ?_ _) | (simp; done) | omega | (simp; omega)))) (by first | omega | (simp; omega))).mono ?_
  rintro e w1 ⟨rfl, hr1, k1⟩
  have Kc1 := Lib.hid ((hc0 _ (by repeat' (first | (with_reducible first | exact Hid.out (by assumption) | exact Blk.new _ _ _ | (refine Blk.new_at _ _ _ _ ?_; simp; done) | refine Blk.alloc ?_ _ | refine Blk.drewN ?_ _ | refine Blk.drew ?_ | apply Blk.set | refine Blk.put ?_ (by assumption) (by first | (simp; done) | (simp; omega) | omega) | refine Blk.below ?_ (by assumption)) | (refine Blk.setAt ?_ (by first | (simp; done) | (simp; omega))) | rfl))).kp k1 hB id)
  have Kb1 := Lib.hid ((show Blk _ (w.heap.size + 1) #[.func (.func fg) #[] #[cg], .func (.func fp) #[] #[cp]] 52 from (by repeat' (first | (with_reducible first | exact Hid.out (by assumption) | exact Blk.new _ _ _ | (refine Blk.new_at _ _ _ _ ?_; simp; done) | refine Blk.alloc ?_ _ | refine Blk.drewN ?_ _ | refine Blk.drew ?_ | apply Blk.set | refine Blk.put ?_ (by assumption) (by first | (simp; done) | (simp; omega) | omega) | refine Blk.below ?_ (by assumption)) | (refine Blk.setAt ?_ (by first | (simp; done) | (simp; omega))) | rfl))).kp k1 (by omega) id)
  have Kr1 := Lib.hid ((show Blk _ (w.heap.size + 1 + 1) #[.int .u16 0, .int .u16 0, .int .u16 0, .int .u16 0, .int .u16 0, .int .u16 0, .int .u16 0, .int .u16 0, .int .u16 0, .bool false, .bool false, .bool false, .bool false, .bool false, .bool false] 28 from (by repeat' (first | (with_reducible first | exact Hid.out (by assumption) | exact Blk.new _ _ _ | (refine Blk.new_at _ _ _ _ ?_; simp; done) | refine Blk.alloc ?_ _ | refine Blk.drewN ?_ _ | refine Blk.drew ?_ | apply Blk.set | refine Blk.put ?_ (by assumption) (by first | (simp; done) | (simp; omega) | omega) | refine Blk.below ?_ (by assumption)) | (refine Blk.setAt ?_ (by first | (simp; done) | (simp; omega))) | rfl))).kp k1 (by omega) id)
  have K1 : Kp B NoX w w1 := Kp.then (by repeat' (first | (with_reducible first | exact Kp.refl _ _ _ | assumption | refine Kp.alloc ?_ _ | refine Kp.drew ?_ | refine Kp.drewN ?_ _ | refine Kp.setCell ?_ ?_) | (right; rfl) | (left; simp; done) | (left; omega) | (left; simp; omega))) k1 (fun _ _ h => h)
  have hs1 := k1.size
  have hq1 : w.heap.size + 3 ≤ w1.heap.size := by simpa using hs1
  go_wp2_with (first | ((with_reducible show wpList _ _ _ _ _ _); refine wpList_loadW rfl 52 (.tmp 4) rfl (w.heap.size + 1) rfl 52 #[.func (.func fg) #[] #[cg], .func (.func fp) #[] #[cp]] (show Blk _ (w.heap.size + 1) #[.func (.func fg) #[] #[cg], .func (.func fp) #[] #[cp]] 52 from (by repeat' (first | (with_reducible first | exact Hid.out (by assumption) | exact Blk.new _ _ _ | (refine Blk.new_at _ _ _ _ ?_; simp; done) | refine Blk.alloc ?_ _ | refine Blk.drewN ?_ _ | refine Blk.drew ?_ | apply Blk.set | refine Blk.put ?_ (by assumption) (by first | (simp; done) | (simp; omega) | omega) | refine Blk.below ?_ (by assumption)) | (refine Blk.setAt ?_ (by first | (simp; done) | (simp; omega))) | rfl))) _ Try.underlying52 rfl (by kernel_rfl) ?_))
  refine (RD.out _).mono ?_
  rintro e w2 ⟨rfl, hb2⟩
  have hs2 := hb2.size
  have Kc2 := Lib.hid (Kc1.out.below hb2)
  have Kb2 := Lib.hid (Kb1.out.below hb2)
  have Kr2 := Lib.hid (Kr1.out.below hb2)
  have K2 := K1.below hb2 K1.size
  have hr2 := hb.below hr1 hb2 (by omega)
  obtain ⟨lc, cc, fc⟩ := Kc2.out.use
  have c8 : w2.cell? ⟨w.heap.size, 8, none⟩ = some (.int .u16 c.pc) := Kc2.out.cell 8
  obtain ⟨lb, cb', fb⟩ := Kb2.out.use
  clear cc
  go_wp2_with (first | ((with_reducible show wpList _ _ _ _ _ _); refine wpList_loadW rfl 52 (.tmp 4) rfl (w.heap.size + 1) rfl 52 #[.func (.func fg) #[] #[cg], .func (.func fp) #[] #[cp]] (show Blk _ (w.heap.size + 1) #[.func (.func fg) #[] #[cg], .func (.func fp) #[] #[cp]] 52 from (by repeat' (first | (with_reducible first | exact Hid.out (by assumption) | exact Blk.new _ _ _ | (refine Blk.new_at _ _ _ _ ?_; simp; done) | refine Blk.alloc ?_ _ | refine Blk.drewN ?_ _ | refine Blk.drew ?_ | apply Blk.set | refine Blk.put ?_ (by assumption) (by first | (simp; done) | (simp; omega) | omega) | refine Blk.below ?_ (by assumption)) | (refine Blk.setAt ?_ (by first | (simp; done) | (simp; omega))) | rfl))) _ Try.underlying52 rfl (by kernel_rfl) ?_))
  refine (CY.out _).mono ?_
  rintro e w5 ⟨rfl, hb5⟩
  have Kc5 := Lib.hid ((show Blk _ w.heap.size (cpuC (c.go ((c.pc + 2) % 65536))) 28 from (by repeat' (first | (with_reducible first | exact Hid.out (by assumption) | exact Blk.new _ _ _ | (refine Blk.new_at _ _ _ _ ?_; simp; done) | refine Blk.alloc ?_ _ | refine Blk.drewN ?_ _ | refine Blk.drew ?_ | apply Blk.set | refine Blk.put ?_ (by assumption) (by first | (simp; done) | (simp; omega) | omega) | refine Blk.below ?_ (by assumption)) | (refine Blk.setAt ?_ (by first | (simp; done) | (simp; omega))) | rfl))).below hb5)
  rw [HCC.out] at Kc5
  have Kb5 := Lib.hid ((show Blk _ (w.heap.size + 1) #[.func (.func fg) #[] #[cg], .func (.func fp) #[] #[cp]] 52 from (by repeat' (first | (with_reducible first | exact Hid.out (by assumption) | exact Blk.new _ _ _ | (refine Blk.new_at _ _ _ _ ?_; simp; done) | refine Blk.alloc ?_ _ | refine Blk.drewN ?_ _ | refine Blk.drew ?_ | apply Blk.set | refine Blk.put ?_ (by assumption) (by first | (simp; done) | (simp; omega) | omega) | refine Blk.below ?_ (by assumption)) | (refine Blk.setAt ?_ (by first | (simp; done) | (simp; omega))) | rfl))).below hb5)
  have Kr5 := Lib.hid ((show Blk _ (w.heap.size + 1 + 1) #[.int .u16 0, .int .u16 0, .int .u16 0, .int .u16 0, .int .u16 0, .int .u16 0, .int .u16 0, .int .u16 0, .int .u16 0, .bool false, .bool false, .bool false, .bool false, .bool false, .bool false] 28 from (by repeat' (first | (with_reducible first | exact Hid.out (by assumption) | exact Blk.new _ _ _ | (refine Blk.new_at _ _ _ _ ?_; simp; done) | refine Blk.alloc ?_ _ | refine Blk.drewN ?_ _ | refine Blk.drew ?_ | apply Blk.set | refine Blk.put ?_ (by assumption) (by first | (simp; done) | (simp; omega) | omega) | refine Blk.below ?_ (by assumption)) | (refine Blk.setAt ?_ (by first | (simp; done) | (simp; omega))) | rfl))).below hb5)
  have Ko5 := Lib.hid ((show Blk _ w2.heap.size #[.int .i64 op, .int .i64 D, .int .i64 S, .int .i64 n, .int .i64 0] 43 from (by repeat' (first | (with_reducible first | exact Hid.out (by assumption) | exact Blk.new _ _ _ | (refine Blk.new_at _ _ _ _ ?_; simp; done) | refine Blk.alloc ?_ _ | refine Blk.drewN ?_ _ | refine Blk.drew ?_ | apply Blk.set | refine Blk.put ?_ (by assumption) (by first | (simp; done) | (simp; omega) | omega) | refine Blk.below ?_ (by assumption)) | (refine Blk.setAt ?_ (by first | (simp; done) | (simp; omega))) | rfl))).below hb5)
  have K5 : Kp B NoX w w5 := Kp.below (by repeat' (first | (with_reducible first | assumption | refine Kp.alloc ?_ _ | refine Kp.drew ?_ | refine Kp.drewN ?_ _ | refine Kp.setCell ?_ ?_) | (left; simp; done) | (left; omega) | (left; simp; omega))) hb5 (by first | omega | (simp; omega))
  have hr5 : Rel w5 m1 := hb.stable _ _ _ (hb.stable _ _ _ hr2 (by repeat' (first | (with_reducible first | exact Below.refl _ _ | assumption | refine Below.alloc ?_ ?_ _ | refine Below.drew ?_ | refine below_drewN ?_ _ | refine Below.setCell ?_ ?_ _) | (simp; done) | omega | (simp; omega)))) (hb5.mono (by first | omega | (simp; omega)))
  have hs5 := hb5.size
  have hq5 : w2.heap.size + 1 ≤ w5.heap.size := by simpa using hs5
  clear lc c8 fc lb cb' fb 
  obtain ⟨c0, c0', fc, lc, c8, c9, c10, c11, c12, c13, c14⟩ := Kc5.out.cp (D := 0) (S := 0) (by omega) (by omega)
  clear c0 c0'
  obtain ⟨lb, cb', fb⟩ := Kb5.out.use
  obtain ⟨lo, co, fo⟩ := Ko5.out.use
  have hN : finN c1 op = (if isSum op then cy else if isMov op then cy else goY c1 op cy) := by unfold finN; rw [← ecy.out]
  replace hN := Lib.hid hN
  have SM := Lib.hid (fun db hB2 hne w' => sums_any c1 op D S n 0 cy (.func (.func fg) #[] #[cg]) (.func (.func fp) #[] #[cp]) hD hS8 hn hsh w.heap.size db B hB hB2 hne w')
  go_wp2_with (first | ((with_reducible show wpList _ _ _ _ _ _); refine wpList_loadW rfl 52 (.tmp 4) rfl (w.heap.size + 1) rfl 52 #[.func (.func fg) #[] #[cg], .func (.func fp) #[] #[cp]] (show Blk _ (w.heap.size + 1) #[.func (.func fg) #[] #[cg], .func (.func fp) #[] #[cp]] 52 from (by repeat' (first | (with_reducible first | exact Hid.out (by assumption) | exact Blk.new _ _ _ | (refine Blk.new_at _ _ _ _ ?_; simp; done) | refine Blk.alloc ?_ _ | refine Blk.drewN ?_ _ | refine Blk.drew ?_ | apply Blk.set | refine Blk.put ?_ (by assumption) (by first | (simp; done) | (simp; omega) | omega) | refine Blk.below ?_ (by assumption)) | (refine Blk.setAt ?_ (by first | (simp; done) | (simp; omega))) | rfl))) _ Try.underlying52 rfl (by kernel_rfl) ?_) | ((with_reducible show wpList _ _ _ _ _ _); refine wpList_loadW rfl 43 (.tmp 8) rfl (w2.heap.size) rfl 43 #[.int .i64 op, .int .i64 D, .int .i64 S, .int .i64 n, .int .i64 0] (show Blk _ (w2.heap.size) #[.int .i64 op, .int .i64 D, .int .i64 S, .int .i64 n, .int .i64 0] 43 from (by repeat' (first | (with_reducible first | exact Hid.out (by assumption) | exact Blk.new _ _ _ | (refine Blk.new_at _ _ _ _ ?_; simp; done) | refine Blk.alloc ?_ _ | refine Blk.drewN ?_ _ | refine Blk.drew ?_ | apply Blk.set | refine Blk.put ?_ (by assumption) (by first | (simp; done) | (simp; omega) | omega) | refine Blk.below ?_ (by assumption)) | (refine Blk.setAt ?_ (by first | (simp; done) | (simp; omega))) | rfl))) _ Try.underlying43 rfl (by kernel_rfl) ?_))
  have hd5 : Blk (w5.alloc (.cells (doC w.heap.size (.func (.func fg) #[] #[cg]) (.func (.func fp) #[] #[cp]) op D S n 0 cy) 69)) w5.heap.size (doC w.heap.size (.func (.func fg) #[] #[cg]) (.func (.func fp) #[] #[cp]) op D S n 0 cy) 69 := Blk.new _ _ _
  cases hsum : isSum op
  · refine (SM.out w5.heap.size (by omega) (by omega) _ (Kc5.out.alloc _) hd5 hi1).mono ?_
    rw [hsum, sumR_no hsum]
    rintro e w6 ⟨rfl, hc6, k6, b6⟩
    have Kr6 := Lib.hid ((Kr5.out.alloc _).kp k6 (by omega) (by show ¬ (_ = _); omega))
    have Kd6 := Lib.hid (hd5.kp k6 (by omega) (by show ¬ (_ = _); omega))
    have K6 := (K5.alloc _).then k6 (fun i h1 h2 => absurd h2 (Nat.ne_of_lt h1))
    have hr6 := hb.stable _ _ _ (hb.stable _ _ _ hr5 (by repeat' (first | (with_reducible first | exact Below.refl _ _ | assumption | refine Below.alloc ?_ ?_ _ | refine Below.drew ?_ | refine below_drewN ?_ _ | refine Below.setCell ?_ ?_ _) | (simp; done) | omega | (simp; omega)))) (b6.mono hB)
    have hs6 := k6.size
    have hq6 : w5.heap.size + 1 ≤ w6.heap.size := by simpa using hs6
    have Kc6 := Lib.hid hc6
    clear hc6 hd5
    have MV := Lib.hid (moves_any hb m1 c1 op D S n 0 cy hD hS8 hn hvu w.heap.size w5.heap.size hB (by omega) (by omega) w6 hr6 Kc6.out Kd6.out hi1)
    replace hsum := Lib.hid hsum
    go_wp2_with fail
    refine MV.out.mono ?_
    cases hmov : isMov op
    · rw [(movC_no hmov).1, (movC_no (v := 0) hmov).2]
      rintro e w7 ⟨rfl, hc7, hr7, k7⟩
      have Kr7 := Lib.hid (Kr6.out.kp k7 (by omega) (by show ¬ (_ = _); omega))
      have Kd7 := Lib.hid (Kd6.out.kp k7 (by omega) (by show ¬ (_ = _); omega))
      have K7 := K6.then k7 (fun i h1 h2 => absurd h2 (Nat.ne_of_lt h1))
      have hs7 := k7.size
      have Kc7 := Lib.hid hc7
      clear hc7
      have GO := Lib.hid (goes_any hb m1 c1 op D S n 0 cy hvu hcy w.heap.size w5.heap.size hB (by omega) (by omega) w7 hr7 Kc7.out Kd7.out hi1)
      replace hmov := Lib.hid hmov
      go_wp2_with fail
      refine GO.out.mono ?_
      rintro e w8 ⟨rfl, hcF, hdF, hr8, k8⟩
      have KrF := Lib.hid (Kr7.out.kp k8 (by omega) (by show ¬ (_ ∨ _); omega))
      have KF := K7.then k8 (fun i h1 h2 => h2.elim (fun h => absurd h (Nat.ne_of_lt h1)) (fun h => absurd h (by omega)))
      have hs8 := k8.size
      have Kx := Lib.hid hcF
      have Kdx := Lib.hid hdF
      clear hcF hdF
      have e8 : (doC w.heap.size (.func (.func fg) #[] #[cg]) (.func (.func fp) #[] #[cp]) op D S n 0 (goY c1 op cy))[8]? = some (.int .i64 (goY c1 op cy)) := rfl
      have hsx := KF.size
      clear fc lc c8 c9 c10 c11 c12 c13 c14 lb cb' fb lo co fo
      go_wp2_with fail
      refine wp_region_held_drew (S := fun W => Blk W (w.heap.size) ((cpuC (goC b m1 c1 op 0))) 28 ∧ Blk W (w5.heap.size) ((doC w.heap.size (.func (.func fg) #[] #[cg]) (.func (.func fp) #[] #[cp]) op D S n 0 (goY c1 op cy))) 69) (by kernel_rfl) ⟨Blk.drew (show Blk _ (w.heap.size) ((cpuC (goC b m1 c1 op 0))) 28 from (by repeat' (first | (with_reducible first | exact Hid.out (by assumption) | exact Blk.new _ _ _ | (refine Blk.new_at _ _ _ _ ?_; simp; done) | refine Blk.alloc ?_ _ | refine Blk.drewN ?_ _ | refine Blk.drew ?_ | apply Blk.set | refine Blk.put ?_ (by assumption) (by first | (simp; done) | (simp; omega) | omega) | refine Blk.below ?_ (by assumption)) | (refine Blk.setAt ?_ (by first | (simp; done) | (simp; omega))) | rfl))), Blk.drew (show Blk _ (w5.heap.size) ((doC w.heap.size (.func (.func fg) #[] #[cg]) (.func (.func fp) #[] #[cp]) op D S n 0 (goY c1 op cy))) 69 from (by repeat' (first | (with_reducible first | exact Hid.out (by assumption) | exact Blk.new _ _ _ | (refine Blk.new_at _ _ _ _ ?_; simp; done) | refine Blk.alloc ?_ _ | refine Blk.drewN ?_ _ | refine Blk.drew ?_ | apply Blk.set | refine Blk.put ?_ (by assumption) (by first | (simp; done) | (simp; omega) | omega) | refine Blk.below ?_ (by assumption)) | (refine Blk.setAt ?_ (by first | (simp; done) | (simp; omega))) | rfl)))⟩ (fun hS => ?_)
      refine wpAnyH_take (i := 0) rfl (by kernel_rfl) (by kernel_rfl) (by kernel_rfl) (fun _ _ _ h => h) (yields_loadA (by rfl) 28 (.tmp 3) rfl (w.heap.size) 0 15 rfl 28 (cpuC (goC b m1 c1 op 0)) (cpuC (goC b m1 c1 op 0)) (fun W hSw => hSw.1) _ Try.underlying28 rfl (by kernel_rfl) rfl rfl) hS ?_
      try simp only [List.getElem_toArray, List.getElem_cons_succ, List.getElem_cons_zero, Act.put, List.setIfInBounds_toArray, List.set_cons_zero, List.set_cons_succ]
      refine wpAnyH_take (i := 1) (v := ?v1_1) rfl (by kernel_rfl) (by kernel_rfl) (by kernel_rfl) (fun _ _ _ h => h) (Or.inl ⟨by rfl, ?y1_1⟩) hS ?_
      case y1_1 => (intro w hSw; go_simp; try with_reducible rfl)
      try simp only [List.getElem_toArray, List.getElem_cons_succ, List.getElem_cons_zero, Act.put, List.setIfInBounds_toArray, List.set_cons_zero, List.set_cons_succ]
      refine wpAnyH_take (i := 2) (v := ?v2_1) rfl (by kernel_rfl) (by kernel_rfl) (by kernel_rfl) (fun _ _ _ h => h) (Or.inl ⟨by rfl, ?y2_1⟩) hS ?_
      case y2_1 => (intro w hSw; have c0 := (hSw.1).cell; have c1 := (hSw.2).cell; go_simp; try with_reducible rfl)
      try simp only [List.getElem_toArray, List.getElem_cons_succ, List.getElem_cons_zero, Act.put, List.setIfInBounds_toArray, List.set_cons_zero, List.set_cons_succ]
      refine wpAnyH_ready (rs := [3]) (by kernel_rfl) (by simp) (AllReadyH.cons rfl (fun K hK => ?_) AllReadyH.nil)
      rw [if_pos (by rfl)]
      refine wp_store_row 28 (.tmp 6) (.tmp 67) rfl (w.heap.size + 1 + 1) (cpuC (goC b m1 c1 op 0)) rfl rfl 28 #[.int .u16 0, .int .u16 0, .int .u16 0, .int .u16 0, .int .u16 0, .int .u16 0, .int .u16 0, .int .u16 0, .int .u16 0, .bool false, .bool false, .bool false, .bool false, .bool false, .bool false] KrF.out.drew (by kernel_rfl) rfl (by simp [cpuC, Value.oneCell']) ?_
      have hres := Lib.hid (setRow_heap _ (w.heap.size + 1 + 1) _ (cpuC (goC b m1 c1 op 0)) 28 (0, 0) KrF.out.drew)
      refine hK.out _ _ ⟨Blk.put hS.1 (put_setRow _ _ _) (by omega), Blk.put hS.2 (put_setRow _ _ _) (by omega)⟩ (fun hS => ?_)
      clear hK K
      try simp only [List.getElem_toArray, List.getElem_cons_succ, List.getElem_cons_zero, Act.put, List.setIfInBounds_toArray, List.set_cons_zero, List.set_cons_succ]
      refine wpAnyH_take (i := 4) (v := ?v4) rfl (by kernel_rfl) (by kernel_rfl) (by kernel_rfl) (fun _ _ _ h => h) (Or.inl ⟨by rfl, ?y4⟩) hS ?_
      case y4 => (intro w hSw; go_simp; try with_reducible rfl)
      try simp only [List.getElem_toArray, List.getElem_cons_succ, List.getElem_cons_zero, Act.put, List.setIfInBounds_toArray, List.set_cons_zero, List.set_cons_succ]
      refine wpAnyH_done (by kernel_rfl) ?_ _
      go_wp2_with fail
      rw [show finC b m1 c1 op D S n 0 = goC b m1 c1 op 0 from by unfold finC; rw [hsum.out, hmov.out]; rfl, show finS b m1 c1 op D S n = goS b m1 c1 op from by unfold finS; rw [hsum.out, hmov.out]; rfl, show finN c1 op = goY c1 op cy from by rw [hN.out, hsum.out, hmov.out]; rfl]
      exact bodyPost_ret (results_ct Try.results17 _ _ (w.heap.size + 1 + 1) 28 (cpuC (goC b m1 c1 op 0)) _ rfl hres.out Try.underlying28 rfl (by kernel_rfl)) rfl ⟨rfl, hb.stable _ _ _ hr8 (below_put (Below.refl B _).drew (put_setRow _ _ _) (by omega)), KF.drew.put (put_setRow _ _ _) (Or.inl (by omega))⟩
    · rintro e w7 ⟨rfl, hcF, hr7, k7⟩
      have KrF := Lib.hid (Kr6.out.kp k7 (by omega) (by show ¬ (_ = _); omega))
      have hdF := Kd6.out.kp k7 (by omega) (by show ¬ (_ = _); omega)
      have KF := K6.then k7 (fun i h1 h2 => absurd h2 (Nat.ne_of_lt h1))
      have hs7 := k7.size
      have hmovH := Lib.hid hmov
      have Kx := Lib.hid hcF
      have Kdx := Lib.hid hdF
      clear hcF hdF
      have e8 : (doC w.heap.size (.func (.func fg) #[] #[cg]) (.func (.func fp) #[] #[cp]) op D S n 0 cy)[8]? = some (.int .i64 cy) := rfl
      have hsx := KF.size
      clear fc lc c8 c9 c10 c11 c12 c13 c14 lb cb' fb lo co fo
      go_wp2_with fail
      refine wp_region_held_drew (S := fun W => Blk W (w.heap.size) ((cpuC (movC b m1 c1 op D S n 0))) 28 ∧ Blk W (w5.heap.size) ((doC w.heap.size (.func (.func fg) #[] #[cg]) (.func (.func fp) #[] #[cp]) op D S n 0 cy)) 69) (by kernel_rfl) ⟨Blk.drew (show Blk _ (w.heap.size) ((cpuC (movC b m1 c1 op D S n 0))) 28 from (by repeat' (first | (with_reducible first | exact Hid.out (by assumption) | exact Blk.new _ _ _ | (refine Blk.new_at _ _ _ _ ?_; simp; done) | refine Blk.alloc ?_ _ | refine Blk.drewN ?_ _ | refine Blk.drew ?_ | apply Blk.set | refine Blk.put ?_ (by assumption) (by first | (simp; done) | (simp; omega) | omega) | refine Blk.below ?_ (by assumption)) | (refine Blk.setAt ?_ (by first | (simp; done) | (simp; omega))) | rfl))), Blk.drew (show Blk _ (w5.heap.size) ((doC w.heap.size (.func (.func fg) #[] #[cg]) (.func (.func fp) #[] #[cp]) op D S n 0 cy)) 69 from (by repeat' (first | (with_reducible first | exact Hid.out (by assumption) | exact Blk.new _ _ _ | (refine Blk.new_at _ _ _ _ ?_; simp; done) | refine Blk.alloc ?_ _ | refine Blk.drewN ?_ _ | refine Blk.drew ?_ | apply Blk.set | refine Blk.put ?_ (by assumption) (by first | (simp; done) | (simp; omega) | omega) | refine Blk.below ?_ (by assumption)) | (refine Blk.setAt ?_ (by first | (simp; done) | (simp; omega))) | rfl)))⟩ (fun hS => ?_)
      refine wpAnyH_take (i := 0) rfl (by kernel_rfl) (by kernel_rfl) (by kernel_rfl) (fun _ _ _ h => h) (yields_loadA (by rfl) 28 (.tmp 3) rfl (w.heap.size) 0 15 rfl 28 (cpuC (movC b m1 c1 op D S n 0)) (cpuC (movC b m1 c1 op D S n 0)) (fun W hSw => hSw.1) _ Try.underlying28 rfl (by kernel_rfl) rfl rfl) hS ?_
      try simp only [List.getElem_toArray, List.getElem_cons_succ, List.getElem_cons_zero, Act.put, List.setIfInBounds_toArray, List.set_cons_zero, List.set_cons_succ]
      refine wpAnyH_take (i := 1) (v := ?v1_2) rfl (by kernel_rfl) (by kernel_rfl) (by kernel_rfl) (fun _ _ _ h => h) (Or.inl ⟨by rfl, ?y1_2⟩) hS ?_
      case y1_2 => (intro w hSw; go_simp; try with_reducible rfl)
      try simp only [List.getElem_toArray, List.getElem_cons_succ, List.getElem_cons_zero, Act.put, List.setIfInBounds_toArray, List.set_cons_zero, List.set_cons_succ]
      refine wpAnyH_take (i := 2) (v := ?v2_2) rfl (by kernel_rfl) (by kernel_rfl) (by kernel_rfl) (fun _ _ _ h => h) (Or.inl ⟨by rfl, ?y2_2⟩) hS ?_
      case y2_2 => (intro w hSw; have c0 := (hSw.1).cell; have c1 := (hSw.2).cell; go_simp; try with_reducible rfl)
      try simp only [List.getElem_toArray, List.getElem_cons_succ, List.getElem_cons_zero, Act.put, List.setIfInBounds_toArray, List.set_cons_zero, List.set_cons_succ]
      refine wpAnyH_ready (rs := [3]) (by kernel_rfl) (by simp) (AllReadyH.cons rfl (fun K hK => ?_) AllReadyH.nil)
      rw [if_pos (by rfl)]
      refine wp_store_row 28 (.tmp 6) (.tmp 67) rfl (w.heap.size + 1 + 1) (cpuC (movC b m1 c1 op D S n 0)) rfl rfl 28 #[.int .u16 0, .int .u16 0, .int .u16 0, .int .u16 0, .int .u16 0, .int .u16 0, .int .u16 0, .int .u16 0, .int .u16 0, .bool false, .bool false, .bool false, .bool false, .bool false, .bool false] KrF.out.drew (by kernel_rfl) rfl (by simp [cpuC, Value.oneCell']) ?_
      have hres := Lib.hid (setRow_heap _ (w.heap.size + 1 + 1) _ (cpuC (movC b m1 c1 op D S n 0)) 28 (0, 0) KrF.out.drew)
      refine hK.out _ _ ⟨Blk.put hS.1 (put_setRow _ _ _) (by omega), Blk.put hS.2 (put_setRow _ _ _) (by omega)⟩ (fun hS => ?_)
      clear hK K
      try simp only [List.getElem_toArray, List.getElem_cons_succ, List.getElem_cons_zero, Act.put, List.setIfInBounds_toArray, List.set_cons_zero, List.set_cons_succ]
      refine wpAnyH_take (i := 4) (v := ?v4b) rfl (by kernel_rfl) (by kernel_rfl) (by kernel_rfl) (fun _ _ _ h => h) (Or.inl ⟨by rfl, ?y4b⟩) hS ?_
      case y4b => (intro w hSw; go_simp; try with_reducible rfl)
      try simp only [List.getElem_toArray, List.getElem_cons_succ, List.getElem_cons_zero, Act.put, List.setIfInBounds_toArray, List.set_cons_zero, List.set_cons_succ]
      refine wpAnyH_done (by kernel_rfl) ?_ _
      go_wp2_with fail
      rw [show finC b m1 c1 op D S n 0 = movC b m1 c1 op D S n 0 from by unfold finC; rw [hsum.out, hmovH.out]; rfl, show finS b m1 c1 op D S n = movS b m1 c1 op D S n from by unfold finS; rw [hsum.out, hmovH.out]; rfl, show finN c1 op = cy from by rw [hN.out, hsum.out, hmovH.out]; rfl]
      exact bodyPost_ret (results_ct Try.results17 _ _ (w.heap.size + 1 + 1) 28 (cpuC (movC b m1 c1 op D S n 0)) _ rfl hres.out Try.underlying28 rfl (by kernel_rfl)) rfl ⟨rfl, hb.stable _ _ _ hr7 (below_put (Below.refl B _).drew (put_setRow _ _ _) (by omega)), KF.drew.put (put_setRow _ _ _) (Or.inl (by omega))⟩
  · refine (SM.out w5.heap.size (by omega) (by omega) _ (Kc5.out.alloc _) hd5 hi1).mono ?_
    rw [hsum]
    rintro e w6 ⟨rfl, hcF, k6, b6⟩
    have KrF := Lib.hid ((Kr5.out.alloc _).kp k6 (by omega) (by show ¬ (_ = _); omega))
    have hdF := hd5.kp k6 (by omega) (by show ¬ (_ = _); omega)
    have KF := (K5.alloc _).then k6 (fun i h1 h2 => absurd h2 (Nat.ne_of_lt h1))
    have hr6 := hb.stable _ _ _ (hb.stable _ _ _ hr5 (by repeat' (first | (with_reducible first | exact Below.refl _ _ | assumption | refine Below.alloc ?_ ?_ _ | refine Below.drew ?_ | refine below_drewN ?_ _ | refine Below.setCell ?_ ?_ _) | (simp; done) | omega | (simp; omega)))) (b6.mono hB)
    have hs6 := k6.size
    have hq6 : w5.heap.size + 1 ≤ w6.heap.size := by simpa using hs6
    clear hd5
    have hsumH := Lib.hid hsum
    have Kx := Lib.hid hcF
    have Kdx := Lib.hid hdF
    clear hcF hdF
    have e8 : (doC w.heap.size (.func (.func fg) #[] #[cg]) (.func (.func fp) #[] #[cp]) op D S n 0 cy)[8]? = some (.int .i64 cy) := rfl
    have hsx := KF.size
    clear fc lc c8 c9 c10 c11 c12 c13 c14 lb cb' fb lo co fo
    go_wp2_with fail
    refine wp_region_held_drew (S := fun W => Blk W (w.heap.size) ((cpuC (sumR c1 op D S n))) 28 ∧ Blk W (w5.heap.size) ((doC w.heap.size (.func (.func fg) #[] #[cg]) (.func (.func fp) #[] #[cp]) op D S n 0 cy)) 69) (by kernel_rfl) ⟨Blk.drew (show Blk _ (w.heap.size) ((cpuC (sumR c1 op D S n))) 28 from (by repeat' (first | (with_reducible first | exact Hid.out (by assumption) | exact Blk.new _ _ _ | (refine Blk.new_at _ _ _ _ ?_; simp; done) | refine Blk.alloc ?_ _ | refine Blk.drewN ?_ _ | refine Blk.drew ?_ | apply Blk.set | refine Blk.put ?_ (by assumption) (by first | (simp; done) | (simp; omega) | omega) | refine Blk.below ?_ (by assumption)) | (refine Blk.setAt ?_ (by first | (simp; done) | (simp; omega))) | rfl))), Blk.drew (show Blk _ (w5.heap.size) ((doC w.heap.size (.func (.func fg) #[] #[cg]) (.func (.func fp) #[] #[cp]) op D S n 0 cy)) 69 from (by repeat' (first | (with_reducible first | exact Hid.out (by assumption) | exact Blk.new _ _ _ | (refine Blk.new_at _ _ _ _ ?_; simp; done) | refine Blk.alloc ?_ _ | refine Blk.drewN ?_ _ | refine Blk.drew ?_ | apply Blk.set | refine Blk.put ?_ (by assumption) (by first | (simp; done) | (simp; omega) | omega) | refine Blk.below ?_ (by assumption)) | (refine Blk.setAt ?_ (by first | (simp; done) | (simp; omega))) | rfl)))⟩ (fun hS => ?_)
    refine wpAnyH_take (i := 0) rfl (by kernel_rfl) (by kernel_rfl) (by kernel_rfl) (fun _ _ _ h => h) (yields_loadA (by rfl) 28 (.tmp 3) rfl (w.heap.size) 0 15 rfl 28 (cpuC (sumR c1 op D S n)) (cpuC (sumR c1 op D S n)) (fun W hSw => hSw.1) _ Try.underlying28 rfl (by kernel_rfl) rfl rfl) hS ?_
    try simp only [List.getElem_toArray, List.getElem_cons_succ, List.getElem_cons_zero, Act.put, List.setIfInBounds_toArray, List.set_cons_zero, List.set_cons_succ]
    refine wpAnyH_take (i := 1) (v := ?v1_3) rfl (by kernel_rfl) (by kernel_rfl) (by kernel_rfl) (fun _ _ _ h => h) (Or.inl ⟨by rfl, ?y1_3⟩) hS ?_
    case y1_3 => (intro w hSw; go_simp; try with_reducible rfl)
    try simp only [List.getElem_toArray, List.getElem_cons_succ, List.getElem_cons_zero, Act.put, List.setIfInBounds_toArray, List.set_cons_zero, List.set_cons_succ]
    refine wpAnyH_take (i := 2) (v := ?v2_3) rfl (by kernel_rfl) (by kernel_rfl) (by kernel_rfl) (fun _ _ _ h => h) (Or.inl ⟨by rfl, ?y2_3⟩) hS ?_
    case y2_3 => (intro w hSw; have c0 := (hSw.1).cell; have c1 := (hSw.2).cell; go_simp; try with_reducible rfl)
    try simp only [List.getElem_toArray, List.getElem_cons_succ, List.getElem_cons_zero, Act.put, List.setIfInBounds_toArray, List.set_cons_zero, List.set_cons_succ]
    refine wpAnyH_ready (rs := [3]) (by kernel_rfl) (by simp) (AllReadyH.cons rfl (fun K hK => ?_) AllReadyH.nil)
    rw [if_pos (by rfl)]
    refine wp_store_row 28 (.tmp 6) (.tmp 67) rfl (w.heap.size + 1 + 1) (cpuC (sumR c1 op D S n)) rfl rfl 28 #[.int .u16 0, .int .u16 0, .int .u16 0, .int .u16 0, .int .u16 0, .int .u16 0, .int .u16 0, .int .u16 0, .int .u16 0, .bool false, .bool false, .bool false, .bool false, .bool false, .bool false] KrF.out.drew (by kernel_rfl) rfl (by simp [cpuC, Value.oneCell']) ?_
    have hres := Lib.hid (setRow_heap _ (w.heap.size + 1 + 1) _ (cpuC (sumR c1 op D S n)) 28 (0, 0) KrF.out.drew)
    refine hK.out _ _ ⟨Blk.put hS.1 (put_setRow _ _ _) (by omega), Blk.put hS.2 (put_setRow _ _ _) (by omega)⟩ (fun hS => ?_)
    clear hK K
    try simp only [List.getElem_toArray, List.getElem_cons_succ, List.getElem_cons_zero, Act.put, List.setIfInBounds_toArray, List.set_cons_zero, List.set_cons_succ]
    refine wpAnyH_take (i := 4) (v := ?v4c) rfl (by kernel_rfl) (by kernel_rfl) (by kernel_rfl) (fun _ _ _ h => h) (Or.inl ⟨by rfl, ?y4c⟩) hS ?_
    case y4c => (intro w hSw; go_simp; try with_reducible rfl)
    try simp only [List.getElem_toArray, List.getElem_cons_succ, List.getElem_cons_zero, Act.put, List.setIfInBounds_toArray, List.set_cons_zero, List.set_cons_succ]
    refine wpAnyH_done (by kernel_rfl) ?_ _
    go_wp2_with fail
    rw [show finC b m1 c1 op D S n 0 = sumR c1 op D S n from by unfold finC sumR; rw [hsumH.out]; rfl, show finS b m1 c1 op D S n = m1 from by unfold finS; rw [hsumH.out]; rfl, show finN c1 op = cy from by rw [hN.out, hsumH.out]; rfl]
    exact bodyPost_ret (results_ct Try.results17 _ _ (w.heap.size + 1 + 1) 28 (cpuC (sumR c1 op D S n)) _ rfl hres.out Try.underlying28 rfl (by kernel_rfl)) rfl ⟨rfl, hb.stable _ _ _ hr6 (below_put (Below.refl B _).drew (put_setRow _ _ _) (by omega)), KF.drew.put (put_setRow _ _ _) (Or.inl (by omega))⟩

theorem do_0_2 {fg fp : FuncId} {cg cp : Value} {σ : Type} {b : Bus σ} {Rel : World → σ → Prop} {B : Nat} (hb : BusOk Try.prog fg fp cg cp b Rel B) (m : σ) (c : Cp) (hi : c.In) (w : World) (hr : Rel w m) (hB : B ≤ w.heap.size)  (hwt : c.wt = false) (op : Int) (D S : Nat) (n : Int)
    (eO : readO (wV b m c.pc) 0 = ⟨op, D, S, n, 0⟩) (eL : readL (wV b m c.pc) = 2) (hD : D < 8) (hS8 : S < 8) (hn : -16 ≤ n ∧ n ≤ 15) (hsh : op = 12 ∨ op = 13 → 0 ≤ n) (h0 : 0 ≤ op) (h1 : op < 32) (h30 : op ≠ 30) :
    Calls Try.prog 17 #[.agg (cpuC c), .agg #[.func (.func fg) #[] #[cg], .func (.func fp) #[] #[cp]], .bool false] w fun e w' => e = .returned (.tuple #[.agg (cpuC (finC b (wS b (wS b m c.pc) ((c.pc + 2) % 65536)) (c.go ((c.pc + 4) % 65536)) op D S n (wV b (wS b m c.pc) ((c.pc + 2) % 65536)))), .int .i64 (finN (c.go ((c.pc + 4) % 65536)) op)]) ∧ Rel w' (finS b (wS b (wS b m c.pc) ((c.pc + 2) % 65536)) (c.go ((c.pc + 4) % 65536)) op D S n) ∧ Kp B NoX w w' := by
  have HR := Lib.hid (fun w' (h : Below B w w') => hb.stable w w' m hr h)
  have ha : U16 (wV b m c.pc) := wV_u hb m c.pc
  have W1 := Lib.hid (fun w' => word_any hb m c.pc hi.2 w')
  have rd := read_any (wV b m c.pc) 0 ha (by unfold U16; omega)
  rw [eO, eL] at rd
  have RD := Lib.hid rd
  have CY := Lib.hid (cycles_any op h0 h1 h30)
  have hcy := cyc_b op h0 h1
  have hp2 : IntKind.u16.wrap (c.pc + 2) = (c.pc + 2) % 65536 := wrap16 _
  have hp4 : IntKind.u16.wrap (c.pc + 4) = (c.pc + 4) % 65536 := wrap16 _
  have hpu : U16 ((c.pc + 4) % 65536) := by unfold U16; omega
  have hi1 : (c.go ((c.pc + 4) % 65536)).In := go_in hi hpu
  have hvu : U16 (wV b (wS b m c.pc) ((c.pc + 2) % 65536)) := wV_u hb _ _
  have W2 := Lib.hid (fun w' => word_any hb (wS b m c.pc) ((c.pc + 2) % 65536) (by unfold U16; omega) w')
  obtain ⟨v, ev⟩ : ∃ v, v = wV b (wS b m c.pc) ((c.pc + 2) % 65536) := ⟨_, rfl⟩
  rw [← ev] at W2 hvu ⊢
  clear ev
  have hwv : wrap64 v = v := by unfold wrap64; unfold U16 at hvu; omega
  have hv0 : 0 ≤ v := hvu.1
  have hv1 : v ≤ 65535 := hvu.2
  have hc0 : ∀ W, Blk W w.heap.size #[.int .u16 (c.r 0), .int .u16 (c.r 1), .int .u16 (c.r 2), .int .u16 (c.r 3), .int .u16 (c.r 4), .int .u16 (c.r 5), .int .u16 (c.r 6), .int .u16 (c.r 7), .int .u16 c.pc, .bool c.z, .bool c.n, .bool c.c, .bool c.v, .bool c.may, .bool false] 28 → Blk W w.heap.size (cpuC c) 28 := fun W h => by unfold cpuC; rw [hwt]; exact h
  obtain ⟨cy, ecy⟩ : ∃ cy, cy = cycO op := ⟨_, rfl⟩
  rw [← ecy] at CY hcy
  replace ecy := Lib.hid ecy
  obtain ⟨a, ea⟩ : ∃ a, a = wV b m c.pc := ⟨_, rfl⟩
  rw [← ea] at W1 RD
  obtain ⟨m1, em⟩ : ∃ m1, m1 = (wS b (wS b m c.pc) ((c.pc + 2) % 65536)) := ⟨_, rfl⟩
  obtain ⟨c1, ec⟩ : ∃ c1, c1 = (c.go ((c.pc + 4) % 65536)) := ⟨_, rfl⟩
  rw [← em, ← ec]
  rw [← ec] at hi1
  rw [← em] at W2
  replace em := Lib.hid em
  have hcc : cpuC (c.go ((c.pc + 4) % 65536)) = cpuC c1 := by rw [ec]
  replace ec := Lib.hid ec
  have HCC := Lib.hid hcc
  clear ha rd eO eL ea hcc hr
  rw [show (#[.agg (cpuC c), .agg #[.func (.func fg) #[] #[cg], .func (.func fp) #[] #[cp]], .bool false] : Array Value) = #[.agg #[.int .u16 (c.r 0), .int .u16 (c.r 1), .int .u16 (c.r 2), .int .u16 (c.r 3), .int .u16 (c.r 4), .int .u16 (c.r 5), .int .u16 (c.r 6), .int .u16 (c.r 7), .int .u16 c.pc, .bool c.z, .bool c.n, .bool c.c, .bool c.v, .bool c.may, .bool false], .agg #[.func (.func fg) #[] #[cg], .func (.func fp) #[] #[cp]], .bool false] from by unfold cpuC; rw [hwt]]
  have hd1 : 0 ≤ wordsN op ∧ wordsN op ≤ 2 := by unfold wordsN; split <;> omega
  generalize wordsN op = wn at *
  go_enter Try.func17, Try.ntmps17
  go_wp2_with (first | ((with_reducible show wpList _ _ _ _ _ _); refine wpList_loadW rfl 52 (.tmp 4) rfl (w.heap.size + 1) rfl 52 #[.func (.func fg) #[] #[cg], .func (.func fp) #[] #[cp]] (show Blk _ (w.heap.size + 1) #[.func (.func fg) #[] #[cg], .func (.func fp) #[] #[cp]] 52 from (by repeat' (first | (with_reducible first | exact Hid.out (by assumption) | exact Blk.new _ _ _ | (refine Blk.new_at _ _ _ _ ?_; simp; done) | refine Blk.alloc ?_ _ | refine Blk.drewN ?_ _ | refine Blk.drew ?_ | apply Blk.set | refine Blk.put ?_ (by assumption) (by first | (simp; done) | (simp; omega) | omega) | refine Blk.below ?_ (by assumption)) | (refine Blk.setAt ?_ (by first | (simp; done) | (simp; omega))) | rfl))) _ Try.underlying52 rfl (by kernel_rfl) ?_))
  refine (W1.out _ (HR.out _ (by repeat' (first | (with_reducible first | exact Below.refl _ _ | assumption | refine Below.alloc ?_ ?_ _ | refine Below.drew ?_ | refine below_drewN ?_ _ | refine Below.setCell ?_ ?_ _) | (simp; done) | omega | (simp; omega)))) (by first | omega | (simp; omega))).mono ?_
  rintro e w1 ⟨rfl, hr1, k1⟩
  have Kc1 := Lib.hid ((hc0 _ (by repeat' (first | (with_reducible first | exact Hid.out (by assumption) | exact Blk.new _ _ _ | (refine Blk.new_at _ _ _ _ ?_; simp; done) | refine Blk.alloc ?_ _ | refine Blk.drewN ?_ _ | refine Blk.drew ?_ | apply Blk.set | refine Blk.put ?_ (by assumption) (by first | (simp; done) | (simp; omega) | omega) | refine Blk.below ?_ (by assumption)) | (refine Blk.setAt ?_ (by first | (simp; done) | (simp; omega))) | rfl))).kp k1 hB id)
  have Kb1 := Lib.hid ((show Blk _ (w.heap.size + 1) #[.func (.func fg) #[] #[cg], .func (.func fp) #[] #[cp]] 52 from (by repeat' (first | (with_reducible first | exact Hid.out (by assumption) | exact Blk.new _ _ _ | (refine Blk.new_at _ _ _ _ ?_; simp; done) | refine Blk.alloc ?_ _ | refine Blk.drewN ?_ _ | refine Blk.drew ?_ | apply Blk.set | refine Blk.put ?_ (by assumption) (by first | (simp; done) | (simp; omega) | omega) | refine Blk.below ?_ (by assumption)) | (refine Blk.setAt ?_ (by first | (simp; done) | (simp; omega))) | rfl))).kp k1 (by omega) id)
  have Kr1 := Lib.hid ((show Blk _ (w.heap.size + 1 + 1) #[.int .u16 0, .int .u16 0, .int .u16 0, .int .u16 0, .int .u16 0, .int .u16 0, .int .u16 0, .int .u16 0, .int .u16 0, .bool false, .bool false, .bool false, .bool false, .bool false, .bool false] 28 from (by repeat' (first | (with_reducible first | exact Hid.out (by assumption) | exact Blk.new _ _ _ | (refine Blk.new_at _ _ _ _ ?_; simp; done) | refine Blk.alloc ?_ _ | refine Blk.drewN ?_ _ | refine Blk.drew ?_ | apply Blk.set | refine Blk.put ?_ (by assumption) (by first | (simp; done) | (simp; omega) | omega) | refine Blk.below ?_ (by assumption)) | (refine Blk.setAt ?_ (by first | (simp; done) | (simp; omega))) | rfl))).kp k1 (by omega) id)
  have K1 : Kp B NoX w w1 := Kp.then (by repeat' (first | (with_reducible first | exact Kp.refl _ _ _ | assumption | refine Kp.alloc ?_ _ | refine Kp.drew ?_ | refine Kp.drewN ?_ _ | refine Kp.setCell ?_ ?_) | (right; rfl) | (left; simp; done) | (left; omega) | (left; simp; omega))) k1 (fun _ _ h => h)
  have hs1 := k1.size
  have hq1 : w.heap.size + 3 ≤ w1.heap.size := by simpa using hs1
  go_wp2_with (first | ((with_reducible show wpList _ _ _ _ _ _); refine wpList_loadW rfl 52 (.tmp 4) rfl (w.heap.size + 1) rfl 52 #[.func (.func fg) #[] #[cg], .func (.func fp) #[] #[cp]] (show Blk _ (w.heap.size + 1) #[.func (.func fg) #[] #[cg], .func (.func fp) #[] #[cp]] 52 from (by repeat' (first | (with_reducible first | exact Hid.out (by assumption) | exact Blk.new _ _ _ | (refine Blk.new_at _ _ _ _ ?_; simp; done) | refine Blk.alloc ?_ _ | refine Blk.drewN ?_ _ | refine Blk.drew ?_ | apply Blk.set | refine Blk.put ?_ (by assumption) (by first | (simp; done) | (simp; omega) | omega) | refine Blk.below ?_ (by assumption)) | (refine Blk.setAt ?_ (by first | (simp; done) | (simp; omega))) | rfl))) _ Try.underlying52 rfl (by kernel_rfl) ?_))
  refine (RD.out _).mono ?_
  rintro e w2 ⟨rfl, hb2⟩
  have hs2 := hb2.size
  have Kc2 := Lib.hid (Kc1.out.below hb2)
  have Kb2 := Lib.hid (Kb1.out.below hb2)
  have Kr2 := Lib.hid (Kr1.out.below hb2)
  have K2 := K1.below hb2 K1.size
  have hr2 := hb.below hr1 hb2 (by omega)
  obtain ⟨lc, cc, fc⟩ := Kc2.out.use
  have c8 : w2.cell? ⟨w.heap.size, 8, none⟩ = some (.int .u16 c.pc) := Kc2.out.cell 8
  obtain ⟨lb, cb', fb⟩ := Kb2.out.use
  clear cc
  go_wp2_with (first | ((with_reducible show wpList _ _ _ _ _ _); refine wpList_loadW rfl 52 (.tmp 4) rfl (w.heap.size + 1) rfl 52 #[.func (.func fg) #[] #[cg], .func (.func fp) #[] #[cp]] (show Blk _ (w.heap.size + 1) #[.func (.func fg) #[] #[cg], .func (.func fp) #[] #[cp]] 52 from (by repeat' (first | (with_reducible first | exact Hid.out (by assumption) | exact Blk.new _ _ _ | (refine Blk.new_at _ _ _ _ ?_; simp; done) | refine Blk.alloc ?_ _ | refine Blk.drewN ?_ _ | refine Blk.drew ?_ | apply Blk.set | refine Blk.put ?_ (by assumption) (by first | (simp; done) | (simp; omega) | omega) | refine Blk.below ?_ (by assumption)) | (refine Blk.setAt ?_ (by first | (simp; done) | (simp; omega))) | rfl))) _ Try.underlying52 rfl (by kernel_rfl) ?_))
  refine (W2.out _ (hb.stable _ _ _ hr2 (by repeat' (first | (with_reducible first | exact Below.refl _ _ | assumption | refine Below.alloc ?_ ?_ _ | refine Below.drew ?_ | refine below_drewN ?_ _ | refine Below.setCell ?_ ?_ _) | (simp; done) | omega | (simp; omega)))) (by first | omega | (simp; omega))).mono ?_
  rintro e w4 ⟨rfl, hr4, k4⟩
  have Kc4 := Lib.hid ((show Blk _ w.heap.size (cpuC c) 28 from (by repeat' (first | (with_reducible first | exact Hid.out (by assumption) | exact Blk.new _ _ _ | (refine Blk.new_at _ _ _ _ ?_; simp; done) | refine Blk.alloc ?_ _ | refine Blk.drewN ?_ _ | refine Blk.drew ?_ | apply Blk.set | refine Blk.put ?_ (by assumption) (by first | (simp; done) | (simp; omega) | omega) | refine Blk.below ?_ (by assumption)) | (refine Blk.setAt ?_ (by first | (simp; done) | (simp; omega))) | rfl))).kp k4 hB id)
  have Kb4 := Lib.hid ((show Blk _ (w.heap.size + 1) #[.func (.func fg) #[] #[cg], .func (.func fp) #[] #[cp]] 52 from (by repeat' (first | (with_reducible first | exact Hid.out (by assumption) | exact Blk.new _ _ _ | (refine Blk.new_at _ _ _ _ ?_; simp; done) | refine Blk.alloc ?_ _ | refine Blk.drewN ?_ _ | refine Blk.drew ?_ | apply Blk.set | refine Blk.put ?_ (by assumption) (by first | (simp; done) | (simp; omega) | omega) | refine Blk.below ?_ (by assumption)) | (refine Blk.setAt ?_ (by first | (simp; done) | (simp; omega))) | rfl))).kp k4 (by omega) id)
  have Kr4 := Lib.hid ((show Blk _ (w.heap.size + 1 + 1) #[.int .u16 0, .int .u16 0, .int .u16 0, .int .u16 0, .int .u16 0, .int .u16 0, .int .u16 0, .int .u16 0, .int .u16 0, .bool false, .bool false, .bool false, .bool false, .bool false, .bool false] 28 from (by repeat' (first | (with_reducible first | exact Hid.out (by assumption) | exact Blk.new _ _ _ | (refine Blk.new_at _ _ _ _ ?_; simp; done) | refine Blk.alloc ?_ _ | refine Blk.drewN ?_ _ | refine Blk.drew ?_ | apply Blk.set | refine Blk.put ?_ (by assumption) (by first | (simp; done) | (simp; omega) | omega) | refine Blk.below ?_ (by assumption)) | (refine Blk.setAt ?_ (by first | (simp; done) | (simp; omega))) | rfl))).kp k4 (by omega) id)
  have Ko4 := Lib.hid ((show Blk _ w2.heap.size #[.int .i64 op, .int .i64 D, .int .i64 S, .int .i64 n, .int .i64 0] 43 from (by repeat' (first | (with_reducible first | exact Hid.out (by assumption) | exact Blk.new _ _ _ | (refine Blk.new_at _ _ _ _ ?_; simp; done) | refine Blk.alloc ?_ _ | refine Blk.drewN ?_ _ | refine Blk.drew ?_ | apply Blk.set | refine Blk.put ?_ (by assumption) (by first | (simp; done) | (simp; omega) | omega) | refine Blk.below ?_ (by assumption)) | (refine Blk.setAt ?_ (by first | (simp; done) | (simp; omega))) | rfl))).kp k4 (by omega) id)
  have K4 : Kp B NoX w w4 := Kp.then (by repeat' (first | (with_reducible first | assumption | refine Kp.alloc ?_ _ | refine Kp.drew ?_ | refine Kp.drewN ?_ _ | refine Kp.setCell ?_ ?_) | (left; simp; done) | (left; omega) | (left; simp; omega))) k4 (fun _ _ h => h)
  have hs4 := k4.size
  have hq4 : w2.heap.size + 1 ≤ w4.heap.size := by simpa using hs4
  clear lc c8 fc lb cb' fb
  obtain ⟨lc, cc, fc⟩ := Kc4.out.use
  have c8 : w4.cell? ⟨w.heap.size, 8, none⟩ = some (.int .u16 c.pc) := Kc4.out.cell 8
  obtain ⟨lb, cb', fb⟩ := Kb4.out.use
  obtain ⟨lo, co, fo⟩ := Ko4.out.use
  clear cc
  go_wp2_with fail
  refine (CY.out _).mono ?_
  rintro e w5 ⟨rfl, hb5⟩
  have Kc5 := Lib.hid ((show Blk _ w.heap.size (cpuC (c.go ((c.pc + 4) % 65536))) 28 from (by exact Blk.set (Blk.setAt Kc4.out (show w.heap.size ≠ w2.heap.size by omega)) rfl)).below hb5)
  rw [HCC.out] at Kc5
  have Kb5 := Lib.hid ((show Blk _ (w.heap.size + 1) #[.func (.func fg) #[] #[cg], .func (.func fp) #[] #[cp]] 52 from (by repeat' (first | (with_reducible first | exact Hid.out (by assumption) | exact Blk.new _ _ _ | (refine Blk.new_at _ _ _ _ ?_; simp; done) | refine Blk.alloc ?_ _ | refine Blk.drewN ?_ _ | refine Blk.drew ?_ | apply Blk.set | refine Blk.put ?_ (by assumption) (by first | (simp; done) | (simp; omega) | omega) | refine Blk.below ?_ (by assumption)) | (refine Blk.setAt ?_ (by first | (simp; done) | (simp; omega))) | rfl))).below hb5)
  have Kr5 := Lib.hid ((show Blk _ (w.heap.size + 1 + 1) #[.int .u16 0, .int .u16 0, .int .u16 0, .int .u16 0, .int .u16 0, .int .u16 0, .int .u16 0, .int .u16 0, .int .u16 0, .bool false, .bool false, .bool false, .bool false, .bool false, .bool false] 28 from (by repeat' (first | (with_reducible first | exact Hid.out (by assumption) | exact Blk.new _ _ _ | (refine Blk.new_at _ _ _ _ ?_; simp; done) | refine Blk.alloc ?_ _ | refine Blk.drewN ?_ _ | refine Blk.drew ?_ | apply Blk.set | refine Blk.put ?_ (by assumption) (by first | (simp; done) | (simp; omega) | omega) | refine Blk.below ?_ (by assumption)) | (refine Blk.setAt ?_ (by first | (simp; done) | (simp; omega))) | rfl))).below hb5)
  have Ko5 := Lib.hid ((show Blk _ w2.heap.size #[.int .i64 op, .int .i64 D, .int .i64 S, .int .i64 n, .int .i64 v] 43 from (by repeat' (first | (with_reducible first | exact Hid.out (by assumption) | exact Blk.new _ _ _ | (refine Blk.new_at _ _ _ _ ?_; simp; done) | refine Blk.alloc ?_ _ | refine Blk.drewN ?_ _ | refine Blk.drew ?_ | apply Blk.set | refine Blk.put ?_ (by assumption) (by first | (simp; done) | (simp; omega) | omega) | refine Blk.below ?_ (by assumption)) | (refine Blk.setAt ?_ (by first | (simp; done) | (simp; omega))) | rfl))).below hb5)
  have K5 : Kp B NoX w w5 := Kp.below (by repeat' (first | (with_reducible first | assumption | refine Kp.alloc ?_ _ | refine Kp.drew ?_ | refine Kp.drewN ?_ _ | refine Kp.setCell ?_ ?_) | (left; simp; done) | (left; omega) | (left; simp; omega))) hb5 (by first | omega | (simp; omega))
  have hr5 : Rel w5 m1 := hb.stable _ _ _ (hb.stable _ _ _ hr4 (by repeat' (first | (with_reducible first | exact Below.refl _ _ | assumption | refine Below.alloc ?_ ?_ _ | refine Below.drew ?_ | refine below_drewN ?_ _ | refine Below.setCell ?_ ?_ _) | (simp; done) | omega | (simp; omega)))) (hb5.mono (by first | omega | (simp; omega)))
  have hs5 := hb5.size
  have hq5 : w4.heap.size ≤ w5.heap.size := by simpa using hs5
  clear lc c8 fc lb cb' fb lo co fo
  obtain ⟨c0, c0', fc, lc, c8, c9, c10, c11, c12, c13, c14⟩ := Kc5.out.cp (D := 0) (S := 0) (by omega) (by omega)
  clear c0 c0'
  obtain ⟨lb, cb', fb⟩ := Kb5.out.use
  obtain ⟨lo, co, fo⟩ := Ko5.out.use
  have hN : finN c1 op = (if isSum op then cy else if isMov op then cy else goY c1 op cy) := by unfold finN; rw [← ecy.out]
  replace hN := Lib.hid hN
  have SM := Lib.hid (fun db hB2 hne w' => sums_any c1 op D S n v cy (.func (.func fg) #[] #[cg]) (.func (.func fp) #[] #[cp]) hD hS8 hn hsh w.heap.size db B hB hB2 hne w')
  go_wp2_with (first | ((with_reducible show wpList _ _ _ _ _ _); refine wpList_loadW rfl 52 (.tmp 4) rfl (w.heap.size + 1) rfl 52 #[.func (.func fg) #[] #[cg], .func (.func fp) #[] #[cp]] (show Blk _ (w.heap.size + 1) #[.func (.func fg) #[] #[cg], .func (.func fp) #[] #[cp]] 52 from (by repeat' (first | (with_reducible first | exact Hid.out (by assumption) | exact Blk.new _ _ _ | (refine Blk.new_at _ _ _ _ ?_; simp; done) | refine Blk.alloc ?_ _ | refine Blk.drewN ?_ _ | refine Blk.drew ?_ | apply Blk.set | refine Blk.put ?_ (by assumption) (by first | (simp; done) | (simp; omega) | omega) | refine Blk.below ?_ (by assumption)) | (refine Blk.setAt ?_ (by first | (simp; done) | (simp; omega))) | rfl))) _ Try.underlying52 rfl (by kernel_rfl) ?_) | ((with_reducible show wpList _ _ _ _ _ _); refine wpList_loadW rfl 43 (.tmp 8) rfl (w2.heap.size) rfl 43 #[.int .i64 op, .int .i64 D, .int .i64 S, .int .i64 n, .int .i64 v] (show Blk _ (w2.heap.size) #[.int .i64 op, .int .i64 D, .int .i64 S, .int .i64 n, .int .i64 v] 43 from (by repeat' (first | (with_reducible first | exact Hid.out (by assumption) | exact Blk.new _ _ _ | (refine Blk.new_at _ _ _ _ ?_; simp; done) | refine Blk.alloc ?_ _ | refine Blk.drewN ?_ _ | refine Blk.drew ?_ | apply Blk.set | refine Blk.put ?_ (by assumption) (by first | (simp; done) | (simp; omega) | omega) | refine Blk.below ?_ (by assumption)) | (refine Blk.setAt ?_ (by first | (simp; done) | (simp; omega))) | rfl))) _ Try.underlying43 rfl (by kernel_rfl) ?_))
  have hd5 : Blk (w5.alloc (.cells (doC w.heap.size (.func (.func fg) #[] #[cg]) (.func (.func fp) #[] #[cp]) op D S n v cy) 69)) w5.heap.size (doC w.heap.size (.func (.func fg) #[] #[cg]) (.func (.func fp) #[] #[cp]) op D S n v cy) 69 := Blk.new _ _ _
  cases hsum : isSum op
  · refine (SM.out w5.heap.size (by omega) (by omega) _ (Kc5.out.alloc _) hd5 hi1).mono ?_
    rw [hsum, sumR_no hsum]
    rintro e w6 ⟨rfl, hc6, k6, b6⟩
    have Kr6 := Lib.hid ((Kr5.out.alloc _).kp k6 (by omega) (by show ¬ (_ = _); omega))
    have Kd6 := Lib.hid (hd5.kp k6 (by omega) (by show ¬ (_ = _); omega))
    have K6 := (K5.alloc _).then k6 (fun i h1 h2 => absurd h2 (Nat.ne_of_lt h1))
    have hr6 := hb.stable _ _ _ (hb.stable _ _ _ hr5 (by repeat' (first | (with_reducible first | exact Below.refl _ _ | assumption | refine Below.alloc ?_ ?_ _ | refine Below.drew ?_ | refine below_drewN ?_ _ | refine Below.setCell ?_ ?_ _) | (simp; done) | omega | (simp; omega)))) (b6.mono hB)
    have hs6 := k6.size
    have hq6 : w5.heap.size + 1 ≤ w6.heap.size := by simpa using hs6
    have Kc6 := Lib.hid hc6
    clear hc6 hd5
    have MV := Lib.hid (moves_any hb m1 c1 op D S n v cy hD hS8 hn hvu w.heap.size w5.heap.size hB (by omega) (by omega) w6 hr6 Kc6.out Kd6.out hi1)
    replace hsum := Lib.hid hsum
    go_wp2_with fail
    refine MV.out.mono ?_
    cases hmov : isMov op
    · rw [(movC_no hmov).1, (movC_no (v := 0) hmov).2]
      rintro e w7 ⟨rfl, hc7, hr7, k7⟩
      have Kr7 := Lib.hid (Kr6.out.kp k7 (by omega) (by show ¬ (_ = _); omega))
      have Kd7 := Lib.hid (Kd6.out.kp k7 (by omega) (by show ¬ (_ = _); omega))
      have K7 := K6.then k7 (fun i h1 h2 => absurd h2 (Nat.ne_of_lt h1))
      have hs7 := k7.size
      have Kc7 := Lib.hid hc7
      clear hc7
      have GO := Lib.hid (goes_any hb m1 c1 op D S n v cy hvu hcy w.heap.size w5.heap.size hB (by omega) (by omega) w7 hr7 Kc7.out Kd7.out hi1)
      replace hmov := Lib.hid hmov
      go_wp2_with fail
      refine GO.out.mono ?_
      rintro e w8 ⟨rfl, hcF, hdF, hr8, k8⟩
      have KrF := Lib.hid (Kr7.out.kp k8 (by omega) (by show ¬ (_ ∨ _); omega))
      have KF := K7.then k8 (fun i h1 h2 => h2.elim (fun h => absurd h (Nat.ne_of_lt h1)) (fun h => absurd h (by omega)))
      have hs8 := k8.size
      have Kx := Lib.hid hcF
      have Kdx := Lib.hid hdF
      clear hcF hdF
      have e8 : (doC w.heap.size (.func (.func fg) #[] #[cg]) (.func (.func fp) #[] #[cp]) op D S n v (goY c1 op cy))[8]? = some (.int .i64 (goY c1 op cy)) := rfl
      have hsx := KF.size
      clear fc lc c8 c9 c10 c11 c12 c13 c14 lb cb' fb lo co fo
      go_wp2_with fail
      refine wp_region_held_drew (S := fun W => Blk W (w.heap.size) ((cpuC (goC b m1 c1 op v))) 28 ∧ Blk W (w5.heap.size) ((doC w.heap.size (.func (.func fg) #[] #[cg]) (.func (.func fp) #[] #[cp]) op D S n v (goY c1 op cy))) 69) (by kernel_rfl) ⟨Blk.drew (show Blk _ (w.heap.size) ((cpuC (goC b m1 c1 op v))) 28 from (by repeat' (first | (with_reducible first | exact Hid.out (by assumption) | exact Blk.new _ _ _ | (refine Blk.new_at _ _ _ _ ?_; simp; done) | refine Blk.alloc ?_ _ | refine Blk.drewN ?_ _ | refine Blk.drew ?_ | apply Blk.set | refine Blk.put ?_ (by assumption) (by first | (simp; done) | (simp; omega) | omega) | refine Blk.below ?_ (by assumption)) | (refine Blk.setAt ?_ (by first | (simp; done) | (simp; omega))) | rfl))), Blk.drew (show Blk _ (w5.heap.size) ((doC w.heap.size (.func (.func fg) #[] #[cg]) (.func (.func fp) #[] #[cp]) op D S n v (goY c1 op cy))) 69 from (by repeat' (first | (with_reducible first | exact Hid.out (by assumption) | exact Blk.new _ _ _ | (refine Blk.new_at _ _ _ _ ?_; simp; done) | refine Blk.alloc ?_ _ | refine Blk.drewN ?_ _ | refine Blk.drew ?_ | apply Blk.set | refine Blk.put ?_ (by assumption) (by first | (simp; done) | (simp; omega) | omega) | refine Blk.below ?_ (by assumption)) | (refine Blk.setAt ?_ (by first | (simp; done) | (simp; omega))) | rfl)))⟩ (fun hS => ?_)
      refine wpAnyH_take (i := 0) rfl (by kernel_rfl) (by kernel_rfl) (by kernel_rfl) (fun _ _ _ h => h) (yields_loadA (by rfl) 28 (.tmp 3) rfl (w.heap.size) 0 15 rfl 28 (cpuC (goC b m1 c1 op v)) (cpuC (goC b m1 c1 op v)) (fun W hSw => hSw.1) _ Try.underlying28 rfl (by kernel_rfl) rfl rfl) hS ?_
      try simp only [List.getElem_toArray, List.getElem_cons_succ, List.getElem_cons_zero, Act.put, List.setIfInBounds_toArray, List.set_cons_zero, List.set_cons_succ]
      refine wpAnyH_take (i := 1) (v := ?v1_4) rfl (by kernel_rfl) (by kernel_rfl) (by kernel_rfl) (fun _ _ _ h => h) (Or.inl ⟨by rfl, ?y1_4⟩) hS ?_
      case y1_4 => (intro w hSw; go_simp; try with_reducible rfl)
      try simp only [List.getElem_toArray, List.getElem_cons_succ, List.getElem_cons_zero, Act.put, List.setIfInBounds_toArray, List.set_cons_zero, List.set_cons_succ]
      refine wpAnyH_take (i := 2) (v := ?v2_4) rfl (by kernel_rfl) (by kernel_rfl) (by kernel_rfl) (fun _ _ _ h => h) (Or.inl ⟨by rfl, ?y2_4⟩) hS ?_
      case y2_4 => (intro w hSw; have c0 := (hSw.1).cell; have c1 := (hSw.2).cell; go_simp; try with_reducible rfl)
      try simp only [List.getElem_toArray, List.getElem_cons_succ, List.getElem_cons_zero, Act.put, List.setIfInBounds_toArray, List.set_cons_zero, List.set_cons_succ]
      refine wpAnyH_ready (rs := [3]) (by kernel_rfl) (by simp) (AllReadyH.cons rfl (fun K hK => ?_) AllReadyH.nil)
      rw [if_pos (by rfl)]
      refine wp_store_row 28 (.tmp 6) (.tmp 67) rfl (w.heap.size + 1 + 1) (cpuC (goC b m1 c1 op v)) rfl rfl 28 #[.int .u16 0, .int .u16 0, .int .u16 0, .int .u16 0, .int .u16 0, .int .u16 0, .int .u16 0, .int .u16 0, .int .u16 0, .bool false, .bool false, .bool false, .bool false, .bool false, .bool false] KrF.out.drew (by kernel_rfl) rfl (by simp [cpuC, Value.oneCell']) ?_
      have hres := Lib.hid (setRow_heap _ (w.heap.size + 1 + 1) _ (cpuC (goC b m1 c1 op v)) 28 (0, 0) KrF.out.drew)
      refine hK.out _ _ ⟨Blk.put hS.1 (put_setRow _ _ _) (by omega), Blk.put hS.2 (put_setRow _ _ _) (by omega)⟩ (fun hS => ?_)
      clear hK K
      try simp only [List.getElem_toArray, List.getElem_cons_succ, List.getElem_cons_zero, Act.put, List.setIfInBounds_toArray, List.set_cons_zero, List.set_cons_succ]
      refine wpAnyH_take (i := 4) (v := ?v4) rfl (by kernel_rfl) (by kernel_rfl) (by kernel_rfl) (fun _ _ _ h => h) (Or.inl ⟨by rfl, ?y4⟩) hS ?_
      case y4 => (intro w hSw; go_simp; try with_reducible rfl)
      try simp only [List.getElem_toArray, List.getElem_cons_succ, List.getElem_cons_zero, Act.put, List.setIfInBounds_toArray, List.set_cons_zero, List.set_cons_succ]
      refine wpAnyH_done (by kernel_rfl) ?_ _
      go_wp2_with fail
      rw [show finC b m1 c1 op D S n v = goC b m1 c1 op v from by unfold finC; rw [hsum.out, hmov.out]; rfl, show finS b m1 c1 op D S n = goS b m1 c1 op from by unfold finS; rw [hsum.out, hmov.out]; rfl, show finN c1 op = goY c1 op cy from by rw [hN.out, hsum.out, hmov.out]; rfl]
      exact bodyPost_ret (results_ct Try.results17 _ _ (w.heap.size + 1 + 1) 28 (cpuC (goC b m1 c1 op v)) _ rfl hres.out Try.underlying28 rfl (by kernel_rfl)) rfl ⟨rfl, hb.stable _ _ _ hr8 (below_put (Below.refl B _).drew (put_setRow _ _ _) (by omega)), KF.drew.put (put_setRow _ _ _) (Or.inl (by omega))⟩
    · rintro e w7 ⟨rfl, hcF, hr7, k7⟩
      have KrF := Lib.hid (Kr6.out.kp k7 (by omega) (by show ¬ (_ = _); omega))
      have hdF := Kd6.out.kp k7 (by omega) (by show ¬ (_ = _); omega)
      have KF := K6.then k7 (fun i h1 h2 => absurd h2 (Nat.ne_of_lt h1))
      have hs7 := k7.size
      have hmovH := Lib.hid hmov
      have Kx := Lib.hid hcF
      have Kdx := Lib.hid hdF
      clear hcF hdF
      have e8 : (doC w.heap.size (.func (.func fg) #[] #[cg]) (.func (.func fp) #[] #[cp]) op D S n v cy)[8]? = some (.int .i64 cy) := rfl
      have hsx := KF.size
      clear fc lc c8 c9 c10 c11 c12 c13 c14 lb cb' fb lo co fo
      go_wp2_with fail
      refine wp_region_held_drew (S := fun W => Blk W (w.heap.size) ((cpuC (movC b m1 c1 op D S n v))) 28 ∧ Blk W (w5.heap.size) ((doC w.heap.size (.func (.func fg) #[] #[cg]) (.func (.func fp) #[] #[cp]) op D S n v cy)) 69) (by kernel_rfl) ⟨Blk.drew (show Blk _ (w.heap.size) ((cpuC (movC b m1 c1 op D S n v))) 28 from (by repeat' (first | (with_reducible first | exact Hid.out (by assumption) | exact Blk.new _ _ _ | (refine Blk.new_at _ _ _ _ ?_; simp; done) | refine Blk.alloc ?_ _ | refine Blk.drewN ?_ _ | refine Blk.drew ?_ | apply Blk.set | refine Blk.put ?_ (by assumption) (by first | (simp; done) | (simp; omega) | omega) | refine Blk.below ?_ (by assumption)) | (refine Blk.setAt ?_ (by first | (simp; done) | (simp; omega))) | rfl))), Blk.drew (show Blk _ (w5.heap.size) ((doC w.heap.size (.func (.func fg) #[] #[cg]) (.func (.func fp) #[] #[cp]) op D S n v cy)) 69 from (by repeat' (first | (with_reducible first | exact Hid.out (by assumption) | exact Blk.new _ _ _ | (refine Blk.new_at _ _ _ _ ?_; simp; done) | refine Blk.alloc ?_ _ | refine Blk.drewN ?_ _ | refine Blk.drew ?_ | apply Blk.set | refine Blk.put ?_ (by assumption) (by first | (simp; done) | (simp; omega) | omega) | refine Blk.below ?_ (by assumption)) | (refine Blk.setAt ?_ (by first | (simp; done) | (simp; omega))) | rfl)))⟩ (fun hS => ?_)
      refine wpAnyH_take (i := 0) rfl (by kernel_rfl) (by kernel_rfl) (by kernel_rfl) (fun _ _ _ h => h) (yields_loadA (by rfl) 28 (.tmp 3) rfl (w.heap.size) 0 15 rfl 28 (cpuC (movC b m1 c1 op D S n v)) (cpuC (movC b m1 c1 op D S n v)) (fun W hSw => hSw.1) _ Try.underlying28 rfl (by kernel_rfl) rfl rfl) hS ?_
      try simp only [List.getElem_toArray, List.getElem_cons_succ, List.getElem_cons_zero, Act.put, List.setIfInBounds_toArray, List.set_cons_zero, List.set_cons_succ]
      refine wpAnyH_take (i := 1) (v := ?v1_5) rfl (by kernel_rfl) (by kernel_rfl) (by kernel_rfl) (fun _ _ _ h => h) (Or.inl ⟨by rfl, ?y1_5⟩) hS ?_
      case y1_5 => (intro w hSw; go_simp; try with_reducible rfl)
      try simp only [List.getElem_toArray, List.getElem_cons_succ, List.getElem_cons_zero, Act.put, List.setIfInBounds_toArray, List.set_cons_zero, List.set_cons_succ]
      refine wpAnyH_take (i := 2) (v := ?v2_5) rfl (by kernel_rfl) (by kernel_rfl) (by kernel_rfl) (fun _ _ _ h => h) (Or.inl ⟨by rfl, ?y2_5⟩) hS ?_
      case y2_5 => (intro w hSw; have c0 := (hSw.1).cell; have c1 := (hSw.2).cell; go_simp; try with_reducible rfl)
      try simp only [List.getElem_toArray, List.getElem_cons_succ, List.getElem_cons_zero, Act.put, List.setIfInBounds_toArray, List.set_cons_zero, List.set_cons_succ]
      refine wpAnyH_ready (rs := [3]) (by kernel_rfl) (by simp) (AllReadyH.cons rfl (fun K hK => ?_) AllReadyH.nil)
      rw [if_pos (by rfl)]
      refine wp_store_row 28 (.tmp 6) (.tmp 67) rfl (w.heap.size + 1 + 1) (cpuC (movC b m1 c1 op D S n v)) rfl rfl 28 #[.int .u16 0, .int .u16 0, .int .u16 0, .int .u16 0, .int .u16 0, .int .u16 0, .int .u16 0, .int .u16 0, .int .u16 0, .bool false, .bool false, .bool false, .bool false, .bool false, .bool false] KrF.out.drew (by kernel_rfl) rfl (by simp [cpuC, Value.oneCell']) ?_
      have hres := Lib.hid (setRow_heap _ (w.heap.size + 1 + 1) _ (cpuC (movC b m1 c1 op D S n v)) 28 (0, 0) KrF.out.drew)
      refine hK.out _ _ ⟨Blk.put hS.1 (put_setRow _ _ _) (by omega), Blk.put hS.2 (put_setRow _ _ _) (by omega)⟩ (fun hS => ?_)
      clear hK K
      try simp only [List.getElem_toArray, List.getElem_cons_succ, List.getElem_cons_zero, Act.put, List.setIfInBounds_toArray, List.set_cons_zero, List.set_cons_succ]
      refine wpAnyH_take (i := 4) (v := ?v4b) rfl (by kernel_rfl) (by kernel_rfl) (by kernel_rfl) (fun _ _ _ h => h) (Or.inl ⟨by rfl, ?y4b⟩) hS ?_
      case y4b => (intro w hSw; go_simp; try with_reducible rfl)
      try simp only [List.getElem_toArray, List.getElem_cons_succ, List.getElem_cons_zero, Act.put, List.setIfInBounds_toArray, List.set_cons_zero, List.set_cons_succ]
      refine wpAnyH_done (by kernel_rfl) ?_ _
      go_wp2_with fail
      rw [show finC b m1 c1 op D S n v = movC b m1 c1 op D S n v from by unfold finC; rw [hsum.out, hmovH.out]; rfl, show finS b m1 c1 op D S n = movS b m1 c1 op D S n from by unfold finS; rw [hsum.out, hmovH.out]; rfl, show finN c1 op = cy from by rw [hN.out, hsum.out, hmovH.out]; rfl]
      exact bodyPost_ret (results_ct Try.results17 _ _ (w.heap.size + 1 + 1) 28 (cpuC (movC b m1 c1 op D S n v)) _ rfl hres.out Try.underlying28 rfl (by kernel_rfl)) rfl ⟨rfl, hb.stable _ _ _ hr7 (below_put (Below.refl B _).drew (put_setRow _ _ _) (by omega)), KF.drew.put (put_setRow _ _ _) (Or.inl (by omega))⟩
  · refine (SM.out w5.heap.size (by omega) (by omega) _ (Kc5.out.alloc _) hd5 hi1).mono ?_
    rw [hsum]
    rintro e w6 ⟨rfl, hcF, k6, b6⟩
    have KrF := Lib.hid ((Kr5.out.alloc _).kp k6 (by omega) (by show ¬ (_ = _); omega))
    have hdF := hd5.kp k6 (by omega) (by show ¬ (_ = _); omega)
    have KF := (K5.alloc _).then k6 (fun i h1 h2 => absurd h2 (Nat.ne_of_lt h1))
    have hr6 := hb.stable _ _ _ (hb.stable _ _ _ hr5 (by repeat' (first | (with_reducible first | exact Below.refl _ _ | assumption | refine Below.alloc ?_ ?_ _ | refine Below.drew ?_ | refine below_drewN ?_ _ | refine Below.setCell ?_ ?_ _) | (simp; done) | omega | (simp; omega)))) (b6.mono hB)
    have hs6 := k6.size
    have hq6 : w5.heap.size + 1 ≤ w6.heap.size := by simpa using hs6
    clear hd5
    have hsumH := Lib.hid hsum
    have Kx := Lib.hid hcF
    have Kdx := Lib.hid hdF
    clear hcF hdF
    have e8 : (doC w.heap.size (.func (.func fg) #[] #[cg]) (.func (.func fp) #[] #[cp]) op D S n v cy)[8]? = some (.int .i64 cy) := rfl
    have hsx := KF.size
    clear fc lc c8 c9 c10 c11 c12 c13 c14 lb cb' fb lo co fo
    go_wp2_with fail
    refine wp_region_held_drew (S := fun W => Blk W (w.heap.size) ((cpuC (sumR c1 op D S n))) 28 ∧ Blk W (w5.heap.size) ((doC w.heap.size (.func (.func fg) #[] #[cg]) (.func (.func fp) #[] #[cp]) op D S n v cy)) 69) (by kernel_rfl) ⟨Blk.drew (show Blk _ (w.heap.size) ((cpuC (sumR c1 op D S n))) 28 from (by repeat' (first | (with_reducible first | exact Hid.out (by assumption) | exact Blk.new _ _ _ | (refine Blk.new_at _ _ _ _ ?_; simp; done) | refine Blk.alloc ?_ _ | refine Blk.drewN ?_ _ | refine Blk.drew ?_ | apply Blk.set | refine Blk.put ?_ (by assumption) (by first | (simp; done) | (simp; omega) | omega) | refine Blk.below ?_ (by assumption)) | (refine Blk.setAt ?_ (by first | (simp; done) | (simp; omega))) | rfl))), Blk.drew (show Blk _ (w5.heap.size) ((doC w.heap.size (.func (.func fg) #[] #[cg]) (.func (.func fp) #[] #[cp]) op D S n v cy)) 69 from (by repeat' (first | (with_reducible first | exact Hid.out (by assumption) | exact Blk.new _ _ _ | (refine Blk.new_at _ _ _ _ ?_; simp; done) | refine Blk.alloc ?_ _ | refine Blk.drewN ?_ _ | refine Blk.drew ?_ | apply Blk.set | refine Blk.put ?_ (by assumption) (by first | (simp; done) | (simp; omega) | omega) | refine Blk.below ?_ (by assumption)) | (refine Blk.setAt ?_ (by first | (simp; done) | (simp; omega))) | rfl)))⟩ (fun hS => ?_)
    refine wpAnyH_take (i := 0) rfl (by kernel_rfl) (by kernel_rfl) (by kernel_rfl) (fun _ _ _ h => h) (yields_loadA (by rfl) 28 (.tmp 3) rfl (w.heap.size) 0 15 rfl 28 (cpuC (sumR c1 op D S n)) (cpuC (sumR c1 op D S n)) (fun W hSw => hSw.1) _ Try.underlying28 rfl (by kernel_rfl) rfl rfl) hS ?_
    try simp only [List.getElem_toArray, List.getElem_cons_succ, List.getElem_cons_zero, Act.put, List.setIfInBounds_toArray, List.set_cons_zero, List.set_cons_succ]
    refine wpAnyH_take (i := 1) (v := ?v1_6) rfl (by kernel_rfl) (by kernel_rfl) (by kernel_rfl) (fun _ _ _ h => h) (Or.inl ⟨by rfl, ?y1_6⟩) hS ?_
    case y1_6 => (intro w hSw; go_simp; try with_reducible rfl)
    try simp only [List.getElem_toArray, List.getElem_cons_succ, List.getElem_cons_zero, Act.put, List.setIfInBounds_toArray, List.set_cons_zero, List.set_cons_succ]
    refine wpAnyH_take (i := 2) (v := ?v2_6) rfl (by kernel_rfl) (by kernel_rfl) (by kernel_rfl) (fun _ _ _ h => h) (Or.inl ⟨by rfl, ?y2_6⟩) hS ?_
    case y2_6 => (intro w hSw; have c0 := (hSw.1).cell; have c1 := (hSw.2).cell; go_simp; try with_reducible rfl)
    try simp only [List.getElem_toArray, List.getElem_cons_succ, List.getElem_cons_zero, Act.put, List.setIfInBounds_toArray, List.set_cons_zero, List.set_cons_succ]
    refine wpAnyH_ready (rs := [3]) (by kernel_rfl) (by simp) (AllReadyH.cons rfl (fun K hK => ?_) AllReadyH.nil)
    rw [if_pos (by rfl)]
    refine wp_store_row 28 (.tmp 6) (.tmp 67) rfl (w.heap.size + 1 + 1) (cpuC (sumR c1 op D S n)) rfl rfl 28 #[.int .u16 0, .int .u16 0, .int .u16 0, .int .u16 0, .int .u16 0, .int .u16 0, .int .u16 0, .int .u16 0, .int .u16 0, .bool false, .bool false, .bool false, .bool false, .bool false, .bool false] KrF.out.drew (by kernel_rfl) rfl (by simp [cpuC, Value.oneCell']) ?_
    have hres := Lib.hid (setRow_heap _ (w.heap.size + 1 + 1) _ (cpuC (sumR c1 op D S n)) 28 (0, 0) KrF.out.drew)
    refine hK.out _ _ ⟨Blk.put hS.1 (put_setRow _ _ _) (by omega), Blk.put hS.2 (put_setRow _ _ _) (by omega)⟩ (fun hS => ?_)
    clear hK K
    try simp only [List.getElem_toArray, List.getElem_cons_succ, List.getElem_cons_zero, Act.put, List.setIfInBounds_toArray, List.set_cons_zero, List.set_cons_succ]
    refine wpAnyH_take (i := 4) (v := ?v4c) rfl (by kernel_rfl) (by kernel_rfl) (by kernel_rfl) (fun _ _ _ h => h) (Or.inl ⟨by rfl, ?y4c⟩) hS ?_
    case y4c => (intro w hSw; go_simp; try with_reducible rfl)
    try simp only [List.getElem_toArray, List.getElem_cons_succ, List.getElem_cons_zero, Act.put, List.setIfInBounds_toArray, List.set_cons_zero, List.set_cons_succ]
    refine wpAnyH_done (by kernel_rfl) ?_ _
    go_wp2_with fail
    rw [show finC b m1 c1 op D S n v = sumR c1 op D S n from by unfold finC sumR; rw [hsumH.out]; rfl, show finS b m1 c1 op D S n = m1 from by unfold finS; rw [hsumH.out]; rfl, show finN c1 op = cy from by rw [hN.out, hsumH.out]; rfl]
    exact bodyPost_ret (results_ct Try.results17 _ _ (w.heap.size + 1 + 1) 28 (cpuC (sumR c1 op D S n)) _ rfl hres.out Try.underlying28 rfl (by kernel_rfl)) rfl ⟨rfl, hb.stable _ _ _ hr6 (below_put (Below.refl B _).drew (put_setRow _ _ _) (by omega)), KF.drew.put (put_setRow _ _ _) (Or.inl (by omega))⟩

theorem do_1_1 {fg fp : FuncId} {cg cp : Value} {σ : Type} {b : Bus σ} {Rel : World → σ → Prop} {B : Nat} (hb : BusOk Try.prog fg fp cg cp b Rel B) (m : σ) (c : Cp) (hi : c.In) (w : World) (hr : Rel w m) (hB : B ≤ w.heap.size) (hmay : c.may = false) (hwt : c.wt = false) (op : Int) (D S : Nat) (n : Int)
    (eO : readO (wV b m c.pc) 0 = ⟨op, D, S, n, 0⟩) (eL : readL (wV b m c.pc) = 1) (hD : D < 8) (hS8 : S < 8) (hn : -16 ≤ n ∧ n ≤ 15) (hsh : op = 12 ∨ op = 13 → 0 ≤ n) (h0 : 0 ≤ op) (h1 : op < 32) (h30 : op ≠ 30) :
    Calls Try.prog 17 #[.agg (cpuC c), .agg #[.func (.func fg) #[] #[cg], .func (.func fp) #[] #[cp]], .bool true] w fun e w' => e = .returned (.tuple #[.agg (cpuC (finC b (wS b m c.pc) (c.go ((c.pc + 2) % 65536)) op D S n 0)), .int .i64 (finN (c.go ((c.pc + 2) % 65536)) op)]) ∧ Rel w' (finS b (wS b m c.pc) (c.go ((c.pc + 2) % 65536)) op D S n) ∧ Kp B NoX w w' := by
  have HR := Lib.hid (fun w' (h : Below B w w') => hb.stable w w' m hr h)
  have ha : U16 (wV b m c.pc) := wV_u hb m c.pc
  have W1 := Lib.hid (fun w' => word_any hb m c.pc hi.2 w')
  have rd := read_any (wV b m c.pc) 0 ha (by unfold U16; omega)
  rw [eO, eL] at rd
  have RD := Lib.hid rd
  have CY := Lib.hid (cycles_any op h0 h1 h30)
  have hcy := cyc_b op h0 h1
  have hp2 : IntKind.u16.wrap (c.pc + 2) = (c.pc + 2) % 65536 := wrap16 _
  have hp4 : IntKind.u16.wrap (c.pc + 4) = (c.pc + 4) % 65536 := wrap16 _
  have hpu : U16 ((c.pc + 2) % 65536) := by unfold U16; omega
  have hi1 : (c.go ((c.pc + 2) % 65536)).In := go_in hi hpu
  have hvu : U16 0 := by unfold U16; omega
  have hc0 : ∀ W, Blk W w.heap.size #[.int .u16 (c.r 0), .int .u16 (c.r 1), .int .u16 (c.r 2), .int .u16 (c.r 3), .int .u16 (c.r 4), .int .u16 (c.r 5), .int .u16 (c.r 6), .int .u16 (c.r 7), .int .u16 c.pc, .bool c.z, .bool c.n, .bool c.c, .bool c.v, .bool false, .bool false] 28 → Blk W w.heap.size (cpuC c) 28 := fun W h => by unfold cpuC; rw [hwt, hmay]; exact h
  obtain ⟨cy, ecy⟩ : ∃ cy, cy = cycO op := ⟨_, rfl⟩
  rw [← ecy] at CY hcy
  replace ecy := Lib.hid ecy
  obtain ⟨a, ea⟩ : ∃ a, a = wV b m c.pc := ⟨_, rfl⟩
  rw [← ea] at W1 RD
  obtain ⟨m1, em⟩ : ∃ m1, m1 = (wS b m c.pc) := ⟨_, rfl⟩
  obtain ⟨c1, ec⟩ : ∃ c1, c1 = (c.go ((c.pc + 2) % 65536)) := ⟨_, rfl⟩
  rw [← em, ← ec]
  rw [← ec] at hi1
  rw [← em] at W1
  replace em := Lib.hid em
  have hcc : cpuC (c.go ((c.pc + 2) % 65536)) = cpuC c1 := by rw [ec]
  replace ec := Lib.hid ec
  have HCC := Lib.hid hcc
  clear ha rd eO eL ea hcc hr
  rw [show (#[.agg (cpuC c), .agg #[.func (.func fg) #[] #[cg], .func (.func fp) #[] #[cp]], .bool true] : Array Value) = #[.agg #[.int .u16 (c.r 0), .int .u16 (c.r 1), .int .u16 (c.r 2), .int .u16 (c.r 3), .int .u16 (c.r 4), .int .u16 (c.r 5), .int .u16 (c.r 6), .int .u16 (c.r 7), .int .u16 c.pc, .bool c.z, .bool c.n, .bool c.c, .bool c.v, .bool false, .bool false], .agg #[.func (.func fg) #[] #[cg], .func (.func fp) #[] #[cp]], .bool true] from by unfold cpuC; rw [hwt, hmay]]
  have hd1 : 0 ≤ wordsN op ∧ wordsN op ≤ 2 := by unfold wordsN; split <;> omega
  generalize wordsN op = wn at *
  go_enter Try.func17, Try.ntmps17
  go_wp2_with (first | ((with_reducible show wpList _ _ _ _ _ _); refine wpList_loadW rfl 52 (.tmp 4) rfl (w.heap.size + 1) rfl 52 #[.func (.func fg) #[] #[cg], .func (.func fp) #[] #[cp]] (show Blk _ (w.heap.size + 1) #[.func (.func fg) #[] #[cg], .func (.func fp) #[] #[cp]] 52 from (by repeat' (first | (with_reducible first | exact Hid.out (by assumption) | exact Blk.new _ _ _ | (refine Blk.new_at _ _ _ _ ?_; simp; done) | refine Blk.alloc ?_ _ | refine Blk.drewN ?_ _ | refine Blk.drew ?_ | apply Blk.set | refine Blk.put ?_ (by assumption) (by first | (simp; done) | (simp; omega) | omega) | refine Blk.below ?_ (by assumption)) | (refine Blk.setAt ?_ (by first | (simp; done) | (simp; omega))) | rfl))) _ Try.underlying52 rfl (by kernel_rfl) ?_))
  refine (W1.out _ (HR.out _ (by repeat' (first | (with_reducible first | exact Below.refl _ _ | assumption | refine Below.alloc ?_ ?_ _ | refine Below.drew ?_ | refine below_drewN ?_ _ | refine Below.setCell ?_ ?_ _) | (simp; done) | omega | (simp; omega)))) (by first | omega | (simp; omega))).mono ?_
  rintro e w1 ⟨rfl, hr1, k1⟩
  have Kc1 := Lib.hid ((hc0 _ (by repeat' (first | (with_reducible first | exact Hid.out (by assumption) | exact Blk.new _ _ _ | (refine Blk.new_at _ _ _ _ ?_; simp; done) | refine Blk.alloc ?_ _ | refine Blk.drewN ?_ _ | refine Blk.drew ?_ | apply Blk.set | refine Blk.put ?_ (by assumption) (by first | (simp; done) | (simp; omega) | omega) | refine Blk.below ?_ (by assumption)) | (refine Blk.setAt ?_ (by first | (simp; done) | (simp; omega))) | rfl))).kp k1 hB id)
  have Kb1 := Lib.hid ((show Blk _ (w.heap.size + 1) #[.func (.func fg) #[] #[cg], .func (.func fp) #[] #[cp]] 52 from (by repeat' (first | (with_reducible first | exact Hid.out (by assumption) | exact Blk.new _ _ _ | (refine Blk.new_at _ _ _ _ ?_; simp; done) | refine Blk.alloc ?_ _ | refine Blk.drewN ?_ _ | refine Blk.drew ?_ | apply Blk.set | refine Blk.put ?_ (by assumption) (by first | (simp; done) | (simp; omega) | omega) | refine Blk.below ?_ (by assumption)) | (refine Blk.setAt ?_ (by first | (simp; done) | (simp; omega))) | rfl))).kp k1 (by omega) id)
  have Kr1 := Lib.hid ((show Blk _ (w.heap.size + 1 + 1) #[.int .u16 0, .int .u16 0, .int .u16 0, .int .u16 0, .int .u16 0, .int .u16 0, .int .u16 0, .int .u16 0, .int .u16 0, .bool false, .bool false, .bool false, .bool false, .bool false, .bool false] 28 from (by repeat' (first | (with_reducible first | exact Hid.out (by assumption) | exact Blk.new _ _ _ | (refine Blk.new_at _ _ _ _ ?_; simp; done) | refine Blk.alloc ?_ _ | refine Blk.drewN ?_ _ | refine Blk.drew ?_ | apply Blk.set | refine Blk.put ?_ (by assumption) (by first | (simp; done) | (simp; omega) | omega) | refine Blk.below ?_ (by assumption)) | (refine Blk.setAt ?_ (by first | (simp; done) | (simp; omega))) | rfl))).kp k1 (by omega) id)
  have K1 : Kp B NoX w w1 := Kp.then (by repeat' (first | (with_reducible first | exact Kp.refl _ _ _ | assumption | refine Kp.alloc ?_ _ | refine Kp.drew ?_ | refine Kp.drewN ?_ _ | refine Kp.setCell ?_ ?_) | (right; rfl) | (left; simp; done) | (left; omega) | (left; simp; omega))) k1 (fun _ _ h => h)
  have hs1 := k1.size
  have hq1 : w.heap.size + 3 ≤ w1.heap.size := by simpa using hs1
  go_wp2_with (first | ((with_reducible show wpList _ _ _ _ _ _); refine wpList_loadW rfl 52 (.tmp 4) rfl (w.heap.size + 1) rfl 52 #[.func (.func fg) #[] #[cg], .func (.func fp) #[] #[cp]] (show Blk _ (w.heap.size + 1) #[.func (.func fg) #[] #[cg], .func (.func fp) #[] #[cp]] 52 from (by repeat' (first | (with_reducible first | exact Hid.out (by assumption) | exact Blk.new _ _ _ | (refine Blk.new_at _ _ _ _ ?_; simp; done) | refine Blk.alloc ?_ _ | refine Blk.drewN ?_ _ | refine Blk.drew ?_ | apply Blk.set | refine Blk.put ?_ (by assumption) (by first | (simp; done) | (simp; omega) | omega) | refine Blk.below ?_ (by assumption)) | (refine Blk.setAt ?_ (by first | (simp; done) | (simp; omega))) | rfl))) _ Try.underlying52 rfl (by kernel_rfl) ?_))
  refine (RD.out _).mono ?_
  rintro e w2 ⟨rfl, hb2⟩
  have hs2 := hb2.size
  have Kc2 := Lib.hid (Kc1.out.below hb2)
  have Kb2 := Lib.hid (Kb1.out.below hb2)
  have Kr2 := Lib.hid (Kr1.out.below hb2)
  have K2 := K1.below hb2 K1.size
  have hr2 := hb.below hr1 hb2 (by omega)
  obtain ⟨lc, cc, fc⟩ := Kc2.out.use
  have c8 : w2.cell? ⟨w.heap.size, 8, none⟩ = some (.int .u16 c.pc) := Kc2.out.cell 8
  obtain ⟨lb, cb', fb⟩ := Kb2.out.use
  clear cc
  go_wp2_with (first | ((with_reducible show wpList _ _ _ _ _ _); refine wpList_loadW rfl 52 (.tmp 4) rfl (w.heap.size + 1) rfl 52 #[.func (.func fg) #[] #[cg], .func (.func fp) #[] #[cp]] (show Blk _ (w.heap.size + 1) #[.func (.func fg) #[] #[cg], .func (.func fp) #[] #[cp]] 52 from (by repeat' (first | (with_reducible first | exact Hid.out (by assumption) | exact Blk.new _ _ _ | (refine Blk.new_at _ _ _ _ ?_; simp; done) | refine Blk.alloc ?_ _ | refine Blk.drewN ?_ _ | refine Blk.drew ?_ | apply Blk.set | refine Blk.put ?_ (by assumption) (by first | (simp; done) | (simp; omega) | omega) | refine Blk.below ?_ (by assumption)) | (refine Blk.setAt ?_ (by first | (simp; done) | (simp; omega))) | rfl))) _ Try.underlying52 rfl (by kernel_rfl) ?_))
  refine (CY.out _).mono ?_
  rintro e w5 ⟨rfl, hb5⟩
  have Kc5 := Lib.hid ((show Blk _ w.heap.size (cpuC (c.go ((c.pc + 2) % 65536))) 28 from (by repeat' (first | (with_reducible first | exact Hid.out (by assumption) | exact Blk.new _ _ _ | (refine Blk.new_at _ _ _ _ ?_; simp; done) | refine Blk.alloc ?_ _ | refine Blk.drewN ?_ _ | refine Blk.drew ?_ | apply Blk.set | refine Blk.put ?_ (by assumption) (by first | (simp; done) | (simp; omega) | omega) | refine Blk.below ?_ (by assumption)) | (refine Blk.setAt ?_ (by first | (simp; done) | (simp; omega))) | rfl))).below hb5)
  rw [HCC.out] at Kc5
  have Kb5 := Lib.hid ((show Blk _ (w.heap.size + 1) #[.func (.func fg) #[] #[cg], .func (.func fp) #[] #[cp]] 52 from (by repeat' (first | (with_reducible first | exact Hid.out (by assumption) | exact Blk.new _ _ _ | (refine Blk.new_at _ _ _ _ ?_; simp; done) | refine Blk.alloc ?_ _ | refine Blk.drewN ?_ _ | refine Blk.drew ?_ | apply Blk.set | refine Blk.put ?_ (by assumption) (by first | (simp; done) | (simp; omega) | omega) | refine Blk.below ?_ (by assumption)) | (refine Blk.setAt ?_ (by first | (simp; done) | (simp; omega))) | rfl))).below hb5)
  have Kr5 := Lib.hid ((show Blk _ (w.heap.size + 1 + 1) #[.int .u16 0, .int .u16 0, .int .u16 0, .int .u16 0, .int .u16 0, .int .u16 0, .int .u16 0, .int .u16 0, .int .u16 0, .bool false, .bool false, .bool false, .bool false, .bool false, .bool false] 28 from (by repeat' (first | (with_reducible first | exact Hid.out (by assumption) | exact Blk.new _ _ _ | (refine Blk.new_at _ _ _ _ ?_; simp; done) | refine Blk.alloc ?_ _ | refine Blk.drewN ?_ _ | refine Blk.drew ?_ | apply Blk.set | refine Blk.put ?_ (by assumption) (by first | (simp; done) | (simp; omega) | omega) | refine Blk.below ?_ (by assumption)) | (refine Blk.setAt ?_ (by first | (simp; done) | (simp; omega))) | rfl))).below hb5)
  have Ko5 := Lib.hid ((show Blk _ w2.heap.size #[.int .i64 op, .int .i64 D, .int .i64 S, .int .i64 n, .int .i64 0] 43 from (by repeat' (first | (with_reducible first | exact Hid.out (by assumption) | exact Blk.new _ _ _ | (refine Blk.new_at _ _ _ _ ?_; simp; done) | refine Blk.alloc ?_ _ | refine Blk.drewN ?_ _ | refine Blk.drew ?_ | apply Blk.set | refine Blk.put ?_ (by assumption) (by first | (simp; done) | (simp; omega) | omega) | refine Blk.below ?_ (by assumption)) | (refine Blk.setAt ?_ (by first | (simp; done) | (simp; omega))) | rfl))).below hb5)
  have K5 : Kp B NoX w w5 := Kp.below (by repeat' (first | (with_reducible first | assumption | refine Kp.alloc ?_ _ | refine Kp.drew ?_ | refine Kp.drewN ?_ _ | refine Kp.setCell ?_ ?_) | (left; simp; done) | (left; omega) | (left; simp; omega))) hb5 (by first | omega | (simp; omega))
  have hr5 : Rel w5 m1 := hb.stable _ _ _ (hb.stable _ _ _ hr2 (by repeat' (first | (with_reducible first | exact Below.refl _ _ | assumption | refine Below.alloc ?_ ?_ _ | refine Below.drew ?_ | refine below_drewN ?_ _ | refine Below.setCell ?_ ?_ _) | (simp; done) | omega | (simp; omega)))) (hb5.mono (by first | omega | (simp; omega)))
  have hs5 := hb5.size
  have hq5 : w2.heap.size + 1 ≤ w5.heap.size := by simpa using hs5
  clear lc c8 fc lb cb' fb 
  obtain ⟨c0, c0', fc, lc, c8, c9, c10, c11, c12, c13, c14⟩ := Kc5.out.cp (D := 0) (S := 0) (by omega) (by omega)
  clear c0 c0'
  obtain ⟨lb, cb', fb⟩ := Kb5.out.use
  obtain ⟨lo, co, fo⟩ := Ko5.out.use
  have hN : finN c1 op = (if isSum op then cy else if isMov op then cy else goY c1 op cy) := by unfold finN; rw [← ecy.out]
  replace hN := Lib.hid hN
  have SM := Lib.hid (fun db hB2 hne w' => sums_any c1 op D S n 0 cy (.func (.func fg) #[] #[cg]) (.func (.func fp) #[] #[cp]) hD hS8 hn hsh w.heap.size db B hB hB2 hne w')
  go_wp2_with (first | ((with_reducible show wpList _ _ _ _ _ _); refine wpList_loadW rfl 52 (.tmp 4) rfl (w.heap.size + 1) rfl 52 #[.func (.func fg) #[] #[cg], .func (.func fp) #[] #[cp]] (show Blk _ (w.heap.size + 1) #[.func (.func fg) #[] #[cg], .func (.func fp) #[] #[cp]] 52 from (by repeat' (first | (with_reducible first | exact Hid.out (by assumption) | exact Blk.new _ _ _ | (refine Blk.new_at _ _ _ _ ?_; simp; done) | refine Blk.alloc ?_ _ | refine Blk.drewN ?_ _ | refine Blk.drew ?_ | apply Blk.set | refine Blk.put ?_ (by assumption) (by first | (simp; done) | (simp; omega) | omega) | refine Blk.below ?_ (by assumption)) | (refine Blk.setAt ?_ (by first | (simp; done) | (simp; omega))) | rfl))) _ Try.underlying52 rfl (by kernel_rfl) ?_) | ((with_reducible show wpList _ _ _ _ _ _); refine wpList_loadW rfl 43 (.tmp 8) rfl (w2.heap.size) rfl 43 #[.int .i64 op, .int .i64 D, .int .i64 S, .int .i64 n, .int .i64 0] (show Blk _ (w2.heap.size) #[.int .i64 op, .int .i64 D, .int .i64 S, .int .i64 n, .int .i64 0] 43 from (by repeat' (first | (with_reducible first | exact Hid.out (by assumption) | exact Blk.new _ _ _ | (refine Blk.new_at _ _ _ _ ?_; simp; done) | refine Blk.alloc ?_ _ | refine Blk.drewN ?_ _ | refine Blk.drew ?_ | apply Blk.set | refine Blk.put ?_ (by assumption) (by first | (simp; done) | (simp; omega) | omega) | refine Blk.below ?_ (by assumption)) | (refine Blk.setAt ?_ (by first | (simp; done) | (simp; omega))) | rfl))) _ Try.underlying43 rfl (by kernel_rfl) ?_))
  have hd5 : Blk (w5.alloc (.cells (doC w.heap.size (.func (.func fg) #[] #[cg]) (.func (.func fp) #[] #[cp]) op D S n 0 cy) 69)) w5.heap.size (doC w.heap.size (.func (.func fg) #[] #[cg]) (.func (.func fp) #[] #[cp]) op D S n 0 cy) 69 := Blk.new _ _ _
  cases hsum : isSum op
  · refine (SM.out w5.heap.size (by omega) (by omega) _ (Kc5.out.alloc _) hd5 hi1).mono ?_
    rw [hsum, sumR_no hsum]
    rintro e w6 ⟨rfl, hc6, k6, b6⟩
    have Kr6 := Lib.hid ((Kr5.out.alloc _).kp k6 (by omega) (by show ¬ (_ = _); omega))
    have Kd6 := Lib.hid (hd5.kp k6 (by omega) (by show ¬ (_ = _); omega))
    have K6 := (K5.alloc _).then k6 (fun i h1 h2 => absurd h2 (Nat.ne_of_lt h1))
    have hr6 := hb.stable _ _ _ (hb.stable _ _ _ hr5 (by repeat' (first | (with_reducible first | exact Below.refl _ _ | assumption | refine Below.alloc ?_ ?_ _ | refine Below.drew ?_ | refine below_drewN ?_ _ | refine Below.setCell ?_ ?_ _) | (simp; done) | omega | (simp; omega)))) (b6.mono hB)
    have hs6 := k6.size
    have hq6 : w5.heap.size + 1 ≤ w6.heap.size := by simpa using hs6
    have Kc6 := Lib.hid hc6
    clear hc6 hd5
    have MV := Lib.hid (moves_any hb m1 c1 op D S n 0 cy hD hS8 hn hvu w.heap.size w5.heap.size hB (by omega) (by omega) w6 hr6 Kc6.out Kd6.out hi1)
    replace hsum := Lib.hid hsum
    go_wp2_with fail
    refine MV.out.mono ?_
    cases hmov : isMov op
    · rw [(movC_no hmov).1, (movC_no (v := 0) hmov).2]
      rintro e w7 ⟨rfl, hc7, hr7, k7⟩
      have Kr7 := Lib.hid (Kr6.out.kp k7 (by omega) (by show ¬ (_ = _); omega))
      have Kd7 := Lib.hid (Kd6.out.kp k7 (by omega) (by show ¬ (_ = _); omega))
      have K7 := K6.then k7 (fun i h1 h2 => absurd h2 (Nat.ne_of_lt h1))
      have hs7 := k7.size
      have Kc7 := Lib.hid hc7
      clear hc7
      have GO := Lib.hid (goes_any hb m1 c1 op D S n 0 cy hvu hcy w.heap.size w5.heap.size hB (by omega) (by omega) w7 hr7 Kc7.out Kd7.out hi1)
      replace hmov := Lib.hid hmov
      go_wp2_with fail
      refine GO.out.mono ?_
      rintro e w8 ⟨rfl, hcF, hdF, hr8, k8⟩
      have KrF := Lib.hid (Kr7.out.kp k8 (by omega) (by show ¬ (_ ∨ _); omega))
      have KF := K7.then k8 (fun i h1 h2 => h2.elim (fun h => absurd h (Nat.ne_of_lt h1)) (fun h => absurd h (by omega)))
      have hs8 := k8.size
      have Kx := Lib.hid hcF
      have Kdx := Lib.hid hdF
      clear hcF hdF
      have e8 : (doC w.heap.size (.func (.func fg) #[] #[cg]) (.func (.func fp) #[] #[cp]) op D S n 0 (goY c1 op cy))[8]? = some (.int .i64 (goY c1 op cy)) := rfl
      have hsx := KF.size
      clear fc lc c8 c9 c10 c11 c12 c13 c14 lb cb' fb lo co fo
      go_wp2_with fail
      refine wp_region_held_drew (S := fun W => Blk W (w.heap.size) ((cpuC (goC b m1 c1 op 0))) 28 ∧ Blk W (w5.heap.size) ((doC w.heap.size (.func (.func fg) #[] #[cg]) (.func (.func fp) #[] #[cp]) op D S n 0 (goY c1 op cy))) 69) (by kernel_rfl) ⟨Blk.drew (show Blk _ (w.heap.size) ((cpuC (goC b m1 c1 op 0))) 28 from (by repeat' (first | (with_reducible first | exact Hid.out (by assumption) | exact Blk.new _ _ _ | (refine Blk.new_at _ _ _ _ ?_; simp; done) | refine Blk.alloc ?_ _ | refine Blk.drewN ?_ _ | refine Blk.drew ?_ | apply Blk.set | refine Blk.put ?_ (by assumption) (by first | (simp; done) | (simp; omega) | omega) | refine Blk.below ?_ (by assumption)) | (refine Blk.setAt ?_ (by first | (simp; done) | (simp; omega))) | rfl))), Blk.drew (show Blk _ (w5.heap.size) ((doC w.heap.size (.func (.func fg) #[] #[cg]) (.func (.func fp) #[] #[cp]) op D S n 0 (goY c1 op cy))) 69 from (by repeat' (first | (with_reducible first | exact Hid.out (by assumption) | exact Blk.new _ _ _ | (refine Blk.new_at _ _ _ _ ?_; simp; done) | refine Blk.alloc ?_ _ | refine Blk.drewN ?_ _ | refine Blk.drew ?_ | apply Blk.set | refine Blk.put ?_ (by assumption) (by first | (simp; done) | (simp; omega) | omega) | refine Blk.below ?_ (by assumption)) | (refine Blk.setAt ?_ (by first | (simp; done) | (simp; omega))) | rfl)))⟩ (fun hS => ?_)
      refine wpAnyH_take (i := 0) rfl (by kernel_rfl) (by kernel_rfl) (by kernel_rfl) (fun _ _ _ h => h) (yields_loadA (by rfl) 28 (.tmp 3) rfl (w.heap.size) 0 15 rfl 28 (cpuC (goC b m1 c1 op 0)) (cpuC (goC b m1 c1 op 0)) (fun W hSw => hSw.1) _ Try.underlying28 rfl (by kernel_rfl) rfl rfl) hS ?_
      try simp only [List.getElem_toArray, List.getElem_cons_succ, List.getElem_cons_zero, Act.put, List.setIfInBounds_toArray, List.set_cons_zero, List.set_cons_succ]
      refine wpAnyH_take (i := 1) (v := ?v1_7) rfl (by kernel_rfl) (by kernel_rfl) (by kernel_rfl) (fun _ _ _ h => h) (Or.inl ⟨by rfl, ?y1_7⟩) hS ?_
      case y1_7 => (intro w hSw; go_simp; try with_reducible rfl)
      try simp only [List.getElem_toArray, List.getElem_cons_succ, List.getElem_cons_zero, Act.put, List.setIfInBounds_toArray, List.set_cons_zero, List.set_cons_succ]
      refine wpAnyH_take (i := 2) (v := ?v2_7) rfl (by kernel_rfl) (by kernel_rfl) (by kernel_rfl) (fun _ _ _ h => h) (Or.inl ⟨by rfl, ?y2_7⟩) hS ?_
      case y2_7 => (intro w hSw; have c0 := (hSw.1).cell; have c1 := (hSw.2).cell; go_simp; try with_reducible rfl)
      try simp only [List.getElem_toArray, List.getElem_cons_succ, List.getElem_cons_zero, Act.put, List.setIfInBounds_toArray, List.set_cons_zero, List.set_cons_succ]
      refine wpAnyH_ready (rs := [3]) (by kernel_rfl) (by simp) (AllReadyH.cons rfl (fun K hK => ?_) AllReadyH.nil)
      rw [if_pos (by rfl)]
      refine wp_store_row 28 (.tmp 6) (.tmp 67) rfl (w.heap.size + 1 + 1) (cpuC (goC b m1 c1 op 0)) rfl rfl 28 #[.int .u16 0, .int .u16 0, .int .u16 0, .int .u16 0, .int .u16 0, .int .u16 0, .int .u16 0, .int .u16 0, .int .u16 0, .bool false, .bool false, .bool false, .bool false, .bool false, .bool false] KrF.out.drew (by kernel_rfl) rfl (by simp [cpuC, Value.oneCell']) ?_
      have hres := Lib.hid (setRow_heap _ (w.heap.size + 1 + 1) _ (cpuC (goC b m1 c1 op 0)) 28 (0, 0) KrF.out.drew)
      refine hK.out _ _ ⟨Blk.put hS.1 (put_setRow _ _ _) (by omega), Blk.put hS.2 (put_setRow _ _ _) (by omega)⟩ (fun hS => ?_)
      clear hK K
      try simp only [List.getElem_toArray, List.getElem_cons_succ, List.getElem_cons_zero, Act.put, List.setIfInBounds_toArray, List.set_cons_zero, List.set_cons_succ]
      refine wpAnyH_take (i := 4) (v := ?v4) rfl (by kernel_rfl) (by kernel_rfl) (by kernel_rfl) (fun _ _ _ h => h) (Or.inl ⟨by rfl, ?y4⟩) hS ?_
      case y4 => (intro w hSw; go_simp; try with_reducible rfl)
      try simp only [List.getElem_toArray, List.getElem_cons_succ, List.getElem_cons_zero, Act.put, List.setIfInBounds_toArray, List.set_cons_zero, List.set_cons_succ]
      refine wpAnyH_done (by kernel_rfl) ?_ _
      go_wp2_with fail
      rw [show finC b m1 c1 op D S n 0 = goC b m1 c1 op 0 from by unfold finC; rw [hsum.out, hmov.out]; rfl, show finS b m1 c1 op D S n = goS b m1 c1 op from by unfold finS; rw [hsum.out, hmov.out]; rfl, show finN c1 op = goY c1 op cy from by rw [hN.out, hsum.out, hmov.out]; rfl]
      exact bodyPost_ret (results_ct Try.results17 _ _ (w.heap.size + 1 + 1) 28 (cpuC (goC b m1 c1 op 0)) _ rfl hres.out Try.underlying28 rfl (by kernel_rfl)) rfl ⟨rfl, hb.stable _ _ _ hr8 (below_put (Below.refl B _).drew (put_setRow _ _ _) (by omega)), KF.drew.put (put_setRow _ _ _) (Or.inl (by omega))⟩
    · rintro e w7 ⟨rfl, hcF, hr7, k7⟩
      have KrF := Lib.hid (Kr6.out.kp k7 (by omega) (by show ¬ (_ = _); omega))
      have hdF := Kd6.out.kp k7 (by omega) (by show ¬ (_ = _); omega)
      have KF := K6.then k7 (fun i h1 h2 => absurd h2 (Nat.ne_of_lt h1))
      have hs7 := k7.size
      have hmovH := Lib.hid hmov
      have Kx := Lib.hid hcF
      have Kdx := Lib.hid hdF
      clear hcF hdF
      have e8 : (doC w.heap.size (.func (.func fg) #[] #[cg]) (.func (.func fp) #[] #[cp]) op D S n 0 cy)[8]? = some (.int .i64 cy) := rfl
      have hsx := KF.size
      clear fc lc c8 c9 c10 c11 c12 c13 c14 lb cb' fb lo co fo
      go_wp2_with fail
      refine wp_region_held_drew (S := fun W => Blk W (w.heap.size) ((cpuC (movC b m1 c1 op D S n 0))) 28 ∧ Blk W (w5.heap.size) ((doC w.heap.size (.func (.func fg) #[] #[cg]) (.func (.func fp) #[] #[cp]) op D S n 0 cy)) 69) (by kernel_rfl) ⟨Blk.drew (show Blk _ (w.heap.size) ((cpuC (movC b m1 c1 op D S n 0))) 28 from (by repeat' (first | (with_reducible first | exact Hid.out (by assumption) | exact Blk.new _ _ _ | (refine Blk.new_at _ _ _ _ ?_; simp; done) | refine Blk.alloc ?_ _ | refine Blk.drewN ?_ _ | refine Blk.drew ?_ | apply Blk.set | refine Blk.put ?_ (by assumption) (by first | (simp; done) | (simp; omega) | omega) | refine Blk.below ?_ (by assumption)) | (refine Blk.setAt ?_ (by first | (simp; done) | (simp; omega))) | rfl))), Blk.drew (show Blk _ (w5.heap.size) ((doC w.heap.size (.func (.func fg) #[] #[cg]) (.func (.func fp) #[] #[cp]) op D S n 0 cy)) 69 from (by repeat' (first | (with_reducible first | exact Hid.out (by assumption) | exact Blk.new _ _ _ | (refine Blk.new_at _ _ _ _ ?_; simp; done) | refine Blk.alloc ?_ _ | refine Blk.drewN ?_ _ | refine Blk.drew ?_ | apply Blk.set | refine Blk.put ?_ (by assumption) (by first | (simp; done) | (simp; omega) | omega) | refine Blk.below ?_ (by assumption)) | (refine Blk.setAt ?_ (by first | (simp; done) | (simp; omega))) | rfl)))⟩ (fun hS => ?_)
      refine wpAnyH_take (i := 0) rfl (by kernel_rfl) (by kernel_rfl) (by kernel_rfl) (fun _ _ _ h => h) (yields_loadA (by rfl) 28 (.tmp 3) rfl (w.heap.size) 0 15 rfl 28 (cpuC (movC b m1 c1 op D S n 0)) (cpuC (movC b m1 c1 op D S n 0)) (fun W hSw => hSw.1) _ Try.underlying28 rfl (by kernel_rfl) rfl rfl) hS ?_
      try simp only [List.getElem_toArray, List.getElem_cons_succ, List.getElem_cons_zero, Act.put, List.setIfInBounds_toArray, List.set_cons_zero, List.set_cons_succ]
      refine wpAnyH_take (i := 1) (v := ?v1_8) rfl (by kernel_rfl) (by kernel_rfl) (by kernel_rfl) (fun _ _ _ h => h) (Or.inl ⟨by rfl, ?y1_8⟩) hS ?_
      case y1_8 => (intro w hSw; go_simp; try with_reducible rfl)
      try simp only [List.getElem_toArray, List.getElem_cons_succ, List.getElem_cons_zero, Act.put, List.setIfInBounds_toArray, List.set_cons_zero, List.set_cons_succ]
      refine wpAnyH_take (i := 2) (v := ?v2_8) rfl (by kernel_rfl) (by kernel_rfl) (by kernel_rfl) (fun _ _ _ h => h) (Or.inl ⟨by rfl, ?y2_8⟩) hS ?_
      case y2_8 => (intro w hSw; have c0 := (hSw.1).cell; have c1 := (hSw.2).cell; go_simp; try with_reducible rfl)
      try simp only [List.getElem_toArray, List.getElem_cons_succ, List.getElem_cons_zero, Act.put, List.setIfInBounds_toArray, List.set_cons_zero, List.set_cons_succ]
      refine wpAnyH_ready (rs := [3]) (by kernel_rfl) (by simp) (AllReadyH.cons rfl (fun K hK => ?_) AllReadyH.nil)
      rw [if_pos (by rfl)]
      refine wp_store_row 28 (.tmp 6) (.tmp 67) rfl (w.heap.size + 1 + 1) (cpuC (movC b m1 c1 op D S n 0)) rfl rfl 28 #[.int .u16 0, .int .u16 0, .int .u16 0, .int .u16 0, .int .u16 0, .int .u16 0, .int .u16 0, .int .u16 0, .int .u16 0, .bool false, .bool false, .bool false, .bool false, .bool false, .bool false] KrF.out.drew (by kernel_rfl) rfl (by simp [cpuC, Value.oneCell']) ?_
      have hres := Lib.hid (setRow_heap _ (w.heap.size + 1 + 1) _ (cpuC (movC b m1 c1 op D S n 0)) 28 (0, 0) KrF.out.drew)
      refine hK.out _ _ ⟨Blk.put hS.1 (put_setRow _ _ _) (by omega), Blk.put hS.2 (put_setRow _ _ _) (by omega)⟩ (fun hS => ?_)
      clear hK K
      try simp only [List.getElem_toArray, List.getElem_cons_succ, List.getElem_cons_zero, Act.put, List.setIfInBounds_toArray, List.set_cons_zero, List.set_cons_succ]
      refine wpAnyH_take (i := 4) (v := ?v4b) rfl (by kernel_rfl) (by kernel_rfl) (by kernel_rfl) (fun _ _ _ h => h) (Or.inl ⟨by rfl, ?y4b⟩) hS ?_
      case y4b => (intro w hSw; go_simp; try with_reducible rfl)
      try simp only [List.getElem_toArray, List.getElem_cons_succ, List.getElem_cons_zero, Act.put, List.setIfInBounds_toArray, List.set_cons_zero, List.set_cons_succ]
      refine wpAnyH_done (by kernel_rfl) ?_ _
      go_wp2_with fail
      rw [show finC b m1 c1 op D S n 0 = movC b m1 c1 op D S n 0 from by unfold finC; rw [hsum.out, hmovH.out]; rfl, show finS b m1 c1 op D S n = movS b m1 c1 op D S n from by unfold finS; rw [hsum.out, hmovH.out]; rfl, show finN c1 op = cy from by rw [hN.out, hsum.out, hmovH.out]; rfl]
      exact bodyPost_ret (results_ct Try.results17 _ _ (w.heap.size + 1 + 1) 28 (cpuC (movC b m1 c1 op D S n 0)) _ rfl hres.out Try.underlying28 rfl (by kernel_rfl)) rfl ⟨rfl, hb.stable _ _ _ hr7 (below_put (Below.refl B _).drew (put_setRow _ _ _) (by omega)), KF.drew.put (put_setRow _ _ _) (Or.inl (by omega))⟩
  · refine (SM.out w5.heap.size (by omega) (by omega) _ (Kc5.out.alloc _) hd5 hi1).mono ?_
    rw [hsum]
    rintro e w6 ⟨rfl, hcF, k6, b6⟩
    have KrF := Lib.hid ((Kr5.out.alloc _).kp k6 (by omega) (by show ¬ (_ = _); omega))
    have hdF := hd5.kp k6 (by omega) (by show ¬ (_ = _); omega)
    have KF := (K5.alloc _).then k6 (fun i h1 h2 => absurd h2 (Nat.ne_of_lt h1))
    have hr6 := hb.stable _ _ _ (hb.stable _ _ _ hr5 (by repeat' (first | (with_reducible first | exact Below.refl _ _ | assumption | refine Below.alloc ?_ ?_ _ | refine Below.drew ?_ | refine below_drewN ?_ _ | refine Below.setCell ?_ ?_ _) | (simp; done) | omega | (simp; omega)))) (b6.mono hB)
    have hs6 := k6.size
    have hq6 : w5.heap.size + 1 ≤ w6.heap.size := by simpa using hs6
    clear hd5
    have hsumH := Lib.hid hsum
    have Kx := Lib.hid hcF
    have Kdx := Lib.hid hdF
    clear hcF hdF
    have e8 : (doC w.heap.size (.func (.func fg) #[] #[cg]) (.func (.func fp) #[] #[cp]) op D S n 0 cy)[8]? = some (.int .i64 cy) := rfl
    have hsx := KF.size
    clear fc lc c8 c9 c10 c11 c12 c13 c14 lb cb' fb lo co fo
    go_wp2_with fail
    refine wp_region_held_drew (S := fun W => Blk W (w.heap.size) ((cpuC (sumR c1 op D S n))) 28 ∧ Blk W (w5.heap.size) ((doC w.heap.size (.func (.func fg) #[] #[cg]) (.func (.func fp) #[] #[cp]) op D S n 0 cy)) 69) (by kernel_rfl) ⟨Blk.drew (show Blk _ (w.heap.size) ((cpuC (sumR c1 op D S n))) 28 from (by repeat' (first | (with_reducible first | exact Hid.out (by assumption) | exact Blk.new _ _ _ | (refine Blk.new_at _ _ _ _ ?_; simp; done) | refine Blk.alloc ?_ _ | refine Blk.drewN ?_ _ | refine Blk.drew ?_ | apply Blk.set | refine Blk.put ?_ (by assumption) (by first | (simp; done) | (simp; omega) | omega) | refine Blk.below ?_ (by assumption)) | (refine Blk.setAt ?_ (by first | (simp; done) | (simp; omega))) | rfl))), Blk.drew (show Blk _ (w5.heap.size) ((doC w.heap.size (.func (.func fg) #[] #[cg]) (.func (.func fp) #[] #[cp]) op D S n 0 cy)) 69 from (by repeat' (first | (with_reducible first | exact Hid.out (by assumption) | exact Blk.new _ _ _ | (refine Blk.new_at _ _ _ _ ?_; simp; done) | refine Blk.alloc ?_ _ | refine Blk.drewN ?_ _ | refine Blk.drew ?_ | apply Blk.set | refine Blk.put ?_ (by assumption) (by first | (simp; done) | (simp; omega) | omega) | refine Blk.below ?_ (by assumption)) | (refine Blk.setAt ?_ (by first | (simp; done) | (simp; omega))) | rfl)))⟩ (fun hS => ?_)
    refine wpAnyH_take (i := 0) rfl (by kernel_rfl) (by kernel_rfl) (by kernel_rfl) (fun _ _ _ h => h) (yields_loadA (by rfl) 28 (.tmp 3) rfl (w.heap.size) 0 15 rfl 28 (cpuC (sumR c1 op D S n)) (cpuC (sumR c1 op D S n)) (fun W hSw => hSw.1) _ Try.underlying28 rfl (by kernel_rfl) rfl rfl) hS ?_
    try simp only [List.getElem_toArray, List.getElem_cons_succ, List.getElem_cons_zero, Act.put, List.setIfInBounds_toArray, List.set_cons_zero, List.set_cons_succ]
    refine wpAnyH_take (i := 1) (v := ?v1_9) rfl (by kernel_rfl) (by kernel_rfl) (by kernel_rfl) (fun _ _ _ h => h) (Or.inl ⟨by rfl, ?y1_9⟩) hS ?_
    case y1_9 => (intro w hSw; go_simp; try with_reducible rfl)
    try simp only [List.getElem_toArray, List.getElem_cons_succ, List.getElem_cons_zero, Act.put, List.setIfInBounds_toArray, List.set_cons_zero, List.set_cons_succ]
    refine wpAnyH_take (i := 2) (v := ?v2_9) rfl (by kernel_rfl) (by kernel_rfl) (by kernel_rfl) (fun _ _ _ h => h) (Or.inl ⟨by rfl, ?y2_9⟩) hS ?_
    case y2_9 => (intro w hSw; have c0 := (hSw.1).cell; have c1 := (hSw.2).cell; go_simp; try with_reducible rfl)
    try simp only [List.getElem_toArray, List.getElem_cons_succ, List.getElem_cons_zero, Act.put, List.setIfInBounds_toArray, List.set_cons_zero, List.set_cons_succ]
    refine wpAnyH_ready (rs := [3]) (by kernel_rfl) (by simp) (AllReadyH.cons rfl (fun K hK => ?_) AllReadyH.nil)
    rw [if_pos (by rfl)]
    refine wp_store_row 28 (.tmp 6) (.tmp 67) rfl (w.heap.size + 1 + 1) (cpuC (sumR c1 op D S n)) rfl rfl 28 #[.int .u16 0, .int .u16 0, .int .u16 0, .int .u16 0, .int .u16 0, .int .u16 0, .int .u16 0, .int .u16 0, .int .u16 0, .bool false, .bool false, .bool false, .bool false, .bool false, .bool false] KrF.out.drew (by kernel_rfl) rfl (by simp [cpuC, Value.oneCell']) ?_
    have hres := Lib.hid (setRow_heap _ (w.heap.size + 1 + 1) _ (cpuC (sumR c1 op D S n)) 28 (0, 0) KrF.out.drew)
    refine hK.out _ _ ⟨Blk.put hS.1 (put_setRow _ _ _) (by omega), Blk.put hS.2 (put_setRow _ _ _) (by omega)⟩ (fun hS => ?_)
    clear hK K
    try simp only [List.getElem_toArray, List.getElem_cons_succ, List.getElem_cons_zero, Act.put, List.setIfInBounds_toArray, List.set_cons_zero, List.set_cons_succ]
    refine wpAnyH_take (i := 4) (v := ?v4c) rfl (by kernel_rfl) (by kernel_rfl) (by kernel_rfl) (fun _ _ _ h => h) (Or.inl ⟨by rfl, ?y4c⟩) hS ?_
    case y4c => (intro w hSw; go_simp; try with_reducible rfl)
    try simp only [List.getElem_toArray, List.getElem_cons_succ, List.getElem_cons_zero, Act.put, List.setIfInBounds_toArray, List.set_cons_zero, List.set_cons_succ]
    refine wpAnyH_done (by kernel_rfl) ?_ _
    go_wp2_with fail
    rw [show finC b m1 c1 op D S n 0 = sumR c1 op D S n from by unfold finC sumR; rw [hsumH.out]; rfl, show finS b m1 c1 op D S n = m1 from by unfold finS; rw [hsumH.out]; rfl, show finN c1 op = cy from by rw [hN.out, hsumH.out]; rfl]
    exact bodyPost_ret (results_ct Try.results17 _ _ (w.heap.size + 1 + 1) 28 (cpuC (sumR c1 op D S n)) _ rfl hres.out Try.underlying28 rfl (by kernel_rfl)) rfl ⟨rfl, hb.stable _ _ _ hr6 (below_put (Below.refl B _).drew (put_setRow _ _ _) (by omega)), KF.drew.put (put_setRow _ _ _) (Or.inl (by omega))⟩

theorem do_1_2 {fg fp : FuncId} {cg cp : Value} {σ : Type} {b : Bus σ} {Rel : World → σ → Prop} {B : Nat} (hb : BusOk Try.prog fg fp cg cp b Rel B) (m : σ) (c : Cp) (hi : c.In) (w : World) (hr : Rel w m) (hB : B ≤ w.heap.size) (hmay : c.may = false) (hwt : c.wt = false) (op : Int) (D S : Nat) (n : Int)
    (eO : readO (wV b m c.pc) 0 = ⟨op, D, S, n, 0⟩) (eL : readL (wV b m c.pc) = 2) (hD : D < 8) (hS8 : S < 8) (hn : -16 ≤ n ∧ n ≤ 15) (hsh : op = 12 ∨ op = 13 → 0 ≤ n) (h0 : 0 ≤ op) (h1 : op < 32) (h30 : op ≠ 30) :
    Calls Try.prog 17 #[.agg (cpuC c), .agg #[.func (.func fg) #[] #[cg], .func (.func fp) #[] #[cp]], .bool true] w fun e w' => e = .returned (.tuple #[.agg (cpuC (finC b (wS b (wS b m c.pc) ((c.pc + 2) % 65536)) (c.go ((c.pc + 4) % 65536)) op D S n (wV b (wS b m c.pc) ((c.pc + 2) % 65536)))), .int .i64 (finN (c.go ((c.pc + 4) % 65536)) op)]) ∧ Rel w' (finS b (wS b (wS b m c.pc) ((c.pc + 2) % 65536)) (c.go ((c.pc + 4) % 65536)) op D S n) ∧ Kp B NoX w w' := by
  have HR := Lib.hid (fun w' (h : Below B w w') => hb.stable w w' m hr h)
  have ha : U16 (wV b m c.pc) := wV_u hb m c.pc
  have W1 := Lib.hid (fun w' => word_any hb m c.pc hi.2 w')
  have rd := read_any (wV b m c.pc) 0 ha (by unfold U16; omega)
  rw [eO, eL] at rd
  have RD := Lib.hid rd
  have CY := Lib.hid (cycles_any op h0 h1 h30)
  have hcy := cyc_b op h0 h1
  have hp2 : IntKind.u16.wrap (c.pc + 2) = (c.pc + 2) % 65536 := wrap16 _
  have hp4 : IntKind.u16.wrap (c.pc + 4) = (c.pc + 4) % 65536 := wrap16 _
  have hpu : U16 ((c.pc + 4) % 65536) := by unfold U16; omega
  have hi1 : (c.go ((c.pc + 4) % 65536)).In := go_in hi hpu
  have hvu : U16 (wV b (wS b m c.pc) ((c.pc + 2) % 65536)) := wV_u hb _ _
  have W2 := Lib.hid (fun w' => word_any hb (wS b m c.pc) ((c.pc + 2) % 65536) (by unfold U16; omega) w')
  obtain ⟨v, ev⟩ : ∃ v, v = wV b (wS b m c.pc) ((c.pc + 2) % 65536) := ⟨_, rfl⟩
  rw [← ev] at W2 hvu ⊢
  clear ev
  have hwv : wrap64 v = v := by unfold wrap64; unfold U16 at hvu; omega
  have hv0 : 0 ≤ v := hvu.1
  have hv1 : v ≤ 65535 := hvu.2
  have hc0 : ∀ W, Blk W w.heap.size #[.int .u16 (c.r 0), .int .u16 (c.r 1), .int .u16 (c.r 2), .int .u16 (c.r 3), .int .u16 (c.r 4), .int .u16 (c.r 5), .int .u16 (c.r 6), .int .u16 (c.r 7), .int .u16 c.pc, .bool c.z, .bool c.n, .bool c.c, .bool c.v, .bool false, .bool false] 28 → Blk W w.heap.size (cpuC c) 28 := fun W h => by unfold cpuC; rw [hwt, hmay]; exact h
  obtain ⟨cy, ecy⟩ : ∃ cy, cy = cycO op := ⟨_, rfl⟩
  rw [← ecy] at CY hcy
  replace ecy := Lib.hid ecy
  obtain ⟨a, ea⟩ : ∃ a, a = wV b m c.pc := ⟨_, rfl⟩
  rw [← ea] at W1 RD
  obtain ⟨m1, em⟩ : ∃ m1, m1 = (wS b (wS b m c.pc) ((c.pc + 2) % 65536)) := ⟨_, rfl⟩
  obtain ⟨c1, ec⟩ : ∃ c1, c1 = (c.go ((c.pc + 4) % 65536)) := ⟨_, rfl⟩
  rw [← em, ← ec]
  rw [← ec] at hi1
  rw [← em] at W2
  replace em := Lib.hid em
  have hcc : cpuC (c.go ((c.pc + 4) % 65536)) = cpuC c1 := by rw [ec]
  replace ec := Lib.hid ec
  have HCC := Lib.hid hcc
  clear ha rd eO eL ea hcc hr
  rw [show (#[.agg (cpuC c), .agg #[.func (.func fg) #[] #[cg], .func (.func fp) #[] #[cp]], .bool true] : Array Value) = #[.agg #[.int .u16 (c.r 0), .int .u16 (c.r 1), .int .u16 (c.r 2), .int .u16 (c.r 3), .int .u16 (c.r 4), .int .u16 (c.r 5), .int .u16 (c.r 6), .int .u16 (c.r 7), .int .u16 c.pc, .bool c.z, .bool c.n, .bool c.c, .bool c.v, .bool false, .bool false], .agg #[.func (.func fg) #[] #[cg], .func (.func fp) #[] #[cp]], .bool true] from by unfold cpuC; rw [hwt, hmay]]
  have hd1 : 0 ≤ wordsN op ∧ wordsN op ≤ 2 := by unfold wordsN; split <;> omega
  generalize wordsN op = wn at *
  go_enter Try.func17, Try.ntmps17
  go_wp2_with (first | ((with_reducible show wpList _ _ _ _ _ _); refine wpList_loadW rfl 52 (.tmp 4) rfl (w.heap.size + 1) rfl 52 #[.func (.func fg) #[] #[cg], .func (.func fp) #[] #[cp]] (show Blk _ (w.heap.size + 1) #[.func (.func fg) #[] #[cg], .func (.func fp) #[] #[cp]] 52 from (by repeat' (first | (with_reducible first | exact Hid.out (by assumption) | exact Blk.new _ _ _ | (refine Blk.new_at _ _ _ _ ?_; simp; done) | refine Blk.alloc ?_ _ | refine Blk.drewN ?_ _ | refine Blk.drew ?_ | apply Blk.set | refine Blk.put ?_ (by assumption) (by first | (simp; done) | (simp; omega) | omega) | refine Blk.below ?_ (by assumption)) | (refine Blk.setAt ?_ (by first | (simp; done) | (simp; omega))) | rfl))) _ Try.underlying52 rfl (by kernel_rfl) ?_))
  refine (W1.out _ (HR.out _ (by repeat' (first | (with_reducible first | exact Below.refl _ _ | assumption | refine Below.alloc ?_ ?_ _ | refine Below.drew ?_ | refine below_drewN ?_ _ | refine Below.setCell ?_ ?_ _) | (simp; done) | omega | (simp; omega)))) (by first | omega | (simp; omega))).mono ?_
  rintro e w1 ⟨rfl, hr1, k1⟩
  have Kc1 := Lib.hid ((hc0 _ (by repeat' (first | (with_reducible first | exact Hid.out (by assumption) | exact Blk.new _ _ _ | (refine Blk.new_at _ _ _ _ ?_; simp; done) | refine Blk.alloc ?_ _ | refine Blk.drewN ?_ _ | refine Blk.drew ?_ | apply Blk.set | refine Blk.put ?_ (by assumption) (by first | (simp; done) | (simp; omega) | omega) | refine Blk.below ?_ (by assumption)) | (refine Blk.setAt ?_ (by first | (simp; done) | (simp; omega))) | rfl))).kp k1 hB id)
  have Kb1 := Lib.hid ((show Blk _ (w.heap.size + 1) #[.func (.func fg) #[] #[cg], .func (.func fp) #[] #[cp]] 52 from (by repeat' (first | (with_reducible first | exact Hid.out (by assumption) | exact Blk.new _ _ _ | (refine Blk.new_at _ _ _ _ ?_; simp; done) | refine Blk.alloc ?_ _ | refine Blk.drewN ?_ _ | refine Blk.drew ?_ | apply Blk.set | refine Blk.put ?_ (by assumption) (by first | (simp; done) | (simp; omega) | omega) | refine Blk.below ?_ (by assumption)) | (refine Blk.setAt ?_ (by first | (simp; done) | (simp; omega))) | rfl))).kp k1 (by omega) id)
  have Kr1 := Lib.hid ((show Blk _ (w.heap.size + 1 + 1) #[.int .u16 0, .int .u16 0, .int .u16 0, .int .u16 0, .int .u16 0, .int .u16 0, .int .u16 0, .int .u16 0, .int .u16 0, .bool false, .bool false, .bool false, .bool false, .bool false, .bool false] 28 from (by repeat' (first | (with_reducible first | exact Hid.out (by assumption) | exact Blk.new _ _ _ | (refine Blk.new_at _ _ _ _ ?_; simp; done) | refine Blk.alloc ?_ _ | refine Blk.drewN ?_ _ | refine Blk.drew ?_ | apply Blk.set | refine Blk.put ?_ (by assumption) (by first | (simp; done) | (simp; omega) | omega) | refine Blk.below ?_ (by assumption)) | (refine Blk.setAt ?_ (by first | (simp; done) | (simp; omega))) | rfl))).kp k1 (by omega) id)
  have K1 : Kp B NoX w w1 := Kp.then (by repeat' (first | (with_reducible first | exact Kp.refl _ _ _ | assumption | refine Kp.alloc ?_ _ | refine Kp.drew ?_ | refine Kp.drewN ?_ _ | refine Kp.setCell ?_ ?_) | (right; rfl) | (left; simp; done) | (left; omega) | (left; simp; omega))) k1 (fun _ _ h => h)
  have hs1 := k1.size
  have hq1 : w.heap.size + 3 ≤ w1.heap.size := by simpa using hs1
  go_wp2_with (first | ((with_reducible show wpList _ _ _ _ _ _); refine wpList_loadW rfl 52 (.tmp 4) rfl (w.heap.size + 1) rfl 52 #[.func (.func fg) #[] #[cg], .func (.func fp) #[] #[cp]] (show Blk _ (w.heap.size + 1) #[.func (.func fg) #[] #[cg], .func (.func fp) #[] #[cp]] 52 from (by repeat' (first | (with_reducible first | exact Hid.out (by assumption) | exact Blk.new _ _ _ | (refine Blk.new_at _ _ _ _ ?_; simp; done) | refine Blk.alloc ?_ _ | refine Blk.drewN ?_ _ | refine Blk.drew ?_ | apply Blk.set | refine Blk.put ?_ (by assumption) (by first | (simp; done) | (simp; omega) | omega) | refine Blk.below ?_ (by assumption)) | (refine Blk.setAt ?_ (by first | (simp; done) | (simp; omega))) | rfl))) _ Try.underlying52 rfl (by kernel_rfl) ?_))
  refine (RD.out _).mono ?_
  rintro e w2 ⟨rfl, hb2⟩
  have hs2 := hb2.size
  have Kc2 := Lib.hid (Kc1.out.below hb2)
  have Kb2 := Lib.hid (Kb1.out.below hb2)
  have Kr2 := Lib.hid (Kr1.out.below hb2)
  have K2 := K1.below hb2 K1.size
  have hr2 := hb.below hr1 hb2 (by omega)
  obtain ⟨lc, cc, fc⟩ := Kc2.out.use
  have c8 : w2.cell? ⟨w.heap.size, 8, none⟩ = some (.int .u16 c.pc) := Kc2.out.cell 8
  obtain ⟨lb, cb', fb⟩ := Kb2.out.use
  clear cc
  go_wp2_with (first | ((with_reducible show wpList _ _ _ _ _ _); refine wpList_loadW rfl 52 (.tmp 4) rfl (w.heap.size + 1) rfl 52 #[.func (.func fg) #[] #[cg], .func (.func fp) #[] #[cp]] (show Blk _ (w.heap.size + 1) #[.func (.func fg) #[] #[cg], .func (.func fp) #[] #[cp]] 52 from (by repeat' (first | (with_reducible first | exact Hid.out (by assumption) | exact Blk.new _ _ _ | (refine Blk.new_at _ _ _ _ ?_; simp; done) | refine Blk.alloc ?_ _ | refine Blk.drewN ?_ _ | refine Blk.drew ?_ | apply Blk.set | refine Blk.put ?_ (by assumption) (by first | (simp; done) | (simp; omega) | omega) | refine Blk.below ?_ (by assumption)) | (refine Blk.setAt ?_ (by first | (simp; done) | (simp; omega))) | rfl))) _ Try.underlying52 rfl (by kernel_rfl) ?_))
  refine (W2.out _ (hb.stable _ _ _ hr2 (by repeat' (first | (with_reducible first | exact Below.refl _ _ | assumption | refine Below.alloc ?_ ?_ _ | refine Below.drew ?_ | refine below_drewN ?_ _ | refine Below.setCell ?_ ?_ _) | (simp; done) | omega | (simp; omega)))) (by first | omega | (simp; omega))).mono ?_
  rintro e w4 ⟨rfl, hr4, k4⟩
  have Kc4 := Lib.hid ((show Blk _ w.heap.size (cpuC c) 28 from (by repeat' (first | (with_reducible first | exact Hid.out (by assumption) | exact Blk.new _ _ _ | (refine Blk.new_at _ _ _ _ ?_; simp; done) | refine Blk.alloc ?_ _ | refine Blk.drewN ?_ _ | refine Blk.drew ?_ | apply Blk.set | refine Blk.put ?_ (by assumption) (by first | (simp; done) | (simp; omega) | omega) | refine Blk.below ?_ (by assumption)) | (refine Blk.setAt ?_ (by first | (simp; done) | (simp; omega))) | rfl))).kp k4 hB id)
  have Kb4 := Lib.hid ((show Blk _ (w.heap.size + 1) #[.func (.func fg) #[] #[cg], .func (.func fp) #[] #[cp]] 52 from (by repeat' (first | (with_reducible first | exact Hid.out (by assumption) | exact Blk.new _ _ _ | (refine Blk.new_at _ _ _ _ ?_; simp; done) | refine Blk.alloc ?_ _ | refine Blk.drewN ?_ _ | refine Blk.drew ?_ | apply Blk.set | refine Blk.put ?_ (by assumption) (by first | (simp; done) | (simp; omega) | omega) | refine Blk.below ?_ (by assumption)) | (refine Blk.setAt ?_ (by first | (simp; done) | (simp; omega))) | rfl))).kp k4 (by omega) id)
  have Kr4 := Lib.hid ((show Blk _ (w.heap.size + 1 + 1) #[.int .u16 0, .int .u16 0, .int .u16 0, .int .u16 0, .int .u16 0, .int .u16 0, .int .u16 0, .int .u16 0, .int .u16 0, .bool false, .bool false, .bool false, .bool false, .bool false, .bool false] 28 from (by repeat' (first | (with_reducible first | exact Hid.out (by assumption) | exact Blk.new _ _ _ | (refine Blk.new_at _ _ _ _ ?_; simp; done) | refine Blk.alloc ?_ _ | refine Blk.drewN ?_ _ | refine Blk.drew ?_ | apply Blk.set | refine Blk.put ?_ (by assumption) (by first | (simp; done) | (simp; omega) | omega) | refine Blk.below ?_ (by assumption)) | (refine Blk.setAt ?_ (by first | (simp; done) | (simp; omega))) | rfl))).kp k4 (by omega) id)
  have Ko4 := Lib.hid ((show Blk _ w2.heap.size #[.int .i64 op, .int .i64 D, .int .i64 S, .int .i64 n, .int .i64 0] 43 from (by repeat' (first | (with_reducible first | exact Hid.out (by assumption) | exact Blk.new _ _ _ | (refine Blk.new_at _ _ _ _ ?_; simp; done) | refine Blk.alloc ?_ _ | refine Blk.drewN ?_ _ | refine Blk.drew ?_ | apply Blk.set | refine Blk.put ?_ (by assumption) (by first | (simp; done) | (simp; omega) | omega) | refine Blk.below ?_ (by assumption)) | (refine Blk.setAt ?_ (by first | (simp; done) | (simp; omega))) | rfl))).kp k4 (by omega) id)
  have K4 : Kp B NoX w w4 := Kp.then (by repeat' (first | (with_reducible first | assumption | refine Kp.alloc ?_ _ | refine Kp.drew ?_ | refine Kp.drewN ?_ _ | refine Kp.setCell ?_ ?_) | (left; simp; done) | (left; omega) | (left; simp; omega))) k4 (fun _ _ h => h)
  have hs4 := k4.size
  have hq4 : w2.heap.size + 1 ≤ w4.heap.size := by simpa using hs4
  clear lc c8 fc lb cb' fb
  obtain ⟨lc, cc, fc⟩ := Kc4.out.use
  have c8 : w4.cell? ⟨w.heap.size, 8, none⟩ = some (.int .u16 c.pc) := Kc4.out.cell 8
  obtain ⟨lb, cb', fb⟩ := Kb4.out.use
  obtain ⟨lo, co, fo⟩ := Ko4.out.use
  clear cc
  go_wp2_with fail
  refine (CY.out _).mono ?_
  rintro e w5 ⟨rfl, hb5⟩
  have Kc5 := Lib.hid ((show Blk _ w.heap.size (cpuC (c.go ((c.pc + 4) % 65536))) 28 from (by exact Blk.set (Blk.setAt Kc4.out (show w.heap.size ≠ w2.heap.size by omega)) rfl)).below hb5)
  rw [HCC.out] at Kc5
  have Kb5 := Lib.hid ((show Blk _ (w.heap.size + 1) #[.func (.func fg) #[] #[cg], .func (.func fp) #[] #[cp]] 52 from (by repeat' (first | (with_reducible first | exact Hid.out (by assumption) | exact Blk.new _ _ _ | (refine Blk.new_at _ _ _ _ ?_; simp; done) | refine Blk.alloc ?_ _ | refine Blk.drewN ?_ _ | refine Blk.drew ?_ | apply Blk.set | refine Blk.put ?_ (by assumption) (by first | (simp; done) | (simp; omega) | omega) | refine Blk.below ?_ (by assumption)) | (refine Blk.setAt ?_ (by first | (simp; done) | (simp; omega))) | rfl))).below hb5)
  have Kr5 := Lib.hid ((show Blk _ (w.heap.size + 1 + 1) #[.int .u16 0, .int .u16 0, .int .u16 0, .int .u16 0, .int .u16 0, .int .u16 0, .int .u16 0, .int .u16 0, .int .u16 0, .bool false, .bool false, .bool false, .bool false, .bool false, .bool false] 28 from (by repeat' (first | (with_reducible first | exact Hid.out (by assumption) | exact Blk.new _ _ _ | (refine Blk.new_at _ _ _ _ ?_; simp; done) | refine Blk.alloc ?_ _ | refine Blk.drewN ?_ _ | refine Blk.drew ?_ | apply Blk.set | refine Blk.put ?_ (by assumption) (by first | (simp; done) | (simp; omega) | omega) | refine Blk.below ?_ (by assumption)) | (refine Blk.setAt ?_ (by first | (simp; done) | (simp; omega))) | rfl))).below hb5)
  have Ko5 := Lib.hid ((show Blk _ w2.heap.size #[.int .i64 op, .int .i64 D, .int .i64 S, .int .i64 n, .int .i64 v] 43 from (by repeat' (first | (with_reducible first | exact Hid.out (by assumption) | exact Blk.new _ _ _ | (refine Blk.new_at _ _ _ _ ?_; simp; done) | refine Blk.alloc ?_ _ | refine Blk.drewN ?_ _ | refine Blk.drew ?_ | apply Blk.set | refine Blk.put ?_ (by assumption) (by first | (simp; done) | (simp; omega) | omega) | refine Blk.below ?_ (by assumption)) | (refine Blk.setAt ?_ (by first | (simp; done) | (simp; omega))) | rfl))).below hb5)
  have K5 : Kp B NoX w w5 := Kp.below (by repeat' (first | (with_reducible first | assumption | refine Kp.alloc ?_ _ | refine Kp.drew ?_ | refine Kp.drewN ?_ _ | refine Kp.setCell ?_ ?_) | (left; simp; done) | (left; omega) | (left; simp; omega))) hb5 (by first | omega | (simp; omega))
  have hr5 : Rel w5 m1 := hb.stable _ _ _ (hb.stable _ _ _ hr4 (by repeat' (first | (with_reducible first | exact Below.refl _ _ | assumption | refine Below.alloc ?_ ?_ _ | refine Below.drew ?_ | refine below_drewN ?_ _ | refine Below.setCell ?_ ?_ _) | (simp; done) | omega | (simp; omega)))) (hb5.mono (by first | omega | (simp; omega)))
  have hs5 := hb5.size
  have hq5 : w4.heap.size ≤ w5.heap.size := by simpa using hs5
  clear lc c8 fc lb cb' fb lo co fo
  obtain ⟨c0, c0', fc, lc, c8, c9, c10, c11, c12, c13, c14⟩ := Kc5.out.cp (D := 0) (S := 0) (by omega) (by omega)
  clear c0 c0'
  obtain ⟨lb, cb', fb⟩ := Kb5.out.use
  obtain ⟨lo, co, fo⟩ := Ko5.out.use
  have hN : finN c1 op = (if isSum op then cy else if isMov op then cy else goY c1 op cy) := by unfold finN; rw [← ecy.out]
  replace hN := Lib.hid hN
  have SM := Lib.hid (fun db hB2 hne w' => sums_any c1 op D S n v cy (.func (.func fg) #[] #[cg]) (.func (.func fp) #[] #[cp]) hD hS8 hn hsh w.heap.size db B hB hB2 hne w')
  go_wp2_with (first | ((with_reducible show wpList _ _ _ _ _ _); refine wpList_loadW rfl 52 (.tmp 4) rfl (w.heap.size + 1) rfl 52 #[.func (.func fg) #[] #[cg], .func (.func fp) #[] #[cp]] (show Blk _ (w.heap.size + 1) #[.func (.func fg) #[] #[cg], .func (.func fp) #[] #[cp]] 52 from (by repeat' (first | (with_reducible first | exact Hid.out (by assumption) | exact Blk.new _ _ _ | (refine Blk.new_at _ _ _ _ ?_; simp; done) | refine Blk.alloc ?_ _ | refine Blk.drewN ?_ _ | refine Blk.drew ?_ | apply Blk.set | refine Blk.put ?_ (by assumption) (by first | (simp; done) | (simp; omega) | omega) | refine Blk.below ?_ (by assumption)) | (refine Blk.setAt ?_ (by first | (simp; done) | (simp; omega))) | rfl))) _ Try.underlying52 rfl (by kernel_rfl) ?_) | ((with_reducible show wpList _ _ _ _ _ _); refine wpList_loadW rfl 43 (.tmp 8) rfl (w2.heap.size) rfl 43 #[.int .i64 op, .int .i64 D, .int .i64 S, .int .i64 n, .int .i64 v] (show Blk _ (w2.heap.size) #[.int .i64 op, .int .i64 D, .int .i64 S, .int .i64 n, .int .i64 v] 43 from (by repeat' (first | (with_reducible first | exact Hid.out (by assumption) | exact Blk.new _ _ _ | (refine Blk.new_at _ _ _ _ ?_; simp; done) | refine Blk.alloc ?_ _ | refine Blk.drewN ?_ _ | refine Blk.drew ?_ | apply Blk.set | refine Blk.put ?_ (by assumption) (by first | (simp; done) | (simp; omega) | omega) | refine Blk.below ?_ (by assumption)) | (refine Blk.setAt ?_ (by first | (simp; done) | (simp; omega))) | rfl))) _ Try.underlying43 rfl (by kernel_rfl) ?_))
  have hd5 : Blk (w5.alloc (.cells (doC w.heap.size (.func (.func fg) #[] #[cg]) (.func (.func fp) #[] #[cp]) op D S n v cy) 69)) w5.heap.size (doC w.heap.size (.func (.func fg) #[] #[cg]) (.func (.func fp) #[] #[cp]) op D S n v cy) 69 := Blk.new _ _ _
  cases hsum : isSum op
  · refine (SM.out w5.heap.size (by omega) (by omega) _ (Kc5.out.alloc _) hd5 hi1).mono ?_
    rw [hsum, sumR_no hsum]
    rintro e w6 ⟨rfl, hc6, k6, b6⟩
    have Kr6 := Lib.hid ((Kr5.out.alloc _).kp k6 (by omega) (by show ¬ (_ = _); omega))
    have Kd6 := Lib.hid (hd5.kp k6 (by omega) (by show ¬ (_ = _); omega))
    have K6 := (K5.alloc _).then k6 (fun i h1 h2 => absurd h2 (Nat.ne_of_lt h1))
    have hr6 := hb.stable _ _ _ (hb.stable _ _ _ hr5 (by repeat' (first | (with_reducible first | exact Below.refl _ _ | assumption | refine Below.alloc ?_ ?_ _ | refine Below.drew ?_ | refine below_drewN ?_ _ | refine Below.setCell ?_ ?_ _) | (simp; done) | omega | (simp; omega)))) (b6.mono hB)
    have hs6 := k6.size
    have hq6 : w5.heap.size + 1 ≤ w6.heap.size := by simpa using hs6
    have Kc6 := Lib.hid hc6
    clear hc6 hd5
    have MV := Lib.hid (moves_any hb m1 c1 op D S n v cy hD hS8 hn hvu w.heap.size w5.heap.size hB (by omega) (by omega) w6 hr6 Kc6.out Kd6.out hi1)
    replace hsum := Lib.hid hsum
    go_wp2_with fail
    refine MV.out.mono ?_
    cases hmov : isMov op
    · rw [(movC_no hmov).1, (movC_no (v := 0) hmov).2]
      rintro e w7 ⟨rfl, hc7, hr7, k7⟩
      have Kr7 := Lib.hid (Kr6.out.kp k7 (by omega) (by show ¬ (_ = _); omega))
      have Kd7 := Lib.hid (Kd6.out.kp k7 (by omega) (by show ¬ (_ = _); omega))
      have K7 := K6.then k7 (fun i h1 h2 => absurd h2 (Nat.ne_of_lt h1))
      have hs7 := k7.size
      have Kc7 := Lib.hid hc7
      clear hc7
      have GO := Lib.hid (goes_any hb m1 c1 op D S n v cy hvu hcy w.heap.size w5.heap.size hB (by omega) (by omega) w7 hr7 Kc7.out Kd7.out hi1)
      replace hmov := Lib.hid hmov
      go_wp2_with fail
      refine GO.out.mono ?_
      rintro e w8 ⟨rfl, hcF, hdF, hr8, k8⟩
      have KrF := Lib.hid (Kr7.out.kp k8 (by omega) (by show ¬ (_ ∨ _); omega))
      have KF := K7.then k8 (fun i h1 h2 => h2.elim (fun h => absurd h (Nat.ne_of_lt h1)) (fun h => absurd h (by omega)))
      have hs8 := k8.size
      have Kx := Lib.hid hcF
      have Kdx := Lib.hid hdF
      clear hcF hdF
      have e8 : (doC w.heap.size (.func (.func fg) #[] #[cg]) (.func (.func fp) #[] #[cp]) op D S n v (goY c1 op cy))[8]? = some (.int .i64 (goY c1 op cy)) := rfl
      have hsx := KF.size
      clear fc lc c8 c9 c10 c11 c12 c13 c14 lb cb' fb lo co fo
      go_wp2_with fail
      refine wp_region_held_drew (S := fun W => Blk W (w.heap.size) ((cpuC (goC b m1 c1 op v))) 28 ∧ Blk W (w5.heap.size) ((doC w.heap.size (.func (.func fg) #[] #[cg]) (.func (.func fp) #[] #[cp]) op D S n v (goY c1 op cy))) 69) (by kernel_rfl) ⟨Blk.drew (show Blk _ (w.heap.size) ((cpuC (goC b m1 c1 op v))) 28 from (by repeat' (first | (with_reducible first | exact Hid.out (by assumption) | exact Blk.new _ _ _ | (refine Blk.new_at _ _ _ _ ?_; simp; done) | refine Blk.alloc ?_ _ | refine Blk.drewN ?_ _ | refine Blk.drew ?_ | apply Blk.set | refine Blk.put ?_ (by assumption) (by first | (simp; done) | (simp; omega) | omega) | refine Blk.below ?_ (by assumption)) | (refine Blk.setAt ?_ (by first | (simp; done) | (simp; omega))) | rfl))), Blk.drew (show Blk _ (w5.heap.size) ((doC w.heap.size (.func (.func fg) #[] #[cg]) (.func (.func fp) #[] #[cp]) op D S n v (goY c1 op cy))) 69 from (by repeat' (first | (with_reducible first | exact Hid.out (by assumption) | exact Blk.new _ _ _ | (refine Blk.new_at _ _ _ _ ?_; simp; done) | refine Blk.alloc ?_ _ | refine Blk.drewN ?_ _ | refine Blk.drew ?_ | apply Blk.set | refine Blk.put ?_ (by assumption) (by first | (simp; done) | (simp; omega) | omega) | refine Blk.below ?_ (by assumption)) | (refine Blk.setAt ?_ (by first | (simp; done) | (simp; omega))) | rfl)))⟩ (fun hS => ?_)
      refine wpAnyH_take (i := 0) rfl (by kernel_rfl) (by kernel_rfl) (by kernel_rfl) (fun _ _ _ h => h) (yields_loadA (by rfl) 28 (.tmp 3) rfl (w.heap.size) 0 15 rfl 28 (cpuC (goC b m1 c1 op v)) (cpuC (goC b m1 c1 op v)) (fun W hSw => hSw.1) _ Try.underlying28 rfl (by kernel_rfl) rfl rfl) hS ?_
      try simp only [List.getElem_toArray, List.getElem_cons_succ, List.getElem_cons_zero, Act.put, List.setIfInBounds_toArray, List.set_cons_zero, List.set_cons_succ]
      refine wpAnyH_take (i := 1) (v := ?v1_10) rfl (by kernel_rfl) (by kernel_rfl) (by kernel_rfl) (fun _ _ _ h => h) (Or.inl ⟨by rfl, ?y1_10⟩) hS ?_
      case y1_10 => (intro w hSw; go_simp; try with_reducible rfl)
      try simp only [List.getElem_toArray, List.getElem_cons_succ, List.getElem_cons_zero, Act.put, List.setIfInBounds_toArray, List.set_cons_zero, List.set_cons_succ]
      refine wpAnyH_take (i := 2) (v := ?v2_10) rfl (by kernel_rfl) (by kernel_rfl) (by kernel_rfl) (fun _ _ _ h => h) (Or.inl ⟨by rfl, ?y2_10⟩) hS ?_
      case y2_10 => (intro w hSw; have c0 := (hSw.1).cell; have c1 := (hSw.2).cell; go_simp; try with_reducible rfl)
      try simp only [List.getElem_toArray, List.getElem_cons_succ, List.getElem_cons_zero, Act.put, List.setIfInBounds_toArray, List.set_cons_zero, List.set_cons_succ]
      refine wpAnyH_ready (rs := [3]) (by kernel_rfl) (by simp) (AllReadyH.cons rfl (fun K hK => ?_) AllReadyH.nil)
      rw [if_pos (by rfl)]
      refine wp_store_row 28 (.tmp 6) (.tmp 67) rfl (w.heap.size + 1 + 1) (cpuC (goC b m1 c1 op v)) rfl rfl 28 #[.int .u16 0, .int .u16 0, .int .u16 0, .int .u16 0, .int .u16 0, .int .u16 0, .int .u16 0, .int .u16 0, .int .u16 0, .bool false, .bool false, .bool false, .bool false, .bool false, .bool false] KrF.out.drew (by kernel_rfl) rfl (by simp [cpuC, Value.oneCell']) ?_
      have hres := Lib.hid (setRow_heap _ (w.heap.size + 1 + 1) _ (cpuC (goC b m1 c1 op v)) 28 (0, 0) KrF.out.drew)
      refine hK.out _ _ ⟨Blk.put hS.1 (put_setRow _ _ _) (by omega), Blk.put hS.2 (put_setRow _ _ _) (by omega)⟩ (fun hS => ?_)
      clear hK K
      try simp only [List.getElem_toArray, List.getElem_cons_succ, List.getElem_cons_zero, Act.put, List.setIfInBounds_toArray, List.set_cons_zero, List.set_cons_succ]
      refine wpAnyH_take (i := 4) (v := ?v4) rfl (by kernel_rfl) (by kernel_rfl) (by kernel_rfl) (fun _ _ _ h => h) (Or.inl ⟨by rfl, ?y4⟩) hS ?_
      case y4 => (intro w hSw; go_simp; try with_reducible rfl)
      try simp only [List.getElem_toArray, List.getElem_cons_succ, List.getElem_cons_zero, Act.put, List.setIfInBounds_toArray, List.set_cons_zero, List.set_cons_succ]
      refine wpAnyH_done (by kernel_rfl) ?_ _
      go_wp2_with fail
      rw [show finC b m1 c1 op D S n v = goC b m1 c1 op v from by unfold finC; rw [hsum.out, hmov.out]; rfl, show finS b m1 c1 op D S n = goS b m1 c1 op from by unfold finS; rw [hsum.out, hmov.out]; rfl, show finN c1 op = goY c1 op cy from by rw [hN.out, hsum.out, hmov.out]; rfl]
      exact bodyPost_ret (results_ct Try.results17 _ _ (w.heap.size + 1 + 1) 28 (cpuC (goC b m1 c1 op v)) _ rfl hres.out Try.underlying28 rfl (by kernel_rfl)) rfl ⟨rfl, hb.stable _ _ _ hr8 (below_put (Below.refl B _).drew (put_setRow _ _ _) (by omega)), KF.drew.put (put_setRow _ _ _) (Or.inl (by omega))⟩
    · rintro e w7 ⟨rfl, hcF, hr7, k7⟩
      have KrF := Lib.hid (Kr6.out.kp k7 (by omega) (by show ¬ (_ = _); omega))
      have hdF := Kd6.out.kp k7 (by omega) (by show ¬ (_ = _); omega)
      have KF := K6.then k7 (fun i h1 h2 => absurd h2 (Nat.ne_of_lt h1))
      have hs7 := k7.size
      have hmovH := Lib.hid hmov
      have Kx := Lib.hid hcF
      have Kdx := Lib.hid hdF
      clear hcF hdF
      have e8 : (doC w.heap.size (.func (.func fg) #[] #[cg]) (.func (.func fp) #[] #[cp]) op D S n v cy)[8]? = some (.int .i64 cy) := rfl
      have hsx := KF.size
      clear fc lc c8 c9 c10 c11 c12 c13 c14 lb cb' fb lo co fo
      go_wp2_with fail
      refine wp_region_held_drew (S := fun W => Blk W (w.heap.size) ((cpuC (movC b m1 c1 op D S n v))) 28 ∧ Blk W (w5.heap.size) ((doC w.heap.size (.func (.func fg) #[] #[cg]) (.func (.func fp) #[] #[cp]) op D S n v cy)) 69) (by kernel_rfl) ⟨Blk.drew (show Blk _ (w.heap.size) ((cpuC (movC b m1 c1 op D S n v))) 28 from (by repeat' (first | (with_reducible first | exact Hid.out (by assumption) | exact Blk.new _ _ _ | (refine Blk.new_at _ _ _ _ ?_; simp; done) | refine Blk.alloc ?_ _ | refine Blk.drewN ?_ _ | refine Blk.drew ?_ | apply Blk.set | refine Blk.put ?_ (by assumption) (by first | (simp; done) | (simp; omega) | omega) | refine Blk.below ?_ (by assumption)) | (refine Blk.setAt ?_ (by first | (simp; done) | (simp; omega))) | rfl))), Blk.drew (show Blk _ (w5.heap.size) ((doC w.heap.size (.func (.func fg) #[] #[cg]) (.func (.func fp) #[] #[cp]) op D S n v cy)) 69 from (by repeat' (first | (with_reducible first | exact Hid.out (by assumption) | exact Blk.new _ _ _ | (refine Blk.new_at _ _ _ _ ?_; simp; done) | refine Blk.alloc ?_ _ | refine Blk.drewN ?_ _ | refine Blk.drew ?_ | apply Blk.set | refine Blk.put ?_ (by assumption) (by first | (simp; done) | (simp; omega) | omega) | refine Blk.below ?_ (by assumption)) | (refine Blk.setAt ?_ (by first | (simp; done) | (simp; omega))) | rfl)))⟩ (fun hS => ?_)
      refine wpAnyH_take (i := 0) rfl (by kernel_rfl) (by kernel_rfl) (by kernel_rfl) (fun _ _ _ h => h) (yields_loadA (by rfl) 28 (.tmp 3) rfl (w.heap.size) 0 15 rfl 28 (cpuC (movC b m1 c1 op D S n v)) (cpuC (movC b m1 c1 op D S n v)) (fun W hSw => hSw.1) _ Try.underlying28 rfl (by kernel_rfl) rfl rfl) hS ?_
      try simp only [List.getElem_toArray, List.getElem_cons_succ, List.getElem_cons_zero, Act.put, List.setIfInBounds_toArray, List.set_cons_zero, List.set_cons_succ]
      refine wpAnyH_take (i := 1) (v := ?v1_11) rfl (by kernel_rfl) (by kernel_rfl) (by kernel_rfl) (fun _ _ _ h => h) (Or.inl ⟨by rfl, ?y1_11⟩) hS ?_
      case y1_11 => (intro w hSw; go_simp; try with_reducible rfl)
      try simp only [List.getElem_toArray, List.getElem_cons_succ, List.getElem_cons_zero, Act.put, List.setIfInBounds_toArray, List.set_cons_zero, List.set_cons_succ]
      refine wpAnyH_take (i := 2) (v := ?v2_11) rfl (by kernel_rfl) (by kernel_rfl) (by kernel_rfl) (fun _ _ _ h => h) (Or.inl ⟨by rfl, ?y2_11⟩) hS ?_
      case y2_11 => (intro w hSw; have c0 := (hSw.1).cell; have c1 := (hSw.2).cell; go_simp; try with_reducible rfl)
      try simp only [List.getElem_toArray, List.getElem_cons_succ, List.getElem_cons_zero, Act.put, List.setIfInBounds_toArray, List.set_cons_zero, List.set_cons_succ]
      refine wpAnyH_ready (rs := [3]) (by kernel_rfl) (by simp) (AllReadyH.cons rfl (fun K hK => ?_) AllReadyH.nil)
      rw [if_pos (by rfl)]
      refine wp_store_row 28 (.tmp 6) (.tmp 67) rfl (w.heap.size + 1 + 1) (cpuC (movC b m1 c1 op D S n v)) rfl rfl 28 #[.int .u16 0, .int .u16 0, .int .u16 0, .int .u16 0, .int .u16 0, .int .u16 0, .int .u16 0, .int .u16 0, .int .u16 0, .bool false, .bool false, .bool false, .bool false, .bool false, .bool false] KrF.out.drew (by kernel_rfl) rfl (by simp [cpuC, Value.oneCell']) ?_
      have hres := Lib.hid (setRow_heap _ (w.heap.size + 1 + 1) _ (cpuC (movC b m1 c1 op D S n v)) 28 (0, 0) KrF.out.drew)
      refine hK.out _ _ ⟨Blk.put hS.1 (put_setRow _ _ _) (by omega), Blk.put hS.2 (put_setRow _ _ _) (by omega)⟩ (fun hS => ?_)
      clear hK K
      try simp only [List.getElem_toArray, List.getElem_cons_succ, List.getElem_cons_zero, Act.put, List.setIfInBounds_toArray, List.set_cons_zero, List.set_cons_succ]
      refine wpAnyH_take (i := 4) (v := ?v4b) rfl (by kernel_rfl) (by kernel_rfl) (by kernel_rfl) (fun _ _ _ h => h) (Or.inl ⟨by rfl, ?y4b⟩) hS ?_
      case y4b => (intro w hSw; go_simp; try with_reducible rfl)
      try simp only [List.getElem_toArray, List.getElem_cons_succ, List.getElem_cons_zero, Act.put, List.setIfInBounds_toArray, List.set_cons_zero, List.set_cons_succ]
      refine wpAnyH_done (by kernel_rfl) ?_ _
      go_wp2_with fail
      rw [show finC b m1 c1 op D S n v = movC b m1 c1 op D S n v from by unfold finC; rw [hsum.out, hmovH.out]; rfl, show finS b m1 c1 op D S n = movS b m1 c1 op D S n from by unfold finS; rw [hsum.out, hmovH.out]; rfl, show finN c1 op = cy from by rw [hN.out, hsum.out, hmovH.out]; rfl]
      exact bodyPost_ret (results_ct Try.results17 _ _ (w.heap.size + 1 + 1) 28 (cpuC (movC b m1 c1 op D S n v)) _ rfl hres.out Try.underlying28 rfl (by kernel_rfl)) rfl ⟨rfl, hb.stable _ _ _ hr7 (below_put (Below.refl B _).drew (put_setRow _ _ _) (by omega)), KF.drew.put (put_setRow _ _ _) (Or.inl (by omega))⟩
  · refine (SM.out w5.heap.size (by omega) (by omega) _ (Kc5.out.alloc _) hd5 hi1).mono ?_
    rw [hsum]
    rintro e w6 ⟨rfl, hcF, k6, b6⟩
    have KrF := Lib.hid ((Kr5.out.alloc _).kp k6 (by omega) (by show ¬ (_ = _); omega))
    have hdF := hd5.kp k6 (by omega) (by show ¬ (_ = _); omega)
    have KF := (K5.alloc _).then k6 (fun i h1 h2 => absurd h2 (Nat.ne_of_lt h1))
    have hr6 := hb.stable _ _ _ (hb.stable _ _ _ hr5 (by repeat' (first | (with_reducible first | exact Below.refl _ _ | assumption | refine Below.alloc ?_ ?_ _ | refine Below.drew ?_ | refine below_drewN ?_ _ | refine Below.setCell ?_ ?_ _) | (simp; done) | omega | (simp; omega)))) (b6.mono hB)
    have hs6 := k6.size
    have hq6 : w5.heap.size + 1 ≤ w6.heap.size := by simpa using hs6
    clear hd5
    have hsumH := Lib.hid hsum
    have Kx := Lib.hid hcF
    have Kdx := Lib.hid hdF
    clear hcF hdF
    have e8 : (doC w.heap.size (.func (.func fg) #[] #[cg]) (.func (.func fp) #[] #[cp]) op D S n v cy)[8]? = some (.int .i64 cy) := rfl
    have hsx := KF.size
    clear fc lc c8 c9 c10 c11 c12 c13 c14 lb cb' fb lo co fo
    go_wp2_with fail
    refine wp_region_held_drew (S := fun W => Blk W (w.heap.size) ((cpuC (sumR c1 op D S n))) 28 ∧ Blk W (w5.heap.size) ((doC w.heap.size (.func (.func fg) #[] #[cg]) (.func (.func fp) #[] #[cp]) op D S n v cy)) 69) (by kernel_rfl) ⟨Blk.drew (show Blk _ (w.heap.size) ((cpuC (sumR c1 op D S n))) 28 from (by repeat' (first | (with_reducible first | exact Hid.out (by assumption) | exact Blk.new _ _ _ | (refine Blk.new_at _ _ _ _ ?_; simp; done) | refine Blk.alloc ?_ _ | refine Blk.drewN ?_ _ | refine Blk.drew ?_ | apply Blk.set | refine Blk.put ?_ (by assumption) (by first | (simp; done) | (simp; omega) | omega) | refine Blk.below ?_ (by assumption)) | (refine Blk.setAt ?_ (by first | (simp; done) | (simp; omega))) | rfl))), Blk.drew (show Blk _ (w5.heap.size) ((doC w.heap.size (.func (.func fg) #[] #[cg]) (.func (.func fp) #[] #[cp]) op D S n v cy)) 69 from (by repeat' (first | (with_reducible first | exact Hid.out (by assumption) | exact Blk.new _ _ _ | (refine Blk.new_at _ _ _ _ ?_; simp; done) | refine Blk.alloc ?_ _ | refine Blk.drewN ?_ _ | refine Blk.drew ?_ | apply Blk.set | refine Blk.put ?_ (by assumption) (by first | (simp; done) | (simp; omega) | omega) | refine Blk.below ?_ (by assumption)) | (refine Blk.setAt ?_ (by first | (simp; done) | (simp; omega))) | rfl)))⟩ (fun hS => ?_)
    refine wpAnyH_take (i := 0) rfl (by kernel_rfl) (by kernel_rfl) (by kernel_rfl) (fun _ _ _ h => h) (yields_loadA (by rfl) 28 (.tmp 3) rfl (w.heap.size) 0 15 rfl 28 (cpuC (sumR c1 op D S n)) (cpuC (sumR c1 op D S n)) (fun W hSw => hSw.1) _ Try.underlying28 rfl (by kernel_rfl) rfl rfl) hS ?_
    try simp only [List.getElem_toArray, List.getElem_cons_succ, List.getElem_cons_zero, Act.put, List.setIfInBounds_toArray, List.set_cons_zero, List.set_cons_succ]
    refine wpAnyH_take (i := 1) (v := ?v1_12) rfl (by kernel_rfl) (by kernel_rfl) (by kernel_rfl) (fun _ _ _ h => h) (Or.inl ⟨by rfl, ?y1_12⟩) hS ?_
    case y1_12 => (intro w hSw; go_simp; try with_reducible rfl)
    try simp only [List.getElem_toArray, List.getElem_cons_succ, List.getElem_cons_zero, Act.put, List.setIfInBounds_toArray, List.set_cons_zero, List.set_cons_succ]
    refine wpAnyH_take (i := 2) (v := ?v2_12) rfl (by kernel_rfl) (by kernel_rfl) (by kernel_rfl) (fun _ _ _ h => h) (Or.inl ⟨by rfl, ?y2_12⟩) hS ?_
    case y2_12 => (intro w hSw; have c0 := (hSw.1).cell; have c1 := (hSw.2).cell; go_simp; try with_reducible rfl)
    try simp only [List.getElem_toArray, List.getElem_cons_succ, List.getElem_cons_zero, Act.put, List.setIfInBounds_toArray, List.set_cons_zero, List.set_cons_succ]
    refine wpAnyH_ready (rs := [3]) (by kernel_rfl) (by simp) (AllReadyH.cons rfl (fun K hK => ?_) AllReadyH.nil)
    rw [if_pos (by rfl)]
    refine wp_store_row 28 (.tmp 6) (.tmp 67) rfl (w.heap.size + 1 + 1) (cpuC (sumR c1 op D S n)) rfl rfl 28 #[.int .u16 0, .int .u16 0, .int .u16 0, .int .u16 0, .int .u16 0, .int .u16 0, .int .u16 0, .int .u16 0, .int .u16 0, .bool false, .bool false, .bool false, .bool false, .bool false, .bool false] KrF.out.drew (by kernel_rfl) rfl (by simp [cpuC, Value.oneCell']) ?_
    have hres := Lib.hid (setRow_heap _ (w.heap.size + 1 + 1) _ (cpuC (sumR c1 op D S n)) 28 (0, 0) KrF.out.drew)
    refine hK.out _ _ ⟨Blk.put hS.1 (put_setRow _ _ _) (by omega), Blk.put hS.2 (put_setRow _ _ _) (by omega)⟩ (fun hS => ?_)
    clear hK K
    try simp only [List.getElem_toArray, List.getElem_cons_succ, List.getElem_cons_zero, Act.put, List.setIfInBounds_toArray, List.set_cons_zero, List.set_cons_succ]
    refine wpAnyH_take (i := 4) (v := ?v4c) rfl (by kernel_rfl) (by kernel_rfl) (by kernel_rfl) (fun _ _ _ h => h) (Or.inl ⟨by rfl, ?y4c⟩) hS ?_
    case y4c => (intro w hSw; go_simp; try with_reducible rfl)
    try simp only [List.getElem_toArray, List.getElem_cons_succ, List.getElem_cons_zero, Act.put, List.setIfInBounds_toArray, List.set_cons_zero, List.set_cons_succ]
    refine wpAnyH_done (by kernel_rfl) ?_ _
    go_wp2_with fail
    rw [show finC b m1 c1 op D S n v = sumR c1 op D S n from by unfold finC sumR; rw [hsumH.out]; rfl, show finS b m1 c1 op D S n = m1 from by unfold finS; rw [hsumH.out]; rfl, show finN c1 op = cy from by rw [hN.out, hsumH.out]; rfl]
    exact bodyPost_ret (results_ct Try.results17 _ _ (w.heap.size + 1 + 1) 28 (cpuC (sumR c1 op D S n)) _ rfl hres.out Try.underlying28 rfl (by kernel_rfl)) rfl ⟨rfl, hb.stable _ _ _ hr6 (below_put (Below.refl B _).drew (put_setRow _ _ _) (by omega)), KF.drew.put (put_setRow _ _ _) (Or.inl (by omega))⟩


def two {σ : Type} (b : Bus σ) (m : σ) (c : Cp) : Bool := hasW (wV b m c.pc / 2048)
def d1 {σ : Type} (b : Bus σ) (m : σ) (c : Cp) : σ := if two b m c then wS b (wS b m c.pc) ((c.pc + 2) % 65536) else wS b m c.pc
def dV {σ : Type} (b : Bus σ) (m : σ) (c : Cp) : Int := if two b m c then wV b (wS b m c.pc) ((c.pc + 2) % 65536) else 0
def d0 {σ : Type} (b : Bus σ) (m : σ) (c : Cp) : Cp := if two b m c then c.go ((c.pc + 4) % 65536) else c.go ((c.pc + 2) % 65536)
def dO {σ : Type} (b : Bus σ) (m : σ) (c : Cp) : Od := readO (wV b m c.pc) 0
/-- the processor when it has done an order -/
def dC {σ : Type} (b : Bus σ) (m : σ) (c : Cp) (rings : Bool) : Cp :=
  if rings && c.may then lvC b m c 2 else if c.wt then c else finC b (d1 b m c) (d0 b m c) (dO b m c).op (dO b m c).d.toNat (dO b m c).s.toNat (dO b m c).n (dV b m c)
def dM {σ : Type} (b : Bus σ) (m : σ) (c : Cp) (rings : Bool) : σ :=
  if rings && c.may then lvS b m c 2 else if c.wt then m else finS b (d1 b m c) (d0 b m c) (dO b m c).op (dO b m c).d.toNat (dO b m c).s.toNat (dO b m c).n
def dN {σ : Type} (b : Bus σ) (m : σ) (c : Cp) (rings : Bool) : Int :=
  if rings && c.may then 6 else if c.wt then 1 else finN (d0 b m c) (dO b m c).op
theorem rd_parts (a : Int) (ha : U16 a) : ∃ op : Int, ∃ D S : Nat, ∃ n : Int, readO a 0 = ⟨op, D, S, n, 0⟩ ∧ D < 8 ∧ S < 8 ∧ (-16 ≤ n ∧ n ≤ 15) ∧ (op = 12 ∨ op = 13 → 0 ≤ n) ∧ 0 ≤ op ∧ op < 32 ∧ op ≠ 30 := by
  unfold U16 at ha
  have hd : 0 ≤ (readO a 0).d ∧ (readO a 0).d ≤ 7 := by simp only [readO]; split <;> omega
  have hs : 0 ≤ (readO a 0).s ∧ (readO a 0).s ≤ 7 := by simp only [readO]; split <;> omega
  have hn : -16 ≤ (readO a 0).n ∧ (readO a 0).n ≤ 15 := by simp only [readO]; (repeat' split) <;> omega
  have hw : (readO a 0).w = 0 := by simp only [readO]; split <;> rfl
  have ho : 0 ≤ (readO a 0).op ∧ (readO a 0).op < 32 ∧ (readO a 0).op ≠ 30 := by simp only [readO]; split <;> omega
  have hh : (readO a 0).op = 12 ∨ (readO a 0).op = 13 → 0 ≤ (readO a 0).n := by
    intro h
    have h' : a / 2048 = 12 ∨ a / 2048 = 13 := by
      simp only [readO] at h
      split at h <;> omega
    simp only [readO]
    rw [if_pos h']
    split <;> omega
  refine ⟨(readO a 0).op, (readO a 0).d.toNat, (readO a 0).s.toNat, (readO a 0).n, ?_, by omega, by omega, hn, hh, ho.1, ho.2.1, ho.2.2⟩
  apply Od.ext
  · rfl
  · show (readO a 0).d = (((readO a 0).d.toNat : Nat) : Int)
    omega
  · show (readO a 0).s = (((readO a 0).s.toNat : Nat) : Int)
    omega
  · rfl
  · exact hw
theorem do_any {fg fp : FuncId} {cg cp : Value} {σ : Type} {b : Bus σ} {Rel : World → σ → Prop} {B : Nat} (hb : BusOk Try.prog fg fp cg cp b Rel B) (m : σ) (c : Cp) (hi : c.In) (rings : Bool) (w : World) (hr : Rel w m) (hB : B ≤ w.heap.size) : Calls Try.prog 17 #[.agg (cpuC c), .agg #[.func (.func fg) #[] #[cg], .func (.func fp) #[] #[cp]], .bool rings] w fun e w' => e = .returned (.tuple #[.agg (cpuC (dC b m c rings)), .int .i64 (dN b m c rings)]) ∧ Rel w' (dM b m c rings) ∧ Kp B NoX w w' := by
  unfold dC dM dN
  cases h : (rings && c.may)
  · cases hwt : c.wt
    · obtain ⟨op, D, S, n, eO, hD, hS, hn, hsh, h0, h1, h30⟩ := rd_parts (wV b m c.pc) (wV_u hb m c.pc)
      unfold dO
      rw [eO]
      simp only [Int.toNat_natCast, Bool.false_eq_true, if_false]
      cases ht : two b m c
      · have eL : readL (wV b m c.pc) = 1 := by unfold readL; unfold two at ht; rw [ht]; rfl
        simp only [d1, d0, dV, ht, Bool.false_eq_true, if_false]
        cases rings
        · exact do_0_1 hb m c hi w hr hB hwt op D S n eO eL hD hS hn hsh h0 h1 h30
        · exact do_1_1 hb m c hi w hr hB (by simpa using h) hwt op D S n eO eL hD hS hn hsh h0 h1 h30
      · have eL : readL (wV b m c.pc) = 2 := by unfold readL; unfold two at ht; rw [ht]; rfl
        simp only [d1, d0, dV, ht, if_true]
        cases rings
        · exact do_0_2 hb m c hi w hr hB hwt op D S n eO eL hD hS hn hsh h0 h1 h30
        · exact do_1_2 hb m c hi w hr hB (by simpa using h) hwt op D S n eO eL hD hS hn hsh h0 h1 h30
    · simp only [Bool.false_eq_true, if_false, if_true]
      exact do_wait hb m c hi rings w hr hB h hwt
  · simp only [if_true]
    simp only [Bool.and_eq_true] at h
    exact do_ring hb m c hi rings w hr hB h.1 h.2
end Go.Proofs.Yteihggfcafoogaa
