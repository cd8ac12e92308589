/- The document's check of a machine. Conditions: its memories are slices of bytes. -/
import Derived.Test.YtimccpmdgfneoaaRefChkA
import Derived.Test.YtimccpmdgfneoaaRefChkB
import Derived.Test.YtimccpmdgfneoaaRefChkC
import Derived.Test.YtimccpmdgfneoaaRefChkD
namespace Go.Proofs.Ytimccpmdgfneoaa
open Go.RowKit Go.Mq
set_option linter.unusedVariables false
set_option linter.unusedSimpArgs false
set_option maxHeartbeats 1000000
set_option maxRecDepth 100000
theorem refcheck_any (V : Nat → Value) (m : Mach) (w : World) (hm : MV w V m) : Calls Try.prog 11 #[.agg (machC V m)] w fun e w' => e = .returned (.int .i64 (chk m)) ∧ Below w.heap.size w w' := by
  obtain ⟨n0, e0⟩ : ∃ n, n = (m.mem 0).length := ⟨_, rfl⟩
  obtain ⟨n1, e1⟩ : ∃ n, n = (m.mem 1).length := ⟨_, rfl⟩
  obtain ⟨n2, e2⟩ : ∃ n, n = (m.mem 2).length := ⟨_, rfl⟩
  obtain ⟨n3, e3⟩ : ∃ n, n = (m.mem 3).length := ⟨_, rfl⟩
  obtain ⟨n4, e4⟩ : ∃ n, n = (m.mem 4).length := ⟨_, rfl⟩
  by_cases h0 : 1024 < max (n0 : Int) n1
  · rw [show chk m = 2 from by
      unfold chk Bm.Ok Bm.In inTime
      rw [← e0, ← e1, ← e2, ← e3, ← e4]
      repeat' split
      all_goals omega]
    exact rc_0 V m w hm n0 n1 n2 n3 n4 e0 e1 e2 e3 e4 h0
  by_cases h1 : n2 ≠ 128
  · rw [show chk m = 4 from by
      unfold chk Bm.Ok Bm.In inTime
      rw [← e0, ← e1, ← e2, ← e3, ← e4]
      repeat' split
      all_goals omega]
    exact rc_1 V m w hm n0 n1 n2 n3 n4 e0 e1 e2 e3 e4 h0 h1
  replace h1 := Decidable.of_not_not h1
  by_cases h2 : n3 ≠ 64
  · rw [show chk m = 4 from by
      unfold chk Bm.Ok Bm.In inTime
      rw [← e0, ← e1, ← e2, ← e3, ← e4]
      repeat' split
      all_goals omega]
    exact rc_2 V m w hm n0 n1 n2 n3 n4 e0 e1 e2 e3 e4 h0 h1 h2
  replace h2 := Decidable.of_not_not h2
  by_cases h3 : n4 ≠ 256
  · rw [show chk m = 4 from by
      unfold chk Bm.Ok Bm.In inTime
      rw [← e0, ← e1, ← e2, ← e3, ← e4]
      repeat' split
      all_goals omega]
    exact rc_3 V m w hm n0 n1 n2 n3 n4 e0 e1 e2 e3 e4 h0 h1 h2 h3
  replace h3 := Decidable.of_not_not h3
  by_cases h4 : m.sd.wt < 0
  · rw [show chk m = 3 from by
      unfold chk Bm.Ok Bm.In inTime
      rw [← e0, ← e1, ← e2, ← e3, ← e4]
      repeat' split
      all_goals omega]
    exact rc_4 V m w hm n0 n1 n2 n3 n4 e0 e1 e2 e3 e4 h0 h1 h2 h3 h4
  by_cases h5 : 15 < m.sd.wt
  · rw [show chk m = 3 from by
      unfold chk Bm.Ok Bm.In inTime
      rw [← e0, ← e1, ← e2, ← e3, ← e4]
      repeat' split
      all_goals omega]
    exact rc_5 V m w hm n0 n1 n2 n3 n4 e0 e1 e2 e3 e4 h0 h1 h2 h3 h4 h5
  by_cases h6 : m.bm.ln < 0
  · rw [show chk m = 3 from by
      unfold chk Bm.Ok Bm.In inTime
      rw [← e0, ← e1, ← e2, ← e3, ← e4]
      repeat' split
      all_goals omega]
    exact rc_6 V m w hm n0 n1 n2 n3 n4 e0 e1 e2 e3 e4 h0 h1 h2 h3 h4 h5 h6
  by_cases h7 : 9 < m.bm.ln
  · rw [show chk m = 3 from by
      unfold chk Bm.Ok Bm.In inTime
      rw [← e0, ← e1, ← e2, ← e3, ← e4]
      repeat' split
      all_goals omega]
    exact rc_7 V m w hm n0 n1 n2 n3 n4 e0 e1 e2 e3 e4 h0 h1 h2 h3 h4 h5 h6 h7
  by_cases h8 : m.bm.pt < 0
  · rw [show chk m = 3 from by
      unfold chk Bm.Ok Bm.In inTime
      rw [← e0, ← e1, ← e2, ← e3, ← e4]
      repeat' split
      all_goals omega]
    exact rc_8 V m w hm n0 n1 n2 n3 n4 e0 e1 e2 e3 e4 h0 h1 h2 h3 h4 h5 h6 h7 h8
  by_cases h9 : 63 < m.bm.pt
  · rw [show chk m = 3 from by
      unfold chk Bm.Ok Bm.In inTime
      rw [← e0, ← e1, ← e2, ← e3, ← e4]
      repeat' split
      all_goals omega]
    exact rc_9 V m w hm n0 n1 n2 n3 n4 e0 e1 e2 e3 e4 h0 h1 h2 h3 h4 h5 h6 h7 h8 h9
  by_cases h10 : m.bm.fr < 0
  · rw [show chk m = 3 from by
      unfold chk Bm.Ok Bm.In inTime
      rw [← e0, ← e1, ← e2, ← e3, ← e4]
      repeat' split
      all_goals omega]
    exact rc_10 V m w hm n0 n1 n2 n3 n4 e0 e1 e2 e3 e4 h0 h1 h2 h3 h4 h5 h6 h7 h8 h9 h10
  by_cases h11 : 20000 < m.bm.fr
  · rw [show chk m = 3 from by
      unfold chk Bm.Ok Bm.In inTime
      rw [← e0, ← e1, ← e2, ← e3, ← e4]
      repeat' split
      all_goals omega]
    exact rc_11 V m w hm n0 n1 n2 n3 n4 e0 e1 e2 e3 e4 h0 h1 h2 h3 h4 h5 h6 h7 h8 h9 h10 h11
  by_cases h12 : m.ck < 0
  · rw [show chk m = 3 from by
      unfold chk Bm.Ok Bm.In inTime
      rw [← e0, ← e1, ← e2, ← e3, ← e4]
      repeat' split
      all_goals omega]
    exact rc_12 V m w hm n0 n1 n2 n3 n4 e0 e1 e2 e3 e4 h0 h1 h2 h3 h4 h5 h6 h7 h8 h9 h10 h11 h12
  by_cases h13 : 200000 < m.ck
  · rw [show chk m = 3 from by
      unfold chk Bm.Ok Bm.In inTime
      rw [← e0, ← e1, ← e2, ← e3, ← e4]
      repeat' split
      all_goals omega]
    exact rc_13 V m w hm n0 n1 n2 n3 n4 e0 e1 e2 e3 e4 h0 h1 h2 h3 h4 h5 h6 h7 h8 h9 h10 h11 h12 h13
  by_cases h14 : m.mr < 0
  · rw [show chk m = 3 from by
      unfold chk Bm.Ok Bm.In inTime
      rw [← e0, ← e1, ← e2, ← e3, ← e4]
      repeat' split
      all_goals omega]
    exact rc_14 V m w hm n0 n1 n2 n3 n4 e0 e1 e2 e3 e4 h0 h1 h2 h3 h4 h5 h6 h7 h8 h9 h10 h11 h12 h13 h14
  by_cases h15 : m.ck + 20000 < m.mr
  · rw [show chk m = 3 from by
      unfold chk Bm.Ok Bm.In inTime
      rw [← e0, ← e1, ← e2, ← e3, ← e4]
      repeat' split
      all_goals omega]
    exact rc_15 V m w hm n0 n1 n2 n3 n4 e0 e1 e2 e3 e4 h0 h1 h2 h3 h4 h5 h6 h7 h8 h9 h10 h11 h12 h13 h14 h15
  by_cases h16 : m.ar < 0
  · rw [show chk m = 3 from by
      unfold chk Bm.Ok Bm.In inTime
      rw [← e0, ← e1, ← e2, ← e3, ← e4]
      repeat' split
      all_goals omega]
    exact rc_16 V m w hm n0 n1 n2 n3 n4 e0 e1 e2 e3 e4 h0 h1 h2 h3 h4 h5 h6 h7 h8 h9 h10 h11 h12 h13 h14 h15 h16
  by_cases h17 : m.ck + 20000 < m.ar
  · rw [show chk m = 3 from by
      unfold chk Bm.Ok Bm.In inTime
      rw [← e0, ← e1, ← e2, ← e3, ← e4]
      repeat' split
      all_goals omega]
    exact rc_17 V m w hm n0 n1 n2 n3 n4 e0 e1 e2 e3 e4 h0 h1 h2 h3 h4 h5 h6 h7 h8 h9 h10 h11 h12 h13 h14 h15 h16 h17
  rw [show chk m = 0 from by
    unfold chk Bm.Ok Bm.In inTime
    rw [← e0, ← e1, ← e2, ← e3, ← e4]
    repeat' split
    all_goals omega]
  exact rc_18 V m w hm n0 n1 n2 n3 n4 e0 e1 e2 e3 e4 h0 h1 h2 h3 h4 h5 h6 h7 h8 h9 h10 h11 h12 h13 h14 h15 h16 h17
end Go.Proofs.Ytimccpmdgfneoaa
