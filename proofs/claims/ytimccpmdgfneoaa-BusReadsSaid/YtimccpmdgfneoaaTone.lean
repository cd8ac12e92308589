/- What the program's voices, and the document's, compute. Conditions: the fields are words, bytes, truths. -/
import Derived.Test.YtimccpmdgfneoaaRows
import Derived.Test.YtimccpmdgfneoaaTonePure
namespace Go.Proofs.Ytimccpmdgfneoaa
open Go.RowKit Go.Mq
set_option linter.unusedVariables false
set_option linter.unusedSimpArgs false
set_option maxHeartbeats 2000000
set_option maxRecDepth 100000

theorem and1 (n : Int) (h : U16 n) : bits .and .u16 n 1 = n % 2 := by
  have := bits_mask .u16 16 (by decide) (fun n h h' => by rw [wrap16]; omega) 1 (by omega) n h.1 (by unfold U16 at h; omega)
  simpa using this
theorem and15 (n : Int) (h : U8 n) : bits .and .u8 n 15 = n % 16 := by
  have := bits_mask .u8 8 (by decide) (fun n h h' => by rw [wrap8]; omega) 4 (by omega) n h.1 (by unfold U8 at h; omega)
  simpa using this

end Go.Proofs.Ytimccpmdgfneoaa
