/- The bounds of a number that is read from some bytes. -/
import Derived.Test.YtijbfebbogiiiaaQ0
import Derived.Test.YtijbfebbogiiiaaHBase
namespace Go.Proofs.Ytijbfebbogiiiaa.Q
open Go.RowKit Go.Proofs.YtijbfebbogiiiaaW.PrintWords Go.Proofs.YtijbfebbogiiiaaW.PrintLast Go.Proofs.YtijbfebbogiiiaaW.PrintMore
attribute [local go_sem] max2_int min2_int max_two min_two max_three min_three max_four min_four
set_option linter.unusedVariables false
set_option linter.unusedSimpArgs false
theorem leAt_bd (s : ByteArray) (i : Int) (n : Nat) : 0 ≤ leAt s i n ∧ leAt s i n < 256 ^ n := by
  rw [← leSum_at]; exact leSum_bd s i n
end Go.Proofs.Ytijbfebbogiiiaa.Q
