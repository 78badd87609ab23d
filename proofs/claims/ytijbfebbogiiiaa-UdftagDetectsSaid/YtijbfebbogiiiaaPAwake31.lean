/- The example that the laws of chapter 31 check first. -/
import Derived.Test.YtijbfebbogiiiaaPRef31
import Derived.Laws.Strings
namespace Go.Proofs.Ytijbfebbogiiiaa.Pure
open Go.RowKit Go.Proofs.Ytijbfebbogiiiaa.Q Go.Proofs.YtijbfebbogiiiaaW.PrintWords Go.Proofs.YtijbfebbogiiiaaW.PrintLast
set_option maxRecDepth 100000 in
theorem awake31_at : masterdisclaw31_awake.f 40 = some true := by
  unfold masterdisclaw31_awake.f
  simp only [ByteArray.toList_eq]
  kernel_rfl
theorem awake31_ev : Ev (fun k => masterdisclaw31_awake.f k) true := Ev.of masterdisclaw31_awake.mono awake31_at
end Go.Proofs.Ytijbfebbogiiiaa.Pure
