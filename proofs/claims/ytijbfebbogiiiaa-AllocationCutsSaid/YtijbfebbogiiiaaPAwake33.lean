/- The example that the laws of chapter 33 check first. -/
import Derived.Test.YtijbfebbogiiiaaQ16
import Derived.Laws.Strings
namespace Go.Proofs.Ytijbfebbogiiiaa.Pure
open Go.RowKit Go.Proofs.Ytijbfebbogiiiaa.Q Go.Proofs.YtijbfebbogiiiaaW.PrintWords Go.Proofs.YtijbfebbogiiiaaW.PrintLast
set_option maxRecDepth 100000 in
theorem awake33_at : masterdisclaw33_awake.f 40 = some true := by
  unfold masterdisclaw33_awake.f
  simp only [ByteArray.toList_eq]
  kernel_rfl
theorem awake33_ev : Ev (fun k => masterdisclaw33_awake.f k) true := Ev.of masterdisclaw33_awake.mono awake33_at
end Go.Proofs.Ytijbfebbogiiiaa.Pure
