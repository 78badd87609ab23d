/- The example that the laws of chapter 33 check first. -/
import Derived.Test.YtijbfebbogiiiaaHAwake33
namespace Go.Proofs.Ytijbfebbogiiiaa.Pure
open Go.RowKit Go.Proofs.Ytijbfebbogiiiaa.Q Go.Proofs.YtijbfebbogiiiaaW.PrintWords Go.Proofs.YtijbfebbogiiiaaW.PrintLast
theorem awake33_ev : Ev (fun _ => masterdisclaw33_awake.f) true := Ev.now _
end Go.Proofs.Ytijbfebbogiiiaa.Pure
