/- The example that the laws of chapter 41 check first. -/
import Derived.Test.YtijbfebbogiiiaaHAwake41
import Derived.Test.YtijbfebbogiiiaaPEv
namespace Go.Proofs.Ytijbfebbogiiiaa.Pure
open Go.RowKit Go.Proofs.Ytijbfebbogiiiaa.Q Go.Proofs.YtijbfebbogiiiaaW.PrintWords Go.Proofs.YtijbfebbogiiiaaW.PrintLast
theorem awake41_ev : Ev (fun _ => masterdisclaw41_awake.f) true := Ev.now _
end Go.Proofs.Ytijbfebbogiiiaa.Pure
