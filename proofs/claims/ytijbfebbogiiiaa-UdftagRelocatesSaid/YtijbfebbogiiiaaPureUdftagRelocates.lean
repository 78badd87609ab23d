/- Relocate, the law. -/
import Derived.Test.YtijbfebbogiiiaaQ33
import Derived.Test.YtijbfebbogiiiaaPReloc
import Derived.Test.YtijbfebbogiiiaaPAwake31
namespace Go.Proofs.Ytijbfebbogiiiaa.Pure
open Go.RowKit Go.Proofs.Ytijbfebbogiiiaa.Q Go.Proofs.YtijbfebbogiiiaaW.PrintWords Go.Proofs.YtijbfebbogiiiaaW.PrintLast
set_option linter.unusedVariables false
theorem UdftagRelocates : masterdisclaw31_UdftagRelocates.Pure := by
  intro s loc hs0 _
  refine Ev.rounds (g := fun k => masterdisclaw31_UdftagRelocates.f k s loc) ?_
  unfold masterdisclaw31_UdftagRelocates.f
  refine Ev.bind awake31_ev (Ev.iteT rfl ?_)
  by_cases c : (s.size : Int) > 2100
  · exact Ev.iteT c (Ev.now _)
  · refine Ev.iteF c ?_
    refine Ev.bind (Relocate_ev s loc (by omega)) (Ev.bind (Relocref_ev s loc (by omega)) (Ev.iteT rfl ?_))
    refine Ev.congr (fun k => by rw [beq_self_eq_true]) (Ev.now true)
end Go.Proofs.Ytijbfebbogiiiaa.Pure
