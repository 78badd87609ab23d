/- Seal and Block, the law. -/
import Derived.Test.YtijbfebbogiiiaaQ52
import Derived.Test.YtijbfebbogiiiaaPMake
import Derived.Test.YtijbfebbogiiiaaPAwake31
namespace Go.Proofs.Ytijbfebbogiiiaa.Pure
open Go.RowKit Go.Proofs.Ytijbfebbogiiiaa.Q Go.Proofs.YtijbfebbogiiiaaW.PrintWords Go.Proofs.YtijbfebbogiiiaaW.PrintLast
set_option linter.unusedVariables false
theorem UdftagSeals : masterdisclaw31_UdftagSeals.Pure := by
  intro id ver loc body _ _ _ hs0
  refine Ev.rounds (g := fun k => masterdisclaw31_UdftagSeals.f k id ver loc body) ?_
  unfold masterdisclaw31_UdftagSeals.f
  refine Ev.bind awake31_ev (Ev.iteT rfl ?_)
  by_cases c : (body.size : Int) > 2100
  · exact Ev.iteT c (Ev.now _)
  · refine Ev.iteF c ?_
    refine Ev.bind (Seal_ev id ver loc body) (Ev.bind (Sealref_ev id ver loc body) (Ev.bind (Block_ev id ver loc body) (Ev.bind (Blockref_ev id ver loc body) ?_)))
    generalize sealRes id ver loc body 65535 = x
    generalize blockRes id ver loc body = y
    refine Ev.iteT rfl (Ev.iteT rfl (Ev.iteT rfl ?_))
    rw [beq_self_eq_true]
    exact Ev.now true
end Go.Proofs.Ytijbfebbogiiiaa.Pure
