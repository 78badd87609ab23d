/- Open and Is, the law. -/
import Derived.Test.YtijbfebbogiiiaaQ10
import Derived.Test.YtijbfebbogiiiaaPAwake31
namespace Go.Proofs.Ytijbfebbogiiiaa.Pure
open Go.RowKit Go.Proofs.Ytijbfebbogiiiaa.Q Go.Proofs.YtijbfebbogiiiaaW.PrintWords Go.Proofs.YtijbfebbogiiiaaW.PrintLast
set_option linter.unusedVariables false
theorem UdftagOpens : masterdisclaw31_UdftagOpens.Pure := by
  intro s id loc hs w1 w2
  refine Ev.rounds (g := fun k => masterdisclaw31_UdftagOpens.f k s id loc) ?_
  unfold masterdisclaw31_UdftagOpens.f
  refine Ev.bind awake31_ev (Ev.iteT rfl ?_)
  by_cases c : (s.size : Int) > 2100
  · exact Ev.iteT c (Ev.now _)
  · refine Ev.iteF c ?_
    have hs' : s.size ≤ 9223372036854775807 := by omega
    simp only [Open_f s loc hs', Is_f s id loc hs', Option.bind_some]
    refine Ev.bind (Openref_ev s loc hs') ?_
    refine Ev.iteT (by simp) (Ev.iteT rfl (Ev.iteT rfl ?_))
    refine Ev.congr (fun k => ?_) (Ev.bind (f := fun _ t => some (isOf s id loc == t)) (Isref_ev s id loc hs') (Ev.congr (fun k => by rw [beq_self_eq_true]) (Ev.now true)))
    rfl
end Go.Proofs.Ytijbfebbogiiiaa.Pure
