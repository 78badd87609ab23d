/- Two equal lists of extents are found equal. -/
import Derived.Test.YtijbfebbogiiiaaPEv
import Derived.Test.YtijbfebbogiiiaaQEq
namespace Go.Proofs.Ytijbfebbogiiiaa.Pure
open Go.RowKit Go.Proofs.Ytijbfebbogiiiaa.Q Go.Proofs.YtijbfebbogiiiaaW.PrintWords Go.Proofs.YtijbfebbogiiiaaW.PrintLast Go.Proofs.YtijbfebbogiiiaaW.PrintMore
set_option linter.unusedVariables false
theorem Equal_l0 (l : List S46) (hl : l.length ≤ 9223372036854775807) : ∀ (m j : Nat), j + m = l.length → Ev (fun k => api_Extent_42.l0 k l l (l.length : Int) (j : Int)) true := by
  intro m
  induction m with
  | zero =>
    intro j hj
    exact Ev.step (fun k => by rw [api_Extent_42.l0, if_neg (by omega)]) (Ev.now _)
  | succ m ih =>
    intro j hj
    have := ih (j + 1) (by omega)
    refine Ev.step (fun k => by rw [api_Extent_42.l0, if_pos (by omega), if_pos (by omega), if_pos (by omega), if_pos (by omega), w64 ((j : Int) + 1) (by omega), show (j : Int) + 1 = ((j + 1 : Nat) : Int) by omega]) ?_
    exact Ev.iteF (by simp) this
/-- A list of extents is equal to itself. -/
theorem Equal_ev (l : List S46) (hl : l.length ≤ 9223372036854775807) : Ev (fun k => api_Extent_42.f k l l) true := by
  refine Ev.congr (fun k => by rw [api_Extent_42.f, if_pos rfl]) ?_
  exact Equal_l0 l hl l.length 0 (by omega)
end Go.Proofs.Ytijbfebbogiiiaa.Pure
