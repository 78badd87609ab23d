/- The second way of formed computes what the program's does. -/
import Derived.Test.YtijbfebbogiiiaaPJoin
import Derived.Test.YtijbfebbogiiiaaPEv
import Derived.Test.YtijbfebbogiiiaaHAlloc
import Derived.Test.YtijbfebbogiiiaaQ16
namespace Go.Proofs.Ytijbfebbogiiiaa.Pure
open Go Go.RowKit Go.Proofs.Ytijbfebbogiiiaa.Q Go.Proofs.YtijbfebbogiiiaaW.PrintWords Go.Proofs.YtijbfebbogiiiaaW.PrintLast Go.Proofs.YtijbfebbogiiiaaW.PrintMore
set_option linter.unusedVariables false
set_option linter.unusedSimpArgs false
theorem Formed_l0 (l : List S46) (hl : l.length ≤ 9223372036854775806) : ∀ (m j : Nat), j + m = l.length →
    Ev (fun k => masterdiscref33_Formed.l0 k l (j : Int)) (decide (l.length ≤ 64) && (l.drop j).all extOk) := by
  intro m
  induction m with
  | zero =>
    intro j hj
    rw [List.drop_of_length_le (by omega), List.all_nil, Bool.and_true]
    refine Ev.step (fun k => by rw [masterdiscref33_Formed.l0, if_neg (by omega)]) ?_
    rw [show decide (l.length ≤ 64) = decide ((l.length : Int) ≤ 64) by rw [decide_eq_decide]; omega]
    exact Ev.now _
  | succ m ih =>
    intro j hj
    have hlt : j < l.length := by omega
    have := ih (j + 1) (by omega)
    rw [List.drop_eq_getElem_cons hlt, List.all_cons]
    generalize hx : l[j] = x at *
    refine Ev.step (fun k => by rw [masterdiscref33_Formed.l0, if_pos (by omega), if_pos (by omega), rd46 l j hlt, hx, w64 ((j : Int) + 1) (by omega), show (j : Int) + 1 = ((j + 1 : Nat) : Int) by omega]) ?_
    have hbad : ¬ (0 ≤ x.f0 ∧ x.f0 ≤ 3 ∧ 1 ≤ x.f1 ∧ x.f1 < 1073741824 ∧ 0 ≤ x.f2.f0 ∧ x.f2.f0 < 4294967296 ∧ 0 ≤ x.f2.f1 ∧ x.f2.f1 ≤ 65535) → (decide (l.length ≤ 64) && (extOk x && (l.drop (j + 1)).all extOk)) = false := by
      intro h
      rw [extOk, decide_eq_false h, Bool.false_and, Bool.and_false]
    by_cases c1 : x.f0 < 0
    · rw [hbad (by omega)]; exact Ev.iteT c1 (Ev.now _)
    refine Ev.iteF c1 ?_
    by_cases c2 : x.f0 > 3
    · rw [hbad (by omega)]; exact Ev.iteT c2 (Ev.now _)
    refine Ev.iteF c2 ?_
    by_cases c3 : x.f1 < 1
    · rw [hbad (by omega)]; exact Ev.iteT c3 (Ev.now _)
    refine Ev.iteF c3 ?_
    by_cases c4 : x.f1 ≥ 1073741824
    · rw [hbad (by omega)]; exact Ev.iteT c4 (Ev.now _)
    refine Ev.iteF c4 ?_
    by_cases c5 : x.f2.f0 < 0
    · rw [hbad (by omega)]; exact Ev.iteT c5 (Ev.now _)
    refine Ev.iteF c5 ?_
    by_cases c6 : x.f2.f0 ≥ 4294967296
    · rw [hbad (by omega)]; exact Ev.iteT c6 (Ev.now _)
    refine Ev.iteF c6 ?_
    by_cases c7 : x.f2.f1 < 0
    · rw [hbad (by omega)]; exact Ev.iteT c7 (Ev.now _)
    refine Ev.iteF c7 ?_
    by_cases c8 : x.f2.f1 > 65535
    · rw [hbad (by omega)]; exact Ev.iteT c8 (Ev.now _)
    refine Ev.iteF c8 ?_
    rw [show extOk x = true by rw [extOk, decide_eq_true_iff]; omega, Bool.true_and]
    exact this
theorem Formedref_ev (l : List S46) (hl : l.length ≤ 9223372036854775806) : Ev (fun k => masterdiscref33_Formed.f k l) (formedB l) := by
  have := Formed_l0 l hl l.length 0 (by omega)
  exact this
end Go.Proofs.Ytijbfebbogiiiaa.Pure
