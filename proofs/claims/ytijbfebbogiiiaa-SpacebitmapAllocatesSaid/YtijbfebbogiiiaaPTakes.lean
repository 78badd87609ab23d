/- Which blocks the first runs hold: those free blocks in front of which fewer than the count are free. -/
import Derived.Test.YtijbfebbogiiiaaPSpans
import Derived.Test.YtijbfebbogiiiaaHSpace5
namespace Go.Proofs.Ytijbfebbogiiiaa.Pure
open Go Go.RowKit Go.Proofs.Ytijbfebbogiiiaa.Q Go.Proofs.YtijbfebbogiiiaaW.PrintWords Go.Proofs.YtijbfebbogiiiaaW.PrintLast Go.Proofs.YtijbfebbogiiiaaW.PrintMore
set_option linter.unusedVariables false
set_option linter.unusedSimpArgs false
theorem inSpans_add {l : List S76} {i : Nat} (h : belowS l i) (k : Nat) : inSpans (addS l (i : Int)) k = (inSpans l k || decide (k = i)) := by
  rcases List.eq_nil_or_concat l with rfl | ⟨t, x, rfl⟩
  · show inSpans [⟨(i : Int), 1⟩] k = (inSpans [] k || decide (k = i))
    simp only [inSpans, List.any_cons, List.any_nil, Bool.or_false, Bool.false_or]
    rw [decide_eq_decide]; omega
  · rw [List.concat_eq_append] at h ⊢
    have h1 := h.2 x (by simp)
    unfold addS
    rw [List.getLast?_concat]
    simp only [List.dropLast_concat]
    split
    · rename_i c
      rw [inSpans_snoc, inSpans_snoc, Bool.or_assoc]
      congr 1
      show decide (x.f0 ≤ (k : Int) ∧ (k : Int) < x.f0 + (x.f1 + 1)) = _
      rw [← Bool.decide_or, decide_eq_decide]
      omega
    · rw [inSpans_snoc]
      congr 1
      show decide ((i : Int) ≤ (k : Int) ∧ (k : Int) < (i : Int) + 1) = _
      rw [decide_eq_decide]
      omega
theorem inSpans_below {l : List S76} {i k : Nat} (h : belowS l i) (hk : i ≤ k) : inSpans l k = false := by
  rw [inSpans, List.any_eq_false]
  intro x hx
  have := h.2 x hx
  simp only [decide_eq_true_eq]
  omega
/-- The first c free blocks, told by the blocks in front. -/
theorem inSpans_take (p : Nat → Bool) (k : Nat) : ∀ (r i : Nat) (c : Int) (acc : List S76), belowS acc i → 0 ≤ c →
    inSpans (takeRef p r i c acc) k = (inSpans acc k || (decide (i ≤ k ∧ k < i + r) && (p k && decide (((cnt p (k - i) i : Nat) : Int) < c)))) := by
  intro r
  induction r with
  | zero =>
    intro i c acc ha hc
    rw [takeRef, decide_eq_false (by omega), Bool.false_and, Bool.or_false]
  | succ r ih =>
    intro i c acc ha hc
    rw [takeRef]
    by_cases h0 : c ≤ 0
    · rw [if_pos h0, decide_eq_false (show ¬ (((cnt p (k - i) i : Nat) : Int) < c) by omega), Bool.and_false, Bool.and_false, Bool.or_false]
    · rw [if_neg h0]
      have hcnt : i < k → cnt p (k - i) i = (if p i = true then 1 else 0) + cnt p (k - (i + 1)) (i + 1) := fun h => by rw [show k - i = (k - (i + 1)) + 1 by omega, cnt]
      by_cases hp : p i = true
      · rw [if_pos hp, ih (i + 1) (c - 1) _ (belowS_add ha) (by omega), inSpans_add ha, Bool.or_assoc]
        congr 1
        by_cases h1 : k = i
        · subst h1
          rw [decide_eq_true rfl, Bool.true_or, decide_eq_true (show k ≤ k ∧ k < k + (r + 1) by omega), hp, Nat.sub_self, Bool.true_and, Bool.true_and]
          have e0 : cnt p 0 k = 0 := rfl
          rw [e0, decide_eq_true (by omega)]
        · rw [decide_eq_false h1, Bool.false_or]
          by_cases h2 : i < k
          · rw [hcnt h2, if_pos hp]
            congr 1
            · rw [decide_eq_decide]; omega
            · congr 1
              rw [decide_eq_decide]; omega
          · rw [decide_eq_false (show ¬ (i + 1 ≤ k ∧ k < i + 1 + r) by omega), decide_eq_false (show ¬ (i ≤ k ∧ k < i + (r + 1)) by omega), Bool.false_and, Bool.false_and]
      · rw [if_neg hp, ih (i + 1) c acc (belowS_mono ha (by omega)) hc]
        congr 1
        by_cases h1 : k = i
        · subst h1
          rw [Bool.eq_false_iff.2 hp]
          simp
        · by_cases h2 : i < k
          · rw [hcnt h2, if_neg hp, Nat.zero_add]
            congr 1
            rw [decide_eq_decide]; omega
          · rw [decide_eq_false (show ¬ (i + 1 ≤ k ∧ k < i + 1 + r) by omega), decide_eq_false (show ¬ (i ≤ k ∧ k < i + (r + 1)) by omega), Bool.false_and, Bool.false_and]
theorem takeRuns_ref (p : Nat → Bool) (N : Nat) (c : Int) (hc : 0 ≤ c) : takeRuns (runsAux p N 0 none) c = takeRef p N 0 c [] := by
  rw [(takeRef_eq p N 0 c [] hc).1 (fun x hx => by simp at hx), List.nil_append]
/-- The blocks that are taken. -/
theorem inSpans_takeRuns (p : Nat → Bool) (N : Nat) (c : Int) (hc : 0 ≤ c) (k : Nat) (hk : k < N) : inSpans (takeRuns (runsAux p N 0 none) c) k = (p k && decide (((cnt p k 0 : Nat) : Int) < c)) := by
  rw [takeRuns_ref _ _ _ hc, inSpans_take p k N 0 c [] ⟨by simp, by simp⟩ hc, decide_eq_true (by omega), Bool.true_and, Nat.sub_zero]
  rfl
/-- The blocks of the runs are the free ones. -/
theorem inSpans_runs (p : Nat → Bool) (N k : Nat) (hk : k < N) : inSpans (runsAux p N 0 none) k = p k := by
  have h := inSpans_takeRuns p N (N : Int) (by omega) k hk
  rw [takeRuns_ref _ _ _ (by omega), takeRef_all] at h
  have := cnt_le p k 0
  rw [h, decide_eq_true (by omega), Bool.and_true]
theorem take_below (p : Nat → Bool) : ∀ (r i : Nat) (c : Int) (acc : List S76), belowS acc i → belowS (takeRef p r i c acc) (i + r) := by
  intro r
  induction r with
  | zero => intro i c acc h; exact h
  | succ r ih =>
    intro i c acc h
    rw [takeRef, show i + (r + 1) = i + 1 + r by omega]
    split
    · exact belowS_mono h (by omega)
    · split
      · exact ih _ _ _ (belowS_add h)
      · exact ih _ _ _ (belowS_mono h (by omega))
end Go.Proofs.Ytijbfebbogiiiaa.Pure
