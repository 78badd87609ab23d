/- Faults and Parse, the law. -/
import Derived.Test.YtijbfebbogiiiaaQ46
import Derived.Test.YtijbfebbogiiiaaQ45
import Derived.Test.YtijbfebbogiiiaaPAwake31
namespace Go.Proofs.Ytijbfebbogiiiaa.Pure
open Go.RowKit Go.Proofs.Ytijbfebbogiiiaa.Q Go.Proofs.YtijbfebbogiiiaaW.PrintWords Go.Proofs.YtijbfebbogiiiaaW.PrintLast
set_option linter.unusedVariables false
theorem faults_len (s : ByteArray) (loc : Int) : (faultsAll s loc).length ≤ 6 := by
  unfold faultsAll faultsOf
  split
  · simp
  · simp only [List.length_append]
    repeat' split
    all_goals simp
theorem faults_mem (s : ByteArray) (loc : Int) : ∀ x ∈ faultsAll s loc, x = 1 ∨ x = 2 ∨ x = 3 ∨ x = 4 ∨ x = 5 ∨ x = 6 := by
  intro x
  unfold faultsAll faultsOf
  split
  · simp; omega
  · simp only [List.mem_append]
    rintro (((h | h) | h) | h)
    · split at h <;> simp at h; omega
    · split at h <;> simp at h; omega
    · split at h
      · simp at h; omega
      · split at h <;> simp at h; omega
    · split at h <;> simp at h; omega
theorem faults_short (s : ByteArray) (loc : Int) (h : (faultsAll s loc).any (fun x => decide (x ≤ 3)) = false) : 16 ≤ s.size := by
  rcases Nat.lt_or_ge s.size 16 with h1 | h1
  · rw [faultsAll, if_pos h1] at h; simp at h
  · exact h1
def parseOf (s : ByteArray) : Int × Int × Int × Int × Int :=
  if (faultsAll s 0).any (fun x => decide (x ≤ 3)) = true then (0, 0, 0, 0, 10) else (leAt s 0 2, leAt s 6 2, leAt s 10 2, leAt s 12 4, 0)
theorem has_low (l : List Int) (h : ∀ x ∈ l, x = 1 ∨ x = 2 ∨ x = 3 ∨ x = 4 ∨ x = 5 ∨ x = 6) : ([1, 2, 3] : List Int).any (fun x => l.contains x) = l.any (fun x => decide (x ≤ 3)) := by
  rw [Bool.eq_iff_iff]
  simp only [List.any_eq_true, List.contains_iff_mem, decide_eq_true_eq]
  constructor
  · rintro ⟨x, hx, hl⟩
    refine ⟨x, hl, ?_⟩
    simp at hx
    omega
  · rintro ⟨x, hl, hx⟩
    refine ⟨x, ?_, hl⟩
    have := h x hl
    simp
    omega
theorem Parse_f (s : ByteArray) (hs : s.size ≤ 9223372036854775807) : udftag_Parse.f s = some (parseOf s) := by
  unfold udftag_Parse.f parseOf
  have hl := faults_len s 0
  rw [Faults_f s 0 hs, Option.bind_some, udftag_has.f, if_pos ⟨by omega, by simp⟩, Option.bind_some, has_low _ (faults_mem s 0)]
  cases h : (faultsAll s 0).any (fun x => decide (x ≤ 3)) with
  | true => rfl
  | false =>
    rw [if_neg (by decide), if_neg (by decide), values_f s (faults_short s 0 h) hs]
    rfl
theorem Parse_l0 (s : ByteArray) (l : List Int) (hs : s.size ≤ 9223372036854775807) (hl : l.length ≤ 1000) (h16 : l.any (fun x => decide (x ≤ 3)) = false → 16 ≤ s.size) : ∀ (m j : Nat), j + m = l.length → (l.take j).any (fun x => decide (x ≤ 3)) = false →
    Ev (fun k => masterdiscref31_Parse.l0 k s l (j : Int)) (if l.any (fun x => decide (x ≤ 3)) = true then (0, 0, 0, 0, 10) else (leAt s 0 2, leAt s 6 2, leAt s 10 2, leAt s 12 4, 0)) := by
  intro m
  induction m with
  | zero =>
    intro j hj ht
    rw [List.take_of_length_le (by omega)] at ht
    refine Ev.step (fun k => by rw [masterdiscref31_Parse.l0]) (Ev.iteF (by omega) ?_)
    rw [if_neg (by rw [ht]; decide)]
    exact Ev.bind (tagref_ev s (h16 ht) hs) (Ev.now _)
  | succ m ih =>
    intro j hj ht
    have hlt : j < l.length := by omega
    have hrd : rd l (j : Int) = l[j] := by unfold rd; simp [hlt]
    refine Ev.step (fun k => by rw [masterdiscref31_Parse.l0]) (Ev.iteT (by omega) (Ev.iteT (by omega) ?_))
    by_cases c : l[j] ≤ 3
    · refine Ev.iteT (by rw [hrd]; exact c) ?_
      rw [if_pos (List.any_eq_true.2 ⟨l[j], List.getElem_mem hlt, by simpa using c⟩)]
      exact Ev.now _
    · refine Ev.iteF (by rw [hrd]; exact c) ?_
      rw [w64 _ (by omega)]
      refine ih (j + 1) (by omega) ?_
      rw [← List.take_append_getElem hlt, List.any_append, ht]
      simp; omega
theorem Parseref_ev (s : ByteArray) (hs : s.size ≤ 9223372036854775807) : Ev (fun k => masterdiscref31_Parse.f k s) (parseOf s) := by
  unfold masterdiscref31_Parse.f
  refine Ev.bind (Faultsref_ev s 0 hs) ?_
  have hl := faults_len s 0
  exact Parse_l0 s (faultsAll s 0) hs (by omega) (faults_short s 0) (faultsAll s 0).length 0 (by omega) (by simp)
theorem Equal_l0 (l : List Int) (hl : l.length ≤ 1000) : ∀ (m j : Nat), j + m = l.length → Ev (fun k => slices_Equal_int_int.l0 k l l (l.length : Int) (j : Int)) true := by
  intro m
  induction m with
  | zero =>
    intro j hj
    exact Ev.step (fun k => by rw [slices_Equal_int_int.l0]) (Ev.iteF (by omega) (Ev.now _))
  | succ m ih =>
    intro j hj
    refine Ev.step (fun k => by rw [slices_Equal_int_int.l0]) (Ev.iteT (by omega) (Ev.iteT (by omega) (Ev.iteT (by omega) (Ev.iteT (by omega) (Ev.iteT rfl ?_)))))
    rw [w64 _ (by omega)]
    exact ih (j + 1) (by omega)
theorem Equal_ev (l : List Int) (hl : l.length ≤ 1000) : Ev (fun k => slices_Equal_int_int.f k l l) true := by
  unfold slices_Equal_int_int.f
  exact Ev.iteT rfl (Equal_l0 l hl l.length 0 (by omega))
theorem UdftagFaults : masterdisclaw31_UdftagFaults.Pure := by
  intro s loc hs0 _
  have hs : s.size ≤ 9223372036854775807 := by omega
  refine Ev.rounds (g := fun k => masterdisclaw31_UdftagFaults.f k s loc) ?_
  unfold masterdisclaw31_UdftagFaults.f
  refine Ev.bind awake31_ev (Ev.iteT rfl ?_)
  by_cases c : (s.size : Int) > 2100
  · exact Ev.iteT c (Ev.now _)
  · refine Ev.iteF c ?_
    simp only [Parse_f s hs, Faults_f s loc hs, Option.bind_some]
    have hl := faults_len s loc
    exact Ev.bind (Parseref_ev s hs) (Ev.iteT (by simp) (Ev.iteT rfl (Ev.bind (Faultsref_ev s loc hs) (Ev.bind (Equal_ev _ (by omega)) (Ev.now _)))))
end Go.Proofs.Ytijbfebbogiiiaa.Pure
