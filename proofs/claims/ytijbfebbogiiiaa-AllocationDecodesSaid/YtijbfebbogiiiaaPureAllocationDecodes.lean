/- The law AllocationDecodes in plain words: it returns true for any string and partition. -/
import Derived.Test.YtijbfebbogiiiaaQ50
import Derived.Test.YtijbfebbogiiiaaPEqual
import Derived.Test.YtijbfebbogiiiaaPAwake33
namespace Go.Proofs.Ytijbfebbogiiiaa.Pure
open Go Go.RowKit Go.Proofs.Ytijbfebbogiiiaa.Q Go.Proofs.YtijbfebbogiiiaaW.PrintWords Go.Proofs.YtijbfebbogiiiaaW.PrintLast Go.Proofs.YtijbfebbogiiiaaW.PrintMore
set_option linter.unusedVariables false
theorem decFrom_length (s : ByteArray) (size : Int) (part : Int → Int) : ∀ (n : Nat) (i : Int) (acc : List S46), acc.length ≤ 64 → (decFrom s size part n i acc).1.length ≤ 64 := by
  intro n
  induction n with
  | zero => intro i acc h; exact h
  | succ n ih =>
    intro i acc h
    rw [decFrom]
    split
    · exact h
    · split
      · exact Nat.zero_le _
      · exact ih _ _ (by rw [List.length_append, List.length_singleton]; omega)
theorem short_same (s : ByteArray) (p : Int) (h : s.size ≤ 1200) : ∃ a, allocation_DecodeShort.f s p = some a ∧ masterdiscref33_DecodeShort.f s p = some a ∧ a.1.length ≤ 64 := by
  unfold allocation_DecodeShort.f masterdiscref33_DecodeShort.f masterdiscref33_decode.f
  have hs : ¬ 140737488355328 < s.size := by omega
  rw [if_neg hs, if_neg hs, if_pos (rfl : (8 : Int) = 8)]
  by_cases h1 : p < 0
  · rw [if_pos (.inl h1), if_pos h1]; exact ⟨_, rfl, rfl, Nat.zero_le _⟩
  · rw [if_neg h1]
    by_cases h2 : p > 65535
    · rw [if_pos (.inr h2), if_pos h2]; exact ⟨_, rfl, rfl, Nat.zero_le _⟩
    · rw [if_neg (show ¬ (p < 0 ∨ p > 65535) by omega), if_neg h2]
      by_cases h3 : s.size % 8 ≠ 0
      · rw [if_pos h3]; exact ⟨_, rfl, rfl, Nat.zero_le _⟩
      · rw [if_neg h3]; exact ⟨_, rfl, rfl, decFrom_length _ _ _ _ _ _ (by simp)⟩
theorem long_same (s : ByteArray) (h : s.size ≤ 1200) : ∃ a, allocation_DecodeLong.f s = some a ∧ masterdiscref33_DecodeLong.f s = some a ∧ a.1.length ≤ 64 := by
  unfold allocation_DecodeLong.f masterdiscref33_DecodeLong.f masterdiscref33_decode.f
  have hs : ¬ 140737488355328 < s.size := by omega
  rw [if_neg hs, if_neg hs, if_neg (show ¬ (16 : Int) = 8 by omega), if_pos (rfl : (16 : Int) = 16)]
  by_cases h3 : s.size % 16 ≠ 0
  · rw [if_pos h3]; exact ⟨_, rfl, rfl, Nat.zero_le _⟩
  · rw [if_neg h3]; exact ⟨_, rfl, rfl, decFrom_length _ _ _ _ _ _ (by simp)⟩
theorem AllocationDecodes : masterdisclaw33_AllocationDecodes.Pure := by
  intro a0 a1 _ _
  refine Ev.rounds (g := fun k => masterdisclaw33_AllocationDecodes.f k a0 a1) ?_
  refine Ev.congr (fun k => by rw [masterdisclaw33_AllocationDecodes.f]) (Ev.bind awake33_ev (Ev.iteT rfl ?_))
  by_cases hl : (a0.size : Int) > 1200
  · exact Ev.iteT hl (Ev.now _)
  · refine Ev.iteF hl ?_
    obtain ⟨a, e1, e2, n1⟩ := short_same a0 a1 (by omega)
    obtain ⟨b, e3, e4, n2⟩ := long_same a0 (by omega)
    refine Ev.congr (fun k => by rw [e1, e2, e3, e4, Option.bind_some, Option.bind_some, Option.bind_some, Option.bind_some]) (Ev.bind (Equal_ev a.1 (by omega)) (Ev.iteT rfl (Ev.iteT rfl (Ev.bind (Equal_ev b.1 (by omega)) (Ev.iteT rfl ?_)))))
    rw [beq_self_eq_true]
    exact Ev.now _
end Go.Proofs.Ytijbfebbogiiiaa.Pure
