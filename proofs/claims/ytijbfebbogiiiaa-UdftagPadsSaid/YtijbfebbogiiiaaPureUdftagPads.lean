/- Block is Seal and zero bytes, the law. -/
import Derived.Test.YtijbfebbogiiiaaQ53
import Derived.Test.YtijbfebbogiiiaaPMake
import Derived.Test.YtijbfebbogiiiaaPAwake31
namespace Go.Proofs.Ytijbfebbogiiiaa.Pure
open Go.RowKit Go.Proofs.Ytijbfebbogiiiaa.Q Go.Proofs.YtijbfebbogiiiaaW.PrintWords Go.Proofs.YtijbfebbogiiiaaW.PrintLast
set_option linter.unusedVariables false
theorem Pads_l0 (s : ByteArray) (hs : s.size ≤ 100000) (hz : ∀ i : Nat, 16 ≤ i → True) (n : Nat) (h0 : ∀ i : Nat, n ≤ i → i < s.size → bt s (i : Int) = 0) : ∀ (m j : Nat), j + m = s.size → n ≤ j →
    Ev (fun k => masterdisclaw31_UdftagPads.l0 k s (j : Int)) true := by
  intro m
  induction m with
  | zero =>
    intro j hj hn
    exact Ev.step (fun k => by rw [masterdisclaw31_UdftagPads.l0]) (Ev.iteF (by omega) (Ev.now _))
  | succ m ih =>
    intro j hj hn
    refine Ev.step (fun k => by rw [masterdisclaw31_UdftagPads.l0]) (Ev.iteT (by omega) (Ev.iteT (by omega) (Ev.iteT (h0 j hn (by omega)) ?_)))
    rw [w64 _ (by omega)]
    exact ih (j + 1) (by omega) (by omega)
theorem zero_bytes (n : Nat) : bytesOf (zeroBytes n) = List.replicate n 0 := by
  rw [← zeroBytes_nums, bytesOf_strOfNums]
  intro x hx
  rw [List.eq_of_mem_replicate hx]; decide
theorem UdftagPads : masterdisclaw31_UdftagPads.Pure := by
  intro id ver loc body _ _ _ hs0
  refine Ev.rounds (g := fun k => masterdisclaw31_UdftagPads.f k id ver loc body) ?_
  unfold masterdisclaw31_UdftagPads.f
  have hempty : (⟨#[]⟩ : ByteArray).toList = ([] : List UInt8) := by rw [bytes_toList]
  refine Ev.bind awake31_ev (Ev.iteT rfl ?_)
  by_cases c : (body.size : Int) > 2100
  · exact Ev.iteT c (Ev.now _)
  · refine Ev.iteF c ?_
    refine Ev.bind (Seal_ev id ver loc body) (Ev.bind (Block_ev id ver loc body) ?_)
    unfold sealRes blockRes
    by_cases h : inRange id ver loc
    · have h65 : ¬ (body.size : Int) > 65535 := by omega
      simp only [if_pos h, if_neg h65]
      by_cases c2 : (body.size : Int) > 2032
      · rw [if_pos c2]
        exact Ev.iteT c2 (Ev.iteT hempty (Ev.now _))
      · rw [if_neg c2]
        refine Ev.iteF c2 (Ev.iteT (by simp) ?_)
        dsimp only
        have hs := sealOf_size id ver loc body
        generalize sealOf id ver loc body = S at *
        have hz := zeroBytes_size (2048 - S.size)
        have hzb := zero_bytes (2048 - S.size)
        generalize zeroBytes (2048 - S.size) = Z at *
        have hT : (S ++ Z).size = 2048 := by rw [ByteArray.size_append]; omega
        have hb : bytesOf (S ++ Z) = bytesOf S ++ List.replicate (2048 - S.size) 0 := by rw [bytesOf_append, hzb]
        have hpre : (S ++ Z).extract 0 ((S.size : Int)).toNat = S := by
          apply bytesOf_inj
          rw [bytesOf_extract, hb, List.drop_zero, Int.toNat_natCast, List.take_append_of_le_length (by rw [bytesOf_length]; omega), List.take_of_length_le (by rw [bytesOf_length]; omega)]
        have h0 : ∀ i : Nat, S.size ≤ i → i < (S ++ Z).size → bt (S ++ Z) (i : Int) = 0 := by
          intro i hi hl
          rw [← rd_bytesOf, hb, rd_append_right _ _ _ (by rw [bytesOf_length]; omega)]
          unfold rd
          rw [List.getD_eq_getElem?_getD, List.getElem?_replicate]
          split <;> rfl
        generalize S ++ Z = T at *
        refine Ev.step (fun k => by rw [masterdisclaw31_UdftagPads.j0]) (Ev.iteF (by decide) (Ev.iteT (by omega) (Ev.iteF (by omega) (Ev.iteT (by omega) (Ev.iteT (by omega) ?_)))))
        rw [hpre, bne_self_eq_false]
        refine Ev.step (fun k => by rw [masterdisclaw31_UdftagPads.j1]) (Ev.iteF (by decide) ?_)
        exact Pads_l0 T (by omega) (fun _ _ => trivial) S.size h0 (T.size - S.size) S.size (by omega) (by omega)
    · simp only [if_neg h]
      by_cases c2 : (body.size : Int) > 2032
      · exact Ev.iteT c2 (Ev.iteT hempty (Ev.now _))
      · refine Ev.iteF c2 (Ev.iteF (by decide) ?_)
        refine Ev.step (fun k => by rw [masterdisclaw31_UdftagPads.j0]) (Ev.iteT rfl (Ev.iteT rfl ?_))
        rw [hempty]
        exact Ev.now _
end Go.Proofs.Ytijbfebbogiiiaa.Pure
