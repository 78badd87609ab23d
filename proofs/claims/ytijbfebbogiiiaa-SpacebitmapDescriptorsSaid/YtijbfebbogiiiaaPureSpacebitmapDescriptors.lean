/- Encode and Decode return what the second way returns. -/
import Derived.Test.YtijbfebbogiiiaaQ60
import Derived.Test.YtijbfebbogiiiaaPAwake41
import Derived.Test.YtijbfebbogiiiaaPBits
import Derived.Test.YtijbfebbogiiiaaPDisk
namespace Go.Proofs.Ytijbfebbogiiiaa.Pure
open Go.RowKit Go.Proofs.Ytijbfebbogiiiaa.Q Go.Proofs.YtijbfebbogiiiaaW.PrintWords Go.Proofs.YtijbfebbogiiiaaW.PrintLast
set_option linter.unusedVariables false
set_option linter.unusedSimpArgs false
theorem Encoderef_ev (s : ByteArray) (n loc : Int) (hs : s.size ≤ 1000000) : Ev (fun k => masterdiscref41_Encode.f k s n loc) (encRes s n loc) := by
  unfold masterdiscref41_Encode.f encRes
  refine Ev.bind (Valid_ev s n hs) ?_
  by_cases hv : validB s n = true
  · refine Ev.iteT hv ?_
    rw [if_pos hv]
    have hz := valid_size hv
    refine Ev.bind (Bytes_ev n 4 (by omega) (by omega) (by omega)) (Ev.bind (Bytes_ev (s.size : Int) 4 (by omega) (by omega) (by omega)) ?_)
    have e1 : (strOfNums (leNums n 4)).size = 4 := by rw [strOfNums_size, leNums_length]
    have e2 : (strOfNums (leNums (s.size : Int) 4)).size = 4 := by rw [strOfNums_size, leNums_length]
    have eb : bodyOf s n = (strOfNums (leNums n 4) ++ strOfNums (leNums (s.size : Int) 4)) ++ s := rfl
    rw [eb]
    generalize strOfNums (leNums n 4) = A at *
    generalize strOfNums (leNums (s.size : Int) 4) = B at *
    refine Ev.iteT (by omega) (Ev.iteT (by rw [ByteArray.size_append]; omega) ?_)
    exact Ev.bind (Blockref_ev 264 1 loc ((A ++ B) ++ s)) (Ev.now _)
  · refine Ev.iteF hv ?_
    rw [if_neg hv]
    exact Ev.now _
theorem Decoderef_j0 (b : ByteArray) : Ev (fun k => masterdiscref41_Decode.j0 k b true) (⟨#[]⟩, 0, 10) :=
  Ev.step (fun k => by rw [masterdiscref41_Decode.j0]) (Ev.iteT rfl (Ev.now _))
theorem Decoderef_ev (b : ByteArray) (loc : Int) (hb : b.size ≤ 1000000) : Ev (fun k => masterdiscref41_Decode.f k b loc) (decRes b loc) := by
  have hbad : ¬ (b.size = 2048 ∧ isOf b 264 loc = true ∧ leAt b 20 4 ≤ 2024 ∧ validB (b.extract 24 (24 + leAt b 20 4).toNat) (leAt b 16 4) = true) → decRes b loc = (⟨#[]⟩, 0, 10) := fun h => by rw [decRes, if_neg h]
  unfold masterdiscref41_Decode.f
  by_cases c : b.size = 2048
  · refine Ev.iteT (by omega) (Ev.bind (Isref_ev b 264 loc (by omega)) ?_)
    by_cases hi : isOf b 264 loc = true
    · rw [hi]
      refine Ev.step (fun k => by rw [masterdiscref41_Decode.j0]) (Ev.iteF (by decide) ?_)
      refine Ev.bind (Num_ev b 16 4 (by omega) (by omega) (by omega) (by omega) (by omega)) (Ev.bind (Num_ev b 20 4 (by omega) (by omega) (by omega) (by omega) (by omega)) ?_)
      rw [show (4 : Int).toNat = 4 from rfl]
      have b20 := leAt_bd b 20 4
      have h20 : 0 ≤ leAt b 20 4 := b20.1
      by_cases c1 : leAt b 20 4 > 2024
      · rw [hbad (fun h => by omega)]
        exact Ev.iteT c1 (Ev.now _)
      · refine Ev.iteF c1 ?_
        rw [w64 _ (by omega)]
        refine Ev.iteT (by omega) (Ev.iteT (by omega) ?_)
        refine Ev.bind (Valid_ev _ _ (by simp only [ByteArray.size_extract]; omega)) ?_
        by_cases c2 : validB (b.extract 24 (24 + leAt b 20 4).toNat) (leAt b 16 4) = true
        · have e : decRes b loc = (b.extract 24 (24 + leAt b 20 4).toNat, leAt b 16 4, 0) := by rw [decRes, if_pos ⟨c, hi, by omega, c2⟩]
          rw [e]
          exact Ev.iteT c2 (Ev.now _)
        · rw [hbad (fun h => c2 h.2.2.2)]
          exact Ev.iteF c2 (Ev.now _)
    · rw [hbad (fun h => hi h.2.1), Bool.eq_false_iff.2 hi]
      exact Decoderef_j0 b
  · rw [hbad (fun h => c h.1)]
    refine Ev.iteF (by omega) (Decoderef_j0 b)
theorem descr_ev (s : ByteArray) (n loc : Int) (b : ByteArray) : Ev (fun k => masterdisclaw41_SpacebitmapDescriptors.f k s n loc b) true := by
  have hj : Ev (fun k => masterdisclaw41_SpacebitmapDescriptors.j0 k s n loc b true) true := Ev.step (fun k => by rw [masterdisclaw41_SpacebitmapDescriptors.j0]) (Ev.iteT rfl (Ev.now _))
  unfold masterdisclaw41_SpacebitmapDescriptors.f
  refine Ev.bind awake41_ev (Ev.iteT rfl ?_)
  by_cases c : (s.size : Int) > 600
  · exact Ev.iteT c hj
  · refine Ev.iteF c ?_
    by_cases c2 : (b.size : Int) > 2100
    · rw [decide_eq_true c2]; exact hj
    · rw [decide_eq_false c2]
      refine Ev.step (fun k => by rw [masterdisclaw41_SpacebitmapDescriptors.j0]) (Ev.iteF (by decide) ?_)
      refine Ev.bind (Encode_ev s n loc (by omega)) (Ev.bind (Encoderef_ev s n loc (by omega)) (Ev.bind (Decode_ev b loc (by omega)) (Ev.bind (Decoderef_ev b loc (by omega)) ?_)))
      refine Ev.iteT rfl (Ev.iteT rfl (Ev.iteT rfl (Ev.iteT rfl ?_)))
      rw [beq_self_eq_true]
      exact Ev.now _
theorem SpacebitmapDescriptors : masterdisclaw41_SpacebitmapDescriptors.Pure := fun s n loc b _ _ _ _ => (descr_ev s n loc b).rounds
end Go.Proofs.Ytijbfebbogiiiaa.Pure
