/- Decoding the block of a bitmap gives the bitmap and its number of blocks. -/
import Derived.Test.YtijbfebbogiiiaaQ61
import Derived.Test.YtijbfebbogiiiaaPAwake41
import Derived.Test.YtijbfebbogiiiaaPDisk
namespace Go.Proofs.Ytijbfebbogiiiaa.Pure
open Go.RowKit Go.Proofs.Ytijbfebbogiiiaa.Q Go.Proofs.YtijbfebbogiiiaaW.PrintWords Go.Proofs.YtijbfebbogiiiaaW.PrintLast
set_option linter.unusedVariables false
set_option linter.unusedSimpArgs false
theorem empty41 : ((⟨#[]⟩ : ByteArray).toList == ([] : List UInt8)) = true := by rw [ByteArray.toList_eq]; rfl
theorem enc_bad (s : ByteArray) (n loc : Int) (h : ¬ (validB s n = true ∧ 0 ≤ loc ∧ loc ≤ 4294967295)) : (encRes s n loc).1 = ⟨#[]⟩ ∧ (encRes s n loc).2 ≠ 0 := by
  unfold encRes
  by_cases hv : validB s n = true
  · rw [if_pos hv, blockRes, if_neg (by rw [inRange_loc]; exact fun h2 => h ⟨hv, h2⟩)]
    exact ⟨rfl, by decide⟩
  · rw [if_neg hv]
    exact ⟨rfl, by decide⟩
theorem returns_ev (s : ByteArray) (n loc : Int) : Ev (fun k => masterdisclaw41_SpacebitmapReturns.f k s n loc) true := by
  unfold masterdisclaw41_SpacebitmapReturns.f
  refine Ev.bind awake41_ev (Ev.iteT rfl ?_)
  by_cases c : (s.size : Int) > 600
  · exact Ev.iteT c (Ev.now _)
  · refine Ev.iteF c (Ev.bind (Encode_ev s n loc (by omega)) ?_)
    by_cases h : validB s n = true ∧ 0 ≤ loc ∧ loc ≤ 4294967295
    · obtain ⟨b, he, hb, hd⟩ := dec_enc s n loc h.1 h.2
      rw [he]
      refine Ev.iteT rfl (Ev.bind (Decode_ev b loc (by omega)) ?_)
      rw [hd]
      refine Ev.iteT rfl (Ev.iteT rfl (Ev.iteT rfl ?_))
      have e : ((b.size : Int) == 2048) = true := by rw [hb]; rfl
      show Ev (fun _ => some ((b.size : Int) == 2048)) true
      rw [e]
      exact Ev.now _
    · obtain ⟨h1, h2⟩ := enc_bad s n loc h
      rw [h1, empty41]
      exact Ev.iteF h2 (Ev.now _)
theorem SpacebitmapReturns : masterdisclaw41_SpacebitmapReturns.Pure := fun s n loc _ _ _ => (returns_ev s n loc).rounds
end Go.Proofs.Ytijbfebbogiiiaa.Pure
