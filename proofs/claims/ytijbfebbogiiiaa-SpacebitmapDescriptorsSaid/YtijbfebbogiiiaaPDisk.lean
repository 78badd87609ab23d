/- The descriptor of a bitmap: what Encode and Decode of the program compute, and that Decode gives the bitmap back. -/
import Derived.Test.YtijbfebbogiiiaaPMake
import Derived.Test.YtijbfebbogiiiaaHSpace0
import Derived.Test.YtijbfebbogiiiaaQ30
namespace Go.Proofs.Ytijbfebbogiiiaa.Pure
open Go.RowKit Go.Proofs.Ytijbfebbogiiiaa.Q Go.Proofs.YtijbfebbogiiiaaW.PrintWords Go.Proofs.YtijbfebbogiiiaaW.PrintLast
set_option linter.unusedVariables false
set_option linter.unusedSimpArgs false
/-- The body's bytes: the number of blocks, the number of bytes, the bitmap. -/
def bodyOf (s : ByteArray) (n : Int) : ByteArray := (strOfNums (leNums n 4) ++ strOfNums (leNums (s.size : Int) 4)) ++ s
theorem bodyOf_size (s : ByteArray) (n : Int) : (bodyOf s n).size = 8 + s.size := by
  rw [bodyOf, ByteArray.size_append, ByteArray.size_append, strOfNums_size, strOfNums_size, leNums_length, leNums_length]
theorem bodyOf_bytes (s : ByteArray) (n : Int) : bytesOf (bodyOf s n) = leNums n 4 ++ leNums (s.size : Int) 4 ++ bytesOf s := by
  rw [bodyOf, bytesOf_append, bytesOf_append, bytes_le, bytes_le]
def encRes (s : ByteArray) (n loc : Int) : ByteArray × Int := if validB s n = true then blockRes 264 1 loc (bodyOf s n) else (⟨#[]⟩, 1)
theorem valid_size {s : ByteArray} {n : Int} (h : validB s n = true) : 0 ≤ n ∧ n ≤ 4096 ∧ (s.size : Int) = (n + 7) / 8 := by
  unfold validB at h
  rw [Bool.and_eq_true, decide_eq_true_iff] at h
  exact h.1
theorem little_f (a : Int) (h0 : 0 ≤ a) (h1 : a ≤ 4294967295) : endian_Little.f a 4 = some (strOfNums (leNums a 4), 0) := by
  rw [endian_Little.f, if_pos (by omega), if_pos (by refine ⟨h0, ?_⟩; show a < 4294967296; omega)]
  rfl
theorem inRange_loc (loc : Int) : inRange 264 1 loc ↔ 0 ≤ loc ∧ loc ≤ 4294967295 := by
  constructor
  · exact fun h => h.2.2
  · exact fun h => ⟨by omega, by omega, h⟩
theorem Encode_j0 (s : ByteArray) (n loc : Int) : Ev (fun k => spacebitmap_Encode.j0 k s n loc true) (⟨#[]⟩, 2) :=
  Ev.step (fun k => by rw [spacebitmap_Encode.j0]) (Ev.iteT rfl (Ev.now _))
theorem Encode_ev (s : ByteArray) (n loc : Int) (hs : s.size ≤ 1000000) : Ev (fun k => spacebitmap_Encode.f k s n loc) (encRes s n loc) := by
  unfold spacebitmap_Encode.f encRes
  rw [valid_f s n (by omega)]
  simp only [Option.bind_some]
  by_cases hv : validB s n = true
  · refine Ev.iteT hv ?_
    rw [if_pos hv]
    have hz := valid_size hv
    by_cases c1 : loc < 0
    · refine Ev.iteT c1 ?_
      rw [blockRes, if_neg (by rw [inRange_loc]; omega)]
      exact Encode_j0 s n loc
    · refine Ev.iteF c1 ?_
      by_cases c2 : loc ≥ 4294967296
      · rw [decide_eq_true c2, blockRes, if_neg (by rw [inRange_loc]; omega)]
        exact Encode_j0 s n loc
      · rw [decide_eq_false c2]
        refine Ev.step (fun k => by rw [spacebitmap_Encode.j0]) (Ev.iteF (by decide) ?_)
        rw [little_f n (by omega) (by omega), little_f (s.size : Int) (by omega) (by omega)]
        simp only [Option.bind_some]
        have e1 : (strOfNums (leNums n 4)).size = 4 := by rw [strOfNums_size, leNums_length]
        have e2 : (strOfNums (leNums (s.size : Int) 4)).size = 4 := by rw [strOfNums_size, leNums_length]
        have eb : bodyOf s n = (strOfNums (leNums n 4) ++ strOfNums (leNums (s.size : Int) 4)) ++ s := rfl
        rw [eb]
        generalize strOfNums (leNums n 4) = A at *
        generalize strOfNums (leNums (s.size : Int) 4) = B at *
        refine Ev.iteT (by omega) (Ev.iteT (by rw [ByteArray.size_append]; omega) ?_)
        exact Ev.bind (Block_ev 264 1 loc ((A ++ B) ++ s)) (Ev.now _)
  · refine Ev.iteF hv ?_
    rw [if_neg hv]
    exact Ev.now _
def decRes (b : ByteArray) (loc : Int) : ByteArray × Int × Int :=
  if b.size = 2048 ∧ isOf b 264 loc = true ∧ leAt b 20 4 ≤ 2024 ∧ validB (b.extract 24 (24 + leAt b 20 4).toNat) (leAt b 16 4) = true then (b.extract 24 (24 + leAt b 20 4).toNat, leAt b 16 4, 0) else (⟨#[]⟩, 0, 10)
theorem readLittle_f (b : ByteArray) (i : Int) (h0 : 0 ≤ i) (h1 : i + 4 ≤ b.size) (hb : b.size ≤ 1000000) : endian_ReadLittle.f b i 4 = some (leAt b i 4, 0) := by
  rw [endian_ReadLittle.f, if_pos (by omega), if_pos (by omega)]
  rfl
theorem Decode_j0 (b : ByteArray) : Ev (fun k => spacebitmap_Decode.j0 k b true) (⟨#[]⟩, 0, 10) :=
  Ev.step (fun k => by rw [spacebitmap_Decode.j0]) (Ev.iteT rfl (Ev.now _))
theorem Decode_ev (b : ByteArray) (loc : Int) (hb : b.size ≤ 1000000) : Ev (fun k => spacebitmap_Decode.f k b loc) (decRes b loc) := by
  have hbad : ¬ (b.size = 2048 ∧ isOf b 264 loc = true ∧ leAt b 20 4 ≤ 2024 ∧ validB (b.extract 24 (24 + leAt b 20 4).toNat) (leAt b 16 4) = true) → decRes b loc = (⟨#[]⟩, 0, 10) := fun h => by rw [decRes, if_neg h]
  unfold spacebitmap_Decode.f
  by_cases c : b.size = 2048
  · refine Ev.iteT (by omega) ?_
    rw [Is_f b 264 loc (by omega)]
    simp only [Option.bind_some]
    by_cases hi : isOf b 264 loc = true
    · rw [hi]
      refine Ev.step (fun k => by rw [spacebitmap_Decode.j0]) (Ev.iteF (by decide) ?_)
      rw [readLittle_f b 16 (by omega) (by omega) hb, readLittle_f b 20 (by omega) (by omega) hb]
      simp only [Option.bind_some]
      have b20 := leAt_bd b 20 4
      have h20 : 0 ≤ leAt b 20 4 := b20.1
      by_cases c1 : leAt b 20 4 > 2024
      · rw [hbad (fun h => by omega)]
        exact Ev.iteT c1 (Ev.now _)
      · refine Ev.iteF c1 ?_
        rw [w64 _ (by omega)]
        refine Ev.iteT (by omega) (Ev.iteT (by omega) ?_)
        rw [valid_f _ _ (by simp only [ByteArray.size_extract]; omega)]
        simp only [Option.bind_some]
        by_cases c2 : validB (b.extract 24 (24 + leAt b 20 4).toNat) (leAt b 16 4) = true
        · have e : decRes b loc = (b.extract 24 (24 + leAt b 20 4).toNat, leAt b 16 4, 0) := by rw [decRes, if_pos ⟨c, hi, by omega, c2⟩]
          rw [e]
          exact Ev.iteT c2 (Ev.now _)
        · rw [hbad (fun h => c2 h.2.2.2)]
          exact Ev.iteF c2 (Ev.now _)
    · rw [hbad (fun h => hi h.2.1), Bool.eq_false_iff.2 hi]
      exact Decode_j0 b
  · rw [hbad (fun h => c h.1)]
    refine Ev.iteF (by omega) (Decode_j0 b)
/-- Decoding the block of a bitmap gives the bitmap. -/
theorem dec_enc (s : ByteArray) (n loc : Int) (h : validB s n = true) (hl : 0 ≤ loc ∧ loc ≤ 4294967295) :
    ∃ b, encRes s n loc = (b, 0) ∧ b.size = 2048 ∧ decRes b loc = (s, n, 0) := by
  have hz := valid_size h
  have hr : inRange 264 1 loc := (inRange_loc loc).2 hl
  have hbs := bodyOf_size s n
  have hbb := bodyOf_bytes s n
  rw [encRes, if_pos h, blockRes, if_pos hr, if_neg (by omega)]
  have hss := sealOf_size 264 1 loc (bodyOf s n)
  have hzz := zeroBytes_size (2048 - (sealOf 264 1 loc (bodyOf s n)).size)
  obtain ⟨_, hf, ht, _⟩ := opens 264 1 loc (bodyOf s n) (zeroBytes (2048 - (sealOf 264 1 loc (bodyOf s n)).size)) hr (by omega)
  have hB : bytesOf (sealOf 264 1 loc (bodyOf s n) ++ zeroBytes (2048 - (sealOf 264 1 loc (bodyOf s n)).size)) = sealHead 264 1 loc (bodyOf s n) ++ (leNums n 4 ++ leNums (s.size : Int) 4 ++ bytesOf s ++ bytesOf (zeroBytes (2048 - (sealOf 264 1 loc (bodyOf s n)).size))) := by
    rw [bytesOf_append, sealOf_bytes, hbb, List.append_assoc]
  have hT : (sealOf 264 1 loc (bodyOf s n) ++ zeroBytes (2048 - (sealOf 264 1 loc (bodyOf s n)).size)).size = 2048 := by rw [ByteArray.size_append]; omega
  generalize sealOf 264 1 loc (bodyOf s n) ++ zeroBytes (2048 - (sealOf 264 1 loc (bodyOf s n)).size) = T at *
  have hL : (sealHead 264 1 loc (bodyOf s n)).length = 16 := sealHead_length _ _ _ _
  generalize sealHead 264 1 loc (bodyOf s n) = H at *
  generalize bytesOf (zeroBytes (2048 - (sealOf 264 1 loc (bodyOf s n)).size)) = Z at *
  have hbsz := bytesOf_length s
  have r : ∀ i : Int, bt T i = rd (H ++ (leNums n 4 ++ leNums (s.size : Int) 4 ++ bytesOf s ++ Z)) i := fun i => by rw [← rd_bytesOf, hB]
  have r2 : ∀ j : Nat, bt T ((16 + j : Nat) : Int) = rd (leNums n 4 ++ leNums (s.size : Int) 4 ++ bytesOf s ++ Z) (j : Int) := fun j => by
    rw [r, rd_append_right _ _ _ (by omega), hL]; congr 1; omega
  have e16 : leAt T 16 4 = n := by
    rw [leAt_four, show (16 : Int) = ((16 + 0 : Nat) : Int) from rfl, show ((16 + 0 : Nat) : Int) + 1 = ((16 + 1 : Nat) : Int) from rfl, show ((16 + 0 : Nat) : Int) + 2 = ((16 + 2 : Nat) : Int) from rfl, show ((16 + 0 : Nat) : Int) + 3 = ((16 + 3 : Nat) : Int) from rfl, r2, r2, r2, r2]
    show n % 256 + 256 * (n / 256 % 256) + 65536 * (n / 256 / 256 % 256) + 16777216 * (n / 256 / 256 / 256 % 256) = n
    omega
  have e20 : leAt T 20 4 = (s.size : Int) := by
    rw [leAt_four, show (20 : Int) = ((16 + 4 : Nat) : Int) from rfl, show ((16 + 4 : Nat) : Int) + 1 = ((16 + 5 : Nat) : Int) from rfl, show ((16 + 4 : Nat) : Int) + 2 = ((16 + 6 : Nat) : Int) from rfl, show ((16 + 4 : Nat) : Int) + 3 = ((16 + 7 : Nat) : Int) from rfl, r2, r2, r2, r2]
    generalize hm : (s.size : Int) = m at *
    show m % 256 + 256 * (m / 256 % 256) + 65536 * (m / 256 / 256 % 256) + 16777216 * (m / 256 / 256 / 256 % 256) = m
    omega
  have ex : T.extract 24 (24 + (s.size : Int)).toNat = s := by
    apply bytesOf_inj
    have hl2 : (H ++ leNums n 4 ++ leNums (s.size : Int) 4).length = 24 := by rw [List.length_append, List.length_append, leNums_length, leNums_length, hL]
    have hB2 : bytesOf T = (H ++ leNums n 4 ++ leNums (s.size : Int) 4) ++ (bytesOf s ++ Z) := by rw [hB]; simp only [List.append_assoc]
    rw [bytesOf_extract, hB2, show (24 + (s.size : Int)).toNat = 24 + s.size by omega]
    generalize H ++ leNums n 4 ++ leNums (s.size : Int) 4 = U at *
    rw [List.take_append, List.take_of_length_le (by omega), hl2, show 24 + s.size - 24 = s.size by omega, List.take_append_of_le_length (by omega), List.take_of_length_le (by omega), ← hl2, List.drop_left]
  refine ⟨T, rfl, hT, ?_⟩
  have hi : isOf T 264 loc = true := by rw [isOf, hf, ht]; rfl
  rw [decRes, e16, e20, ex, if_pos ⟨hT, hi, by omega, h⟩]
end Go.Proofs.Ytijbfebbogiiiaa.Pure
