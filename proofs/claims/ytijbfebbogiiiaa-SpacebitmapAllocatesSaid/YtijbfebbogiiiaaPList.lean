/- Strings as lists of whole numbers. -/
import Derived.Test.YtijbfebbogiiiaaPEv
import Derived.Test.YtijbfebbogiiiaaHBase
namespace Go.Proofs.Ytijbfebbogiiiaa.Pure
open Go.RowKit Go.Proofs.Ytijbfebbogiiiaa.Q Go.Proofs.YtijbfebbogiiiaaW.PrintWords Go.Proofs.YtijbfebbogiiiaaW.PrintLast
set_option linter.unusedVariables false
set_option linter.unusedSimpArgs false
theorem strOfNums_bytesOf (s : ByteArray) : strOfNums (bytesOf s) = s := by
  unfold strOfNums bytesOf
  rw [List.map_map]
  have : ((fun n : Int => UInt8.ofNat n.toNat) ∘ fun b : UInt8 => (b.toNat : Int)) = id := by funext b; simp
  rw [this, List.map_id]
theorem bytesOf_inj {s t : ByteArray} (h : bytesOf s = bytesOf t) : s = t := by rw [← strOfNums_bytesOf s, h, strOfNums_bytesOf]
theorem bytesOf_append (s t : ByteArray) : bytesOf (s ++ t) = bytesOf s ++ bytesOf t := by simp [bytesOf]
theorem bytesOf_strOfNums (l : List Int) (h : ∀ x ∈ l, 0 ≤ x ∧ x ≤ 255) : bytesOf (strOfNums l) = l := by
  rw [bytesOf, strOfNums_data, List.map_map]
  conv => rhs; rw [← List.map_id l]
  refine List.map_congr_left fun x hx => ?_
  have := h x hx
  simp only [Function.comp, id, UInt8.toNat_ofNat']
  omega
theorem bytesOf_range (s : ByteArray) : ∀ x ∈ bytesOf s, 0 ≤ x ∧ x ≤ 255 := by
  intro x hx
  obtain ⟨b, _, rfl⟩ := List.mem_map.1 hx
  have := b.toNat_lt
  omega
theorem bytesOf_extract (s : ByteArray) (i j : Nat) : bytesOf (s.extract i j) = ((bytesOf s).take j).drop i := by
  simp only [bytesOf, ByteArray.data_extract, Array.toList_extract, List.extract_eq_take_drop, List.map_take, List.map_drop, List.drop_take]
theorem strOfNums_app (a b : List Int) : strOfNums (a ++ b) = strOfNums a ++ strOfNums b := by
  apply ByteArray.ext
  apply Array.toList_inj.1
  simp [strOfNums_data]
theorem bytes_toList (s : ByteArray) : s.toList = s.data.toList := ByteArray.toList_eq s
theorem toList_inj' {s t : ByteArray} : s.toList = t.toList ↔ s = t := by
  rw [bytes_toList, bytes_toList]
  exact ⟨fun h => ByteArray.ext (Array.toList_inj.1 h), fun h => h ▸ rfl⟩
theorem leAt_bytes (s : ByteArray) : ∀ (n : Nat) (i : Int), leAt s i n = (List.range n).foldr (fun (k : Nat) (a : Int) => rd (bytesOf s) (i + k) + 256 * a) 0 := by
  intro n
  induction n with
  | zero => intro i; rfl
  | succ n ih =>
    intro i
    rw [leAt, ih, List.range_succ_eq_map, List.foldr_cons, List.foldr_map, rd_bytesOf]
    simp only [Int.natCast_zero, Int.add_zero]
    congr 1; congr 1; congr 1
    funext k a
    rw [show i + 1 + (k : Int) = i + ((k + 1 : Nat) : Int) by omega]
theorem leAt_two (s : ByteArray) (i : Int) : leAt s i 2 = bt s i + 256 * bt s (i + 1) := by simp [leAt]
theorem leAt_four (s : ByteArray) (i : Int) : leAt s i 4 = bt s i + 256 * bt s (i + 1) + 65536 * bt s (i + 2) + 16777216 * bt s (i + 3) := by
  simp only [leAt, show i + 1 + 1 = i + 2 by omega, show i + 2 + 1 = i + 3 by omega]; omega
theorem rd_append_left (a b : List Int) (i : Int) (h : i.toNat < a.length) : rd (a ++ b) i = rd a i := by
  unfold rd; simp [List.getD_eq_getElem?_getD, List.getElem?_append_left h]
theorem rd_append_right (a b : List Int) (i : Int) (h : a.length ≤ i) : rd (a ++ b) i = rd b (i - a.length) := by
  unfold rd
  rw [List.getD_eq_getElem?_getD, List.getD_eq_getElem?_getD, List.getElem?_append_right (by omega), show (i - (a.length : Int)).toNat = i.toNat - a.length by omega]
end Go.Proofs.Ytijbfebbogiiiaa.Pure
