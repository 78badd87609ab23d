/- What is allocated are the first free blocks; marking them as free again gives the bitmap. -/
import Derived.Test.YtijbfebbogiiiaaQ63
import Derived.Test.YtijbfebbogiiiaaPAwake41
import Derived.Test.YtijbfebbogiiiaaPTakes
namespace Go.Proofs.Ytijbfebbogiiiaa.Pure
open Go.RowKit Go.Proofs.Ytijbfebbogiiiaa.Q Go.Proofs.YtijbfebbogiiiaaW.PrintWords Go.Proofs.YtijbfebbogiiiaaW.PrintLast
set_option linter.unusedVariables false
set_option linter.unusedSimpArgs false
set_option linter.unusedSectionVars false
theorem packB_bit : ∀ (b0 b1 b2 b3 b4 b5 b6 b7 : Bool) (r : Fin 8), (((packB b0 b1 b2 b3 b4 b5 b6 b7 : Nat) : Int) / 2 ^ r.val % 2 == 1) =
    (bif r.val == 0 then b0 else bif r.val == 1 then b1 else bif r.val == 2 then b2 else bif r.val == 3 then b3 else bif r.val == 4 then b4 else bif r.val == 5 then b5 else bif r.val == 6 then b6 else b7) := by decide +kernel
theorem packByte_bit (f : Nat → Bool) (r : Nat) (h : r < 8) : (((packByte f : Nat) : Int) / 2 ^ r % 2 == 1) = f r := by
  have e := packB_bit (f 0) (f 1) (f 2) (f 3) (f 4) (f 5) (f 6) (f 7) ⟨r, h⟩
  rw [packByte]
  refine Eq.trans e ?_
  rcases (show r = 0 ∨ r = 1 ∨ r = 2 ∨ r = 3 ∨ r = 4 ∨ r = 5 ∨ r = 6 ∨ r = 7 by omega) with rfl | rfl | rfl | rfl | rfl | rfl | rfl | rfl <;> rfl
theorem packNums_range (M : Nat) (f : Nat → Bool) : ∀ x ∈ packNums M f, 0 ≤ x ∧ x ≤ 255 := by
  intro x hx
  obtain ⟨j, _, rfl⟩ := List.mem_map.1 hx
  have := packByte_bd (fun k => f (8 * j + k))
  omega
theorem bitOf_pack (M : Nat) (f : Nat → Bool) (i : Nat) (h : i < 8 * M) : bitOf (strOfNums (packNums M f)) i = f i := by
  rw [bitOf, ← rd_bytesOf, bytesOf_strOfNums _ (packNums_range M f), packNums_get _ _ _ (by omega), packByte_bit _ _ (by omega), show 8 * (i / 8) + i % 8 = i by omega]
theorem pack_self (s : ByteArray) : strOfNums (packNums s.size (bitOf s)) = s := by
  conv => rhs; rw [← strOfNums_bytesOf s]
  congr 1
  apply List.ext_getElem?
  intro j
  by_cases hj : j < s.size
  · rw [packNums, List.getElem?_map, List.getElem?_range hj]
    show some ((packByte fun k => bitOf s (8 * j + k) : Nat) : Int) = _
    rw [packByte_bt, ← rd_bytesOf, rd, Int.toNat_natCast, List.getD_eq_getElem?_getD, List.getElem?_eq_getElem (by rw [bytesOf_length]; exact hj)]
    rfl
  · rw [List.getElem?_eq_none (by rw [packNums_length]; omega), List.getElem?_eq_none (by rw [bytesOf_length]; omega)]
theorem cnt_succ (p : Nat → Bool) (i : Nat) : cnt p (i + 1) 0 = cnt p i 0 + (if p i = true then 1 else 0) := by
  rw [cnt_split p i 1 0, Nat.zero_add]
  rfl
theorem cnt_tail (p q : Nat → Bool) (c : Nat) : ∀ (r i : Nat), (∀ t, t < i + r → q t = (p t && decide (c ≤ cnt p t 0))) → cnt q r i + max (cnt p i 0) c = max (cnt p (i + r) 0) c := by
  intro r
  induction r with
  | zero => intro i _; rw [cnt, Nat.zero_add]; rfl
  | succ r ih =>
    intro i h
    have h1 := ih (i + 1) (fun t ht => h t (by omega))
    have h2 := cnt_succ p i
    have h3 := h i (by omega)
    rw [show i + (r + 1) = i + 1 + r by omega, ← h1, h2, cnt, h3]
    by_cases c1 : p i = true
    · rw [if_pos c1, c1, Bool.true_and]
      by_cases c2 : c ≤ cnt p i 0
      · rw [decide_eq_true c2, if_pos rfl]; omega
      · rw [decide_eq_false c2, if_neg (by decide)]; omega
    · rw [if_neg c1, Bool.eq_false_iff.2 c1, Bool.false_and, if_neg (by decide)]; omega
/-- The bitmap behind an allocation. -/
def afterOf (s : ByteArray) (n c : Int) : ByteArray := strOfNums (markNums s (takeRuns (runsOf s n) c) false)
theorem after_size (s : ByteArray) (n c : Int) : (afterOf s n c).size = s.size := by rw [afterOf, strOfNums_size, markNums, packNums_length]
section
variable (s : ByteArray) (N c : Nat) (hv : validB s (N : Int) = true)
include hv
theorem take_in_N : belowS (takeRuns (runsOf s (N : Int)) (c : Int)) N := by
  have h := take_below (bitOf s) N 0 (c : Int) [] ⟨by simp, by simp⟩
  rw [runsOf, if_pos hv, Int.toNat_natCast, takeRuns_ref _ _ _ (by omega)]
  rw [Nat.zero_add] at h
  exact h
theorem in_take (t : Nat) (ht : t < N) : inSpans (takeRuns (runsOf s (N : Int)) (c : Int)) t = (bitOf s t && decide (cnt (bitOf s) t 0 < c)) := by
  rw [runsOf, if_pos hv, Int.toNat_natCast, inSpans_takeRuns _ _ _ (by omega) t ht]
  congr 1
  rw [decide_eq_decide]; omega
theorem after_mark (t : Nat) (ht : t < 8 * s.size) : bitOf (afterOf s (N : Int) (c : Int)) t = markF (takeRuns (runsOf s (N : Int)) (c : Int)) false (bitOf s) t := by
  rw [afterOf, markNums, bitOf_pack _ _ _ ht]
theorem after_bit (t : Nat) (ht : t < N) : bitOf (afterOf s (N : Int) (c : Int)) t = (bitOf s t && decide (c ≤ cnt (bitOf s) t 0)) := by
  obtain ⟨h0, h1, h2, h3, h4⟩ := valid_bd hv
  rw [after_mark s N c hv t (by omega), markF, in_take s N c hv t ht]
  by_cases c1 : bitOf s t = true
  · rw [c1, Bool.true_and, Bool.true_and]
    by_cases c2 : cnt (bitOf s) t 0 < c
    · rw [decide_eq_true c2, if_pos rfl, decide_eq_false (by omega)]
    · rw [decide_eq_false c2, if_neg (by decide), decide_eq_true (by omega)]
  · rw [Bool.eq_false_iff.2 c1, Bool.false_and, Bool.false_and, if_neg (by decide)]
theorem after_valid : validB (afterOf s (N : Int) (c : Int)) (N : Int) = true := by
  have hz := (validB_iff s N).1 hv
  rw [validB_iff, after_size]
  refine ⟨hz.1, fun i h1 h2 => ?_⟩
  rw [after_mark s N c hv i h2, markF, inSpans_below (take_in_N s N c hv) (by omega), if_neg (by decide), hz.2 i h1 h2]
theorem after_free (hc : (c : Int) ≤ countOf (runsOf s (N : Int))) : countOf (runsOf (afterOf s (N : Int) (c : Int)) (N : Int)) = countOf (runsOf s (N : Int)) - (c : Int) := by
  rw [free_cnt s N hv] at hc ⊢
  rw [free_cnt _ N (after_valid s N c hv)]
  have h := cnt_tail (bitOf s) (bitOf (afterOf s (N : Int) (c : Int))) c N 0 (fun t ht => after_bit s N c hv t (by omega))
  rw [Nat.zero_add, show cnt (bitOf s) 0 0 = 0 from rfl] at h
  omega
theorem back_ok : markRes (afterOf s (N : Int) (c : Int)) (N : Int) (takeRuns (runsOf s (N : Int)) (c : Int)) true = (s, 0) := by
  have hb := take_in_N s N c hv
  have ha : (takeRuns (runsOf s (N : Int)) (c : Int)).all (okS (N : Int)) = true := List.all_eq_true.2 fun x hx => decide_eq_true (by have := hb.2 x hx; omega)
  rw [markRes, if_pos (after_valid s N c hv), if_pos ha, markNums, after_size,
    packNums_congr (g := bitOf s) (fun t ht => ?_), pack_self]
  rw [markF]
  by_cases c1 : inSpans (takeRuns (runsOf s (N : Int)) (c : Int)) t = true
  · rw [if_pos c1]
    by_cases c2 : t < N
    · rw [in_take s N c hv t c2, Bool.and_eq_true] at c1
      exact c1.1.symm
    · rw [inSpans_below hb (by omega)] at c1
      cases c1
  · rw [if_neg c1, after_mark s N c hv t ht, markF, if_neg c1]
theorem Takes_l0 (hc : c ≤ 65535) (hcn : c ≤ cnt (bitOf s) N 0) : ∀ (m i : Nat), i + m = N →
    Ev (fun k => masterdisclaw41_SpacebitmapTakes.l0 k s (c : Int) (afterOf s (N : Int) (c : Int)) ((min (cnt (bitOf s) i 0) c : Nat) : Int) (N : Int) (i : Int)) true := by
  obtain ⟨h0, h1, h2, h3, h4⟩ := valid_bd hv
  have hwc : wrap64 (c : Int) = (c : Int) := w64 _ (by omega)
  intro m
  induction m with
  | zero =>
    intro i hi
    obtain rfl : i = N := by omega
    refine Ev.step (fun k => by rw [masterdisclaw41_SpacebitmapTakes.l0, if_neg (by omega), hwc, Nat.min_eq_right hcn, beq_self_eq_true]) (Ev.now _)
  | succ m ih =>
    intro i hi
    have ihx := ih (i + 1) (by omega)
    have hsz := after_size s (N : Int) (c : Int)
    have hcs := cnt_succ (bitOf s) i
    have hle := cnt_le (bitOf s) i 0
    have hj : Ev (fun k => masterdisclaw41_SpacebitmapTakes.j3 k s (c : Int) (afterOf s (N : Int) (c : Int)) ((min (cnt (bitOf s) (i + 1) 0) c : Nat) : Int) (N : Int) (i : Int) false) true := by
      refine Ev.step (fun k => by rw [masterdisclaw41_SpacebitmapTakes.j3, w64 _ (by omega), show (i : Int) + 1 = ((i + 1 : Nat) : Int) by omega]) (Ev.iteF (by decide) ihx)
    refine Ev.step (fun k => by rw [masterdisclaw41_SpacebitmapTakes.l0, if_pos (by omega), free_f s i (by omega) (by omega), Option.bind_some, free_f _ i (by omega) (by omega), Option.bind_some, Option.bind_some, Option.bind_some, after_bit s N c hv i (by omega), w64 ((i : Int) + 1) (by omega), show (i : Int) + 1 = ((i + 1 : Nat) : Int) by omega, hwc]) ?_
    by_cases c1 : bitOf s i = true
    · rw [if_pos c1] at hcs
      rw [c1, Bool.true_and]
      by_cases c2 : c ≤ cnt (bitOf s) i 0
      · rw [decide_eq_true c2]
        refine Ev.iteT rfl (Ev.iteT rfl ?_)
        rw [decide_eq_false (by omega), show min (cnt (bitOf s) i 0) c = min (cnt (bitOf s) (i + 1) 0) c by omega]
        exact hj
      · rw [decide_eq_false c2]
        refine Ev.iteF (by decide) (Ev.iteT rfl ?_)
        rw [w64 _ (by omega), show ((min (cnt (bitOf s) i 0) c : Nat) : Int) + 1 = ((min (cnt (bitOf s) (i + 1) 0) c : Nat) : Int) by omega]
        exact ihx
    · have hcs' : cnt (bitOf s) (i + 1) 0 = cnt (bitOf s) i 0 := by rw [hcs, if_neg c1]; rfl
      rw [Bool.eq_false_iff.2 c1, Bool.false_and]
      refine Ev.iteT rfl (Ev.iteF (by decide) ?_)
      rw [← hcs']
      exact hj
end
theorem empty41t : ((⟨#[]⟩ : ByteArray).toList == ([] : List UInt8)) = true := by rw [ByteArray.toList_eq]; rfl
theorem takes_ev (s : ByteArray) (n c : Int) (hc : 0 ≤ c ∧ c ≤ 65535) : Ev (fun k => masterdisclaw41_SpacebitmapTakes.f k s n c) true := by
  have hj : Ev (fun k => masterdisclaw41_SpacebitmapTakes.j0 k s n c true) true := Ev.step (fun k => by rw [masterdisclaw41_SpacebitmapTakes.j0]) (Ev.iteT rfl (Ev.now _))
  unfold masterdisclaw41_SpacebitmapTakes.f
  refine Ev.bind awake41_ev (Ev.iteT rfl ?_)
  by_cases h60 : (s.size : Int) > 60
  · exact Ev.iteT h60 hj
  · refine Ev.iteF h60 (Ev.bind (Valid_ev s n (by omega)) ?_)
    by_cases hv : validB s n = true
    · obtain ⟨h0, h1, h2, h3, h4⟩ := valid_bd hv
      obtain ⟨N, rfl⟩ : ∃ N : Nat, n = N := ⟨n.toNat, by omega⟩
      obtain ⟨C, rfl⟩ : ∃ C : Nat, c = C := ⟨c.toNat, by omega⟩
      rw [hv]
      have hwc : wrap64 (C : Int) = (C : Int) := w64 _ (by omega)
      have hbd := (runsOf_sum s (N : Int)).2
      refine Ev.step (fun k => by rw [masterdisclaw41_SpacebitmapTakes.j0, spacebitmap_Free.f, if_pos (show s.size ≤ 1000000 by omega), Option.bind_some, hwc, spacebitmap_Allocate.f, if_pos (show s.size ≤ 1000000 by omega), if_pos hv, if_neg (show ¬ (C : Int) < 0 by omega)]) (Ev.iteF (by decide) ?_)
      by_cases hf : countOf (runsOf s (N : Int)) < (C : Int)
      · rw [if_pos hf]
        simp only [Option.bind_some]
        refine Ev.iteT hf (Ev.iteT (by trivial) (Ev.iteT (by trivial) ?_))
        rw [empty41t]
        exact Ev.now _
      · rw [if_neg hf]
        simp only [Option.bind_some]
        have hT := take_in_N s N C hv
        have hsz := after_size s (N : Int) (C : Int)
        have hM := Mark_ev (afterOf s (N : Int) (C : Int)) (N : Int) (takeRuns (runsOf s (N : Int)) (C : Int)) true (by omega) (by have := hT.1; omega)
        rw [back_ok s N C hv] at hM
        refine Ev.iteF hf (Ev.bind hM (Ev.iteT (by trivial) (Ev.iteT (by trivial) (Ev.iteT (by trivial) ?_))))
        have hfr := after_free s N C hv (by omega)
        have hcn := free_cnt s N hv
        have e : spacebitmap_Free.f (afterOf s (N : Int) (C : Int)) (N : Int) = some (countOf (runsOf s (N : Int)) - (C : Int)) := by rw [spacebitmap_Free.f, if_pos (by omega), hfr]
        show Ev (fun k => (spacebitmap_Free.f (afterOf s (N : Int) (C : Int)) (N : Int)).bind fun t861 => masterdisclaw41_SpacebitmapTakes.j1 k s (N : Int) (C : Int) (afterOf s (N : Int) (C : Int)) (t861 != wrap64 (countOf (runsOf s (N : Int)) - (C : Int)))) true
        rw [e, w64 (countOf (runsOf s (N : Int)) - (C : Int)) (by omega)]
        simp only [Option.bind_some, bne_self_eq_false]
        refine Ev.step (fun k => by rw [masterdisclaw41_SpacebitmapTakes.j1]) (Ev.iteF (by decide) ?_)
        have h := Takes_l0 s N C hv (by omega) (by omega) N 0 (by omega)
        exact h
    · rw [Bool.eq_false_iff.2 hv]
      exact hj
theorem SpacebitmapTakes : masterdisclaw41_SpacebitmapTakes.Pure := fun s n c _ _ w => (takes_ev s n c (by simp [Lit.wf, IntKind.min, IntKind.max, IntKind.bits, IntKind.signed] at w; omega)).rounds
end Go.Proofs.Ytijbfebbogiiiaa.Pure
