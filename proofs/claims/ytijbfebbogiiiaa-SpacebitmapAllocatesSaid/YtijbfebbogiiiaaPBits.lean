/- Bitmaps as functions from blocks to bits: bits, pack and Valid of the second way, free of the laws. -/
import Derived.Test.YtijbfebbogiiiaaPEv
import Derived.Test.YtijbfebbogiiiaaPList
import Derived.Test.YtijbfebbogiiiaaPRuns
import Derived.Test.YtijbfebbogiiiaaHSpace4
import Derived.Test.YtijbfebbogiiiaaQ31
namespace Go.Proofs.Ytijbfebbogiiiaa.Pure
open Go Go.RowKit Go.Proofs.Ytijbfebbogiiiaa.Q Go.Proofs.YtijbfebbogiiiaaW.PrintWords Go.Proofs.YtijbfebbogiiiaaW.PrintLast Go.Proofs.YtijbfebbogiiiaaW.PrintMore
set_option linter.unusedVariables false
set_option linter.unusedSimpArgs false
theorem pow_pos2 (i : Nat) : (0 : Int) < 2 ^ i := Int.pow_pos (by omega)
theorem bits_step (s : ByteArray) (j i : Nat) (hi : i < 8) : ((Int.tmod (bt s (j : Int) / 2 ^ i) 2) == 1) = bitOf s (8 * j + i) ∧ wrap64 (Int.tdiv (bt s (j : Int) / 2 ^ i) 2) = bt s (j : Int) / 2 ^ (i + 1) := by
  have hb := bt_range s (j : Int)
  have hd := div_pow_bd _ hb.1 hb.2 i
  refine ⟨?_, ?_⟩
  · rw [bitOf, show (8 * j + i) / 8 = j by omega, show (8 * j + i) % 8 = i by omega, tmod_pos _ _ hd.1]
  · rw [Int.tdiv_eq_ediv_of_nonneg hd.1, w64 _ (by omega), Int.pow_succ, Int.ediv_ediv_of_nonneg (Int.le_of_lt (pow_pos2 i))]
theorem bits_l1 (s : ByteArray) (j : Nat) (hs : s.size ≤ 1000000) (hj : j < s.size) (R : List Bool) : ∀ (m i : Nat) (acc : List Bool), i + m = 8 → acc.length = 8 * j + i →
    Ev (fun k => masterdiscref41_bits.l0 k s (acc ++ (List.range' (8 * j + i) m).map (bitOf s)) ((j + 1 : Nat) : Int)) R →
    Ev (fun k => masterdiscref41_bits.l1 k s acc (j : Int) (bt s (j : Int) / 2 ^ i) (i : Int)) R := by
  intro m
  induction m with
  | zero =>
    intro i acc hi hl h
    rw [List.range'_zero, List.map_nil, List.append_nil] at h
    exact Ev.step (fun k => by rw [masterdiscref41_bits.l1, if_neg (by omega), w64 _ (by omega), show (j : Int) + 1 = ((j + 1 : Nat) : Int) by omega]) h
  | succ m ih =>
    intro i acc hi hl h
    obtain ⟨e1, e2⟩ := bits_step s j i (by omega)
    refine Ev.step (fun k => by rw [masterdiscref41_bits.l1, if_pos (by omega), if_pos (by omega), e1, e2, w64 _ (by omega), show (i : Int) + 1 = ((i + 1 : Nat) : Int) by omega]) ?_
    refine ih (i + 1) _ (by omega) (by rw [List.length_append, List.length_singleton]; omega) ?_
    rw [List.range'_succ, List.map_cons] at h
    rw [List.append_assoc, List.singleton_append]
    exact h
theorem bits_l0 (s : ByteArray) (hs : s.size ≤ 1000000) : ∀ (m j : Nat) (acc : List Bool), j + m = s.size → acc.length = 8 * j →
    Ev (fun k => masterdiscref41_bits.l0 k s acc (j : Int)) (acc ++ (List.range' (8 * j) (8 * m)).map (bitOf s)) := by
  intro m
  induction m with
  | zero =>
    intro j acc hj hl
    rw [Nat.mul_zero, List.range'_zero, List.map_nil, List.append_nil]
    exact Ev.step (fun k => by rw [masterdiscref41_bits.l0, if_neg (by omega)]) (Ev.now _)
  | succ m ih =>
    intro j acc hj hl
    have hb := bt_range s (j : Int)
    refine Ev.step (fun k => by rw [masterdiscref41_bits.l0, if_pos (by omega), if_pos (by omega), w64 _ (by omega)]) ?_
    have e0 : bt s (j : Int) / 2 ^ 0 = bt s (j : Int) := by rw [Int.pow_zero, Int.ediv_one]
    have h := bits_l1 s j hs (by omega) (acc ++ (List.range' (8 * j) (8 * (m + 1))).map (bitOf s)) 8 0 acc (by omega) (by omega)
    rw [e0] at h
    refine h ?_
    have h2 := ih (j + 1) (acc ++ (List.range' (8 * j + 0) 8).map (bitOf s)) (by omega) (by rw [List.length_append, List.length_map, List.length_range']; omega)
    rw [List.append_assoc, ← List.map_append, show 8 * (j + 1) = 8 * j + 0 + 8 by omega, List.range'_append_1, show 8 + 8 * m = 8 * (m + 1) by omega] at h2
    exact h2
/-- The bits of a bitmap. -/
def bitsL (s : ByteArray) : List Bool := (List.range (8 * s.size)).map (bitOf s)
theorem bitsL_length (s : ByteArray) : (bitsL s).length = 8 * s.size := by simp [bitsL]
theorem bits_ev (s : ByteArray) (hs : s.size ≤ 1000000) : Ev (fun k => masterdiscref41_bits.f k s) (bitsL s) := by
  have := bits_l0 s hs s.size 0 [] (by omega) rfl
  rw [List.nil_append, Nat.mul_zero, ← List.range_eq_range'] at this
  exact this
theorem rd_range (n : Nat) (f : Nat → Bool) (i : Nat) (h : i < n) : rdOf false ((List.range n).map f) (i : Int) = f i := by
  rw [rdOf, Int.toNat_natCast, List.getD_eq_getElem?_getD, List.getElem?_map, List.getElem?_range h]
  rfl
theorem rd_bits (s : ByteArray) (i : Nat) (h : i < 8 * s.size) : rdOf false (bitsL s) (i : Int) = bitOf s i := rd_range _ _ _ h
theorem set_range (n : Nat) (f : Nat → Bool) (i : Nat) (b : Bool) : ((List.range n).map f).set i b = (List.range n).map (setBit f i b) := by
  apply List.ext_getElem?
  intro k
  rw [List.getElem?_set]
  by_cases hk : k < n
  · rw [List.getElem?_map, List.getElem?_map, List.getElem?_range hk]
    by_cases c : i = k
    · subst c
      rw [if_pos rfl, if_pos (by simpa using hk)]
      simp [setBit]
    · rw [if_neg c]
      simp [setBit, Ne.symm c]
  · have e1 : ((List.range n).map f)[k]? = none := List.getElem?_eq_none (by simp; omega)
    have e2 : ((List.range n).map (setBit f i b))[k]? = none := List.getElem?_eq_none (by simp; omega)
    rw [e1, e2]
    by_cases c : i = k
    · rw [if_pos c, if_neg (by simp; omega)]
    · rw [if_neg c]
theorem range_congr {n : Nat} {f g : Nat → Bool} (h : ∀ k, k < n → f k = g k) : (List.range n).map f = (List.range n).map g :=
  List.map_congr_left (fun k hk => h k (List.mem_range.1 hk))
theorem take_range (n m : Nat) (f : Nat → Bool) (h : n ≤ m) : ((List.range m).map f).take n = (List.range n).map f := by
  rw [← List.map_take, List.take_range, Nat.min_eq_left h]

/-- All bits from n on are 0. -/
theorem high_bits : ∀ b : Fin 256, ∀ r : Fin 8, (decide (((b.val : Nat) : Int) / 2 ^ r.val = 0)) = decide (∀ i : Fin 8, r.val ≤ i.val → (((b.val : Nat) : Int) / 2 ^ i.val % 2 == 1) = false) := by decide +kernel
theorem high_of (x : Int) (h0 : 0 ≤ x) (h1 : x ≤ 255) (r : Nat) (hr : r < 8) : x / 2 ^ r = 0 ↔ ∀ i, r ≤ i → i < 8 → (x / 2 ^ i % 2 == 1) = false := by
  have h := high_bits ⟨x.toNat, by omega⟩ ⟨r, hr⟩
  rw [show (((⟨x.toNat, by omega⟩ : Fin 256).val : Nat) : Int) = x by show ((x.toNat : Nat) : Int) = x; omega] at h
  have h2 := decide_eq_decide.1 h
  rw [show (⟨r, hr⟩ : Fin 8).val = r from rfl] at h2
  rw [h2]
  exact ⟨fun hh i hi h8 => hh ⟨i, h8⟩ hi, fun hh i hi => hh i.val hi i.isLt⟩
theorem validB_iff (s : ByteArray) (n : Int) : validB s n = true ↔ (0 ≤ n ∧ n ≤ 4096 ∧ (s.size : Int) = (n + 7) / 8) ∧ ∀ i : Nat, n ≤ i → i < 8 * s.size → bitOf s i = false := by
  unfold validB
  rw [Bool.and_eq_true, decide_eq_true_iff]
  refine and_congr_right fun h => ?_
  rw [Bool.or_eq_true, decide_eq_true_iff, decide_eq_true_iff]
  by_cases c : n % 8 = 0
  · exact ⟨fun _ i h1 h2 => absurd h2 (by omega), fun _ => .inl c⟩
  · have hr : (n % 8).toNat < 8 := by omega
    have hb := bt_range s ((s.size : Int) - 1)
    rw [high_of _ hb.1 hb.2 _ hr]
    constructor
    · rintro (h1 | h1) i h2 h3
      · exact absurd h1 c
      · have := h1 (i % 8) (by omega) (by omega)
        rw [bitOf, show ((i / 8 : Nat) : Int) = (s.size : Int) - 1 by omega]
        exact this
    · intro h1
      refine .inr fun i h2 h3 => ?_
      have := h1 (8 * (s.size - 1) + i) (by omega) (by omega)
      rw [bitOf, show (((8 * (s.size - 1) + i) / 8 : Nat) : Int) = (s.size : Int) - 1 by omega, show (8 * (s.size - 1) + i) % 8 = i by omega] at this
      exact this
theorem Valid_l0 (l : List Bool) (hl : l.length ≤ 10000000) : ∀ (m i : Nat), i + m = l.length → Ev (fun k => masterdiscref41_Valid.l0 k l (i : Int)) (!((l.drop i).any id)) := by
  intro m
  induction m with
  | zero =>
    intro i hi
    rw [List.drop_of_length_le (by omega), List.any_nil, Bool.not_false]
    exact Ev.step (fun k => by rw [masterdiscref41_Valid.l0, if_neg (by omega)]) (Ev.now _)
  | succ m ih =>
    intro i hi
    have hlt : i < l.length := by omega
    have e : rdOf false l (i : Int) = l[i] := by rw [rdOf, Int.toNat_natCast, List.getD_eq_getElem?_getD, List.getElem?_eq_getElem hlt]; rfl
    rw [List.drop_eq_getElem_cons hlt, List.any_cons]
    refine Ev.step (fun k => by rw [masterdiscref41_Valid.l0, if_pos (by omega), if_pos (by omega), e, w64 _ (by omega), show (i : Int) + 1 = ((i + 1 : Nat) : Int) by omega]) ?_
    by_cases c : l[i] = true
    · refine Ev.iteT c ?_
      rw [c]
      exact Ev.now _
    · refine Ev.iteF c ?_
      rw [Bool.eq_false_iff.2 c]
      exact ih (i + 1) (by omega)
theorem Valid_j0 (s : ByteArray) (n : Int) : Ev (fun k => masterdiscref41_Valid.j0 k s n true) false :=
  Ev.step (fun k => by rw [masterdiscref41_Valid.j0]) (Ev.iteT rfl (Ev.now _))
theorem Valid_ev (s : ByteArray) (n : Int) (hs : s.size ≤ 1000000) : Ev (fun k => masterdiscref41_Valid.f k s n) (validB s n) := by
  have hno : ¬ (0 ≤ n ∧ n ≤ 4096 ∧ (s.size : Int) = (n + 7) / 8) → validB s n = false := fun h => Bool.eq_false_iff.2 fun hv => h ((validB_iff s n).1 hv).1
  unfold masterdiscref41_Valid.f
  by_cases c1 : n < 0
  · rw [hno (by omega)]
    exact Ev.iteT c1 (Valid_j0 s n)
  · refine Ev.iteF c1 ?_
    by_cases c2 : n > 4096
    · rw [hno (by omega)]
      exact Ev.iteT c2 (Valid_j0 s n)
    · refine Ev.iteF c2 ?_
      have e : wrap64 (Int.tdiv (wrap64 (n + 7)) 8) = (n + 7) / 8 := by rw [w64 (n + 7) (by omega), Int.tdiv_eq_ediv_of_nonneg (by omega), w64 _ (by omega)]
      rw [e]
      by_cases c3 : (s.size : Int) = (n + 7) / 8
      · have e2 : ((s.size : Int) != (n + 7) / 8) = false := by rw [c3]; simp
        rw [e2]
        refine Ev.step (fun k => by rw [masterdiscref41_Valid.j0]) (Ev.iteF (by decide) (Ev.bind (bits_ev s hs) ?_))
        obtain ⟨N, rfl⟩ : ∃ N : Nat, n = N := ⟨n.toNat, by omega⟩
        have h := Valid_l0 (bitsL s) (by rw [bitsL_length]; omega) (8 * s.size - N) N (by rw [bitsL_length]; omega)
        have e3 : validB s (N : Int) = !((bitsL s).drop N).any id := by
          rw [Bool.eq_iff_iff, validB_iff]
          simp only [Bool.not_eq_true', List.any_eq_false, id]
          constructor
          · rintro ⟨_, h2⟩ b hb
            obtain ⟨i, hi, rfl⟩ := List.mem_iff_getElem.1 hb
            rw [List.length_drop, bitsL_length] at hi
            have e4 : ((bitsL s).drop N)[i]'(by rw [List.length_drop, bitsL_length]; exact hi) = bitOf s (N + i) := by simp [bitsL]
            rw [e4, h2 (N + i) (by omega) (by omega)]
            simp
          · intro h2
            refine ⟨by omega, fun i h3 h4 => ?_⟩
            have := h2 (bitOf s i) (List.mem_iff_getElem.2 ⟨i - N, by rw [List.length_drop, bitsL_length]; omega, by simp [bitsL, show N + (i - N) = i by omega]⟩)
            exact Bool.eq_false_iff.2 this
        rw [e3]
        exact h
      · have e2 : ((s.size : Int) != (n + 7) / 8) = true := by simpa using c3
        rw [e2, hno (by omega)]
        exact Valid_j0 s n
/-- A block is free by the bit of the bitmap. -/
theorem free_f (s : ByteArray) (i : Nat) (hi : i < 8 * s.size) (hb : i ≤ 1000000) : masterdisclaw41_free.f s (i : Int) = some (bitOf s i) := by
  have hbr := bt_range s ((i / 8 : Nat) : Int)
  have t1 : Int.tdiv (i : Int) 8 = ((i / 8 : Nat) : Int) := by rw [Int.tdiv_eq_ediv_of_nonneg (by omega)]; omega
  have t2 : Int.tmod (i : Int) 8 = ((i % 8 : Nat) : Int) := by rw [Int.tmod_eq_emod_of_nonneg (by omega)]; omega
  have hz := div_pow_bd _ hbr.1 hbr.2 (i % 8)
  rw [masterdisclaw41_free.f, if_pos (by omega), t1, t2, w64 _ (by omega), if_pos (by omega), if_pos (by omega), if_pos (by omega), bitOf]
  unfold shr
  rw [Int.toNat_natCast, show min (i % 8) (IntKind.bits .u8) = i % 8 by rw [show IntKind.bits .u8 = 8 from rfl]; omega, and_one' _ hz.1 hz.2]
end Go.Proofs.Ytijbfebbogiiiaa.Pure
