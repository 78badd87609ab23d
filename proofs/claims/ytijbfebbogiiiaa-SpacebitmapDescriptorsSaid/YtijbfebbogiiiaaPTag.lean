/- What the second ways of chapters 2 and 31 compute. -/
import Derived.Test.YtijbfebbogiiiaaQ9
import Derived.Test.YtijbfebbogiiiaaHTag
import Derived.Test.YtijbfebbogiiiaaPEv
import Derived.Test.YtijbfebbogiiiaaPNum
namespace Go.Proofs.Ytijbfebbogiiiaa.Pure
open Go.RowKit Go.Proofs.Ytijbfebbogiiiaa.Q Go.Proofs.YtijbfebbogiiiaaW.PrintWords Go.Proofs.YtijbfebbogiiiaaW.PrintLast
set_option linter.unusedVariables false
set_option linter.unusedSimpArgs false

theorem Sum8ref_l0 (s : ByteArray) : ∀ (m j acc : Nat), j + m = s.size → s.size ≤ 9223372036854775807 → acc < 256 →
    masterdiscref02_Sum8.l0 (m + 1) s (acc : Int) (j : Int) = some (((s.data.toList.drop j).foldl (fun a b => (a + b.toNat) % 256) acc : Nat) : Int) := by
  intro m
  induction m with
  | zero =>
    intro j acc hj hs ha
    rw [masterdiscref02_Sum8.l0, if_neg (by omega), List.drop_of_length_le (by simp only [Array.length_toList]; show s.size ≤ j; omega)]
    simp; omega
  | succ m ih =>
    intro j acc hj hs ha
    have hl : j < s.data.toList.length := by simp only [Array.length_toList]; show j < s.size; omega
    have hlt : j < s.size := by omega
    have hu := (s[j]'hlt).toNat_lt
    have e1 : bt s (j : Int) = ((s[j]'hlt).toNat : Int) := (bt_at s (j : Int) (by simpa using hlt)).symm
    have e2 : wrap64 ((j : Int) + 1) = ((j + 1 : Nat) : Int) := by rw [w64 _ (by omega)]; simp
    have e3 : Int.tmod (wrap64 ((acc : Int) + wrap64 (bt s (j : Int)))) 256 = (((acc + (s[j]'hlt).toNat) % 256 : Nat) : Int) := by
      rw [e1, w64 ((s[j]'hlt).toNat : Int) (by omega), w64 _ (by omega), tmod_pos _ _ (by omega)]; simp
    rw [masterdiscref02_Sum8.l0, if_pos (by omega), if_pos (by omega), e2, e3, ih (j + 1) _ (by omega) hs (Nat.mod_lt _ (by decide)), List.drop_eq_getElem_cons hl, List.foldl_cons]
    simp only [Array.getElem_toList]
    rfl
theorem Sum8ref_ev (s : ByteArray) (h : s.size ≤ 9223372036854775807) : Ev (fun k => masterdiscref02_Sum8.f k s) (sum8 s) := by
  refine Ev.of (masterdiscref02_Sum8.mono s) (k := s.size + 1) ?_
  have := Sum8ref_l0 s s.size 0 0 (by omega) h (by decide)
  simpa [masterdiscref02_Sum8.f, sum8] using this
theorem sumref_ev (s : ByteArray) (h : 16 ≤ s.size) : Ev (fun k => masterdiscref31_sum.f k s) (tagSum s) := by
  have e : (s.extract 0 4 ++ s.extract 5 16).size = 15 := by simp [ByteArray.size_append, ByteArray.size_extract]; omega
  have := Sum8ref_ev (s.extract 0 4 ++ s.extract 5 16) (by omega)
  refine Ev.congr (fun k => ?_) this
  rw [masterdiscref31_sum.f, if_pos (by omega), if_pos (by omega), if_pos (by omega), if_pos (by omega), if_pos (by simp [ByteArray.size_extract]; omega)]
  cases masterdiscref02_Sum8.f k (s.extract 0 4 ++ s.extract 5 16) <;> rfl

/-! ### the check of chapter 2, bit by bit -/
theorem crcBit_eq (n : Nat) : crcBit n = (n * 2 % 65536) ^^^ (if n.testBit 15 then 4129 else 0) := by
  unfold crcBit
  have : n.testBit 15 = decide (n / 32768 % 2 = 1) := by rw [Nat.testBit_eq_decide_div_mod_eq]
  by_cases h : n / 32768 % 2 = 1 <;> simp [this, h]
theorem xor_shift (x y : Nat) (k : Nat) : (x ^^^ y) * 2 ^ k = (x * 2 ^ k) ^^^ (y * 2 ^ k) := by
  simp only [← Nat.shiftLeft_eq]; exact Nat.shiftLeft_xor_distrib
theorem crcBit_xor (x y : Nat) : crcBit (x ^^^ y) = crcBit x ^^^ crcBit y := by
  rw [crcBit_eq, crcBit_eq, crcBit_eq, show (x ^^^ y) * 2 = (x ^^^ y) * 2 ^ 1 from rfl, xor_shift, show (65536 : Nat) = 2 ^ 16 from rfl, Nat.xor_mod_two_pow, Nat.testBit_xor]
  generalize x * 2 ^ 1 % 2 ^ 16 = a
  generalize y * 2 ^ 1 % 2 ^ 16 = b
  apply Nat.eq_of_testBit_eq
  intro i
  cases x.testBit 15 <;> cases y.testBit 15 <;> simp only [Nat.testBit_xor, Bool.xor_false, Bool.xor_true, Bool.false_xor, Bool.not_false, Bool.not_true, if_true, if_false, Bool.false_eq_true, Nat.zero_testBit] <;>
    cases a.testBit i <;> cases b.testBit i <;> cases (4129 : Nat).testBit i <;> rfl
theorem crcIt_xor (x y : Nat) (k : Nat) : crcIt (x ^^^ y) k = crcIt x k ^^^ crcIt y k := by
  induction k with
  | zero => rfl
  | succ k ih => rw [crcIt, ih, crcBit_xor]; rfl
theorem crcIt_low : ∀ lo : Fin 256, crcIt lo 8 = lo * 256 := by decide +kernel
theorem crcByte_it (n : Nat) : crcByte n = crcIt (n * 256 % 65536) 8 := rfl
theorem crcStep_it (c : Nat) (hc : c < 65536) (b : UInt8) : crcStep c b = crcIt (c ^^^ (b.toNat * 256)) 8 := by
  have hb := b.toNat_lt
  have hlo := crcIt_low ⟨c % 256, Nat.mod_lt _ (by decide)⟩
  simp only at hlo
  have hx : (c / 256 % 256) ^^^ b.toNat < 256 := Nat.xor_lt_two_pow (n := 8) (Nat.mod_lt _ (by decide)) hb
  have e : c ^^^ (b.toNat * 256) = (c % 256) ^^^ (((c / 256 % 256) ^^^ b.toNat) * 256) := by
    rw [show (256 : Nat) = 2 ^ 8 from rfl, xor_shift, ← Nat.xor_assoc]
    congr 1
    apply Nat.eq_of_testBit_eq
    intro i
    simp only [Nat.testBit_xor, Nat.testBit_mod_two_pow, Nat.testBit_mul_two_pow, Nat.testBit_div_two_pow]
    by_cases hi : i < 8
    · simp [hi, show ¬ 8 ≤ i by omega]
    · simp only [hi, decide_false, Bool.false_and, Bool.false_xor, show 8 ≤ i by omega, decide_true, Bool.true_and]
      rw [show i - 8 + 8 = i by omega]
      by_cases h2 : i - 8 < 8
      · simp [h2]
      · have : c.testBit i = false := Nat.testBit_lt_two_pow (Nat.lt_of_lt_of_le hc (Nat.pow_le_pow_right (n := 2) (by decide) (show 16 ≤ i by omega)))
        simp [h2, this]
  rw [crcStep, crcByte_it, e, crcIt_xor, hlo, Nat.mod_eq_of_lt (show ((c / 256 % 256) ^^^ b.toNat) * 256 < 65536 by omega), show c * 256 % 65536 = c % 256 * 256 by omega]
theorem Bit_int (x : Nat) (hx : x < 65536) : (if IntKind.u16.wrap (Int.tdiv (x : Int) 32768) = 1 then Go.bits .xor .u16 (IntKind.u16.wrap ((Int.tmod (x : Int) 32768) * 2)) 4129 else IntKind.u16.wrap ((Int.tmod (x : Int) 32768) * 2)) = ((crcBit x : Nat) : Int) := by
  have e1 : IntKind.u16.wrap (Int.tdiv (x : Int) 32768) = ((x / 32768 : Nat) : Int) := by
    rw [Int.tdiv_eq_ediv_of_nonneg (by omega), wrap_u16]; omega
  have e2 : IntKind.u16.wrap ((Int.tmod (x : Int) 32768) * 2) = ((x * 2 % 65536 : Nat) : Int) := by
    rw [tmod_pos _ _ (by omega), wrap_u16]; omega
  rw [e1, e2, show (4129 : Int) = ((4129 : Nat) : Int) from rfl, bits_xor16 _ _ (Nat.mod_lt _ (by decide)) (by decide)]
  unfold crcBit
  by_cases h : x / 32768 = 1
  · rw [if_pos (by omega), if_pos (by omega)]
  · rw [if_neg (by omega), if_neg (by omega)]
theorem crcIt_succ' (x : Nat) (j : Nat) : crcIt (crcBit x) j = crcIt x (j + 1) := by
  induction j with
  | zero => rfl
  | succ j ih => rw [crcIt, ih]; rfl
theorem Crc_l1 (s : ByteArray) (j : Int) (k : Nat) : ∀ (m x : Nat), m ≤ 8 → x < 65536 →
    masterdiscref02_ExtendCRC16.l1 (k + m + 1) (x : Int) s j ((8 - m : Nat) : Int) = masterdiscref02_ExtendCRC16.l0 k ((crcIt x m : Nat) : Int) s (wrap64 (j + 1)) := by
  intro m
  induction m with
  | zero => intro x hm hx; rw [masterdiscref02_ExtendCRC16.l1, if_neg (by omega)]; rfl
  | succ m ih =>
    intro x hm hx
    have hb := Bit_int x hx
    have e : wrap64 (((8 - (m + 1) : Nat) : Int) + 1) = ((8 - m : Nat) : Int) := by rw [w64 _ (by omega)]; omega
    rw [masterdiscref02_ExtendCRC16.l1, if_pos (by omega), e, ← crcIt_succ', ← ih (crcBit x) (by omega) (crcBit_lt x), ← hb]
    split <;> rfl
theorem Crc_l0 (s : ByteArray) : ∀ (m j x : Nat), j + m = s.size → s.size ≤ 9223372036854775807 → x < 65536 →
    masterdiscref02_ExtendCRC16.l0 (10 * m + 1) (x : Int) s (j : Int) = some (((s.data.toList.drop j).foldl crcStep x : Nat) : Int) := by
  intro m
  induction m with
  | zero =>
    intro j x hj hs hx
    rw [masterdiscref02_ExtendCRC16.l0, if_neg (by omega), List.drop_of_length_le (by simp only [Array.length_toList]; show s.size ≤ j; omega)]
    rfl
  | succ m ih =>
    intro j x hj hs hx
    have hl : j < s.data.toList.length := by simp only [Array.length_toList]; show j < s.size; omega
    have hlt : j < s.size := by omega
    have hu := (s[j]'hlt).toNat_lt
    have e1 : bt s (j : Int) = ((s[j]'hlt).toNat : Int) := (bt_at s (j : Int) (by simpa using hlt)).symm
    have e2 : wrap64 ((j : Int) + 1) = ((j + 1 : Nat) : Int) := by rw [w64 _ (by omega)]; simp
    have e3 : Go.bits .xor .u16 (x : Int) (IntKind.u16.wrap ((IntKind.u16.wrap (bt s (j : Int))) * 256)) = ((x ^^^ ((s[j]'hlt).toNat * 256) : Nat) : Int) := by
      rw [e1, ← bits_xor16 x _ hx (show (s[j]'hlt).toNat * 256 < 65536 by omega)]
      congr 1
      rw [wrap_u16, wrap_u16]; omega
    have hx2 : x ^^^ ((s[j]'hlt).toNat * 256) < 65536 := Nat.xor_lt_two_pow (n := 16) hx (show (s[j]'hlt).toNat * 256 < 2 ^ 16 by omega)
    have h1 := Crc_l1 s j (10 * m + 1) 8 (x ^^^ ((s[j]'hlt).toNat * 256)) (by omega) hx2
    rw [← crcStep_it x hx] at h1
    rw [show 10 * (m + 1) + 1 = (10 * m + 1 + 8 + 1) + 1 by omega, masterdiscref02_ExtendCRC16.l0, if_pos (by omega), if_pos (by omega), e3]
    rw [show ((8 - 8 : Nat) : Int) = 0 from rfl] at h1
    rw [h1, e2, ih (j + 1) _ (by omega) hs (crcStep_lt _ _), List.drop_eq_getElem_cons hl, List.foldl_cons]
    simp only [Array.getElem_toList]
    rfl
theorem CRC16ref_ev (s : ByteArray) (h : s.size ≤ 9223372036854775807) : Ev (fun k => masterdiscref02_CRC16.f k s) (crcOf s) := by
  refine Ev.of (masterdiscref02_CRC16.mono s) (k := 10 * s.size + 1) ?_
  have := Crc_l0 s s.size 0 0 (by omega) h (by decide)
  rw [masterdiscref02_CRC16.f, masterdiscref02_ExtendCRC16.f]
  simp only [List.drop_zero] at this
  rw [show (0 : Int) = ((0 : Nat) : Int) from rfl, this]
  rfl
end Go.Proofs.Ytijbfebbogiiiaa.Pure
