/- A descriptor in which one byte is changed has a fault. -/
import Derived.Test.YtijbfebbogiiiaaPSeal
namespace Go.Proofs.Ytijbfebbogiiiaa.Pure
open Go.RowKit Go.Proofs.Ytijbfebbogiiiaa.Q Go.Proofs.YtijbfebbogiiiaaW.PrintWords Go.Proofs.YtijbfebbogiiiaaW.PrintLast
set_option linter.unusedVariables false
set_option linter.unusedSimpArgs false
theorem crcBit_zero (z : Nat) (hz : z < 65536) (h : crcBit z = 0) : z = 0 := by
  unfold crcBit at h
  split at h
  · rename_i c
    have h2 := congrArg (fun n => Nat.testBit n 0) h
    simp only [Nat.testBit_xor, Nat.zero_testBit] at h2
    have e1 : (z * 2 % 65536).testBit 0 = false := by rw [Nat.testBit_zero, decide_eq_false_iff_not]; omega
    have e2 : (4129 : Nat).testBit 0 = true := by decide
    rw [e1, e2] at h2
    cases h2
  · rename_i c
    omega
theorem crcIt_zero (z : Nat) (hz : z < 65536) : ∀ k, crcIt z k = 0 → z = 0 := by
  intro k
  induction k with
  | zero => exact fun h => h
  | succ k ih => exact fun h => ih (crcBit_zero _ (crcIt_lt z hz k) h)
theorem xor_eq_zero' {a b : Nat} (h : a ^^^ b = 0) : a = b := by
  have := congrArg (fun n => n ^^^ b) h
  simpa [Nat.xor_assoc] using this
theorem crcIt_inj (x y : Nat) (hx : x < 65536) (hy : y < 65536) (h : crcIt x 8 = crcIt y 8) : x = y := by
  apply xor_eq_zero'
  apply crcIt_zero _ (Nat.xor_lt_two_pow (n := 16) hx hy) 8
  rw [crcIt_xor, h, Nat.xor_self]
def crcS (c : Nat) (b : Int) : Nat := crcIt (c ^^^ (b.toNat * 256)) 8
theorem crcS_lt (c : Nat) (b : Int) (hc : c < 65536) (hb : 0 ≤ b ∧ b ≤ 255) : crcS c b < 65536 :=
  crcIt_lt _ (Nat.xor_lt_two_pow (n := 16) hc (show b.toNat * 256 < 2 ^ 16 by omega)) 8
theorem crcS_state (c c' : Nat) (b : Int) (hc : c < 65536) (hc' : c' < 65536) (hb : 0 ≤ b ∧ b ≤ 255) (h : crcS c b = crcS c' b) : c = c' := by
  have h1 : b.toNat * 256 < 2 ^ 16 := by omega
  have := crcIt_inj _ _ (Nat.xor_lt_two_pow (n := 16) hc h1) (Nat.xor_lt_two_pow (n := 16) hc' h1) h
  have h2 := congrArg (fun n => n ^^^ (b.toNat * 256)) this
  simpa [Nat.xor_assoc] using h2
theorem crcS_byte (c : Nat) (b b' : Int) (hc : c < 65536) (hb : 0 ≤ b ∧ b ≤ 255) (hb' : 0 ≤ b' ∧ b' ≤ 255) (h : crcS c b = crcS c b') : b = b' := by
  have h1 : b.toNat * 256 < 2 ^ 16 := by clear h; omega
  have h1' : b'.toNat * 256 < 2 ^ 16 := by
    clear h h1
    have : b'.toNat ≤ 255 := by omega
    show b'.toNat * 256 < 65536
    omega
  have := crcIt_inj _ _ (Nat.xor_lt_two_pow (n := 16) hc h1) (Nat.xor_lt_two_pow (n := 16) hc h1') h
  have h2 := congrArg (fun n => c ^^^ n) this
  simp only [← Nat.xor_assoc, Nat.xor_self, Nat.zero_xor] at h2
  omega
theorem crcL_lt (l : List Int) : ∀ c, c < 65536 → (∀ x ∈ l, 0 ≤ x ∧ x ≤ 255) → l.foldl crcS c < 65536 := by
  induction l with
  | nil => exact fun _ h _ => h
  | cons b l ih => exact fun c hc hl => ih _ (crcS_lt c b hc (hl b (by simp))) (fun x hx => hl x (by simp [hx]))
theorem crcL_state (l : List Int) : ∀ c c', c < 65536 → c' < 65536 → (∀ x ∈ l, 0 ≤ x ∧ x ≤ 255) → l.foldl crcS c = l.foldl crcS c' → c = c' := by
  induction l with
  | nil => exact fun _ _ _ _ _ h => h
  | cons b l ih =>
    intro c c' hc hc' hl h
    have hb := hl b (by simp)
    exact crcS_state c c' b hc hc' hb (ih _ _ (crcS_lt c b hc hb) (crcS_lt c' b hc' hb) (fun x hx => hl x (by simp [hx])) h)
theorem crcOf_bytes (s : ByteArray) : crcOf s = (((bytesOf s).foldl crcS 0 : Nat) : Int) := by
  have : ∀ (l : List UInt8) (c : Nat), c < 65536 → l.foldl crcStep c = (l.map fun b => (b.toNat : Int)).foldl crcS c := by
    intro l
    induction l with
    | nil => exact fun _ _ => rfl
    | cons b l ih =>
      intro c hc
      rw [List.foldl_cons, ih _ (crcStep_lt c b), List.map_cons, List.foldl_cons, crcStep_it c hc]
      rfl
  unfold crcOf bytesOf
  rw [this _ 0 (by decide)]
theorem crcL_change (A R : List Int) (b b' : Int) (hA : ∀ x ∈ A, 0 ≤ x ∧ x ≤ 255) (hR : ∀ x ∈ R, 0 ≤ x ∧ x ≤ 255) (hb : 0 ≤ b ∧ b ≤ 255) (hb' : 0 ≤ b' ∧ b' ≤ 255) (h : (A ++ b :: R).foldl crcS 0 = (A ++ b' :: R).foldl crcS 0) : b = b' := by
  rw [List.foldl_append, List.foldl_append, List.foldl_cons, List.foldl_cons] at h
  have hc := crcL_lt A 0 (by decide) hA
  exact crcS_byte _ b b' hc hb hb' (crcL_state R _ _ (crcS_lt _ _ hc hb) (crcS_lt _ _ hc hb') hR h)
theorem fold_sum (l : List Int) : ∀ a : Int, 0 ≤ a ∧ a ≤ 255 → l.foldl (fun a b => (a + b) % 256) a = (a + l.sum) % 256 := by
  induction l with
  | nil => intro a h; simp; omega
  | cons b l ih =>
    intro a h
    rw [List.foldl_cons, ih _ (by show 0 ≤ (a + b) % 256 ∧ (a + b) % 256 ≤ 255; omega), List.sum_cons]
    show ((a + b) % 256 + l.sum) % 256 = _
    omega
theorem sumL_sum (l : List Int) : sumL l = ((l.take 4).sum + ((l.take 16).drop 5).sum) % 256 := by
  rw [sumL, fold_sum _ 0 (by decide), List.sum_append]; simp
/-- The sum of a tag betrays each changed byte of it. -/
theorem sum_betrays (b0 b1 b2 b3 b4 b5 b6 b7 b8 b9 b10 b11 b12 b13 b14 b15 : Int) (R : List Int) (i : Nat) (x : Int) (hi : i < 16) (hr : ∀ y ∈ (b0 :: b1 :: b2 :: b3 :: b4 :: b5 :: b6 :: b7 :: b8 :: b9 :: b10 :: b11 :: b12 :: b13 :: b14 :: b15 :: R), 0 ≤ y ∧ y ≤ 255) (hx : 0 ≤ x ∧ x ≤ 255) (h4 : b4 = sumL (b0 :: b1 :: b2 :: b3 :: b4 :: b5 :: b6 :: b7 :: b8 :: b9 :: b10 :: b11 :: b12 :: b13 :: b14 :: b15 :: R)) (hne : x ≠ rd (b0 :: b1 :: b2 :: b3 :: b4 :: b5 :: b6 :: b7 :: b8 :: b9 :: b10 :: b11 :: b12 :: b13 :: b14 :: b15 :: R) (i : Int)) :
    rd ((b0 :: b1 :: b2 :: b3 :: b4 :: b5 :: b6 :: b7 :: b8 :: b9 :: b10 :: b11 :: b12 :: b13 :: b14 :: b15 :: R).set i x) 4 ≠ sumL ((b0 :: b1 :: b2 :: b3 :: b4 :: b5 :: b6 :: b7 :: b8 :: b9 :: b10 :: b11 :: b12 :: b13 :: b14 :: b15 :: R).set i x) := by
  have r0 := hr b0 (by simp)
  have r1 := hr b1 (by simp)
  have r2 := hr b2 (by simp)
  have r3 := hr b3 (by simp)
  have r4 := hr b4 (by simp)
  have r5 := hr b5 (by simp)
  have r6 := hr b6 (by simp)
  have r7 := hr b7 (by simp)
  have r8 := hr b8 (by simp)
  have r9 := hr b9 (by simp)
  have r10 := hr b10 (by simp)
  have r11 := hr b11 (by simp)
  have r12 := hr b12 (by simp)
  have r13 := hr b13 (by simp)
  have r14 := hr b14 (by simp)
  have r15 := hr b15 (by simp)
  rw [sumL_sum] at h4 ⊢
  have hc : i = 0 ∨ i = 1 ∨ i = 2 ∨ i = 3 ∨ i = 4 ∨ i = 5 ∨ i = 6 ∨ i = 7 ∨ i = 8 ∨ i = 9 ∨ i = 10 ∨ i = 11 ∨ i = 12 ∨ i = 13 ∨ i = 14 ∨ i = 15 := by omega
  simp only [List.take_succ_cons, List.drop_succ_cons, List.take_zero, List.drop_zero, List.sum_cons, List.sum_nil] at h4
  rcases hc with rfl | rfl | rfl | rfl | rfl | rfl | rfl | rfl | rfl | rfl | rfl | rfl | rfl | rfl | rfl | rfl <;>
    simp only [List.set_cons_zero, List.set_cons_succ, List.take_succ_cons, List.drop_succ_cons, List.take_zero, List.drop_zero, List.sum_cons, List.sum_nil, rd, List.getD_eq_getElem?_getD, Int.toNat_natCast, List.getElem?_cons_zero, List.getElem?_cons_succ, Option.getD_some, show (4 : Int).toNat = 4 from rfl] at hne ⊢ <;> omega
theorem sixteen' (l : List Int) (h : 16 ≤ l.length) : ∃ b0 b1 b2 b3 b4 b5 b6 b7 b8 b9 b10 b11 b12 b13 b14 b15 R, l = b0 :: b1 :: b2 :: b3 :: b4 :: b5 :: b6 :: b7 :: b8 :: b9 :: b10 :: b11 :: b12 :: b13 :: b14 :: b15 :: R := by
  obtain ⟨b0, l1, rfl⟩ := List.exists_cons_of_length_pos (l := l) (by (try simp only [List.length_cons] at h); omega)
  obtain ⟨b1, l2, rfl⟩ := List.exists_cons_of_length_pos (l := l1) (by (try simp only [List.length_cons] at h); omega)
  obtain ⟨b2, l3, rfl⟩ := List.exists_cons_of_length_pos (l := l2) (by (try simp only [List.length_cons] at h); omega)
  obtain ⟨b3, l4, rfl⟩ := List.exists_cons_of_length_pos (l := l3) (by (try simp only [List.length_cons] at h); omega)
  obtain ⟨b4, l5, rfl⟩ := List.exists_cons_of_length_pos (l := l4) (by (try simp only [List.length_cons] at h); omega)
  obtain ⟨b5, l6, rfl⟩ := List.exists_cons_of_length_pos (l := l5) (by (try simp only [List.length_cons] at h); omega)
  obtain ⟨b6, l7, rfl⟩ := List.exists_cons_of_length_pos (l := l6) (by (try simp only [List.length_cons] at h); omega)
  obtain ⟨b7, l8, rfl⟩ := List.exists_cons_of_length_pos (l := l7) (by (try simp only [List.length_cons] at h); omega)
  obtain ⟨b8, l9, rfl⟩ := List.exists_cons_of_length_pos (l := l8) (by (try simp only [List.length_cons] at h); omega)
  obtain ⟨b9, l10, rfl⟩ := List.exists_cons_of_length_pos (l := l9) (by (try simp only [List.length_cons] at h); omega)
  obtain ⟨b10, l11, rfl⟩ := List.exists_cons_of_length_pos (l := l10) (by (try simp only [List.length_cons] at h); omega)
  obtain ⟨b11, l12, rfl⟩ := List.exists_cons_of_length_pos (l := l11) (by (try simp only [List.length_cons] at h); omega)
  obtain ⟨b12, l13, rfl⟩ := List.exists_cons_of_length_pos (l := l12) (by (try simp only [List.length_cons] at h); omega)
  obtain ⟨b13, l14, rfl⟩ := List.exists_cons_of_length_pos (l := l13) (by (try simp only [List.length_cons] at h); omega)
  obtain ⟨b14, l15, rfl⟩ := List.exists_cons_of_length_pos (l := l14) (by (try simp only [List.length_cons] at h); omega)
  obtain ⟨b15, l16, rfl⟩ := List.exists_cons_of_length_pos (l := l15) (by (try simp only [List.length_cons] at h); omega)
  exact ⟨b0, b1, b2, b3, b4, b5, b6, b7, b8, b9, b10, b11, b12, b13, b14, b15, l16, rfl⟩
theorem ext_bytes {s : ByteArray} {hd R : List Int} (h16 : hd.length = 16) (hb : bytesOf s = hd ++ R) (n : Int) (h0 : 0 ≤ n) : bytesOf (s.extract 16 (16 + n).toNat) = R.take n.toNat := by
  rw [bytesOf_extract, hb, show (16 + n).toNat = 16 + n.toNat by omega, List.take_append, List.take_of_length_le (by omega), h16, show 16 + n.toNat - 16 = n.toNat by omega, ← h16, List.drop_left]
theorem detect (id ver loc : Int) (body : ByteArray) (h : inRange id ver loc) (hn : body.size ≤ 65535) (i : Nat) (x : Int) (hi : i < 16 + body.size) (hx : 0 ≤ x ∧ x ≤ 255) (hne : x ≠ rd (bytesOf (sealOf id ver loc body)) (i : Int)) :
    faultsAll (strOfNums ((bytesOf (sealOf id ver loc body)).set i x)) loc ≠ [] := by
  intro hf
  have hS : bytesOf (sealOf id ver loc body) = sealHead id ver loc body ++ bytesOf body := sealOf_bytes id ver loc body
  have hrS := bytesOf_range (sealOf id ver loc body)
  have hrB := bytesOf_range body
  have hlB := bytesOf_length body
  have bc := crcOf_bd body
  have hsz := sealOf_size id ver loc body
  have hlS := bytesOf_length (sealOf id ver loc body)
  obtain ⟨t1, t2, t3, t4, t5, t6, t7, t8, t9⟩ := tag_read hS h (by omega) (by omega)
  have hsum : rd (bytesOf (sealOf id ver loc body)) 4 = sumL (bytesOf (sealOf id ver loc body)) := by
    rw [rd_bytesOf, t3, hS]
    unfold sealHead
    rw [sumL_head]
  have hlen : ∀ j : Int, leAt (sealOf id ver loc body) j 2 = rd (bytesOf (sealOf id ver loc body)) j + 256 * rd (bytesOf (sealOf id ver loc body)) (j + 1) := fun j => by rw [leAt_two, rd_bytesOf, rd_bytesOf]
  rw [hlen] at t5 t6
  have hR : (bytesOf (sealOf id ver loc body)).drop 16 = bytesOf body := by rw [hS]; rfl
  generalize bytesOf (sealOf id ver loc body) = l at *
  obtain ⟨b0, b1, b2, b3, b4, b5, b6, b7, b8, b9, b10, b11, b12, b13, b14, b15, R, rfl⟩ := sixteen' l (by omega)
  have hR' : R = bytesOf body := hR
  have hset : ∀ y ∈ (b0 :: b1 :: b2 :: b3 :: b4 :: b5 :: b6 :: b7 :: b8 :: b9 :: b10 :: b11 :: b12 :: b13 :: b14 :: b15 :: R).set i x, 0 ≤ y ∧ y ≤ 255 := by
    intro y hy
    rcases List.mem_or_eq_of_mem_set hy with hy | rfl
    · exact hrS y hy
    · exact hx
  have hb := bytesOf_strOfNums _ hset
  obtain ⟨f16, f1, f2, f3, f4, f5⟩ := faults_nil hf
  generalize strOfNums ((b0 :: b1 :: b2 :: b3 :: b4 :: b5 :: b6 :: b7 :: b8 :: b9 :: b10 :: b11 :: b12 :: b13 :: b14 :: b15 :: R).set i x) = t at *
  rcases Nat.lt_or_ge i 16 with h16 | h16
  · have hbad := sum_betrays b0 b1 b2 b3 b4 b5 b6 b7 b8 b9 b10 b11 b12 b13 b14 b15 R i x h16 hrS hx hsum hne
    rw [← hb, rd_bytesOf, f1, tagSum_bytes] at hbad
    exact hbad rfl
  · obtain ⟨j, rfl⟩ : ∃ j, i = 16 + j := ⟨i - 16, by omega⟩
    have hj : j < R.length := by rw [hR', hlB]; omega
    have hb2 : bytesOf t = [b0, b1, b2, b3, b4, b5, b6, b7, b8, b9, b10, b11, b12, b13, b14, b15] ++ R.set j x := by
      rw [hb, show (b0 :: b1 :: b2 :: b3 :: b4 :: b5 :: b6 :: b7 :: b8 :: b9 :: b10 :: b11 :: b12 :: b13 :: b14 :: b15 :: R) = [b0, b1, b2, b3, b4, b5, b6, b7, b8, b9, b10, b11, b12, b13, b14, b15] ++ R from rfl, List.set_append_right _ _ (by simp)]
      simp
    have tb : ∀ q : Int, bt t q = rd ([b0, b1, b2, b3, b4, b5, b6, b7, b8, b9, b10, b11, b12, b13, b14, b15] ++ R.set j x) q := fun q => by rw [← rd_bytesOf, hb2]
    have e10 : leAt t 10 2 = body.size := by
      rw [leAt_two, tb, tb, ← t6]; rfl
    have e8 : leAt t 8 2 = crcOf body := by
      rw [leAt_two, tb, tb, ← t5]; rfl
    rw [e8, e10, crcOf_bytes, crcOf_bytes, ext_bytes rfl hb2 _ (by omega), List.take_of_length_le (by rw [List.length_set, hR', hlB]; omega), ← hR'] at f4
    have f4' : R.foldl crcS 0 = (R.set j x).foldl crcS 0 := by omega
    have hRl : R = R.take j ++ R[j] :: R.drop (j + 1) := by rw [← List.drop_eq_getElem_cons hj, List.take_append_drop]
    have hRs : R.set j x = R.take j ++ x :: R.drop (j + 1) := List.set_eq_take_append_cons_drop ▸ by simp [hj]
    have hrR : ∀ y ∈ R, 0 ≤ y ∧ y ≤ 255 := fun y hy => hrB y (hR' ▸ hy)
    rw [hRs] at f4'
    have := crcL_change (R.take j) (R.drop (j + 1)) R[j] x (fun y hy => hrR y (List.mem_of_mem_take hy)) (fun y hy => hrR y (List.mem_of_mem_drop hy)) (hrR _ (List.getElem_mem hj)) hx (by rw [← hRl]; exact f4')
    apply hne
    rw [← this]
    rw [show (b0 :: b1 :: b2 :: b3 :: b4 :: b5 :: b6 :: b7 :: b8 :: b9 :: b10 :: b11 :: b12 :: b13 :: b14 :: b15 :: R) = [b0, b1, b2, b3, b4, b5, b6, b7, b8, b9, b10, b11, b12, b13, b14, b15] ++ R from rfl, rd_append_right _ _ _ (by simp; omega), show (((16 + j : Nat) : Int) - (([b0, b1, b2, b3, b4, b5, b6, b7, b8, b9, b10, b11, b12, b13, b14, b15].length : Nat) : Int)) = (j : Int) by simp; omega]
    unfold rd
    simp [hj]
end Go.Proofs.Ytijbfebbogiiiaa.Pure
