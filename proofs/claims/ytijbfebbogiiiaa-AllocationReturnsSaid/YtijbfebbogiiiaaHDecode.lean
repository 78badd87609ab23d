/- Contracts of allocation.DecodeShort and DecodeLong: the extents of the descriptors of a string. -/
import Derived.Test.YtijbfebbogiiiaaHBase
import Derived.Test.YtijbfebbogiiiaaQ0
import Derived.Test.YtijbfebbogiiiaaQRead
import Derived.Test.YtijbfebbogiiiaaHBase
import Derived.Test.YtijbfebbogiiiaaHLe
import Derived.Outline
import Derived.WalkSpells
import Derived.Lib.Hide
namespace Go.Proofs.Ytijbfebbogiiiaa.Q
open Go.RowKit Go.Proofs.YtijbfebbogiiiaaW.PrintWords Go.Proofs.YtijbfebbogiiiaaW.PrintLast Go.Proofs.YtijbfebbogiiiaaW.PrintMore
attribute [local go_sem] max2_int min2_int max_two min_two max_three min_three max_four min_four
set_option linter.unusedVariables false
set_option linter.unusedSimpArgs false
/-- The descriptors from an offset on: n of them at the most; size bytes each. -/
def decFrom (s : ByteArray) (size : Int) (part : Int → Int) : Nat → Int → List S46 → List S46 × Int
  | 0, _, acc => (acc, 0)
  | n + 1, i, acc =>
    if leAt s i 4 % 1073741824 = 0 then (acc, 0) else if acc.length = 64 then ([], 7)
    else decFrom s size part n (i + size) (acc ++ [⟨leAt s i 4 / 1073741824, leAt s i 4 % 1073741824, ⟨leAt s (i + 4) 4, part i⟩⟩])
theorem bt_extract (s : ByteArray) (i j : Nat) (k : Int) (h0 : 0 ≤ k) (hk : (i : Int) + k < j) (hj : j ≤ s.size) : bt (s.extract i j) k = bt s (i + k) := by
  have hs : k < ((s.extract i j).size : Int) := by simp only [ByteArray.size_extract]; omega
  obtain ⟨n, rfl⟩ : ∃ n : Nat, k = n := ⟨k.toNat, by omega⟩
  have h1 : n < (s.extract i j).size := by omega
  have h2 : i + n < s.size := by omega
  have e1 := (bt_at (s.extract i j) n (by simpa using h1)).symm
  have e2 := (bt_at s ((i + n : Nat) : Int) (by rw [Int.toNat_natCast]; exact h2)).symm
  simp only [Int.toNat_natCast] at e1 e2
  rw [e1, show (i : Int) + (n : Int) = ((i + n : Nat) : Int) by omega, e2]
  rw [ByteArray.getElem_extract]
theorem leAt_extract (s : ByteArray) (i j : Nat) (hj : j ≤ s.size) : ∀ (n : Nat) (k : Int), 0 ≤ k → (i : Int) + k + n ≤ j → leAt (s.extract i j) k n = leAt s (i + k) n := by
  intro n
  induction n with
  | zero => intro k _ _; rfl
  | succ n ih =>
    intro k h0 hk
    rw [leAt, leAt, bt_extract s i j k h0 (by omega) hj, ih (k + 1) (by omega) (by omega)]
    rw [show (i : Int) + (k + 1) = i + k + 1 by omega]
theorem aread_f (s : ByteArray) (i n : Int) (h1 : 1 ≤ n) (h7 : n ≤ 7) (hi : 0 ≤ i) (hn : i + n ≤ s.size) (hs : s.size ≤ 9223372036854775807) : allocation_read.f s i n = some (leAt s i n.toNat) := by
  rw [allocation_read.f, endian_ReadLittle.f, if_pos ⟨h1, h7, hs⟩, if_pos ⟨hi, by omega⟩]
  rfl
theorem k46_mkM' (w : World) (base : Nat) (ok : Nat → Prop) (a b c d : Int) : k46.M w base ok (⟨a, b, ⟨c, d⟩⟩ : S46) [.int .i64 a, .int .i64 b, .int .i64 c, .int .i64 d] := k46_mkM w base ok ⟨a, b, ⟨c, d⟩⟩
theorem part_short_calls (s : ByteArray) (pt : Int) (B : Nat) (W : World) (hB : W.cell? ⟨B, 0, none⟩ = some (.int .i64 pt)) :
    Calls Try.prog 126 #[.string s, .pointer (some ⟨B, 0, none⟩)] W fun e w' => e = .returned (.int .i64 pt) ∧ W = w' := by
  go_enter Try.func126, Try.ntmps126
  go_wp2
  go_ret
  exact ⟨rfl, rfl⟩
theorem part_long_calls (s : ByteArray) (pt : Int) (W : World) (h : allocation_read.f s 8 2 = some pt) :
    Calls Try.prog 128 #[.string s] W fun e w' => e = .returned (.int .i64 pt) ∧ ∃ n, w' = W.drewN n := by
  have H := Lib.hid h
  clear h
  go_enter Try.func128, Try.ntmps128
  go_wp2_with (go_at_call 119; (with_reducible refine (allocation_read.calls s 8 2 _ _ H.out).mono ?_); rintro e w1 ⟨rfl, ⟨nd, rfl⟩⟩)
  go_ret
  exact ⟨rfl, _, rfl⟩
set_option maxHeartbeats 4000000 in
set_option maxRecDepth 100000 in
theorem decode8_calls (B : Nat) (pt : Int) (a0 : ByteArray) (w : World) (hs : a0.size ≤ 140737488355328) (hB : w.cell? ⟨B, 0, none⟩ = some (.int .i64 pt)) :
    Calls Try.prog 125 #[.string a0, .int .i64 8, .func (.func 126) #[] #[.pointer (some ⟨B, 0, none⟩)]] w fun e w' => ∃ v0_ : Value, e = .returned (.tuple #[v0_, .int .i64 (if a0.size % 8 ≠ 0 then ([], 3) else decFrom a0 8 (fun _ => pt) (a0.size / 8) 0 []).2]) ∧ Kd.R k46 46 w' w.heap.size (fun _ => True) v0_ (if a0.size % 8 ≠ 0 then ([], 3) else decFrom a0 8 (fun _ => pt) (a0.size / 8) 0 []).1 ∧ Below w.heap.size w w' := by
  have HBL := Lib.hid (World.block_lt_of_cell? w _ hB)
  have HBC := Lib.hid hB
  clear hB
  by_cases hm : a0.size % 8 = 0
  · rw [if_neg (not_not_intro hm)]
    obtain ⟨n, hn⟩ : ∃ n, n = a0.size / 8 := ⟨_, rfl⟩
    rw [← hn]
    have hsz : a0.size = 8 * n := by omega
    have t1 : Int.tmod (a0.size : Int) 8 = 0 := by rw [Int.tmod_eq_emod_of_nonneg (by omega)]; omega
    have t2 : Int.tdiv (a0.size : Int) 8 = (n : Int) := by rw [Int.tdiv_eq_ediv_of_nonneg (by omega)]; omega
    have t3 : IntKind.i64.wrap (n : Int) = (n : Int) := IntWalk.i64_in _ (by omega)
    obtain ⟨fin, hfin⟩ : ∃ fin, fin = decFrom a0 8 (fun _ => pt) n 0 [] := ⟨_, rfl⟩
    rw [← hfin]
    have HFIN := Lib.hid hfin
    clear hm hn hfin
    go_enter Try.func125, Try.ntmps125
    go_wp2
    go_loopw [8, 21] (fun v8 v21 w' => ∃ (k : Nat) (xs : List S46), k ≤ n ∧ xs.length ≤ 64 ∧ v21 = .int .i64 (k : Int) ∧ Aside0 (decFrom a0 8 (fun _ => pt) (n - k) (8 * (k : Int)) xs = fin) ∧ Aside0 (Kd.R k46 46 w' w.heap.size (fun _ => True) v8 xs) ∧ Aside0 (Below w.heap.size w w')) (fun _ v21 _ => n - (intOf v21).toNat)
    case atStart => exact ⟨0, [], by omega, by simp, rfl, ⟨HFIN.out.symm⟩, ⟨Kd.R_nil _ _ _ _ _⟩, ⟨Below.refl _ _⟩⟩
    case round =>
      obtain ⟨k, xs, hk, hx, rfl, HE, HR, HB⟩ := hrel
      obtain ⟨Ao, co, ho⟩ := Kd.R_slice HR.out
      subst ho
      by_cases hlt : k < n
      · have hi1 : IntKind.i64.wrap (8 * (k : Int)) = 8 * (k : Int) := IntWalk.i64_in _ (by omega)
        have hi2 : IntKind.i64.wrap ((k : Int) + 1) = (k : Int) + 1 := IntWalk.i64_in _ (by omega)
        have hi3 : IntKind.i64.wrap (8 * ((k : Int) + 1)) = 8 * ((k : Int) + 1) := IntWalk.i64_in _ (by omega)
        have hs1 : (0 : Int) ≤ 8 * (k : Int) := by omega
        have hs2 : 8 * (k : Int) ≤ 8 * ((k : Int) + 1) := by omega
        have hs3 : 8 * ((k : Int) + 1) ≤ (a0.size : Int) := by omega
        have en1 : (8 * (k : Int)).toNat = 8 * k := by omega
        have en2 : (8 * ((k : Int) + 1)).toNat = 8 * (k + 1) := by omega
        have H0 := HE.out
        rw [show n - k = (n - (k + 1)) + 1 by omega, decFrom] at H0
        have hez : (a0.extract (8 * k) (8 * (k + 1))).size = 8 := by rw [ByteArray.size_extract]; omega
        have r0 := aread_f (a0.extract (8 * k) (8 * (k + 1))) 0 4 (by omega) (by omega) (by omega) (by omega) (by omega)
        have r4 := aread_f (a0.extract (8 * k) (8 * (k + 1))) 4 4 (by omega) (by omega) (by omega) (by omega) (by omega)

        rw [leAt_extract a0 _ _ (by omega) _ _ (by omega) (by omega)] at r0 r4
        rw [show ((8 * k : Nat) : Int) + 0 = 8 * (k : Int) by omega] at r0
        rw [show ((8 * k : Nat) : Int) + 4 = 8 * (k : Int) + 4 by omega] at r4

        have b0 := leAt_bd a0 (8 * (k : Int)) 4
        have R0 := Lib.hid r0
        have R4 := Lib.hid r4
        clear r0 r4 hez en1 en2
        rw [show (4 : Int).toNat = 4 from rfl] at R0 R4
        generalize leAt a0 (8 * (k : Int)) 4 = n0 at R0 H0 b0
        generalize leAt a0 (8 * (k : Int) + 4) 4 = n4 at R4 H0
        have u1 : Int.tmod n0 1073741824 = n0 % 1073741824 := Int.tmod_eq_emod_of_nonneg b0.1
        have u2 : Int.tdiv n0 1073741824 = n0 / 1073741824 := Int.tdiv_eq_ediv_of_nonneg b0.1
        have u3 : IntKind.i64.wrap (n0 / 1073741824) = n0 / 1073741824 := IntWalk.i64_in _ (by have := b0.1; have := b0.2; omega)
        generalize n0 / 1073741824 = kd at u2 u3 H0
        generalize n0 % 1073741824 = ln at u1 H0
        clear b0
        have HOM := Lib.hid (show n - (k + 1) < n - k by omega)
        by_cases hz : ln = 0
        · rw [if_pos hz] at H0
          have HF := Lib.hid H0.symm
          clear H0 HE
          have z1 : (ln == 0) = true := beq_iff_eq.2 hz
          clear hz
          go_wp2_with (go_at_call 119; (with_reducible refine (allocation_read.calls _ 0 4 _ _ R0.out).mono ?_); rintro e w1 ⟨rfl, ⟨nd, rfl⟩⟩)
          go_ret2
          exact ⟨_, by rw [HF.out]; rfl, by rw [HF.out]; exact Kd.R_drewN HR.out nd, pw_below_drewN HB.out nd⟩
        · rw [if_neg hz] at H0
          have z1 : (ln == 0) = false := beq_eq_false_iff_ne.2 hz
          clear hz
          by_cases h64 : xs.length = 64
          · rw [if_pos h64] at H0
            have HF := Lib.hid H0.symm
            have z2 : ((xs.length : Int) == 64) = true := beq_iff_eq.2 (by omega)
            have z3 : (xs.length == 64) = true := beq_iff_eq.2 h64
            clear H0 HE h64 hx
            go_wp2_with (go_at_call 119; (with_reducible refine (allocation_read.calls _ 0 4 _ _ R0.out).mono ?_); rintro e w1 ⟨rfl, ⟨nd, rfl⟩⟩)
            go_ret2
            exact ⟨_, by rw [HF.out]; rfl, by rw [HF.out]; exact Kd.R_nil _ _ _ _ _, pw_below_drewN HB.out nd⟩
          · rw [if_neg h64] at H0
            have HF := Lib.hid H0
            have z2 : ((xs.length : Int) == 64) = false := beq_eq_false_iff_ne.2 (by omega)
            have z3 : (xs.length == 64) = false := beq_eq_false_iff_ne.2 h64
            have hx' : xs.length < 64 := by omega
            have HX := Lib.hid hx'
            clear H0 HE h64 hx hx'
            go_wp2_with (first
              | (go_at_call 119; (with_reducible refine (allocation_read.calls _ 0 4 _ _ R0.out).mono ?_); rintro e w1 ⟨rfl, ⟨nd, rfl⟩⟩)
              | (go_at_call 119; (with_reducible refine (allocation_read.calls _ 4 4 _ _ R4.out).mono ?_); rintro e w1 ⟨rfl, ⟨nd2, rfl⟩⟩)
              | (go_at_call 126; (with_reducible refine (part_short_calls _ pt B _ ?hcB).mono ?_); (case hcB => exact ((by repeat (first | (with_reducible first | exact HB.out | apply below_alloc | apply pw_below_drewN | apply below_drew1) | exact HB.out) : Below w.heap.size w _).cell (p := ⟨B, 0, none⟩) HBL.out).trans HBC.out); rintro e w1 ⟨rfl, rfl⟩)
              | ((with_reducible refine gate_builtin (b := .append) (xs := #[.tmp 41, .tmp 53]) rfl ?_); at_builtin; refine Kd.R_append k46 (w0 := w) w.heap.size rfl (.tmp 41) (.tmp 53) 37 46 (.agg #[(.int .i64 0), (.int .i64 0), (.int .i64 0), (.int .i64 0)]) 32 rfl Try.underlying37 info46 rfl (by decide) (by omega) (.slice Ao xs.length co) xs (⟨kd, ln, ⟨n4, pt⟩⟩ : S46) [.int .i64 kd, .int .i64 ln, .int .i64 n4, .int .i64 pt] (fun _ => True) (fun _ => False) rfl (by first | (go_simp; done) | (go_simp; rfl)) ?aP (fun _ hk => hk.elim) (fun _ _ => trivial) ?aO ?aB ?aS ?aL ?_; (case aP => exact k46_mkM' _ _ _ kd ln n4 pt); (case aO => exact (by (with_reducible repeat (first | apply Kd.R_alloc | apply Kd.R_drewN | apply Kd.R_drew)); exact HR.out)); (case aB => exact (by repeat (first | (with_reducible first | exact HB.out | apply below_alloc | apply pw_below_drewN | apply below_drew1) | exact HB.out))); (case aS => exact (below_size (by repeat (first | (with_reducible first | exact HB.out | apply below_alloc | apply pw_below_drewN | apply below_drew1) | exact HB.out)))); (case aL => have := HX.out; omega); intro v1 w4 hR4 hB4 _ _; have HR4 := Aside0.mk hR4; have HB4 := Aside0.mk hB4; clear hR4 hB4))
            go_roundw
            case rel => exact ⟨k + 1, xs ++ [⟨kd, ln, ⟨n4, pt⟩⟩], by omega, by have := HX.out; simp; omega, by go_num, ⟨by rw [← HF.out, show 8 * (((k + 1 : Nat)) : Int) = 8 * (k : Int) + 8 by omega]⟩, HR4, HB4⟩
            case measure => simp [intOf]; omega
      · have e : n - k = 0 := by omega
        have H0 := HE.out
        rw [e, decFrom] at H0
        have HF := Lib.hid H0.symm
        clear H0 HE e
        go_wp2
        go_ret2
        exact ⟨_, by rw [HF.out]; rfl, by rw [HF.out]; exact HR.out, HB.out⟩
  · rw [if_pos hm]
    have t1 : (Int.tmod (a0.size : Int) 8 == 0) = false := by rw [Int.tmod_eq_emod_of_nonneg (by omega)]; exact beq_eq_false_iff_ne.2 (by omega)
    have t2 : (Int.tmod (a0.size : Int) 8 != 0) = true := by rw [bne, t1]; rfl
    have t3 : ((a0.size : Int) % 8 == 0) = false := beq_eq_false_iff_ne.2 (by omega)
    have t4 : ((a0.size : Int) % 8 != 0) = true := by rw [bne, t3]; rfl
    clear hm
    go_enter Try.func125, Try.ntmps125
    go_wp2
    go_ret2
    exact ⟨_, rfl, Kd.R_nil _ _ _ _ _, Below.refl _ _⟩
set_option maxHeartbeats 4000000 in
set_option maxRecDepth 100000 in
theorem decode16_calls (a0 : ByteArray) (w : World) (hs : a0.size ≤ 140737488355328) :
    Calls Try.prog 125 #[.string a0, .int .i64 16, .func (.func 128) #[] #[]] w fun e w' => ∃ v0_ : Value, e = .returned (.tuple #[v0_, .int .i64 (if a0.size % 16 ≠ 0 then ([], 3) else decFrom a0 16 (fun i => leAt a0 (i + 8) 2) (a0.size / 16) 0 []).2]) ∧ Kd.R k46 46 w' w.heap.size (fun _ => True) v0_ (if a0.size % 16 ≠ 0 then ([], 3) else decFrom a0 16 (fun i => leAt a0 (i + 8) 2) (a0.size / 16) 0 []).1 ∧ Below w.heap.size w w' := by
  by_cases hm : a0.size % 16 = 0
  · rw [if_neg (not_not_intro hm)]
    obtain ⟨n, hn⟩ : ∃ n, n = a0.size / 16 := ⟨_, rfl⟩
    rw [← hn]
    have hsz : a0.size = 16 * n := by omega
    have t1 : Int.tmod (a0.size : Int) 16 = 0 := by rw [Int.tmod_eq_emod_of_nonneg (by omega)]; omega
    have t2 : Int.tdiv (a0.size : Int) 16 = (n : Int) := by rw [Int.tdiv_eq_ediv_of_nonneg (by omega)]; omega
    have t3 : IntKind.i64.wrap (n : Int) = (n : Int) := IntWalk.i64_in _ (by omega)
    obtain ⟨fin, hfin⟩ : ∃ fin, fin = decFrom a0 16 (fun i => leAt a0 (i + 8) 2) n 0 [] := ⟨_, rfl⟩
    rw [← hfin]
    have HFIN := Lib.hid hfin
    clear hm hn hfin
    go_enter Try.func125, Try.ntmps125
    go_wp2
    go_loopw [8, 21] (fun v8 v21 w' => ∃ (k : Nat) (xs : List S46), k ≤ n ∧ xs.length ≤ 64 ∧ v21 = .int .i64 (k : Int) ∧ Aside0 (decFrom a0 16 (fun i => leAt a0 (i + 8) 2) (n - k) (16 * (k : Int)) xs = fin) ∧ Aside0 (Kd.R k46 46 w' w.heap.size (fun _ => True) v8 xs) ∧ Aside0 (Below w.heap.size w w')) (fun _ v21 _ => n - (intOf v21).toNat)
    case atStart => exact ⟨0, [], by omega, by simp, rfl, ⟨HFIN.out.symm⟩, ⟨Kd.R_nil _ _ _ _ _⟩, ⟨Below.refl _ _⟩⟩
    case round =>
      obtain ⟨k, xs, hk, hx, rfl, HE, HR, HB⟩ := hrel
      obtain ⟨Ao, co, ho⟩ := Kd.R_slice HR.out
      subst ho
      by_cases hlt : k < n
      · have hi1 : IntKind.i64.wrap (16 * (k : Int)) = 16 * (k : Int) := IntWalk.i64_in _ (by omega)
        have hi2 : IntKind.i64.wrap ((k : Int) + 1) = (k : Int) + 1 := IntWalk.i64_in _ (by omega)
        have hi3 : IntKind.i64.wrap (16 * ((k : Int) + 1)) = 16 * ((k : Int) + 1) := IntWalk.i64_in _ (by omega)
        have hs1 : (0 : Int) ≤ 16 * (k : Int) := by omega
        have hs2 : 16 * (k : Int) ≤ 16 * ((k : Int) + 1) := by omega
        have hs3 : 16 * ((k : Int) + 1) ≤ (a0.size : Int) := by omega
        have en1 : (16 * (k : Int)).toNat = 16 * k := by omega
        have en2 : (16 * ((k : Int) + 1)).toNat = 16 * (k + 1) := by omega
        have H0 := HE.out
        rw [show n - k = (n - (k + 1)) + 1 by omega, decFrom] at H0
        have hez : (a0.extract (16 * k) (16 * (k + 1))).size = 16 := by rw [ByteArray.size_extract]; omega
        have r0 := aread_f (a0.extract (16 * k) (16 * (k + 1))) 0 4 (by omega) (by omega) (by omega) (by omega) (by omega)
        have r4 := aread_f (a0.extract (16 * k) (16 * (k + 1))) 4 4 (by omega) (by omega) (by omega) (by omega) (by omega)
        have r8 := aread_f (a0.extract (16 * k) (16 * (k + 1))) 8 2 (by omega) (by omega) (by omega) (by omega) (by omega)
        rw [leAt_extract a0 _ _ (by omega) _ _ (by omega) (by omega)] at r0 r4 r8
        rw [show ((16 * k : Nat) : Int) + 0 = 16 * (k : Int) by omega] at r0
        rw [show ((16 * k : Nat) : Int) + 4 = 16 * (k : Int) + 4 by omega] at r4
        rw [show ((16 * k : Nat) : Int) + 8 = 16 * (k : Int) + 8 by omega] at r8
        have R8 := Lib.hid r8
        clear r8
        rw [show (2 : Int).toNat = 2 from rfl] at R8
        generalize leAt a0 (16 * (k : Int) + 8) 2 = pt at R8 H0
        have b0 := leAt_bd a0 (16 * (k : Int)) 4
        have R0 := Lib.hid r0
        have R4 := Lib.hid r4
        clear r0 r4 hez en1 en2
        rw [show (4 : Int).toNat = 4 from rfl] at R0 R4
        generalize leAt a0 (16 * (k : Int)) 4 = n0 at R0 H0 b0
        generalize leAt a0 (16 * (k : Int) + 4) 4 = n4 at R4 H0
        have u1 : Int.tmod n0 1073741824 = n0 % 1073741824 := Int.tmod_eq_emod_of_nonneg b0.1
        have u2 : Int.tdiv n0 1073741824 = n0 / 1073741824 := Int.tdiv_eq_ediv_of_nonneg b0.1
        have u3 : IntKind.i64.wrap (n0 / 1073741824) = n0 / 1073741824 := IntWalk.i64_in _ (by have := b0.1; have := b0.2; omega)
        generalize n0 / 1073741824 = kd at u2 u3 H0
        generalize n0 % 1073741824 = ln at u1 H0
        clear b0
        have HOM := Lib.hid (show n - (k + 1) < n - k by omega)
        by_cases hz : ln = 0
        · rw [if_pos hz] at H0
          have HF := Lib.hid H0.symm
          clear H0 HE
          have z1 : (ln == 0) = true := beq_iff_eq.2 hz
          clear hz
          go_wp2_with (go_at_call 119; (with_reducible refine (allocation_read.calls _ 0 4 _ _ R0.out).mono ?_); rintro e w1 ⟨rfl, ⟨nd, rfl⟩⟩)
          go_ret2
          exact ⟨_, by rw [HF.out]; rfl, by rw [HF.out]; exact Kd.R_drewN HR.out nd, pw_below_drewN HB.out nd⟩
        · rw [if_neg hz] at H0
          have z1 : (ln == 0) = false := beq_eq_false_iff_ne.2 hz
          clear hz
          by_cases h64 : xs.length = 64
          · rw [if_pos h64] at H0
            have HF := Lib.hid H0.symm
            have z2 : ((xs.length : Int) == 64) = true := beq_iff_eq.2 (by omega)
            have z3 : (xs.length == 64) = true := beq_iff_eq.2 h64
            clear H0 HE h64 hx
            go_wp2_with (go_at_call 119; (with_reducible refine (allocation_read.calls _ 0 4 _ _ R0.out).mono ?_); rintro e w1 ⟨rfl, ⟨nd, rfl⟩⟩)
            go_ret2
            exact ⟨_, by rw [HF.out]; rfl, by rw [HF.out]; exact Kd.R_nil _ _ _ _ _, pw_below_drewN HB.out nd⟩
          · rw [if_neg h64] at H0
            have HF := Lib.hid H0
            have z2 : ((xs.length : Int) == 64) = false := beq_eq_false_iff_ne.2 (by omega)
            have z3 : (xs.length == 64) = false := beq_eq_false_iff_ne.2 h64
            have hx' : xs.length < 64 := by omega
            have HX := Lib.hid hx'
            clear H0 HE h64 hx hx'
            go_wp2_with (first
              | (go_at_call 119; (with_reducible refine (allocation_read.calls _ 0 4 _ _ R0.out).mono ?_); rintro e w1 ⟨rfl, ⟨nd, rfl⟩⟩)
              | (go_at_call 119; (with_reducible refine (allocation_read.calls _ 4 4 _ _ R4.out).mono ?_); rintro e w1 ⟨rfl, ⟨nd2, rfl⟩⟩)
              | (go_at_call 128; (with_reducible refine (part_long_calls _ pt _ R8.out).mono ?_); rintro e w1 ⟨rfl, ⟨nd3, rfl⟩⟩)
              | ((with_reducible refine gate_builtin (b := .append) (xs := #[.tmp 41, .tmp 53]) rfl ?_); at_builtin; refine Kd.R_append k46 (w0 := w) w.heap.size rfl (.tmp 41) (.tmp 53) 37 46 (.agg #[(.int .i64 0), (.int .i64 0), (.int .i64 0), (.int .i64 0)]) 32 rfl Try.underlying37 info46 rfl (by decide) (by omega) (.slice Ao xs.length co) xs (⟨kd, ln, ⟨n4, pt⟩⟩ : S46) [.int .i64 kd, .int .i64 ln, .int .i64 n4, .int .i64 pt] (fun _ => True) (fun _ => False) rfl (by first | (go_simp; done) | (go_simp; rfl)) ?aP (fun _ hk => hk.elim) (fun _ _ => trivial) ?aO ?aB ?aS ?aL ?_; (case aP => exact k46_mkM' _ _ _ kd ln n4 pt); (case aO => exact (by (with_reducible repeat (first | apply Kd.R_alloc | apply Kd.R_drewN | apply Kd.R_drew)); exact HR.out)); (case aB => exact (by repeat (first | (with_reducible first | exact HB.out | apply below_alloc | apply pw_below_drewN | apply below_drew1) | exact HB.out))); (case aS => exact (below_size (by repeat (first | (with_reducible first | exact HB.out | apply below_alloc | apply pw_below_drewN | apply below_drew1) | exact HB.out)))); (case aL => have := HX.out; omega); intro v1 w4 hR4 hB4 _ _; have HR4 := Aside0.mk hR4; have HB4 := Aside0.mk hB4; clear hR4 hB4))
            go_roundw
            case rel => exact ⟨k + 1, xs ++ [⟨kd, ln, ⟨n4, pt⟩⟩], by omega, by have := HX.out; simp; omega, by go_num, ⟨by rw [← HF.out, show 16 * (((k + 1 : Nat)) : Int) = 16 * (k : Int) + 16 by omega]⟩, HR4, HB4⟩
            case measure => simp [intOf]; omega
      · have e : n - k = 0 := by omega
        have H0 := HE.out
        rw [e, decFrom] at H0
        have HF := Lib.hid H0.symm
        clear H0 HE e
        go_wp2
        go_ret2
        exact ⟨_, by rw [HF.out]; rfl, by rw [HF.out]; exact HR.out, HB.out⟩
  · rw [if_pos hm]
    have t1 : (Int.tmod (a0.size : Int) 16 == 0) = false := by rw [Int.tmod_eq_emod_of_nonneg (by omega)]; exact beq_eq_false_iff_ne.2 (by omega)
    have t2 : (Int.tmod (a0.size : Int) 16 != 0) = true := by rw [bne, t1]; rfl
    have t3 : ((a0.size : Int) % 16 == 0) = false := beq_eq_false_iff_ne.2 (by omega)
    have t4 : ((a0.size : Int) % 16 != 0) = true := by rw [bne, t3]; rfl
    clear hm
    go_enter Try.func125, Try.ntmps125
    go_wp2
    go_ret2
    exact ⟨_, rfl, Kd.R_nil _ _ _ _ _, Below.refl _ _⟩
def allocation_DecodeShort.f (a0 : ByteArray) (a1 : Int) : Option (List S46 × Int) :=
  if 140737488355328 < a0.size then none else if a1 < 0 ∨ a1 > 65535 then some ([], 2) else if a0.size % 8 ≠ 0 then some ([], 3)
  else some (decFrom a0 8 (fun _ => a1) (a0.size / 8) 0 [])
theorem allocation_DecodeShort.calls (a0 : ByteArray) (a1 : Int) (r1 : List S46) (r2 : Int) (w : World) (h : allocation_DecodeShort.f a0 a1 = some (r1, r2)) :
    Calls Try.prog 66 #[.string a0, .int .i64 a1] w fun e w' => ∃ v0_ : Value, e = .returned (.tuple #[v0_, .int .i64 r2]) ∧ Kd.R k46 46 w' w.heap.size (fun _ => True) v0_ r1 ∧ Below w.heap.size w w' := by
  unfold allocation_DecodeShort.f at h
  split at h
  · simp at h
  · rename_i hs
    have hb0 : Below w.heap.size w (w.alloc (.cells #[.int .i64 a1] 3)) := (Below.refl _ _).alloc (Nat.le_refl _) _
    have hcell : (w.alloc (.cells #[.int .i64 a1] 3)).cell? ⟨w.heap.size, 0, none⟩ = some (.int .i64 a1) := by simp
    split at h
    · rename_i hr
      injection h with h
      injection h with h1 h2
      subst h1 h2
      by_cases h0 : a1 < 0
      · have c0 : decide (a1 < 0) = true := decide_eq_true h0
        clear hr h0
        go_enter Try.func66, Try.ntmps66
        go_wp2
        go_ret2
        exact ⟨_, rfl, Kd.R_nil _ _ _ _ _, hb0⟩
      · have c0 : decide (a1 < 0) = false := decide_eq_false h0
        have c1 : decide (65535 < a1) = true := decide_eq_true (by omega)
        clear hr h0
        go_enter Try.func66, Try.ntmps66
        go_wp2
        go_ret2
        exact ⟨_, rfl, Kd.R_nil _ _ _ _ _, hb0⟩
    · rename_i hr
      have c0 : decide (a1 < 0) = false := decide_eq_false (by omega)
      have c1 : decide (65535 < a1) = false := decide_eq_false (by omega)
      have HD := Lib.hid (decode8_calls w.heap.size a1 a0 (w.alloc (.cells #[.int .i64 a1] 3)) (by omega) hcell)
      have he : (if a0.size % 8 ≠ 0 then ([], 3) else decFrom a0 8 (fun _ => a1) (a0.size / 8) 0 []) = (r1, r2) := by
        split at h
        · rename_i h8; injection h with h; rw [if_pos h8]; exact h
        · rename_i h8; injection h with h; rw [if_neg h8]; exact h
      rw [he] at HD
      clear he h hr hs
      go_enter Try.func66, Try.ntmps66
      go_wp2_with (go_at_call 125; (with_reducible refine HD.out.mono ?_); rintro e w1 ⟨v, rfl, hR, hb⟩; have HR := Aside0.mk hR; have HB := Aside0.mk hb; clear hR hb)
      go_ret2
      exact ⟨_, rfl, Kd.R_lower HR.out hb0.size, hb0.trans (HB.out.mono hb0.size)⟩
def allocation_DecodeLong.f (a0 : ByteArray) : Option (List S46 × Int) :=
  if 140737488355328 < a0.size then none else if a0.size % 16 ≠ 0 then some ([], 3)
  else some (decFrom a0 16 (fun i => leAt a0 (i + 8) 2) (a0.size / 16) 0 [])
theorem allocation_DecodeLong.calls (a0 : ByteArray) (r1 : List S46) (r2 : Int) (w : World) (h : allocation_DecodeLong.f a0 = some (r1, r2)) :
    Calls Try.prog 68 #[.string a0] w fun e w' => ∃ v0_ : Value, e = .returned (.tuple #[v0_, .int .i64 r2]) ∧ Kd.R k46 46 w' w.heap.size (fun _ => True) v0_ r1 ∧ Below w.heap.size w w' := by
  unfold allocation_DecodeLong.f at h
  split at h
  · simp at h
  · rename_i hs
    have HD := Lib.hid (decode16_calls a0 w (by omega))
    have he : (if a0.size % 16 ≠ 0 then ([], 3) else decFrom a0 16 (fun i => leAt a0 (i + 8) 2) (a0.size / 16) 0 []) = (r1, r2) := by
      split at h
      · rename_i h8; injection h with h; rw [if_pos h8]; exact h
      · rename_i h8; injection h with h; rw [if_neg h8]; exact h
    rw [he] at HD
    clear he h hs
    go_enter Try.func68, Try.ntmps68
    go_wp2_with (go_at_call 125; (with_reducible refine HD.out.mono ?_); rintro e w1 ⟨v, rfl, hR, hb⟩; have HR := Aside0.mk hR; have HB := Aside0.mk hb; clear hR hb)
    go_ret2
    exact ⟨_, rfl, HR.out, HB.out⟩
end Go.Proofs.Ytijbfebbogiiiaa.Q
