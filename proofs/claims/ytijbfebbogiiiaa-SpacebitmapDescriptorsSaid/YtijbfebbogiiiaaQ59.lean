/- Contracts of Go functions: each call returns what the Lean function of its name says. Written by wip/gen.py (a patched print) for this claim. -/
import Derived.Test.YtijbfebbogiiiaaQ0
import Derived.Test.YtijbfebbogiiiaaQ17
import Derived.Test.YtijbfebbogiiiaaQ31
import Derived.Test.YtijbfebbogiiiaaQ36
import Derived.Test.YtijbfebbogiiiaaQ9
import Derived.Test.YtijbfebbogiiiaaQNum
namespace Go.Proofs.Ytijbfebbogiiiaa.Q
open Go.RowKit Go.Proofs.YtijbfebbogiiiaaW.PrintWords Go.Proofs.YtijbfebbogiiiaaW.PrintLast Go.Proofs.YtijbfebbogiiiaaW.PrintMore
attribute [local go_sem] max2_int min2_int max_two min_two max_three min_three max_four min_four   -- for this text's walks alone
set_option linter.unusedVariables false
set_option linter.unusedSimpArgs false

/-! ### masterdiscref41_Encode: function 88 -/
def masterdiscref41_Encode.f (k : Nat) (a0 : ByteArray) (a1 : Int) (a2 : Int) : Option (ByteArray × Int) := (masterdiscref41_Valid.f k a0 a1).bind fun t811 => (if t811 = true then ((masterdiscref01_Bytes.f k a1 4).bind fun t812 => ((masterdiscref01_Bytes.f k (a0.size : Int) 4).bind fun t813 => (if t812.size + t813.size ≤ 9223372036854775807 then (if (t812 ++ t813).size + a0.size ≤ 9223372036854775807 then ((masterdiscref31_Block.f k 264 1 a2 ((t812 ++ t813) ++ a0)).bind fun bt814 => (some (bt814.1, bt814.2))) else (none)) else (none)))) else (some ((⟨#[]⟩ : ByteArray), 1)))
theorem masterdiscref41_Encode.mono : ∀ a0 a1 a2 k, LeO (masterdiscref41_Encode.f k a0 a1 a2) (masterdiscref41_Encode.f (k + 1) a0 a1 a2) := by
  intro a0 a1 a2 k
  unfold masterdiscref41_Encode.f
  repeat' first
      | (with_reducible exact masterdiscref01_Bytes.mono _ _ _)
      | (with_reducible exact masterdiscref31_Block.mono _ _ _ _ _)
      | (with_reducible exact masterdiscref41_Valid.mono _ _ _)
      | (with_reducible exact LeO.refl _)
      | (with_reducible exact LeO.none _)
      | (with_reducible refine LeO.ite ?_ ?_)
      | (with_reducible refine LeO.bind ?_ (fun _ => ?_))
      | exact masterdiscref01_Bytes.mono _ _ _
      | exact masterdiscref31_Block.mono _ _ _ _ _
      | exact masterdiscref41_Valid.mono _ _ _
      | exact LeO.none _
      | refine LeO.ite ?_ ?_
      | refine LeO.bind ?_ (fun _ => ?_)
set_option maxHeartbeats 8000000 in
set_option maxRecDepth 100000 in
theorem masterdiscref41_Encode.calls (k : Nat) (a0 : ByteArray) (a1 : Int) (a2 : Int) (r1 : ByteArray) (r2 : Int) (w : World) (h : masterdiscref41_Encode.f k a0 a1 a2 = some (r1, r2)) :
    Calls Try.prog 88 #[.string a0, .int .i64 a1, .int .i64 a2] w fun e w' => e = .returned (.tuple #[.string r1, .int .i64 r2]) ∧ Below w.heap.size w w' := by
  have HB := Aside0.mk (Below.refl w.heap.size w)
  have H : ((masterdiscref41_Valid.f k a0 a1).bind fun t811 => (if t811 = true then ((masterdiscref01_Bytes.f k a1 4).bind fun t812 => ((masterdiscref01_Bytes.f k (a0.size : Int) 4).bind fun t813 => (if t812.size + t813.size ≤ 9223372036854775807 then (if (t812 ++ t813).size + a0.size ≤ 9223372036854775807 then ((masterdiscref31_Block.f k 264 1 a2 ((t812 ++ t813) ++ a0)).bind fun bt814 => (some (bt814.1, bt814.2))) else (none)) else (none)))) else (some ((⟨#[]⟩ : ByteArray), 1)))) = some (r1, r2) := h
  clear h
  replace H := Option.bind_eq_some_iff.mp H
  obtain ⟨t811, A40, H⟩ := H
  replace H : (if t811 = true then ((masterdiscref01_Bytes.f k a1 4).bind fun t812 => ((masterdiscref01_Bytes.f k (a0.size : Int) 4).bind fun t813 => (if t812.size + t813.size ≤ 9223372036854775807 then (if (t812 ++ t813).size + a0.size ≤ 9223372036854775807 then ((masterdiscref31_Block.f k 264 1 a2 ((t812 ++ t813) ++ a0)).bind fun bt814 => (some (bt814.1, bt814.2))) else (none)) else (none)))) else (some ((⟨#[]⟩ : ByteArray), 1))) = some (r1, r2) := H
  have A4 := Aside0.mk A40
  clear A40
  by_cases c5 : t811 = true
  · subst c5
    have H1 : ((masterdiscref01_Bytes.f k a1 4).bind fun t812 => ((masterdiscref01_Bytes.f k (a0.size : Int) 4).bind fun t813 => (if t812.size + t813.size ≤ 9223372036854775807 then (if (t812 ++ t813).size + a0.size ≤ 9223372036854775807 then ((masterdiscref31_Block.f k 264 1 a2 ((t812 ++ t813) ++ a0)).bind fun bt814 => (some (bt814.1, bt814.2))) else (none)) else (none)))) = some (r1, r2) := by rw [if_pos rfl] at H; exact H
    clear H
    have H := H1
    clear H1
    replace H := Option.bind_eq_some_iff.mp H
    obtain ⟨t812, A60, H⟩ := H
    replace H : ((masterdiscref01_Bytes.f k (a0.size : Int) 4).bind fun t813 => (if t812.size + t813.size ≤ 9223372036854775807 then (if (t812 ++ t813).size + a0.size ≤ 9223372036854775807 then ((masterdiscref31_Block.f k 264 1 a2 ((t812 ++ t813) ++ a0)).bind fun bt814 => (some (bt814.1, bt814.2))) else (none)) else (none))) = some (r1, r2) := H
    have A6 := Aside0.mk A60
    clear A60
    replace H := Option.bind_eq_some_iff.mp H
    obtain ⟨t813, A70, H⟩ := H
    replace H : (if t812.size + t813.size ≤ 9223372036854775807 then (if (t812 ++ t813).size + a0.size ≤ 9223372036854775807 then ((masterdiscref31_Block.f k 264 1 a2 ((t812 ++ t813) ++ a0)).bind fun bt814 => (some (bt814.1, bt814.2))) else (none)) else (none)) = some (r1, r2) := H
    have A7 := Aside0.mk A70
    clear A70
    by_cases c8 : t812.size + t813.size ≤ 9223372036854775807
    · rw [if_pos c8] at H
      have c8b0 := eq_true c8
      have c8b1 : decide (t812.size + t813.size ≤ 9223372036854775807) = true := decide_eq_true c8
      try have c8b2 : (9223372036854775807 < t812.size + t813.size) = False := eq_false (Nat.not_lt.2 c8)
      try (have c8b3 := c8b2; conv at c8b3 => lhs; simp [go_sem])
      by_cases c9 : (t812 ++ t813).size + a0.size ≤ 9223372036854775807
      · rw [if_pos c9] at H
        have c9b0 := eq_true c9
        have c9b1 : decide ((t812 ++ t813).size + a0.size ≤ 9223372036854775807) = true := decide_eq_true c9
        try have c9b2 : (9223372036854775807 < (t812 ++ t813).size + a0.size) = False := eq_false (Nat.not_lt.2 c9)
        try (have c9b3 := c9b2; conv at c9b3 => lhs; simp [go_sem])
        replace H := Option.bind_eq_some_iff.mp H
        obtain ⟨⟨t814, t815⟩, A100, H⟩ := H
        replace H : (some (t814, t815)) = some (r1, r2) := H
        have A10 := Aside0.mk A100
        clear A100
        simp only [Option.some.injEq, Prod.mk.injEq] at H
        obtain ⟨rfl, rfl⟩ := H
        go_enter Try.func88, Try.ntmps88
        go_wp2_with (first | ((with_reducible refine gate_callee (f := 44) rfl ?_); refine goesL_ (some 10) rfl rfl Try.func44 (by kernel_rfl) rfl #[.string a0, .int .i64 a1] rfl (by (try simp only [List.map_toArray, List.map_cons, List.map_nil]); first | done | rfl | (simp only [List.length_drop, List.length_take]; rfl)) ?_; (with_reducible refine (masterdiscref41_Valid.calls k a0 a1 true _ A4.out).mono ?_); rintro e w11 ⟨rfl, hb⟩; refine ⟨_, rfl, ?_⟩; have n0_ := Aside0.mk (below_step (by repeat (first | (with_reducible first | exact HB.out | apply below_alloc | apply pw_below_drewN | apply below_drew1) | exact HB.out)) hb); clear HB; have HB := n0_; clear n0_; (try clear hb); (try clear hb2); (try clear hk); (try clear hi)) | ((with_reducible refine gate_callee (f := 108) rfl ?_); refine goesL_ (some 14) rfl rfl Try.func108 (by kernel_rfl) rfl #[.int .i64 a1, .int .i64 4] rfl (by (try simp only [List.map_toArray, List.map_cons, List.map_nil]); first | done | rfl | (simp only [List.length_drop, List.length_take]; rfl)) ?_; (with_reducible refine (masterdiscref01_Bytes.calls k a1 4 t812 _ A6.out).mono ?_); rintro e w12 ⟨rfl, hb⟩; refine ⟨_, rfl, ?_⟩; have n0_ := Aside0.mk (below_step (by repeat (first | (with_reducible first | exact HB.out | apply below_alloc | apply pw_below_drewN | apply below_drew1) | exact HB.out)) hb); clear HB; have HB := n0_; clear n0_; (try clear hb); (try clear hb2); (try clear hk); (try clear hi)) | ((with_reducible refine gate_callee (f := 108) rfl ?_); refine goesL_ (some 17) rfl rfl Try.func108 (by kernel_rfl) rfl #[.int .i64 (a0.size : Int), .int .i64 4] rfl (by (try simp only [List.map_toArray, List.map_cons, List.map_nil]); first | done | rfl | (simp only [List.length_drop, List.length_take]; rfl)) ?_; (with_reducible refine (masterdiscref01_Bytes.calls k (a0.size : Int) 4 t813 _ A7.out).mono ?_); rintro e w13 ⟨rfl, hb⟩; refine ⟨_, rfl, ?_⟩; have n0_ := Aside0.mk (below_step (by repeat (first | (with_reducible first | exact HB.out | apply below_alloc | apply pw_below_drewN | apply below_drew1) | exact HB.out)) hb); clear HB; have HB := n0_; clear n0_; (try clear hb); (try clear hb2); (try clear hk); (try clear hi)) | ((with_reducible refine gate_callee (f := 74) rfl ?_); refine goesL_ (some 21) rfl rfl Try.func74 (by kernel_rfl) rfl #[.int .i64 264, .int .i64 1, .int .i64 a2, .string ((t812 ++ t813) ++ a0)] rfl (by (try simp only [List.map_toArray, List.map_cons, List.map_nil]); first | done | rfl | (simp only [List.length_drop, List.length_take]; rfl)) ?_; (with_reducible refine (masterdiscref31_Block.calls k 264 1 a2 ((t812 ++ t813) ++ a0) t814 t815 _ A10.out).mono ?_); rintro e w14 ⟨rfl, hb⟩; refine ⟨_, rfl, ?_⟩; have n0_ := Aside0.mk (below_step (by repeat (first | (with_reducible first | exact HB.out | apply below_alloc | apply pw_below_drewN | apply below_drew1) | exact HB.out)) hb); clear HB; have HB := n0_; clear n0_; (try clear hb); (try clear hb2); (try clear hk); (try clear hi)))
        go_ret2
        exact ⟨by first | rfl | (simp [errW_none, errW_some] <;> rfl) | (simp [*, errW_none, errW_some] <;> rfl), by repeat (first | (with_reducible first | exact HB.out | apply below_alloc | apply pw_below_drewN | apply below_drew1) | exact HB.out)⟩
      · rw [if_neg c9] at H
        exact absurd H (by simp)
    · rw [if_neg c8] at H
      exact absurd H (by simp)
  · replace c5 := Bool.eq_false_iff.mpr c5
    subst c5
    have H1 : (some ((⟨#[]⟩ : ByteArray), 1)) = some (r1, r2) := by rw [if_neg (show ¬ (false = true) by decide)] at H; exact H
    clear H
    have H := H1
    clear H1
    simp only [Option.some.injEq, Prod.mk.injEq] at H
    obtain ⟨rfl, rfl⟩ := H
    go_enter Try.func88, Try.ntmps88
    go_wp2_with (first | ((with_reducible refine gate_callee (f := 44) rfl ?_); refine goesL_ (some 10) rfl rfl Try.func44 (by kernel_rfl) rfl #[.string a0, .int .i64 a1] rfl (by (try simp only [List.map_toArray, List.map_cons, List.map_nil]); first | done | rfl | (simp only [List.length_drop, List.length_take]; rfl)) ?_; (with_reducible refine (masterdiscref41_Valid.calls k a0 a1 false _ A4.out).mono ?_); rintro e w15 ⟨rfl, hb⟩; refine ⟨_, rfl, ?_⟩; have n0_ := Aside0.mk (below_step (by repeat (first | (with_reducible first | exact HB.out | apply below_alloc | apply pw_below_drewN | apply below_drew1) | exact HB.out)) hb); clear HB; have HB := n0_; clear n0_; (try clear hb); (try clear hb2); (try clear hk); (try clear hi)))
    go_ret2
    exact ⟨by first | rfl | (simp [errW_none, errW_some] <;> rfl) | (simp [*, errW_none, errW_some] <;> rfl), by repeat (first | (with_reducible first | exact HB.out | apply below_alloc | apply pw_below_drewN | apply below_drew1) | exact HB.out)⟩

/-! ### masterdiscref41_Decode: function 90 -/
def masterdiscref41_Decode.j0 : Nat → ByteArray → Bool → Option (ByteArray × Int × Int)
  | 0, _, _ => none
  | k + 1, x0, x17 => if x17 = true then (some ((⟨#[]⟩ : ByteArray), 0, 10)) else ((masterdiscref31_Number.f k x0 16 4).bind fun t817 => ((masterdiscref31_Number.f k x0 20 4).bind fun t818 => (if t818 > 2024 then (some ((⟨#[]⟩ : ByteArray), 0, 10)) else (if 24 ≤ (wrap64 (24 + t818)) then (if (wrap64 (24 + t818)) ≤ (x0.size : Int) then ((masterdiscref41_Valid.f k (x0.extract 24 ((wrap64 (24 + t818)) : Int).toNat) t817).bind fun t819 => (if t819 = true then (some (x0.extract 24 ((wrap64 (24 + t818)) : Int).toNat, t817, 0)) else (some ((⟨#[]⟩ : ByteArray), 0, 10)))) else (none)) else (none)))))
def masterdiscref41_Decode.f (k : Nat) (a0 : ByteArray) (a1 : Int) : Option (ByteArray × Int × Int) := if (a0.size : Int) = 2048 then ((masterdiscref31_Is.f k a0 264 a1).bind fun t816 => (masterdiscref41_Decode.j0 k a0 (!t816))) else (masterdiscref41_Decode.j0 k a0 true)
theorem masterdiscref41_Decode.mono_l : ∀ k, (∀ y0 y1, LeO (masterdiscref41_Decode.j0 k y0 y1) (masterdiscref41_Decode.j0 (k + 1) y0 y1))
  | 0 => fun _ _ r h => by simp [masterdiscref41_Decode.j0] at h
  | k + 1 => by
    have ih0 := masterdiscref41_Decode.mono_l k
    · intro y0 y1
      unfold masterdiscref41_Decode.j0
      repeat' first
      | (with_reducible exact ih0 _ _)
      | (with_reducible exact masterdiscref31_Is.mono _ _ _ _)
      | (with_reducible exact masterdiscref31_Number.mono _ _ _ _)
      | (with_reducible exact masterdiscref41_Valid.mono _ _ _)
      | (with_reducible exact LeO.refl _)
      | (with_reducible exact LeO.none _)
      | (with_reducible refine LeO.ite ?_ ?_)
      | (with_reducible refine LeO.bind ?_ (fun _ => ?_))
      | exact ih0 _ _
      | exact masterdiscref31_Is.mono _ _ _ _
      | exact masterdiscref31_Number.mono _ _ _ _
      | exact masterdiscref41_Valid.mono _ _ _
      | exact LeO.none _
      | refine LeO.ite ?_ ?_
      | refine LeO.bind ?_ (fun _ => ?_)
theorem masterdiscref41_Decode.mono : ∀ a0 a1 k, LeO (masterdiscref41_Decode.f k a0 a1) (masterdiscref41_Decode.f (k + 1) a0 a1) := by
  intro a0 a1 k
  have ih0 := masterdiscref41_Decode.mono_l k
  unfold masterdiscref41_Decode.f
  repeat' first
      | (with_reducible exact ih0 _ _)
      | (with_reducible exact masterdiscref31_Is.mono _ _ _ _)
      | (with_reducible exact masterdiscref31_Number.mono _ _ _ _)
      | (with_reducible exact masterdiscref41_Valid.mono _ _ _)
      | (with_reducible exact LeO.refl _)
      | (with_reducible exact LeO.none _)
      | (with_reducible refine LeO.ite ?_ ?_)
      | (with_reducible refine LeO.bind ?_ (fun _ => ?_))
      | exact ih0 _ _
      | exact masterdiscref31_Is.mono _ _ _ _
      | exact masterdiscref31_Number.mono _ _ _ _
      | exact masterdiscref41_Valid.mono _ _ _
      | exact LeO.none _
      | refine LeO.ite ?_ ?_
      | refine LeO.bind ?_ (fun _ => ?_)
set_option maxHeartbeats 8000000 in
set_option maxRecDepth 100000 in
theorem masterdiscref41_Decode.calls (k : Nat) (a0 : ByteArray) (a1 : Int) (r1 : ByteArray) (r2 : Int) (r3 : Int) (w : World) (h : masterdiscref41_Decode.f k a0 a1 = some (r1, r2, r3)) :
    Calls Try.prog 90 #[.string a0, .int .i64 a1] w fun e w' => e = .returned (.tuple #[.string r1, .int .i64 r2, .int .i64 r3]) ∧ Below w.heap.size w w' := by
  have HB := Aside0.mk (Below.refl w.heap.size w)
  have H : (if (a0.size : Int) = 2048 then ((masterdiscref31_Is.f k a0 264 a1).bind fun t816 => (masterdiscref41_Decode.j0 k a0 (!t816))) else (masterdiscref41_Decode.j0 k a0 true)) = some (r1, r2, r3) := h
  clear h
  have HC3 := Aside0.mk H
  clear H
  go_enter Try.func90, Try.ntmps90
  go_upto_region 1 with (fail)
  go_cut [17] (fun v17 wc => ∃ (kq : Nat) (x17_2 : Bool), v17 = .bool x17_2 ∧ Aside0 (masterdiscref41_Decode.j0 kq a0 x17_2 = some (r1, r2, r3)) ∧ Aside0 (kq ≤ k) ∧ Aside0 (Below w.heap.size w wc))
  case first =>
    have H := HC3.out
    clear HC3
    by_cases c4 : (a0.size : Int) = 2048
    · rw [if_pos c4] at H
      have c4b0 : ((a0.size : Int) == 2048) = true := beq_iff_eq.mpr c4
      have c4b1 : ((a0.size : Int) != 2048) = false := bne_eq_false_iff_eq.mpr c4
      clear c4
      (first | rw [c4b0] | (simp only [i64_w, i32_w]; rw [c4b0]) | skip)
      replace H := Option.bind_eq_some_iff.mp H
      obtain ⟨t816, A50, H⟩ := H
      replace H : (masterdiscref41_Decode.j0 k a0 (!t816)) = some (r1, r2, r3) := H
      have A5 := Aside0.mk A50
      clear A50
      have H' := Aside0.mk H
      clear H
      go_wp2_with (first | (go_at_call 32; (with_reducible refine (masterdiscref31_Is.calls k a0 264 a1 t816 _ A5.out).mono ?_); rintro e w6 ⟨rfl, hb⟩; have n0_ := Aside0.mk (below_step (by repeat (first | (with_reducible first | exact HB.out | apply below_alloc | apply pw_below_drewN | apply below_drew1) | exact HB.out)) hb); clear HB; have HB := n0_; clear n0_; (try clear hb); (try clear hb2); (try clear hk); (try clear hi)))
      go_meet
      case rel => exact ⟨_, (!t816), (by first | rfl | (simp; done) | (simp [*]; done)), H', ⟨by first | omega | exact Nat.le_refl _⟩, ⟨by repeat (first | (with_reducible first | exact HB.out | apply below_alloc | apply pw_below_drewN | apply below_drew1) | exact HB.out)⟩⟩
    · rw [if_neg c4] at H
      have c4b0 : ((a0.size : Int) == 2048) = false := beq_eq_false_iff_ne.mpr c4
      have c4b1 : ((a0.size : Int) != 2048) = true := bne_iff_ne.mpr c4
      (first | rw [c4b0] | (simp only [i64_w, i32_w]; rw [c4b0]) | skip)
      have H' := Aside0.mk H
      clear H
      go_wp2
      go_meet
      case rel => exact ⟨_, (true), (by first | rfl | (simp; done) | (simp [*]; done)), H', ⟨by first | omega | exact Nat.le_refl _⟩, ⟨by repeat (first | (with_reducible first | exact HB.out | apply below_alloc | apply pw_below_drewN | apply below_drew1) | exact HB.out)⟩⟩
  case rest =>
    clear HC3
    try clear p2
    try clear c4
    try clear c4b0
    try clear c4b1
    obtain ⟨kq, x17_2, rfl, HA, HJ2, HB⟩ := hcut
    cases kq with
    | zero => exact absurd HA.out (by simp [masterdiscref41_Decode.j0])
    | succ kj2 =>
      have H := HA.out
      clear HA
      simp only [masterdiscref41_Decode.j0] at H
      by_cases c7 : x17_2 = true
      · subst c7
        have H1 : (some ((⟨#[]⟩ : ByteArray), 0, 10)) = some (r1, r2, r3) := by rw [if_pos rfl] at H; exact H
        clear H
        have H := H1
        clear H1
        simp only [Option.some.injEq, Prod.mk.injEq] at H
        obtain ⟨rfl, rfl, rfl⟩ := H
        go_wp2
        go_ret3
        exact ⟨by first | rfl | (simp [errW_none, errW_some] <;> rfl) | (simp [*, errW_none, errW_some] <;> rfl), by repeat (first | (with_reducible first | exact HB.out | apply below_alloc | apply pw_below_drewN | apply below_drew1) | exact HB.out)⟩
      · replace c7 := Bool.eq_false_iff.mpr c7
        subst c7
        have H1 : ((masterdiscref31_Number.f kj2 a0 16 4).bind fun t817 => ((masterdiscref31_Number.f kj2 a0 20 4).bind fun t818 => (if t818 > 2024 then (some ((⟨#[]⟩ : ByteArray), 0, 10)) else (if 24 ≤ (wrap64 (24 + t818)) then (if (wrap64 (24 + t818)) ≤ (a0.size : Int) then ((masterdiscref41_Valid.f kj2 (a0.extract 24 ((wrap64 (24 + t818)) : Int).toNat) t817).bind fun t819 => (if t819 = true then (some (a0.extract 24 ((wrap64 (24 + t818)) : Int).toNat, t817, 0)) else (some ((⟨#[]⟩ : ByteArray), 0, 10)))) else (none)) else (none))))) = some (r1, r2, r3) := by rw [if_neg (show ¬ (false = true) by decide)] at H; exact H
        clear H
        have H := H1
        clear H1
        replace H := Option.bind_eq_some_iff.mp H
        obtain ⟨t817, A80, H⟩ := H
        replace H : ((masterdiscref31_Number.f kj2 a0 20 4).bind fun t818 => (if t818 > 2024 then (some ((⟨#[]⟩ : ByteArray), 0, 10)) else (if 24 ≤ (wrap64 (24 + t818)) then (if (wrap64 (24 + t818)) ≤ (a0.size : Int) then ((masterdiscref41_Valid.f kj2 (a0.extract 24 ((wrap64 (24 + t818)) : Int).toNat) t817).bind fun t819 => (if t819 = true then (some (a0.extract 24 ((wrap64 (24 + t818)) : Int).toNat, t817, 0)) else (some ((⟨#[]⟩ : ByteArray), 0, 10)))) else (none)) else (none)))) = some (r1, r2, r3) := H
        have A8 := Aside0.mk A80
        clear A80
        replace H := Option.bind_eq_some_iff.mp H
        obtain ⟨t818, A90, H⟩ := H
        replace H : (if t818 > 2024 then (some ((⟨#[]⟩ : ByteArray), 0, 10)) else (if 24 ≤ (wrap64 (24 + t818)) then (if (wrap64 (24 + t818)) ≤ (a0.size : Int) then ((masterdiscref41_Valid.f kj2 (a0.extract 24 ((wrap64 (24 + t818)) : Int).toNat) t817).bind fun t819 => (if t819 = true then (some (a0.extract 24 ((wrap64 (24 + t818)) : Int).toNat, t817, 0)) else (some ((⟨#[]⟩ : ByteArray), 0, 10)))) else (none)) else (none))) = some (r1, r2, r3) := H
        have A9 := Aside0.mk A90
        clear A90
        by_cases c10 : t818 > 2024
        · rw [if_pos c10] at H
          have c10b0 : decide (2024 < t818) = true := decide_eq_true c10
          clear c10
          simp only [Option.some.injEq, Prod.mk.injEq] at H
          obtain ⟨rfl, rfl, rfl⟩ := H
          go_wp2_with (first | ((with_reducible refine gate_callee (f := 99) rfl ?_); refine goesL_ (some 19) rfl rfl Try.func99 (by kernel_rfl) rfl #[.string a0, .int .i64 16, .int .i64 4] rfl (by (try simp only [List.map_toArray, List.map_cons, List.map_nil]); first | done | rfl | (simp only [List.length_drop, List.length_take]; rfl)) ?_; (with_reducible refine (masterdiscref31_Number.calls kj2 a0 16 4 t817 _ A8.out).mono ?_); rintro e w' ⟨rfl, ⟨nd, rfl⟩⟩; refine ⟨_, rfl, ?_⟩) | ((with_reducible refine gate_callee (f := 99) rfl ?_); refine goesL_ (some 21) rfl rfl Try.func99 (by kernel_rfl) rfl #[.string a0, .int .i64 20, .int .i64 4] rfl (by (try simp only [List.map_toArray, List.map_cons, List.map_nil]); first | done | rfl | (simp only [List.length_drop, List.length_take]; rfl)) ?_; (with_reducible refine (masterdiscref31_Number.calls kj2 a0 20 4 t818 _ A9.out).mono ?_); rintro e w' ⟨rfl, ⟨nd, rfl⟩⟩; refine ⟨_, rfl, ?_⟩))
          go_ret3
          exact ⟨by first | rfl | (simp [errW_none, errW_some] <;> rfl) | (simp [*, errW_none, errW_some] <;> rfl), by repeat (first | (with_reducible first | exact HB.out | apply below_alloc | apply pw_below_drewN | apply below_drew1) | exact HB.out)⟩
        · rw [if_neg c10] at H
          have c10b0 : decide (2024 < t818) = false := decide_eq_false c10
          clear c10
          by_cases c11 : 24 ≤ (wrap64 (24 + t818))
          · rw [if_pos c11] at H
            have c11b0 := eq_true c11
            have c11b1 : decide (24 ≤ (wrap64 (24 + t818))) = true := decide_eq_true c11
            by_cases c12 : (wrap64 (24 + t818)) ≤ (a0.size : Int)
            · rw [if_pos c12] at H
              have c12b0 := eq_true c12
              have c12b1 : decide ((wrap64 (24 + t818)) ≤ (a0.size : Int)) = true := decide_eq_true c12
              replace H := Option.bind_eq_some_iff.mp H
              obtain ⟨t819, A130, H⟩ := H
              replace H : (if t819 = true then (some (a0.extract 24 ((wrap64 (24 + t818)) : Int).toNat, t817, 0)) else (some ((⟨#[]⟩ : ByteArray), 0, 10))) = some (r1, r2, r3) := H
              have A13 := Aside0.mk A130
              clear A130
              by_cases c14 : t819 = true
              · subst c14
                have H1 : (some (a0.extract 24 ((wrap64 (24 + t818)) : Int).toNat, t817, 0)) = some (r1, r2, r3) := by rw [if_pos rfl] at H; exact H
                clear H
                have H := H1
                clear H1
                have c15b0 := eq_true (of_decide_eq_true (by first | (with_reducible assumption) | assumption) : 24 ≤ (wrap64 (24 + t818)))
                have c16b0 := eq_true (of_decide_eq_true (by first | (with_reducible assumption) | assumption) : (wrap64 (24 + t818)) ≤ (a0.size : Int))
                simp only [Option.some.injEq, Prod.mk.injEq] at H
                obtain ⟨rfl, rfl, rfl⟩ := H
                go_wp2_with (first | ((with_reducible refine gate_callee (f := 99) rfl ?_); refine goesL_ (some 19) rfl rfl Try.func99 (by kernel_rfl) rfl #[.string a0, .int .i64 16, .int .i64 4] rfl (by (try simp only [List.map_toArray, List.map_cons, List.map_nil]); first | done | rfl | (simp only [List.length_drop, List.length_take]; rfl)) ?_; (with_reducible refine (masterdiscref31_Number.calls kj2 a0 16 4 t817 _ A8.out).mono ?_); rintro e w' ⟨rfl, ⟨nd, rfl⟩⟩; refine ⟨_, rfl, ?_⟩) | ((with_reducible refine gate_callee (f := 99) rfl ?_); refine goesL_ (some 21) rfl rfl Try.func99 (by kernel_rfl) rfl #[.string a0, .int .i64 20, .int .i64 4] rfl (by (try simp only [List.map_toArray, List.map_cons, List.map_nil]); first | done | rfl | (simp only [List.length_drop, List.length_take]; rfl)) ?_; (with_reducible refine (masterdiscref31_Number.calls kj2 a0 20 4 t818 _ A9.out).mono ?_); rintro e w' ⟨rfl, ⟨nd, rfl⟩⟩; refine ⟨_, rfl, ?_⟩) | (go_at_call 44; (with_reducible refine (masterdiscref41_Valid.calls kj2 (a0.extract 24 ((wrap64 (24 + t818)) : Int).toNat) t817 true _ A13.out).mono ?_); rintro e w17 ⟨rfl, hb⟩; have n0_ := Aside0.mk (below_step (by repeat (first | (with_reducible first | exact HB.out | apply below_alloc | apply pw_below_drewN | apply below_drew1) | exact HB.out)) hb); clear HB; have HB := n0_; clear n0_; (try clear hb); (try clear hb2); (try clear hk); (try clear hi)))
                go_ret3
                exact ⟨by first | rfl | (simp [errW_none, errW_some] <;> rfl) | (simp [*, errW_none, errW_some] <;> rfl), by repeat (first | (with_reducible first | exact HB.out | apply below_alloc | apply pw_below_drewN | apply below_drew1) | exact HB.out)⟩
              · replace c14 := Bool.eq_false_iff.mpr c14
                subst c14
                have H1 : (some ((⟨#[]⟩ : ByteArray), 0, 10)) = some (r1, r2, r3) := by rw [if_neg (show ¬ (false = true) by decide)] at H; exact H
                clear H
                have H := H1
                clear H1
                simp only [Option.some.injEq, Prod.mk.injEq] at H
                obtain ⟨rfl, rfl, rfl⟩ := H
                go_wp2_with (first | ((with_reducible refine gate_callee (f := 99) rfl ?_); refine goesL_ (some 19) rfl rfl Try.func99 (by kernel_rfl) rfl #[.string a0, .int .i64 16, .int .i64 4] rfl (by (try simp only [List.map_toArray, List.map_cons, List.map_nil]); first | done | rfl | (simp only [List.length_drop, List.length_take]; rfl)) ?_; (with_reducible refine (masterdiscref31_Number.calls kj2 a0 16 4 t817 _ A8.out).mono ?_); rintro e w' ⟨rfl, ⟨nd, rfl⟩⟩; refine ⟨_, rfl, ?_⟩) | ((with_reducible refine gate_callee (f := 99) rfl ?_); refine goesL_ (some 21) rfl rfl Try.func99 (by kernel_rfl) rfl #[.string a0, .int .i64 20, .int .i64 4] rfl (by (try simp only [List.map_toArray, List.map_cons, List.map_nil]); first | done | rfl | (simp only [List.length_drop, List.length_take]; rfl)) ?_; (with_reducible refine (masterdiscref31_Number.calls kj2 a0 20 4 t818 _ A9.out).mono ?_); rintro e w' ⟨rfl, ⟨nd, rfl⟩⟩; refine ⟨_, rfl, ?_⟩) | (go_at_call 44; (with_reducible refine (masterdiscref41_Valid.calls kj2 (a0.extract 24 ((wrap64 (24 + t818)) : Int).toNat) t817 false _ A13.out).mono ?_); rintro e w18 ⟨rfl, hb⟩; have n0_ := Aside0.mk (below_step (by repeat (first | (with_reducible first | exact HB.out | apply below_alloc | apply pw_below_drewN | apply below_drew1) | exact HB.out)) hb); clear HB; have HB := n0_; clear n0_; (try clear hb); (try clear hb2); (try clear hk); (try clear hi)))
                go_ret3
                exact ⟨by first | rfl | (simp [errW_none, errW_some] <;> rfl) | (simp [*, errW_none, errW_some] <;> rfl), by repeat (first | (with_reducible first | exact HB.out | apply below_alloc | apply pw_below_drewN | apply below_drew1) | exact HB.out)⟩
            · rw [if_neg c12] at H
              exact absurd H (by simp)
          · rw [if_neg c11] at H
            exact absurd H (by simp)

end Go.Proofs.Ytijbfebbogiiiaa.Q
