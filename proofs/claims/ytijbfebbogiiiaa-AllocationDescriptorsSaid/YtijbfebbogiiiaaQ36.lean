/- Contracts of Go functions: each call returns what the Lean function of its name says. Written by wip/gen.py (a patched print) for this claim. -/
import Derived.Test.YtijbfebbogiiiaaQ0
import Derived.Test.YtijbfebbogiiiaaQ17
import Derived.Test.YtijbfebbogiiiaaQ35
import Derived.Test.YtijbfebbogiiiaaQ9
import Derived.Test.YtijbfebbogiiiaaQNum
import Derived.Test.YtijbfebbogiiiaaQRead
namespace Go.Proofs.Ytijbfebbogiiiaa.Q
open Go.RowKit Go.Proofs.YtijbfebbogiiiaaW.PrintWords Go.Proofs.YtijbfebbogiiiaaW.PrintLast Go.Proofs.YtijbfebbogiiiaaW.PrintMore
attribute [local go_sem] max2_int min2_int max_two min_two max_three min_three max_four min_four   -- for this text's walks alone
set_option linter.unusedVariables false
set_option linter.unusedSimpArgs false

/-! ### masterdiscref33_Descriptor: function 50 -/
def masterdiscref33_Descriptor.j0 : Nat → Int → Int → ByteArray → Bool → Option (ByteArray × Int)
  | 0, _, _, _, _ => none
  | k + 1, x0, x1, x2, x21 => if x21 = true then (some ((⟨#[]⟩ : ByteArray), 2)) else (if (x2.size : Int) > 2024 then (some ((⟨#[]⟩ : ByteArray), 7)) else ((masterdiscref01_Bytes.f k x0 4).bind fun t456 => ((masterdiscref01_Bytes.f k (x2.size : Int) 4).bind fun t457 => (if t456.size + t457.size ≤ 9223372036854775807 then (if (t456 ++ t457).size + x2.size ≤ 9223372036854775807 then ((masterdiscref31_Block.f k 258 1 x1 ((t456 ++ t457) ++ x2)).bind fun bt458 => (some (bt458.1, bt458.2))) else (none)) else (none)))))
def masterdiscref33_Descriptor.f (k : Nat) (a0 : Int) (a1 : Int) (a2 : ByteArray) : Option (ByteArray × Int) := if a0 < 0 then (masterdiscref33_Descriptor.j0 k a0 a1 a2 true) else (if a0 ≥ 4294967296 then (masterdiscref33_Descriptor.j0 k a0 a1 a2 true) else (if a1 < 0 then (masterdiscref33_Descriptor.j0 k a0 a1 a2 true) else (masterdiscref33_Descriptor.j0 k a0 a1 a2 (decide (a1 ≥ 4294967296)))))
theorem masterdiscref33_Descriptor.mono_l : ∀ k, (∀ y0 y1 y2 y3, LeO (masterdiscref33_Descriptor.j0 k y0 y1 y2 y3) (masterdiscref33_Descriptor.j0 (k + 1) y0 y1 y2 y3))
  | 0 => fun _ _ _ _ r h => by simp [masterdiscref33_Descriptor.j0] at h
  | k + 1 => by
    have ih0 := masterdiscref33_Descriptor.mono_l k
    · intro y0 y1 y2 y3
      unfold masterdiscref33_Descriptor.j0
      repeat' first
      | (with_reducible exact ih0 _ _ _ _)
      | (with_reducible exact masterdiscref01_Bytes.mono _ _ _)
      | (with_reducible exact masterdiscref31_Block.mono _ _ _ _ _)
      | (with_reducible exact LeO.refl _)
      | (with_reducible exact LeO.none _)
      | (with_reducible refine LeO.ite ?_ ?_)
      | (with_reducible refine LeO.bind ?_ (fun _ => ?_))
      | exact ih0 _ _ _ _
      | exact masterdiscref01_Bytes.mono _ _ _
      | exact masterdiscref31_Block.mono _ _ _ _ _
      | exact LeO.none _
      | refine LeO.ite ?_ ?_
      | refine LeO.bind ?_ (fun _ => ?_)
theorem masterdiscref33_Descriptor.mono : ∀ a0 a1 a2 k, LeO (masterdiscref33_Descriptor.f k a0 a1 a2) (masterdiscref33_Descriptor.f (k + 1) a0 a1 a2) := by
  intro a0 a1 a2 k
  have ih0 := masterdiscref33_Descriptor.mono_l k
  unfold masterdiscref33_Descriptor.f
  repeat' first
      | (with_reducible exact ih0 _ _ _ _)
      | (with_reducible exact masterdiscref01_Bytes.mono _ _ _)
      | (with_reducible exact masterdiscref31_Block.mono _ _ _ _ _)
      | (with_reducible exact LeO.refl _)
      | (with_reducible exact LeO.none _)
      | (with_reducible refine LeO.ite ?_ ?_)
      | (with_reducible refine LeO.bind ?_ (fun _ => ?_))
      | exact ih0 _ _ _ _
      | exact masterdiscref01_Bytes.mono _ _ _
      | exact masterdiscref31_Block.mono _ _ _ _ _
      | exact LeO.none _
      | refine LeO.ite ?_ ?_
      | refine LeO.bind ?_ (fun _ => ?_)
set_option maxHeartbeats 8000000 in
set_option maxRecDepth 100000 in
theorem masterdiscref33_Descriptor.calls (k : Nat) (a0 : Int) (a1 : Int) (a2 : ByteArray) (r1 : ByteArray) (r2 : Int) (w : World) (h : masterdiscref33_Descriptor.f k a0 a1 a2 = some (r1, r2)) :
    Calls Try.prog 50 #[.int .i64 a0, .int .i64 a1, .string a2] w fun e w' => e = .returned (.tuple #[.string r1, .int .i64 r2]) ∧ Below w.heap.size w w' := by
  have HB := Aside0.mk (Below.refl w.heap.size w)
  have H : (if a0 < 0 then (masterdiscref33_Descriptor.j0 k a0 a1 a2 true) else (if a0 ≥ 4294967296 then (masterdiscref33_Descriptor.j0 k a0 a1 a2 true) else (if a1 < 0 then (masterdiscref33_Descriptor.j0 k a0 a1 a2 true) else (masterdiscref33_Descriptor.j0 k a0 a1 a2 (decide (a1 ≥ 4294967296)))))) = some (r1, r2) := h
  clear h
  have HC4 := Aside0.mk H
  clear H
  go_enter Try.func50, Try.ntmps50
  go_upto_region 1 with (fail)
  go_cut [21] (fun v21 wc => ∃ (kq : Nat) (x21_3 : Bool), v21 = .bool x21_3 ∧ Aside0 (masterdiscref33_Descriptor.j0 kq a0 a1 a2 x21_3 = some (r1, r2)) ∧ Aside0 (kq ≤ k) ∧ Aside0 (Below w.heap.size w wc))
  case first =>
    have H := HC4.out
    clear HC4
    by_cases c5 : a0 < 0
    · rw [if_pos c5] at H
      have c5b0 : decide (a0 < 0) = true := decide_eq_true c5
      clear c5
      (first | rw [c5b0] | (simp only [i64_w, i32_w]; rw [c5b0]) | skip)
      have H' := Aside0.mk H
      clear H
      go_wp2
      go_meet
      case rel => exact ⟨_, (true), (by first | rfl | (simp; done) | (simp [*]; done)), H', ⟨by first | omega | exact Nat.le_refl _⟩, ⟨by repeat (first | (with_reducible first | exact HB.out | apply below_alloc | apply pw_below_drewN | apply below_drew1) | exact HB.out)⟩⟩
    · rw [if_neg c5] at H
      have c5b0 : decide (a0 < 0) = false := decide_eq_false c5
      clear c5
      (first | rw [c5b0] | (simp only [i64_w, i32_w]; rw [c5b0]) | skip)
      by_cases c6 : a0 ≥ 4294967296
      · rw [if_pos c6] at H
        have c6b0 : decide (4294967296 ≤ a0) = true := decide_eq_true c6
        clear c6
        have H' := Aside0.mk H
        clear H
        go_wp2
        go_meet
        case rel => exact ⟨_, (true), (by first | rfl | (simp; done) | (simp [*]; done)), H', ⟨by first | omega | exact Nat.le_refl _⟩, ⟨by repeat (first | (with_reducible first | exact HB.out | apply below_alloc | apply pw_below_drewN | apply below_drew1) | exact HB.out)⟩⟩
      · rw [if_neg c6] at H
        have c6b0 : decide (4294967296 ≤ a0) = false := decide_eq_false c6
        clear c6
        by_cases c7 : a1 < 0
        · rw [if_pos c7] at H
          have c7b0 : decide (a1 < 0) = true := decide_eq_true c7
          clear c7
          have H' := Aside0.mk H
          clear H
          go_wp2
          go_meet
          case rel => exact ⟨_, (true), (by first | rfl | (simp; done) | (simp [*]; done)), H', ⟨by first | omega | exact Nat.le_refl _⟩, ⟨by repeat (first | (with_reducible first | exact HB.out | apply below_alloc | apply pw_below_drewN | apply below_drew1) | exact HB.out)⟩⟩
        · rw [if_neg c7] at H
          have c7b0 : decide (a1 < 0) = false := decide_eq_false c7
          clear c7
          have H' := Aside0.mk H
          clear H
          go_wp2
          go_meet
          case rel => exact ⟨_, (decide (a1 ≥ 4294967296)), (by first | rfl | (simp; done) | (simp [*]; done)), H', ⟨by first | omega | exact Nat.le_refl _⟩, ⟨by repeat (first | (with_reducible first | exact HB.out | apply below_alloc | apply pw_below_drewN | apply below_drew1) | exact HB.out)⟩⟩
  case rest =>
    clear HC4
    try clear p2
    try clear c5
    try clear c5b0
    try clear c6
    try clear c6b0
    try clear c7
    try clear c7b0
    obtain ⟨kq, x21_3, rfl, HA, HJ3, HB⟩ := hcut
    cases kq with
    | zero => exact absurd HA.out (by simp [masterdiscref33_Descriptor.j0])
    | succ kj3 =>
      have H := HA.out
      clear HA
      simp only [masterdiscref33_Descriptor.j0] at H
      by_cases c8 : x21_3 = true
      · subst c8
        have H1 : (some ((⟨#[]⟩ : ByteArray), 2)) = some (r1, r2) := by rw [if_pos rfl] at H; exact H
        clear H
        have H := H1
        clear H1
        simp only [Option.some.injEq, Prod.mk.injEq] at H
        obtain ⟨rfl, rfl⟩ := H
        go_wp2
        go_ret2
        exact ⟨by first | rfl | (simp [errW_none, errW_some] <;> rfl) | (simp [*, errW_none, errW_some] <;> rfl), by repeat (first | (with_reducible first | exact HB.out | apply below_alloc | apply pw_below_drewN | apply below_drew1) | exact HB.out)⟩
      · replace c8 := Bool.eq_false_iff.mpr c8
        subst c8
        have H1 : (if (a2.size : Int) > 2024 then (some ((⟨#[]⟩ : ByteArray), 7)) else ((masterdiscref01_Bytes.f kj3 a0 4).bind fun t456 => ((masterdiscref01_Bytes.f kj3 (a2.size : Int) 4).bind fun t457 => (if t456.size + t457.size ≤ 9223372036854775807 then (if (t456 ++ t457).size + a2.size ≤ 9223372036854775807 then ((masterdiscref31_Block.f kj3 258 1 a1 ((t456 ++ t457) ++ a2)).bind fun bt458 => (some (bt458.1, bt458.2))) else (none)) else (none))))) = some (r1, r2) := by rw [if_neg (show ¬ (false = true) by decide)] at H; exact H
        clear H
        have H := H1
        clear H1
        by_cases c9 : (a2.size : Int) > 2024
        · rw [if_pos c9] at H
          have c9b0 : decide (2024 < (a2.size : Int)) = true := decide_eq_true c9
          have c9b1 : decide (2024 < a2.size) = true := decide_eq_true (by omega)
          clear c9
          simp only [Option.some.injEq, Prod.mk.injEq] at H
          obtain ⟨rfl, rfl⟩ := H
          go_wp2
          go_ret2
          exact ⟨by first | rfl | (simp [errW_none, errW_some] <;> rfl) | (simp [*, errW_none, errW_some] <;> rfl), by repeat (first | (with_reducible first | exact HB.out | apply below_alloc | apply pw_below_drewN | apply below_drew1) | exact HB.out)⟩
        · rw [if_neg c9] at H
          have c9b0 : decide (2024 < (a2.size : Int)) = false := decide_eq_false c9
          have c9b1 : decide (2024 < a2.size) = false := decide_eq_false (by omega)
          clear c9
          replace H := Option.bind_eq_some_iff.mp H
          obtain ⟨t456, A100, H⟩ := H
          replace H : ((masterdiscref01_Bytes.f kj3 (a2.size : Int) 4).bind fun t457 => (if t456.size + t457.size ≤ 9223372036854775807 then (if (t456 ++ t457).size + a2.size ≤ 9223372036854775807 then ((masterdiscref31_Block.f kj3 258 1 a1 ((t456 ++ t457) ++ a2)).bind fun bt458 => (some (bt458.1, bt458.2))) else (none)) else (none))) = some (r1, r2) := H
          have A10 := Aside0.mk A100
          clear A100
          replace H := Option.bind_eq_some_iff.mp H
          obtain ⟨t457, A110, H⟩ := H
          replace H : (if t456.size + t457.size ≤ 9223372036854775807 then (if (t456 ++ t457).size + a2.size ≤ 9223372036854775807 then ((masterdiscref31_Block.f kj3 258 1 a1 ((t456 ++ t457) ++ a2)).bind fun bt458 => (some (bt458.1, bt458.2))) else (none)) else (none)) = some (r1, r2) := H
          have A11 := Aside0.mk A110
          clear A110
          by_cases c12 : t456.size + t457.size ≤ 9223372036854775807
          · rw [if_pos c12] at H
            have c12b0 := eq_true c12
            have c12b1 : decide (t456.size + t457.size ≤ 9223372036854775807) = true := decide_eq_true c12
            try have c12b2 : (9223372036854775807 < t456.size + t457.size) = False := eq_false (Nat.not_lt.2 c12)
            try (have c12b3 := c12b2; conv at c12b3 => lhs; simp [go_sem])
            by_cases c13 : (t456 ++ t457).size + a2.size ≤ 9223372036854775807
            · rw [if_pos c13] at H
              have c13b0 := eq_true c13
              have c13b1 : decide ((t456 ++ t457).size + a2.size ≤ 9223372036854775807) = true := decide_eq_true c13
              try have c13b2 : (9223372036854775807 < (t456 ++ t457).size + a2.size) = False := eq_false (Nat.not_lt.2 c13)
              try (have c13b3 := c13b2; conv at c13b3 => lhs; simp [go_sem])
              replace H := Option.bind_eq_some_iff.mp H
              obtain ⟨⟨t458, t459⟩, A140, H⟩ := H
              replace H : (some (t458, t459)) = some (r1, r2) := H
              have A14 := Aside0.mk A140
              clear A140
              simp only [Option.some.injEq, Prod.mk.injEq] at H
              obtain ⟨rfl, rfl⟩ := H
              go_wp2_with (first | ((with_reducible refine gate_callee (f := 108) rfl ?_); refine goesL_ (some 27) rfl rfl Try.func108 (by kernel_rfl) rfl #[.int .i64 a0, .int .i64 4] rfl (by (try simp only [List.map_toArray, List.map_cons, List.map_nil]); first | done | rfl | (simp only [List.length_drop, List.length_take]; rfl)) ?_; (with_reducible refine (masterdiscref01_Bytes.calls kj3 a0 4 t456 _ A10.out).mono ?_); rintro e w15 ⟨rfl, hb⟩; refine ⟨_, rfl, ?_⟩; have n0_ := Aside0.mk (below_step (by repeat (first | (with_reducible first | exact HB.out | apply below_alloc | apply pw_below_drewN | apply below_drew1) | exact HB.out)) hb); clear HB; have HB := n0_; clear n0_; (try clear hb); (try clear hb2); (try clear hk); (try clear hi)) | ((with_reducible refine gate_callee (f := 108) rfl ?_); refine goesL_ (some 30) rfl rfl Try.func108 (by kernel_rfl) rfl #[.int .i64 (a2.size : Int), .int .i64 4] rfl (by (try simp only [List.map_toArray, List.map_cons, List.map_nil]); first | done | rfl | (simp only [List.length_drop, List.length_take]; rfl)) ?_; (with_reducible refine (masterdiscref01_Bytes.calls kj3 (a2.size : Int) 4 t457 _ A11.out).mono ?_); rintro e w16 ⟨rfl, hb⟩; refine ⟨_, rfl, ?_⟩; have n0_ := Aside0.mk (below_step (by repeat (first | (with_reducible first | exact HB.out | apply below_alloc | apply pw_below_drewN | apply below_drew1) | exact HB.out)) hb); clear HB; have HB := n0_; clear n0_; (try clear hb); (try clear hb2); (try clear hk); (try clear hi)) | ((with_reducible refine gate_callee (f := 74) rfl ?_); refine goesL_ (some 34) rfl rfl Try.func74 (by kernel_rfl) rfl #[.int .i64 258, .int .i64 1, .int .i64 a1, .string ((t456 ++ t457) ++ a2)] rfl (by (try simp only [List.map_toArray, List.map_cons, List.map_nil]); first | done | rfl | (simp only [List.length_drop, List.length_take]; rfl)) ?_; (with_reducible refine (masterdiscref31_Block.calls kj3 258 1 a1 ((t456 ++ t457) ++ a2) t458 t459 _ A14.out).mono ?_); rintro e w17 ⟨rfl, hb⟩; refine ⟨_, rfl, ?_⟩; have n0_ := Aside0.mk (below_step (by repeat (first | (with_reducible first | exact HB.out | apply below_alloc | apply pw_below_drewN | apply below_drew1) | exact HB.out)) hb); clear HB; have HB := n0_; clear n0_; (try clear hb); (try clear hb2); (try clear hk); (try clear hi)))
              go_ret2
              exact ⟨by first | rfl | (simp [errW_none, errW_some] <;> rfl) | (simp [*, errW_none, errW_some] <;> rfl), by repeat (first | (with_reducible first | exact HB.out | apply below_alloc | apply pw_below_drewN | apply below_drew1) | exact HB.out)⟩
            · rw [if_neg c13] at H
              exact absurd H (by simp)
          · rw [if_neg c12] at H
            exact absurd H (by simp)

/-! ### allocation_ParseDescriptor: function 51 -/
def allocation_ParseDescriptor.j0 : Nat → ByteArray → Bool → Option (Int × ByteArray × Int)
  | 0, _, _ => none
  | k + 1, x0, x17 => if x17 = true then (some (0, (⟨#[]⟩ : ByteArray), 10)) else ((allocation_read.f x0 20 4).bind fun t463 => (if t463 > 2024 then (some (0, (⟨#[]⟩ : ByteArray), 10)) else ((allocation_read.f x0 16 4).bind fun t464 => (if 24 ≤ (wrap64 (24 + t463)) then (if (wrap64 (24 + t463)) ≤ (x0.size : Int) then (some (t464, x0.extract 24 ((wrap64 (24 + t463)) : Int).toNat, 0)) else (none)) else (none)))))
def allocation_ParseDescriptor.f (k : Nat) (a0 : ByteArray) (a1 : Int) : Option (Int × ByteArray × Int) := if (a0.size : Int) = 2048 then ((udftag_Is.f a0 258 a1).bind fun t462 => (allocation_ParseDescriptor.j0 k a0 (!t462))) else (allocation_ParseDescriptor.j0 k a0 true)
theorem allocation_ParseDescriptor.mono_l : ∀ k, (∀ y0 y1, LeO (allocation_ParseDescriptor.j0 k y0 y1) (allocation_ParseDescriptor.j0 (k + 1) y0 y1))
  | 0 => fun _ _ r h => by simp [allocation_ParseDescriptor.j0] at h
  | k + 1 => by
    have ih0 := allocation_ParseDescriptor.mono_l k
    · intro y0 y1
      unfold allocation_ParseDescriptor.j0
      repeat' first
      | (with_reducible exact ih0 _ _)
      | (with_reducible exact LeO.refl _)
      | (with_reducible exact LeO.none _)
      | (with_reducible refine LeO.ite ?_ ?_)
      | (with_reducible refine LeO.bind ?_ (fun _ => ?_))
      | exact ih0 _ _
      | exact LeO.none _
      | refine LeO.ite ?_ ?_
      | refine LeO.bind ?_ (fun _ => ?_)
theorem allocation_ParseDescriptor.mono : ∀ a0 a1 k, LeO (allocation_ParseDescriptor.f k a0 a1) (allocation_ParseDescriptor.f (k + 1) a0 a1) := by
  intro a0 a1 k
  have ih0 := allocation_ParseDescriptor.mono_l k
  unfold allocation_ParseDescriptor.f
  repeat' first
      | (with_reducible exact ih0 _ _)
      | (with_reducible exact LeO.refl _)
      | (with_reducible exact LeO.none _)
      | (with_reducible refine LeO.ite ?_ ?_)
      | (with_reducible refine LeO.bind ?_ (fun _ => ?_))
      | exact ih0 _ _
      | exact LeO.none _
      | refine LeO.ite ?_ ?_
      | refine LeO.bind ?_ (fun _ => ?_)
set_option maxHeartbeats 8000000 in
set_option maxRecDepth 100000 in
theorem allocation_ParseDescriptor.calls (k : Nat) (a0 : ByteArray) (a1 : Int) (r1 : Int) (r2 : ByteArray) (r3 : Int) (w : World) (h : allocation_ParseDescriptor.f k a0 a1 = some (r1, r2, r3)) :
    Calls Try.prog 51 #[.string a0, .int .i64 a1] w fun e w' => e = .returned (.tuple #[.int .i64 r1, .string r2, .int .i64 r3]) ∧ Below w.heap.size w w' := by
  have HB := Aside0.mk (Below.refl w.heap.size w)
  have H : (if (a0.size : Int) = 2048 then ((udftag_Is.f a0 258 a1).bind fun t462 => (allocation_ParseDescriptor.j0 k a0 (!t462))) else (allocation_ParseDescriptor.j0 k a0 true)) = some (r1, r2, r3) := h
  clear h
  have HC3 := Aside0.mk H
  clear H
  go_enter Try.func51, Try.ntmps51
  go_upto_region 1 with (fail)
  repeat (go_quiet (fail); go_upto_region 1 with (fail))
  go_cut [17] (fun v17 wc => ∃ (kq : Nat) (x17_2 : Bool), v17 = .bool x17_2 ∧ Aside0 (allocation_ParseDescriptor.j0 kq a0 x17_2 = some (r1, r2, r3)) ∧ Aside0 (kq ≤ k) ∧ Aside0 (Below w.heap.size w wc))
  case first =>
    have H := HC3.out
    clear HC3
    by_cases c4 : (a0.size : Int) = 2048
    · rw [if_pos c4] at H
      have c4b0 : ((a0.size : Int) == 2048) = true := beq_iff_eq.mpr c4
      have c4b1 : ((a0.size : Int) != 2048) = false := bne_eq_false_iff_eq.mpr c4
      clear c4
      (first | rw [c4b0] | (simp only [i64_w, i32_w]; rw [c4b0]) | skip)
      replace H := Option.bind_eq_some_iff.mp H
      obtain ⟨t462, A50, H⟩ := H
      replace H : (allocation_ParseDescriptor.j0 k a0 (!t462)) = some (r1, r2, r3) := H
      have A5 := Aside0.mk A50
      clear A50
      have H' := Aside0.mk H
      clear H
      go_wp2_with (first | (go_at_call 31; (with_reducible refine (udftag_Is.calls a0 258 a1 t462 _ A5.out).mono ?_); rintro e w6 ⟨rfl, hb⟩; have n0_ := Aside0.mk (below_step (by repeat (first | (with_reducible first | exact HB.out | apply below_alloc | apply pw_below_drewN | apply below_drew1) | exact HB.out)) hb); clear HB; have HB := n0_; clear n0_; (try clear hb); (try clear hb2); (try clear hk); (try clear hi)))
      repeat (go_quiet (first | (go_at_call 31; (with_reducible refine (udftag_Is.calls a0 258 a1 t462 _ A5.out).mono ?_); rintro e w6 ⟨rfl, hb⟩; have n0_ := Aside0.mk (below_step (by repeat (first | (with_reducible first | exact HB.out | apply below_alloc | apply pw_below_drewN | apply below_drew1) | exact HB.out)) hb); clear HB; have HB := n0_; clear n0_; (try clear hb); (try clear hb2); (try clear hk); (try clear hi))); try go_wp2_with (first | (go_at_call 31; (with_reducible refine (udftag_Is.calls a0 258 a1 t462 _ A5.out).mono ?_); rintro e w6 ⟨rfl, hb⟩; have n0_ := Aside0.mk (below_step (by repeat (first | (with_reducible first | exact HB.out | apply below_alloc | apply pw_below_drewN | apply below_drew1) | exact HB.out)) hb); clear HB; have HB := n0_; clear n0_; (try clear hb); (try clear hb2); (try clear hk); (try clear hi))))
      go_meet
      case rel => exact ⟨_, (!t462), (by first | rfl | (simp; done) | (simp [*]; done)), H', ⟨by first | omega | exact Nat.le_refl _⟩, ⟨by repeat (first | (with_reducible first | exact HB.out | apply below_alloc | apply pw_below_drewN | apply below_drew1) | exact HB.out)⟩⟩
    · rw [if_neg c4] at H
      have c4b0 : ((a0.size : Int) == 2048) = false := beq_eq_false_iff_ne.mpr c4
      have c4b1 : ((a0.size : Int) != 2048) = true := bne_iff_ne.mpr c4
      (first | rw [c4b0] | (simp only [i64_w, i32_w]; rw [c4b0]) | skip)
      have H' := Aside0.mk H
      clear H
      go_wp2
      repeat (go_quiet (fail); try go_wp2)
      go_meet
      case rel => exact ⟨_, (true), (by first | rfl | (simp; done) | (simp [*]; done)), H', ⟨by first | omega | exact Nat.le_refl _⟩, ⟨by repeat (first | (with_reducible first | exact HB.out | apply below_alloc | apply pw_below_drewN | apply below_drew1) | exact HB.out)⟩⟩
  case rest =>
    clear HC3
    try clear p2
    try clear c4
    try clear c4b0
    try clear c4b1
    try clear c5
    obtain ⟨kq, x17_2, rfl, HA, HJ2, HB⟩ := hcut
    cases kq with
    | zero => exact absurd HA.out (by simp [allocation_ParseDescriptor.j0])
    | succ kj2 =>
      have H := HA.out
      clear HA
      simp only [allocation_ParseDescriptor.j0] at H
      by_cases c7 : x17_2 = true
      · subst c7
        have H1 : (some (0, (⟨#[]⟩ : ByteArray), 10)) = some (r1, r2, r3) := by rw [if_pos rfl] at H; exact H
        clear H
        have H := H1
        clear H1
        simp only [Option.some.injEq, Prod.mk.injEq] at H
        obtain ⟨rfl, rfl, rfl⟩ := H
        go_wp2
        repeat (go_quiet (fail); try go_wp2)
        go_ret3
        exact ⟨by first | rfl | (simp [errW_none, errW_some] <;> rfl) | (simp [*, errW_none, errW_some] <;> rfl), by repeat (first | (with_reducible first | exact HB.out | apply below_alloc | apply pw_below_drewN | apply below_drew1) | exact HB.out)⟩
      · replace c7 := Bool.eq_false_iff.mpr c7
        subst c7
        have H1 : ((allocation_read.f a0 20 4).bind fun t463 => (if t463 > 2024 then (some (0, (⟨#[]⟩ : ByteArray), 10)) else ((allocation_read.f a0 16 4).bind fun t464 => (if 24 ≤ (wrap64 (24 + t463)) then (if (wrap64 (24 + t463)) ≤ (a0.size : Int) then (some (t464, a0.extract 24 ((wrap64 (24 + t463)) : Int).toNat, 0)) else (none)) else (none))))) = some (r1, r2, r3) := by rw [if_neg (show ¬ (false = true) by decide)] at H; exact H
        clear H
        have H := H1
        clear H1
        replace H := Option.bind_eq_some_iff.mp H
        obtain ⟨t463, A80, H⟩ := H
        replace H : (if t463 > 2024 then (some (0, (⟨#[]⟩ : ByteArray), 10)) else ((allocation_read.f a0 16 4).bind fun t464 => (if 24 ≤ (wrap64 (24 + t463)) then (if (wrap64 (24 + t463)) ≤ (a0.size : Int) then (some (t464, a0.extract 24 ((wrap64 (24 + t463)) : Int).toNat, 0)) else (none)) else (none)))) = some (r1, r2, r3) := H
        have A8 := Aside0.mk A80
        clear A80
        by_cases c9 : t463 > 2024
        · rw [if_pos c9] at H
          have c9b0 : decide (2024 < t463) = true := decide_eq_true c9
          clear c9
          simp only [Option.some.injEq, Prod.mk.injEq] at H
          obtain ⟨rfl, rfl, rfl⟩ := H
          go_wp2_with (first | (go_at_call 119; (with_reducible refine (allocation_read.calls a0 20 4 t463 _ A8.out).mono ?_); rintro e w' ⟨rfl, ⟨nd, rfl⟩⟩; (try first | exact ⟨rfl, _, World.drewN_drewN _ _ _⟩ | exact ⟨rfl, _, Eq.trans (World.drewN_drewN _ _ _) (congrArg (World.drewN _) (Nat.add_assoc _ _ _))⟩)))
          repeat (go_quiet (first | (go_at_call 119; (with_reducible refine (allocation_read.calls a0 20 4 t463 _ A8.out).mono ?_); rintro e w' ⟨rfl, ⟨nd, rfl⟩⟩; (try first | exact ⟨rfl, _, World.drewN_drewN _ _ _⟩ | exact ⟨rfl, _, Eq.trans (World.drewN_drewN _ _ _) (congrArg (World.drewN _) (Nat.add_assoc _ _ _))⟩))); try go_wp2_with (first | (go_at_call 119; (with_reducible refine (allocation_read.calls a0 20 4 t463 _ A8.out).mono ?_); rintro e w' ⟨rfl, ⟨nd, rfl⟩⟩; (try first | exact ⟨rfl, _, World.drewN_drewN _ _ _⟩ | exact ⟨rfl, _, Eq.trans (World.drewN_drewN _ _ _) (congrArg (World.drewN _) (Nat.add_assoc _ _ _))⟩))))
          go_ret3
          exact ⟨by first | rfl | (simp [errW_none, errW_some] <;> rfl) | (simp [*, errW_none, errW_some] <;> rfl), by repeat (first | (with_reducible first | exact HB.out | apply below_alloc | apply pw_below_drewN | apply below_drew1) | exact HB.out)⟩
        · rw [if_neg c9] at H
          have c9b0 : decide (2024 < t463) = false := decide_eq_false c9
          clear c9
          replace H := Option.bind_eq_some_iff.mp H
          obtain ⟨t464, A100, H⟩ := H
          replace H : (if 24 ≤ (wrap64 (24 + t463)) then (if (wrap64 (24 + t463)) ≤ (a0.size : Int) then (some (t464, a0.extract 24 ((wrap64 (24 + t463)) : Int).toNat, 0)) else (none)) else (none)) = some (r1, r2, r3) := H
          have A10 := Aside0.mk A100
          clear A100
          by_cases c11 : 24 ≤ (wrap64 (24 + t463))
          · rw [if_pos c11] at H
            have c11b0 := eq_true c11
            have c11b1 : decide (24 ≤ (wrap64 (24 + t463))) = true := decide_eq_true c11
            by_cases c12 : (wrap64 (24 + t463)) ≤ (a0.size : Int)
            · rw [if_pos c12] at H
              have c12b0 := eq_true c12
              have c12b1 : decide ((wrap64 (24 + t463)) ≤ (a0.size : Int)) = true := decide_eq_true c12
              simp only [Option.some.injEq, Prod.mk.injEq] at H
              obtain ⟨rfl, rfl, rfl⟩ := H
              go_wp2_with (first | (go_at_call 119; (with_reducible refine (allocation_read.calls a0 20 4 t463 _ A8.out).mono ?_); rintro e w' ⟨rfl, ⟨nd, rfl⟩⟩; (try first | exact ⟨rfl, _, World.drewN_drewN _ _ _⟩ | exact ⟨rfl, _, Eq.trans (World.drewN_drewN _ _ _) (congrArg (World.drewN _) (Nat.add_assoc _ _ _))⟩)) | (go_at_call 119; (with_reducible refine (allocation_read.calls a0 16 4 t464 _ A10.out).mono ?_); rintro e w' ⟨rfl, ⟨nd, rfl⟩⟩; (try first | exact ⟨rfl, _, World.drewN_drewN _ _ _⟩ | exact ⟨rfl, _, Eq.trans (World.drewN_drewN _ _ _) (congrArg (World.drewN _) (Nat.add_assoc _ _ _))⟩)))
              repeat (go_quiet (first | (go_at_call 119; (with_reducible refine (allocation_read.calls a0 20 4 t463 _ A8.out).mono ?_); rintro e w' ⟨rfl, ⟨nd, rfl⟩⟩; (try first | exact ⟨rfl, _, World.drewN_drewN _ _ _⟩ | exact ⟨rfl, _, Eq.trans (World.drewN_drewN _ _ _) (congrArg (World.drewN _) (Nat.add_assoc _ _ _))⟩)) | (go_at_call 119; (with_reducible refine (allocation_read.calls a0 16 4 t464 _ A10.out).mono ?_); rintro e w' ⟨rfl, ⟨nd, rfl⟩⟩; (try first | exact ⟨rfl, _, World.drewN_drewN _ _ _⟩ | exact ⟨rfl, _, Eq.trans (World.drewN_drewN _ _ _) (congrArg (World.drewN _) (Nat.add_assoc _ _ _))⟩))); try go_wp2_with (first | (go_at_call 119; (with_reducible refine (allocation_read.calls a0 20 4 t463 _ A8.out).mono ?_); rintro e w' ⟨rfl, ⟨nd, rfl⟩⟩; (try first | exact ⟨rfl, _, World.drewN_drewN _ _ _⟩ | exact ⟨rfl, _, Eq.trans (World.drewN_drewN _ _ _) (congrArg (World.drewN _) (Nat.add_assoc _ _ _))⟩)) | (go_at_call 119; (with_reducible refine (allocation_read.calls a0 16 4 t464 _ A10.out).mono ?_); rintro e w' ⟨rfl, ⟨nd, rfl⟩⟩; (try first | exact ⟨rfl, _, World.drewN_drewN _ _ _⟩ | exact ⟨rfl, _, Eq.trans (World.drewN_drewN _ _ _) (congrArg (World.drewN _) (Nat.add_assoc _ _ _))⟩))))
              go_ret3
              exact ⟨by first | rfl | (simp [errW_none, errW_some] <;> rfl) | (simp [*, errW_none, errW_some] <;> rfl), by repeat (first | (with_reducible first | exact HB.out | apply below_alloc | apply pw_below_drewN | apply below_drew1) | exact HB.out)⟩
            · rw [if_neg c12] at H
              exact absurd H (by simp)
          · rw [if_neg c11] at H
            exact absurd H (by simp)

/-! ### masterdiscref33_ParseDescriptor: function 52 -/
def masterdiscref33_ParseDescriptor.j0 : Nat → ByteArray → Bool → Option (Int × ByteArray × Int)
  | 0, _, _ => none
  | k + 1, x0, x16 => if x16 = true then (some (0, (⟨#[]⟩ : ByteArray), 10)) else ((masterdiscref31_Number.f k x0 20 4).bind fun t466 => (if t466 > 2024 then (some (0, (⟨#[]⟩ : ByteArray), 10)) else ((masterdiscref31_Number.f k x0 16 4).bind fun t467 => (if 24 ≤ (wrap64 (24 + t466)) then (if (wrap64 (24 + t466)) ≤ (x0.size : Int) then (some (t467, x0.extract 24 ((wrap64 (24 + t466)) : Int).toNat, 0)) else (none)) else (none)))))
def masterdiscref33_ParseDescriptor.f (k : Nat) (a0 : ByteArray) (a1 : Int) : Option (Int × ByteArray × Int) := if (a0.size : Int) = 2048 then ((masterdiscref31_Is.f k a0 258 a1).bind fun t465 => (masterdiscref33_ParseDescriptor.j0 k a0 (!t465))) else (masterdiscref33_ParseDescriptor.j0 k a0 true)
theorem masterdiscref33_ParseDescriptor.mono_l : ∀ k, (∀ y0 y1, LeO (masterdiscref33_ParseDescriptor.j0 k y0 y1) (masterdiscref33_ParseDescriptor.j0 (k + 1) y0 y1))
  | 0 => fun _ _ r h => by simp [masterdiscref33_ParseDescriptor.j0] at h
  | k + 1 => by
    have ih0 := masterdiscref33_ParseDescriptor.mono_l k
    · intro y0 y1
      unfold masterdiscref33_ParseDescriptor.j0
      repeat' first
      | (with_reducible exact ih0 _ _)
      | (with_reducible exact masterdiscref31_Is.mono _ _ _ _)
      | (with_reducible exact masterdiscref31_Number.mono _ _ _ _)
      | (with_reducible exact LeO.refl _)
      | (with_reducible exact LeO.none _)
      | (with_reducible refine LeO.ite ?_ ?_)
      | (with_reducible refine LeO.bind ?_ (fun _ => ?_))
      | exact ih0 _ _
      | exact masterdiscref31_Is.mono _ _ _ _
      | exact masterdiscref31_Number.mono _ _ _ _
      | exact LeO.none _
      | refine LeO.ite ?_ ?_
      | refine LeO.bind ?_ (fun _ => ?_)
theorem masterdiscref33_ParseDescriptor.mono : ∀ a0 a1 k, LeO (masterdiscref33_ParseDescriptor.f k a0 a1) (masterdiscref33_ParseDescriptor.f (k + 1) a0 a1) := by
  intro a0 a1 k
  have ih0 := masterdiscref33_ParseDescriptor.mono_l k
  unfold masterdiscref33_ParseDescriptor.f
  repeat' first
      | (with_reducible exact ih0 _ _)
      | (with_reducible exact masterdiscref31_Is.mono _ _ _ _)
      | (with_reducible exact masterdiscref31_Number.mono _ _ _ _)
      | (with_reducible exact LeO.refl _)
      | (with_reducible exact LeO.none _)
      | (with_reducible refine LeO.ite ?_ ?_)
      | (with_reducible refine LeO.bind ?_ (fun _ => ?_))
      | exact ih0 _ _
      | exact masterdiscref31_Is.mono _ _ _ _
      | exact masterdiscref31_Number.mono _ _ _ _
      | exact LeO.none _
      | refine LeO.ite ?_ ?_
      | refine LeO.bind ?_ (fun _ => ?_)
set_option maxHeartbeats 8000000 in
set_option maxRecDepth 100000 in
theorem masterdiscref33_ParseDescriptor.calls (k : Nat) (a0 : ByteArray) (a1 : Int) (r1 : Int) (r2 : ByteArray) (r3 : Int) (w : World) (h : masterdiscref33_ParseDescriptor.f k a0 a1 = some (r1, r2, r3)) :
    Calls Try.prog 52 #[.string a0, .int .i64 a1] w fun e w' => e = .returned (.tuple #[.int .i64 r1, .string r2, .int .i64 r3]) ∧ Below w.heap.size w w' := by
  have HB := Aside0.mk (Below.refl w.heap.size w)
  have H : (if (a0.size : Int) = 2048 then ((masterdiscref31_Is.f k a0 258 a1).bind fun t465 => (masterdiscref33_ParseDescriptor.j0 k a0 (!t465))) else (masterdiscref33_ParseDescriptor.j0 k a0 true)) = some (r1, r2, r3) := h
  clear h
  have HC3 := Aside0.mk H
  clear H
  go_enter Try.func52, Try.ntmps52
  go_upto_region 1 with (fail)
  repeat (go_quiet (fail); go_upto_region 1 with (fail))
  go_cut [16] (fun v16 wc => ∃ (kq : Nat) (x16_2 : Bool), v16 = .bool x16_2 ∧ Aside0 (masterdiscref33_ParseDescriptor.j0 kq a0 x16_2 = some (r1, r2, r3)) ∧ Aside0 (kq ≤ k) ∧ Aside0 (Below w.heap.size w wc))
  case first =>
    have H := HC3.out
    clear HC3
    by_cases c4 : (a0.size : Int) = 2048
    · rw [if_pos c4] at H
      have c4b0 : ((a0.size : Int) == 2048) = true := beq_iff_eq.mpr c4
      have c4b1 : ((a0.size : Int) != 2048) = false := bne_eq_false_iff_eq.mpr c4
      clear c4
      (first | rw [c4b0] | (simp only [i64_w, i32_w]; rw [c4b0]) | skip)
      replace H := Option.bind_eq_some_iff.mp H
      obtain ⟨t465, A50, H⟩ := H
      replace H : (masterdiscref33_ParseDescriptor.j0 k a0 (!t465)) = some (r1, r2, r3) := H
      have A5 := Aside0.mk A50
      clear A50
      have H' := Aside0.mk H
      clear H
      go_wp2_with (first | (go_at_call 32; (with_reducible refine (masterdiscref31_Is.calls k a0 258 a1 t465 _ A5.out).mono ?_); rintro e w6 ⟨rfl, hb⟩; have n0_ := Aside0.mk (below_step (by repeat (first | (with_reducible first | exact HB.out | apply below_alloc | apply pw_below_drewN | apply below_drew1) | exact HB.out)) hb); clear HB; have HB := n0_; clear n0_; (try clear hb); (try clear hb2); (try clear hk); (try clear hi)))
      repeat (go_quiet (first | (go_at_call 32; (with_reducible refine (masterdiscref31_Is.calls k a0 258 a1 t465 _ A5.out).mono ?_); rintro e w6 ⟨rfl, hb⟩; have n0_ := Aside0.mk (below_step (by repeat (first | (with_reducible first | exact HB.out | apply below_alloc | apply pw_below_drewN | apply below_drew1) | exact HB.out)) hb); clear HB; have HB := n0_; clear n0_; (try clear hb); (try clear hb2); (try clear hk); (try clear hi))); try go_wp2_with (first | (go_at_call 32; (with_reducible refine (masterdiscref31_Is.calls k a0 258 a1 t465 _ A5.out).mono ?_); rintro e w6 ⟨rfl, hb⟩; have n0_ := Aside0.mk (below_step (by repeat (first | (with_reducible first | exact HB.out | apply below_alloc | apply pw_below_drewN | apply below_drew1) | exact HB.out)) hb); clear HB; have HB := n0_; clear n0_; (try clear hb); (try clear hb2); (try clear hk); (try clear hi))))
      go_meet
      case rel => exact ⟨_, (!t465), (by first | rfl | (simp; done) | (simp [*]; done)), H', ⟨by first | omega | exact Nat.le_refl _⟩, ⟨by repeat (first | (with_reducible first | exact HB.out | apply below_alloc | apply pw_below_drewN | apply below_drew1) | exact HB.out)⟩⟩
    · rw [if_neg c4] at H
      have c4b0 : ((a0.size : Int) == 2048) = false := beq_eq_false_iff_ne.mpr c4
      have c4b1 : ((a0.size : Int) != 2048) = true := bne_iff_ne.mpr c4
      (first | rw [c4b0] | (simp only [i64_w, i32_w]; rw [c4b0]) | skip)
      have H' := Aside0.mk H
      clear H
      go_wp2
      repeat (go_quiet (fail); try go_wp2)
      go_meet
      case rel => exact ⟨_, (true), (by first | rfl | (simp; done) | (simp [*]; done)), H', ⟨by first | omega | exact Nat.le_refl _⟩, ⟨by repeat (first | (with_reducible first | exact HB.out | apply below_alloc | apply pw_below_drewN | apply below_drew1) | exact HB.out)⟩⟩
  case rest =>
    clear HC3
    try clear p2
    try clear c4
    try clear c4b0
    try clear c4b1
    try clear c5
    obtain ⟨kq, x16_2, rfl, HA, HJ2, HB⟩ := hcut
    cases kq with
    | zero => exact absurd HA.out (by simp [masterdiscref33_ParseDescriptor.j0])
    | succ kj2 =>
      have H := HA.out
      clear HA
      simp only [masterdiscref33_ParseDescriptor.j0] at H
      by_cases c7 : x16_2 = true
      · subst c7
        have H1 : (some (0, (⟨#[]⟩ : ByteArray), 10)) = some (r1, r2, r3) := by rw [if_pos rfl] at H; exact H
        clear H
        have H := H1
        clear H1
        simp only [Option.some.injEq, Prod.mk.injEq] at H
        obtain ⟨rfl, rfl, rfl⟩ := H
        go_wp2
        repeat (go_quiet (fail); try go_wp2)
        go_ret3
        exact ⟨by first | rfl | (simp [errW_none, errW_some] <;> rfl) | (simp [*, errW_none, errW_some] <;> rfl), by repeat (first | (with_reducible first | exact HB.out | apply below_alloc | apply pw_below_drewN | apply below_drew1) | exact HB.out)⟩
      · replace c7 := Bool.eq_false_iff.mpr c7
        subst c7
        have H1 : ((masterdiscref31_Number.f kj2 a0 20 4).bind fun t466 => (if t466 > 2024 then (some (0, (⟨#[]⟩ : ByteArray), 10)) else ((masterdiscref31_Number.f kj2 a0 16 4).bind fun t467 => (if 24 ≤ (wrap64 (24 + t466)) then (if (wrap64 (24 + t466)) ≤ (a0.size : Int) then (some (t467, a0.extract 24 ((wrap64 (24 + t466)) : Int).toNat, 0)) else (none)) else (none))))) = some (r1, r2, r3) := by rw [if_neg (show ¬ (false = true) by decide)] at H; exact H
        clear H
        have H := H1
        clear H1
        replace H := Option.bind_eq_some_iff.mp H
        obtain ⟨t466, A80, H⟩ := H
        replace H : (if t466 > 2024 then (some (0, (⟨#[]⟩ : ByteArray), 10)) else ((masterdiscref31_Number.f kj2 a0 16 4).bind fun t467 => (if 24 ≤ (wrap64 (24 + t466)) then (if (wrap64 (24 + t466)) ≤ (a0.size : Int) then (some (t467, a0.extract 24 ((wrap64 (24 + t466)) : Int).toNat, 0)) else (none)) else (none)))) = some (r1, r2, r3) := H
        have A8 := Aside0.mk A80
        clear A80
        by_cases c9 : t466 > 2024
        · rw [if_pos c9] at H
          have c9b0 : decide (2024 < t466) = true := decide_eq_true c9
          clear c9
          simp only [Option.some.injEq, Prod.mk.injEq] at H
          obtain ⟨rfl, rfl, rfl⟩ := H
          go_wp2_with (first | (go_at_call 99; (with_reducible refine (masterdiscref31_Number.calls kj2 a0 20 4 t466 _ A8.out).mono ?_); rintro e w' ⟨rfl, ⟨nd, rfl⟩⟩; (try first | exact ⟨rfl, _, World.drewN_drewN _ _ _⟩ | exact ⟨rfl, _, Eq.trans (World.drewN_drewN _ _ _) (congrArg (World.drewN _) (Nat.add_assoc _ _ _))⟩)))
          repeat (go_quiet (first | (go_at_call 99; (with_reducible refine (masterdiscref31_Number.calls kj2 a0 20 4 t466 _ A8.out).mono ?_); rintro e w' ⟨rfl, ⟨nd, rfl⟩⟩; (try first | exact ⟨rfl, _, World.drewN_drewN _ _ _⟩ | exact ⟨rfl, _, Eq.trans (World.drewN_drewN _ _ _) (congrArg (World.drewN _) (Nat.add_assoc _ _ _))⟩))); try go_wp2_with (first | (go_at_call 99; (with_reducible refine (masterdiscref31_Number.calls kj2 a0 20 4 t466 _ A8.out).mono ?_); rintro e w' ⟨rfl, ⟨nd, rfl⟩⟩; (try first | exact ⟨rfl, _, World.drewN_drewN _ _ _⟩ | exact ⟨rfl, _, Eq.trans (World.drewN_drewN _ _ _) (congrArg (World.drewN _) (Nat.add_assoc _ _ _))⟩))))
          go_ret3
          exact ⟨by first | rfl | (simp [errW_none, errW_some] <;> rfl) | (simp [*, errW_none, errW_some] <;> rfl), by repeat (first | (with_reducible first | exact HB.out | apply below_alloc | apply pw_below_drewN | apply below_drew1) | exact HB.out)⟩
        · rw [if_neg c9] at H
          have c9b0 : decide (2024 < t466) = false := decide_eq_false c9
          clear c9
          replace H := Option.bind_eq_some_iff.mp H
          obtain ⟨t467, A100, H⟩ := H
          replace H : (if 24 ≤ (wrap64 (24 + t466)) then (if (wrap64 (24 + t466)) ≤ (a0.size : Int) then (some (t467, a0.extract 24 ((wrap64 (24 + t466)) : Int).toNat, 0)) else (none)) else (none)) = some (r1, r2, r3) := H
          have A10 := Aside0.mk A100
          clear A100
          by_cases c11 : 24 ≤ (wrap64 (24 + t466))
          · rw [if_pos c11] at H
            have c11b0 := eq_true c11
            have c11b1 : decide (24 ≤ (wrap64 (24 + t466))) = true := decide_eq_true c11
            by_cases c12 : (wrap64 (24 + t466)) ≤ (a0.size : Int)
            · rw [if_pos c12] at H
              have c12b0 := eq_true c12
              have c12b1 : decide ((wrap64 (24 + t466)) ≤ (a0.size : Int)) = true := decide_eq_true c12
              simp only [Option.some.injEq, Prod.mk.injEq] at H
              obtain ⟨rfl, rfl, rfl⟩ := H
              go_wp2_with (first | (go_at_call 99; (with_reducible refine (masterdiscref31_Number.calls kj2 a0 20 4 t466 _ A8.out).mono ?_); rintro e w' ⟨rfl, ⟨nd, rfl⟩⟩; (try first | exact ⟨rfl, _, World.drewN_drewN _ _ _⟩ | exact ⟨rfl, _, Eq.trans (World.drewN_drewN _ _ _) (congrArg (World.drewN _) (Nat.add_assoc _ _ _))⟩)) | (go_at_call 99; (with_reducible refine (masterdiscref31_Number.calls kj2 a0 16 4 t467 _ A10.out).mono ?_); rintro e w' ⟨rfl, ⟨nd, rfl⟩⟩; (try first | exact ⟨rfl, _, World.drewN_drewN _ _ _⟩ | exact ⟨rfl, _, Eq.trans (World.drewN_drewN _ _ _) (congrArg (World.drewN _) (Nat.add_assoc _ _ _))⟩)))
              repeat (go_quiet (first | (go_at_call 99; (with_reducible refine (masterdiscref31_Number.calls kj2 a0 20 4 t466 _ A8.out).mono ?_); rintro e w' ⟨rfl, ⟨nd, rfl⟩⟩; (try first | exact ⟨rfl, _, World.drewN_drewN _ _ _⟩ | exact ⟨rfl, _, Eq.trans (World.drewN_drewN _ _ _) (congrArg (World.drewN _) (Nat.add_assoc _ _ _))⟩)) | (go_at_call 99; (with_reducible refine (masterdiscref31_Number.calls kj2 a0 16 4 t467 _ A10.out).mono ?_); rintro e w' ⟨rfl, ⟨nd, rfl⟩⟩; (try first | exact ⟨rfl, _, World.drewN_drewN _ _ _⟩ | exact ⟨rfl, _, Eq.trans (World.drewN_drewN _ _ _) (congrArg (World.drewN _) (Nat.add_assoc _ _ _))⟩))); try go_wp2_with (first | (go_at_call 99; (with_reducible refine (masterdiscref31_Number.calls kj2 a0 20 4 t466 _ A8.out).mono ?_); rintro e w' ⟨rfl, ⟨nd, rfl⟩⟩; (try first | exact ⟨rfl, _, World.drewN_drewN _ _ _⟩ | exact ⟨rfl, _, Eq.trans (World.drewN_drewN _ _ _) (congrArg (World.drewN _) (Nat.add_assoc _ _ _))⟩)) | (go_at_call 99; (with_reducible refine (masterdiscref31_Number.calls kj2 a0 16 4 t467 _ A10.out).mono ?_); rintro e w' ⟨rfl, ⟨nd, rfl⟩⟩; (try first | exact ⟨rfl, _, World.drewN_drewN _ _ _⟩ | exact ⟨rfl, _, Eq.trans (World.drewN_drewN _ _ _) (congrArg (World.drewN _) (Nat.add_assoc _ _ _))⟩))))
              go_ret3
              exact ⟨by first | rfl | (simp [errW_none, errW_some] <;> rfl) | (simp [*, errW_none, errW_some] <;> rfl), by repeat (first | (with_reducible first | exact HB.out | apply below_alloc | apply pw_below_drewN | apply below_drew1) | exact HB.out)⟩
            · rw [if_neg c12] at H
              exact absurd H (by simp)
          · rw [if_neg c11] at H
            exact absurd H (by simp)

end Go.Proofs.Ytijbfebbogiiiaa.Q
