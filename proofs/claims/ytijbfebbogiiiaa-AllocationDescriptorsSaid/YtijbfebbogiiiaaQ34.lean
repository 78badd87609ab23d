/- Contracts of Go functions: each call returns what the Lean function of its name says. Written by wip/gen.py (a patched print) for this claim. -/
import Derived.Test.YtijbfebbogiiiaaQ0
import Derived.Test.YtijbfebbogiiiaaQ13
import Derived.Test.YtijbfebbogiiiaaQ29
namespace Go.Proofs.Ytijbfebbogiiiaa.Q
open Go.RowKit Go.Proofs.YtijbfebbogiiiaaW.PrintWords Go.Proofs.YtijbfebbogiiiaaW.PrintLast Go.Proofs.YtijbfebbogiiiaaW.PrintMore
attribute [local go_sem] max2_int min2_int max_two min_two max_three min_three max_four min_four   -- for this text's walks alone
set_option linter.unusedVariables false
set_option linter.unusedSimpArgs false

/-! ### allocation_Descriptor: function 49 -/
def allocation_Descriptor.j0 : Nat → Int → Int → ByteArray → Bool → Option (ByteArray × Int)
  | 0, _, _, _, _ => none
  | k + 1, x0, x1, x2, x8 => if x8 = true then (some ((⟨#[]⟩ : ByteArray), 2)) else (if (x2.size : Int) > 2024 then (some ((⟨#[]⟩ : ByteArray), 7)) else ((allocation_little.f x0 4).bind fun t441 => ((allocation_little.f (x2.size : Int) 4).bind fun t442 => (if t441.size + t442.size ≤ 9223372036854775807 then (if (t441 ++ t442).size + x2.size ≤ 9223372036854775807 then ((udftag_Block.f k 258 1 x1 ((t441 ++ t442) ++ x2)).bind fun bt443 => (some (bt443.1, bt443.2))) else (none)) else (none)))))
def allocation_Descriptor.f (k : Nat) (a0 : Int) (a1 : Int) (a2 : ByteArray) : Option (ByteArray × Int) := if a0 < 0 then (allocation_Descriptor.j0 k a0 a1 a2 true) else (if a0 ≥ 4294967296 then (allocation_Descriptor.j0 k a0 a1 a2 true) else (if a1 < 0 then (allocation_Descriptor.j0 k a0 a1 a2 true) else (allocation_Descriptor.j0 k a0 a1 a2 (decide (a1 ≥ 4294967296)))))
theorem allocation_Descriptor.mono_l : ∀ k, (∀ y0 y1 y2 y3, LeO (allocation_Descriptor.j0 k y0 y1 y2 y3) (allocation_Descriptor.j0 (k + 1) y0 y1 y2 y3))
  | 0 => fun _ _ _ _ r h => by simp [allocation_Descriptor.j0] at h
  | k + 1 => by
    have ih0 := allocation_Descriptor.mono_l k
    · intro y0 y1 y2 y3
      unfold allocation_Descriptor.j0
      repeat' first
      | (with_reducible exact ih0 _ _ _ _)
      | (with_reducible exact udftag_Block.mono _ _ _ _ _)
      | (with_reducible exact LeO.refl _)
      | (with_reducible exact LeO.none _)
      | (with_reducible refine LeO.ite ?_ ?_)
      | (with_reducible refine LeO.bind ?_ (fun _ => ?_))
      | exact ih0 _ _ _ _
      | exact udftag_Block.mono _ _ _ _ _
      | exact LeO.none _
      | refine LeO.ite ?_ ?_
      | refine LeO.bind ?_ (fun _ => ?_)
theorem allocation_Descriptor.mono : ∀ a0 a1 a2 k, LeO (allocation_Descriptor.f k a0 a1 a2) (allocation_Descriptor.f (k + 1) a0 a1 a2) := by
  intro a0 a1 a2 k
  have ih0 := allocation_Descriptor.mono_l k
  unfold allocation_Descriptor.f
  repeat' first
      | (with_reducible exact ih0 _ _ _ _)
      | (with_reducible exact udftag_Block.mono _ _ _ _ _)
      | (with_reducible exact LeO.refl _)
      | (with_reducible exact LeO.none _)
      | (with_reducible refine LeO.ite ?_ ?_)
      | (with_reducible refine LeO.bind ?_ (fun _ => ?_))
      | exact ih0 _ _ _ _
      | exact udftag_Block.mono _ _ _ _ _
      | exact LeO.none _
      | refine LeO.ite ?_ ?_
      | refine LeO.bind ?_ (fun _ => ?_)
set_option maxHeartbeats 8000000 in
set_option maxRecDepth 100000 in
theorem allocation_Descriptor.calls (k : Nat) (a0 : Int) (a1 : Int) (a2 : ByteArray) (r1 : ByteArray) (r2 : Int) (w : World) (h : allocation_Descriptor.f k a0 a1 a2 = some (r1, r2)) :
    Calls Try.prog 49 #[.int .i64 a0, .int .i64 a1, .string a2] w fun e w' => e = .returned (.tuple #[.string r1, .int .i64 r2]) ∧ Below w.heap.size w w' := by
  have HB := Aside0.mk (Below.refl w.heap.size w)
  have H : (if a0 < 0 then (allocation_Descriptor.j0 k a0 a1 a2 true) else (if a0 ≥ 4294967296 then (allocation_Descriptor.j0 k a0 a1 a2 true) else (if a1 < 0 then (allocation_Descriptor.j0 k a0 a1 a2 true) else (allocation_Descriptor.j0 k a0 a1 a2 (decide (a1 ≥ 4294967296)))))) = some (r1, r2) := h
  clear h
  have HC4 := Aside0.mk H
  clear H
  go_enter Try.func49, Try.ntmps49
  go_upto_region 1 with (fail)
  go_cut [8] (fun v8 wc => ∃ (kq : Nat) (x8_3 : Bool), v8 = .bool x8_3 ∧ Aside0 (allocation_Descriptor.j0 kq a0 a1 a2 x8_3 = some (r1, r2)) ∧ Aside0 (kq ≤ k) ∧ Aside0 (Below w.heap.size w wc))
  case first =>
    have H := HC4.out
    clear HC4
    by_cases c5 : a0 < 0
    · rw [if_pos c5] at H
      have c5b0 : decide (a0 < 0) = true := decide_eq_true c5
      clear c5
      (first | rw [c5b0] | (simp only [i64_w, i32_w]; rw [c5b0]) | skip)
      have H' := Aside0.mk H
      clear H
      go_wp2
      go_meet
      case rel => exact ⟨_, (true), (by first | rfl | (simp; done) | (simp [*]; done)), H', ⟨by first | omega | exact Nat.le_refl _⟩, ⟨by repeat (first | (with_reducible first | exact HB.out | apply below_alloc | apply pw_below_drewN | apply below_drew1) | exact HB.out)⟩⟩
    · rw [if_neg c5] at H
      have c5b0 : decide (a0 < 0) = false := decide_eq_false c5
      clear c5
      (first | rw [c5b0] | (simp only [i64_w, i32_w]; rw [c5b0]) | skip)
      by_cases c6 : a0 ≥ 4294967296
      · rw [if_pos c6] at H
        have c6b0 : decide (4294967296 ≤ a0) = true := decide_eq_true c6
        clear c6
        have H' := Aside0.mk H
        clear H
        go_wp2
        go_meet
        case rel => exact ⟨_, (true), (by first | rfl | (simp; done) | (simp [*]; done)), H', ⟨by first | omega | exact Nat.le_refl _⟩, ⟨by repeat (first | (with_reducible first | exact HB.out | apply below_alloc | apply pw_below_drewN | apply below_drew1) | exact HB.out)⟩⟩
      · rw [if_neg c6] at H
        have c6b0 : decide (4294967296 ≤ a0) = false := decide_eq_false c6
        clear c6
        by_cases c7 : a1 < 0
        · rw [if_pos c7] at H
          have c7b0 : decide (a1 < 0) = true := decide_eq_true c7
          clear c7
          have H' := Aside0.mk H
          clear H
          go_wp2
          go_meet
          case rel => exact ⟨_, (true), (by first | rfl | (simp; done) | (simp [*]; done)), H', ⟨by first | omega | exact Nat.le_refl _⟩, ⟨by repeat (first | (with_reducible first | exact HB.out | apply below_alloc | apply pw_below_drewN | apply below_drew1) | exact HB.out)⟩⟩
        · rw [if_neg c7] at H
          have c7b0 : decide (a1 < 0) = false := decide_eq_false c7
          clear c7
          have H' := Aside0.mk H
          clear H
          go_wp2
          go_meet
          case rel => exact ⟨_, (decide (a1 ≥ 4294967296)), (by first | rfl | (simp; done) | (simp [*]; done)), H', ⟨by first | omega | exact Nat.le_refl _⟩, ⟨by repeat (first | (with_reducible first | exact HB.out | apply below_alloc | apply pw_below_drewN | apply below_drew1) | exact HB.out)⟩⟩
  case rest =>
    clear HC4
    try clear p2
    try clear c4
    try clear c5
    try clear c5b0
    try clear c6
    try clear c6b0
    try clear c7
    try clear c7b0
    obtain ⟨kq, x8_3, rfl, HA, HJ3, HB⟩ := hcut
    cases kq with
    | zero => exact absurd HA.out (by simp [allocation_Descriptor.j0])
    | succ kj3 =>
      have H := HA.out
      clear HA
      simp only [allocation_Descriptor.j0] at H
      by_cases c8 : x8_3 = true
      · subst c8
        have H1 : (some ((⟨#[]⟩ : ByteArray), 2)) = some (r1, r2) := by rw [if_pos rfl] at H; exact H
        clear H
        have H := H1
        clear H1
        simp only [Option.some.injEq, Prod.mk.injEq] at H
        obtain ⟨rfl, rfl⟩ := H
        go_wp2
        go_ret2
        exact ⟨by first | rfl | (simp [errW_none, errW_some] <;> rfl) | (simp [*, errW_none, errW_some] <;> rfl), by repeat (first | (with_reducible first | exact HB.out | apply below_alloc | apply pw_below_drewN | apply below_drew1) | exact HB.out)⟩
      · replace c8 := Bool.eq_false_iff.mpr c8
        subst c8
        have H1 : (if (a2.size : Int) > 2024 then (some ((⟨#[]⟩ : ByteArray), 7)) else ((allocation_little.f a0 4).bind fun t441 => ((allocation_little.f (a2.size : Int) 4).bind fun t442 => (if t441.size + t442.size ≤ 9223372036854775807 then (if (t441 ++ t442).size + a2.size ≤ 9223372036854775807 then ((udftag_Block.f kj3 258 1 a1 ((t441 ++ t442) ++ a2)).bind fun bt443 => (some (bt443.1, bt443.2))) else (none)) else (none))))) = some (r1, r2) := by rw [if_neg (show ¬ (false = true) by decide)] at H; exact H
        clear H
        have H := H1
        clear H1
        by_cases c9 : (a2.size : Int) > 2024
        · rw [if_pos c9] at H
          have c9b0 : decide (2024 < (a2.size : Int)) = true := decide_eq_true c9
          have c9b1 : decide (2024 < a2.size) = true := decide_eq_true (by omega)
          clear c9
          simp only [Option.some.injEq, Prod.mk.injEq] at H
          obtain ⟨rfl, rfl⟩ := H
          go_wp2
          go_ret2
          exact ⟨by first | rfl | (simp [errW_none, errW_some] <;> rfl) | (simp [*, errW_none, errW_some] <;> rfl), by repeat (first | (with_reducible first | exact HB.out | apply below_alloc | apply pw_below_drewN | apply below_drew1) | exact HB.out)⟩
        · rw [if_neg c9] at H
          have c9b0 : decide (2024 < (a2.size : Int)) = false := decide_eq_false c9
          have c9b1 : decide (2024 < a2.size) = false := decide_eq_false (by omega)
          clear c9
          replace H := Option.bind_eq_some_iff.mp H
          obtain ⟨t441, A100, H⟩ := H
          replace H : ((allocation_little.f (a2.size : Int) 4).bind fun t442 => (if t441.size + t442.size ≤ 9223372036854775807 then (if (t441 ++ t442).size + a2.size ≤ 9223372036854775807 then ((udftag_Block.f kj3 258 1 a1 ((t441 ++ t442) ++ a2)).bind fun bt443 => (some (bt443.1, bt443.2))) else (none)) else (none))) = some (r1, r2) := H
          have A10 := Aside0.mk A100
          clear A100
          replace H := Option.bind_eq_some_iff.mp H
          obtain ⟨t442, A110, H⟩ := H
          replace H : (if t441.size + t442.size ≤ 9223372036854775807 then (if (t441 ++ t442).size + a2.size ≤ 9223372036854775807 then ((udftag_Block.f kj3 258 1 a1 ((t441 ++ t442) ++ a2)).bind fun bt443 => (some (bt443.1, bt443.2))) else (none)) else (none)) = some (r1, r2) := H
          have A11 := Aside0.mk A110
          clear A110
          by_cases c12 : t441.size + t442.size ≤ 9223372036854775807
          · rw [if_pos c12] at H
            have c12b0 := eq_true c12
            have c12b1 : decide (t441.size + t442.size ≤ 9223372036854775807) = true := decide_eq_true c12
            try have c12b2 : (9223372036854775807 < t441.size + t442.size) = False := eq_false (Nat.not_lt.2 c12)
            try (have c12b3 := c12b2; conv at c12b3 => lhs; simp [go_sem])
            by_cases c13 : (t441 ++ t442).size + a2.size ≤ 9223372036854775807
            · rw [if_pos c13] at H
              have c13b0 := eq_true c13
              have c13b1 : decide ((t441 ++ t442).size + a2.size ≤ 9223372036854775807) = true := decide_eq_true c13
              try have c13b2 : (9223372036854775807 < (t441 ++ t442).size + a2.size) = False := eq_false (Nat.not_lt.2 c13)
              try (have c13b3 := c13b2; conv at c13b3 => lhs; simp [go_sem])
              replace H := Option.bind_eq_some_iff.mp H
              obtain ⟨⟨t443, t444⟩, A140, H⟩ := H
              replace H : (some (t443, t444)) = some (r1, r2) := H
              have A14 := Aside0.mk A140
              clear A140
              simp only [Option.some.injEq, Prod.mk.injEq] at H
              obtain ⟨rfl, rfl⟩ := H
              go_wp2_with (first | ((with_reducible refine gate_callee (f := 107) rfl ?_); refine goesL_ (some 29) rfl rfl Try.func107 (by kernel_rfl) rfl #[.int .i64 a0, .int .i64 4] rfl (by (try simp only [List.map_toArray, List.map_cons, List.map_nil]); first | done | rfl | (simp only [List.length_drop, List.length_take]; rfl)) ?_; (with_reducible refine (allocation_little.calls a0 4 t441 _ A10.out).mono ?_); rintro e w15 ⟨rfl, hb⟩; refine ⟨_, rfl, ?_⟩; have n0_ := Aside0.mk (below_step (by repeat (first | (with_reducible first | exact HB.out | apply below_alloc | apply pw_below_drewN | apply below_drew1) | exact HB.out)) hb); clear HB; have HB := n0_; clear n0_; (try clear hb); (try clear hb2); (try clear hk); (try clear hi)) | ((with_reducible refine gate_callee (f := 107) rfl ?_); refine goesL_ (some 32) rfl rfl Try.func107 (by kernel_rfl) rfl #[.int .i64 (a2.size : Int), .int .i64 4] rfl (by (try simp only [List.map_toArray, List.map_cons, List.map_nil]); first | done | rfl | (simp only [List.length_drop, List.length_take]; rfl)) ?_; (with_reducible refine (allocation_little.calls (a2.size : Int) 4 t442 _ A11.out).mono ?_); rintro e w16 ⟨rfl, hb⟩; refine ⟨_, rfl, ?_⟩; have n0_ := Aside0.mk (below_step (by repeat (first | (with_reducible first | exact HB.out | apply below_alloc | apply pw_below_drewN | apply below_drew1) | exact HB.out)) hb); clear HB; have HB := n0_; clear n0_; (try clear hb); (try clear hb2); (try clear hk); (try clear hi)) | ((with_reducible refine gate_callee (f := 73) rfl ?_); refine goesL_ (some 36) rfl rfl Try.func73 (by kernel_rfl) rfl #[.int .i64 258, .int .i64 1, .int .i64 a1, .string ((t441 ++ t442) ++ a2)] rfl (by (try simp only [List.map_toArray, List.map_cons, List.map_nil]); first | done | rfl | (simp only [List.length_drop, List.length_take]; rfl)) ?_; (with_reducible refine (udftag_Block.calls kj3 258 1 a1 ((t441 ++ t442) ++ a2) t443 t444 _ A14.out).mono ?_); rintro e w17 ⟨rfl, hb⟩; refine ⟨_, rfl, ?_⟩; have n0_ := Aside0.mk (below_step (by repeat (first | (with_reducible first | exact HB.out | apply below_alloc | apply pw_below_drewN | apply below_drew1) | exact HB.out)) hb); clear HB; have HB := n0_; clear n0_; (try clear hb); (try clear hb2); (try clear hk); (try clear hi)))
              go_ret2
              exact ⟨by first | rfl | (simp [errW_none, errW_some] <;> rfl) | (simp [*, errW_none, errW_some] <;> rfl), by repeat (first | (with_reducible first | exact HB.out | apply below_alloc | apply pw_below_drewN | apply below_drew1) | exact HB.out)⟩
            · rw [if_neg c13] at H
              exact absurd H (by simp)
          · rw [if_neg c12] at H
            exact absurd H (by simp)

end Go.Proofs.Ytijbfebbogiiiaa.Q
