/- Contracts of Go functions: each call returns what the Lean function of its name says. Written by wip/gen.py (a patched print) for this claim. -/
import Derived.Test.YtijbfebbogiiiaaQ0
import Derived.Test.YtijbfebbogiiiaaQ17
import Derived.Test.YtijbfebbogiiiaaQ19
import Derived.Test.YtijbfebbogiiiaaQ33
import Derived.Test.YtijbfebbogiiiaaQ9
namespace Go.Proofs.Ytijbfebbogiiiaa.Q
open Go.RowKit Go.Proofs.YtijbfebbogiiiaaW.PrintWords Go.Proofs.YtijbfebbogiiiaaW.PrintLast Go.Proofs.YtijbfebbogiiiaaW.PrintMore
attribute [local go_sem] max2_int min2_int max_two min_two max_three min_three max_four min_four   -- for this text's walks alone
set_option linter.unusedVariables false
set_option linter.unusedSimpArgs false

/-! ### masterdiscref31_ranged: function 130 -/
def masterdiscref31_ranged.f (a0 : Int) (a1 : Int) (a2 : Int) : Option (Bool) := if a0 ≥ 0 then (if a0 < 65536 then (if a1 ≥ 0 then (if a1 < 65536 then (if a2 ≥ 0 then (some (decide (a2 < 4294967296))) else (some false)) else (some false)) else (some false)) else (some false)) else (some false)
set_option maxHeartbeats 8000000 in
set_option maxRecDepth 100000 in
theorem masterdiscref31_ranged.calls (a0 : Int) (a1 : Int) (a2 : Int) (r : Bool) (w : World) (h : masterdiscref31_ranged.f a0 a1 a2 = some r) :
    Calls Try.prog 130 #[.int .i64 a0, .int .i64 a1, .int .i64 a2] w fun e w' => e = .returned (.bool r) ∧ Drawn0 w w' := by
  have H : (if a0 ≥ 0 then (if a0 < 65536 then (if a1 ≥ 0 then (if a1 < 65536 then (if a2 ≥ 0 then (some (decide (a2 < 4294967296))) else (some false)) else (some false)) else (some false)) else (some false)) else (some false)) = some r := h
  clear h
  by_cases c4 : a0 ≥ 0
  · rw [if_pos c4] at H
    have c4b0 : decide (0 ≤ a0) = true := decide_eq_true c4
    clear c4
    by_cases c5 : a0 < 65536
    · rw [if_pos c5] at H
      have c5b0 : decide (a0 < 65536) = true := decide_eq_true c5
      clear c5
      by_cases c6 : a1 ≥ 0
      · rw [if_pos c6] at H
        have c6b0 : decide (0 ≤ a1) = true := decide_eq_true c6
        clear c6
        by_cases c7 : a1 < 65536
        · rw [if_pos c7] at H
          have c7b0 : decide (a1 < 65536) = true := decide_eq_true c7
          clear c7
          by_cases c8 : a2 ≥ 0
          · rw [if_pos c8] at H
            have c8b0 : decide (0 ≤ a2) = true := decide_eq_true c8
            clear c8
            obtain rfl := Option.some.inj H
            go_enter Try.func130, Try.ntmps130
            go_wp2
            go_ret
            exact ⟨by first | rfl | (simp; done) | (simp [*]; done), by repeat (first | exact Drawn0.refl _ | apply Drawn0.step)⟩
          · rw [if_neg c8] at H
            have c8b0 : decide (0 ≤ a2) = false := decide_eq_false c8
            clear c8
            obtain rfl := Option.some.inj H
            go_enter Try.func130, Try.ntmps130
            go_wp2
            go_ret
            exact ⟨by first | rfl | (simp; done) | (simp [*]; done), by repeat (first | exact Drawn0.refl _ | apply Drawn0.step)⟩
        · rw [if_neg c7] at H
          have c7b0 : decide (a1 < 65536) = false := decide_eq_false c7
          clear c7
          obtain rfl := Option.some.inj H
          go_enter Try.func130, Try.ntmps130
          go_wp2
          go_ret
          exact ⟨by first | rfl | (simp; done) | (simp [*]; done), by repeat (first | exact Drawn0.refl _ | apply Drawn0.step)⟩
      · rw [if_neg c6] at H
        have c6b0 : decide (0 ≤ a1) = false := decide_eq_false c6
        clear c6
        obtain rfl := Option.some.inj H
        go_enter Try.func130, Try.ntmps130
        go_wp2
        go_ret
        exact ⟨by first | rfl | (simp; done) | (simp [*]; done), by repeat (first | exact Drawn0.refl _ | apply Drawn0.step)⟩
    · rw [if_neg c5] at H
      have c5b0 : decide (a0 < 65536) = false := decide_eq_false c5
      clear c5
      obtain rfl := Option.some.inj H
      go_enter Try.func130, Try.ntmps130
      go_wp2
      go_ret
      exact ⟨by first | rfl | (simp; done) | (simp [*]; done), by repeat (first | exact Drawn0.refl _ | apply Drawn0.step)⟩
  · rw [if_neg c4] at H
    have c4b0 : decide (0 ≤ a0) = false := decide_eq_false c4
    clear c4
    obtain rfl := Option.some.inj H
    go_enter Try.func130, Try.ntmps130
    go_wp2
    go_ret
    exact ⟨by first | rfl | (simp; done) | (simp [*]; done), by repeat (first | exact Drawn0.refl _ | apply Drawn0.step)⟩

/-! ### masterdiscref31_Make: function 131 -/
def masterdiscref31_Make.f (k : Nat) (a0 : Int) (a1 : Int) (a2 : Int) (a3 : ByteArray) : Option (ByteArray) := (masterdiscref01_Bytes.f k a0 2).bind fun t416 => (if t416.size + 4 ≤ 9223372036854775807 then ((masterdiscref01_Bytes.f k a1 2).bind fun t417 => (if (t416 ++ (⟨#[3, 0, 0, 0]⟩ : ByteArray)).size + t417.size ≤ 9223372036854775807 then ((masterdiscref02_CRC16.f k a3).bind fun t418 => ((masterdiscref01_Bytes.f k (wrap64 (t418)) 2).bind fun t419 => (if ((t416 ++ (⟨#[3, 0, 0, 0]⟩ : ByteArray)) ++ t417).size + t419.size ≤ 9223372036854775807 then ((masterdiscref01_Bytes.f k (a3.size : Int) 2).bind fun t420 => (if (((t416 ++ (⟨#[3, 0, 0, 0]⟩ : ByteArray)) ++ t417) ++ t419).size + t420.size ≤ 9223372036854775807 then ((masterdiscref01_Bytes.f k a2 4).bind fun t421 => (if ((((t416 ++ (⟨#[3, 0, 0, 0]⟩ : ByteArray)) ++ t417) ++ t419) ++ t420).size + t421.size ≤ 9223372036854775807 then ((masterdiscref31_summed.f k (((((t416 ++ (⟨#[3, 0, 0, 0]⟩ : ByteArray)) ++ t417) ++ t419) ++ t420) ++ t421)).bind fun t422 => (if t422.size + a3.size ≤ 9223372036854775807 then (some (t422 ++ a3)) else (none))) else (none))) else (none))) else (none)))) else (none))) else (none))
theorem masterdiscref31_Make.mono : ∀ a0 a1 a2 a3 k, LeO (masterdiscref31_Make.f k a0 a1 a2 a3) (masterdiscref31_Make.f (k + 1) a0 a1 a2 a3) := by
  intro a0 a1 a2 a3 k
  unfold masterdiscref31_Make.f
  repeat' first
      | (with_reducible exact masterdiscref01_Bytes.mono _ _ _)
      | (with_reducible exact masterdiscref02_CRC16.mono _ _)
      | (with_reducible exact masterdiscref31_summed.mono _ _)
      | (with_reducible exact LeO.refl _)
      | (with_reducible exact LeO.none _)
      | (with_reducible refine LeO.ite ?_ ?_)
      | (with_reducible refine LeO.bind ?_ (fun _ => ?_))
      | exact masterdiscref01_Bytes.mono _ _ _
      | exact masterdiscref02_CRC16.mono _ _
      | exact masterdiscref31_summed.mono _ _
      | exact LeO.none _
      | refine LeO.ite ?_ ?_
      | refine LeO.bind ?_ (fun _ => ?_)
set_option maxHeartbeats 8000000 in
set_option maxRecDepth 100000 in
theorem masterdiscref31_Make.calls (k : Nat) (a0 : Int) (a1 : Int) (a2 : Int) (a3 : ByteArray) (r : ByteArray) (w : World) (h : masterdiscref31_Make.f k a0 a1 a2 a3 = some r) :
    Calls Try.prog 131 #[.int .i64 a0, .int .i64 a1, .int .i64 a2, .string a3] w fun e w' => e = .returned (.string r) ∧ Below w.heap.size w w' := by
  have HB := Aside0.mk (Below.refl w.heap.size w)
  have H : ((masterdiscref01_Bytes.f k a0 2).bind fun t416 => (if t416.size + 4 ≤ 9223372036854775807 then ((masterdiscref01_Bytes.f k a1 2).bind fun t417 => (if (t416 ++ (⟨#[3, 0, 0, 0]⟩ : ByteArray)).size + t417.size ≤ 9223372036854775807 then ((masterdiscref02_CRC16.f k a3).bind fun t418 => ((masterdiscref01_Bytes.f k (wrap64 (t418)) 2).bind fun t419 => (if ((t416 ++ (⟨#[3, 0, 0, 0]⟩ : ByteArray)) ++ t417).size + t419.size ≤ 9223372036854775807 then ((masterdiscref01_Bytes.f k (a3.size : Int) 2).bind fun t420 => (if (((t416 ++ (⟨#[3, 0, 0, 0]⟩ : ByteArray)) ++ t417) ++ t419).size + t420.size ≤ 9223372036854775807 then ((masterdiscref01_Bytes.f k a2 4).bind fun t421 => (if ((((t416 ++ (⟨#[3, 0, 0, 0]⟩ : ByteArray)) ++ t417) ++ t419) ++ t420).size + t421.size ≤ 9223372036854775807 then ((masterdiscref31_summed.f k (((((t416 ++ (⟨#[3, 0, 0, 0]⟩ : ByteArray)) ++ t417) ++ t419) ++ t420) ++ t421)).bind fun t422 => (if t422.size + a3.size ≤ 9223372036854775807 then (some (t422 ++ a3)) else (none))) else (none))) else (none))) else (none)))) else (none))) else (none))) = some r := h
  clear h
  replace H := Option.bind_eq_some_iff.mp H
  obtain ⟨t416, A50, H⟩ := H
  replace H : (if t416.size + 4 ≤ 9223372036854775807 then ((masterdiscref01_Bytes.f k a1 2).bind fun t417 => (if (t416 ++ (⟨#[3, 0, 0, 0]⟩ : ByteArray)).size + t417.size ≤ 9223372036854775807 then ((masterdiscref02_CRC16.f k a3).bind fun t418 => ((masterdiscref01_Bytes.f k (wrap64 (t418)) 2).bind fun t419 => (if ((t416 ++ (⟨#[3, 0, 0, 0]⟩ : ByteArray)) ++ t417).size + t419.size ≤ 9223372036854775807 then ((masterdiscref01_Bytes.f k (a3.size : Int) 2).bind fun t420 => (if (((t416 ++ (⟨#[3, 0, 0, 0]⟩ : ByteArray)) ++ t417) ++ t419).size + t420.size ≤ 9223372036854775807 then ((masterdiscref01_Bytes.f k a2 4).bind fun t421 => (if ((((t416 ++ (⟨#[3, 0, 0, 0]⟩ : ByteArray)) ++ t417) ++ t419) ++ t420).size + t421.size ≤ 9223372036854775807 then ((masterdiscref31_summed.f k (((((t416 ++ (⟨#[3, 0, 0, 0]⟩ : ByteArray)) ++ t417) ++ t419) ++ t420) ++ t421)).bind fun t422 => (if t422.size + a3.size ≤ 9223372036854775807 then (some (t422 ++ a3)) else (none))) else (none))) else (none))) else (none)))) else (none))) else (none)) = some r := H
  have A5 := Aside0.mk A50
  clear A50
  by_cases c6 : t416.size + 4 ≤ 9223372036854775807
  · rw [if_pos c6] at H
    have c6b0 := eq_true c6
    have c6b1 : decide (t416.size + 4 ≤ 9223372036854775807) = true := decide_eq_true c6
    try have c6b2 : (9223372036854775807 < t416.size + 4) = False := eq_false (Nat.not_lt.2 c6)
    try (have c6b3 := c6b2; conv at c6b3 => lhs; simp [go_sem])
    replace H := Option.bind_eq_some_iff.mp H
    obtain ⟨t417, A70, H⟩ := H
    replace H : (if (t416 ++ (⟨#[3, 0, 0, 0]⟩ : ByteArray)).size + t417.size ≤ 9223372036854775807 then ((masterdiscref02_CRC16.f k a3).bind fun t418 => ((masterdiscref01_Bytes.f k (wrap64 (t418)) 2).bind fun t419 => (if ((t416 ++ (⟨#[3, 0, 0, 0]⟩ : ByteArray)) ++ t417).size + t419.size ≤ 9223372036854775807 then ((masterdiscref01_Bytes.f k (a3.size : Int) 2).bind fun t420 => (if (((t416 ++ (⟨#[3, 0, 0, 0]⟩ : ByteArray)) ++ t417) ++ t419).size + t420.size ≤ 9223372036854775807 then ((masterdiscref01_Bytes.f k a2 4).bind fun t421 => (if ((((t416 ++ (⟨#[3, 0, 0, 0]⟩ : ByteArray)) ++ t417) ++ t419) ++ t420).size + t421.size ≤ 9223372036854775807 then ((masterdiscref31_summed.f k (((((t416 ++ (⟨#[3, 0, 0, 0]⟩ : ByteArray)) ++ t417) ++ t419) ++ t420) ++ t421)).bind fun t422 => (if t422.size + a3.size ≤ 9223372036854775807 then (some (t422 ++ a3)) else (none))) else (none))) else (none))) else (none)))) else (none)) = some r := H
    have A7 := Aside0.mk A70
    clear A70
    by_cases c8 : (t416 ++ (⟨#[3, 0, 0, 0]⟩ : ByteArray)).size + t417.size ≤ 9223372036854775807
    · rw [if_pos c8] at H
      have c8b0 := eq_true c8
      have c8b1 : decide ((t416 ++ (⟨#[3, 0, 0, 0]⟩ : ByteArray)).size + t417.size ≤ 9223372036854775807) = true := decide_eq_true c8
      try have c8b2 : (9223372036854775807 < (t416 ++ (⟨#[3, 0, 0, 0]⟩ : ByteArray)).size + t417.size) = False := eq_false (Nat.not_lt.2 c8)
      try (have c8b3 := c8b2; conv at c8b3 => lhs; simp [go_sem])
      replace H := Option.bind_eq_some_iff.mp H
      obtain ⟨t418, A90, H⟩ := H
      replace H : ((masterdiscref01_Bytes.f k (wrap64 (t418)) 2).bind fun t419 => (if ((t416 ++ (⟨#[3, 0, 0, 0]⟩ : ByteArray)) ++ t417).size + t419.size ≤ 9223372036854775807 then ((masterdiscref01_Bytes.f k (a3.size : Int) 2).bind fun t420 => (if (((t416 ++ (⟨#[3, 0, 0, 0]⟩ : ByteArray)) ++ t417) ++ t419).size + t420.size ≤ 9223372036854775807 then ((masterdiscref01_Bytes.f k a2 4).bind fun t421 => (if ((((t416 ++ (⟨#[3, 0, 0, 0]⟩ : ByteArray)) ++ t417) ++ t419) ++ t420).size + t421.size ≤ 9223372036854775807 then ((masterdiscref31_summed.f k (((((t416 ++ (⟨#[3, 0, 0, 0]⟩ : ByteArray)) ++ t417) ++ t419) ++ t420) ++ t421)).bind fun t422 => (if t422.size + a3.size ≤ 9223372036854775807 then (some (t422 ++ a3)) else (none))) else (none))) else (none))) else (none))) = some r := H
      have A9 := Aside0.mk A90
      clear A90
      replace H := Option.bind_eq_some_iff.mp H
      obtain ⟨t419, A100, H⟩ := H
      replace H : (if ((t416 ++ (⟨#[3, 0, 0, 0]⟩ : ByteArray)) ++ t417).size + t419.size ≤ 9223372036854775807 then ((masterdiscref01_Bytes.f k (a3.size : Int) 2).bind fun t420 => (if (((t416 ++ (⟨#[3, 0, 0, 0]⟩ : ByteArray)) ++ t417) ++ t419).size + t420.size ≤ 9223372036854775807 then ((masterdiscref01_Bytes.f k a2 4).bind fun t421 => (if ((((t416 ++ (⟨#[3, 0, 0, 0]⟩ : ByteArray)) ++ t417) ++ t419) ++ t420).size + t421.size ≤ 9223372036854775807 then ((masterdiscref31_summed.f k (((((t416 ++ (⟨#[3, 0, 0, 0]⟩ : ByteArray)) ++ t417) ++ t419) ++ t420) ++ t421)).bind fun t422 => (if t422.size + a3.size ≤ 9223372036854775807 then (some (t422 ++ a3)) else (none))) else (none))) else (none))) else (none)) = some r := H
      have A10 := Aside0.mk A100
      clear A100
      by_cases c11 : ((t416 ++ (⟨#[3, 0, 0, 0]⟩ : ByteArray)) ++ t417).size + t419.size ≤ 9223372036854775807
      · rw [if_pos c11] at H
        have c11b0 := eq_true c11
        have c11b1 : decide (((t416 ++ (⟨#[3, 0, 0, 0]⟩ : ByteArray)) ++ t417).size + t419.size ≤ 9223372036854775807) = true := decide_eq_true c11
        try have c11b2 : (9223372036854775807 < ((t416 ++ (⟨#[3, 0, 0, 0]⟩ : ByteArray)) ++ t417).size + t419.size) = False := eq_false (Nat.not_lt.2 c11)
        try (have c11b3 := c11b2; conv at c11b3 => lhs; simp [go_sem])
        replace H := Option.bind_eq_some_iff.mp H
        obtain ⟨t420, A120, H⟩ := H
        replace H : (if (((t416 ++ (⟨#[3, 0, 0, 0]⟩ : ByteArray)) ++ t417) ++ t419).size + t420.size ≤ 9223372036854775807 then ((masterdiscref01_Bytes.f k a2 4).bind fun t421 => (if ((((t416 ++ (⟨#[3, 0, 0, 0]⟩ : ByteArray)) ++ t417) ++ t419) ++ t420).size + t421.size ≤ 9223372036854775807 then ((masterdiscref31_summed.f k (((((t416 ++ (⟨#[3, 0, 0, 0]⟩ : ByteArray)) ++ t417) ++ t419) ++ t420) ++ t421)).bind fun t422 => (if t422.size + a3.size ≤ 9223372036854775807 then (some (t422 ++ a3)) else (none))) else (none))) else (none)) = some r := H
        have A12 := Aside0.mk A120
        clear A120
        by_cases c13 : (((t416 ++ (⟨#[3, 0, 0, 0]⟩ : ByteArray)) ++ t417) ++ t419).size + t420.size ≤ 9223372036854775807
        · rw [if_pos c13] at H
          have c13b0 := eq_true c13
          have c13b1 : decide ((((t416 ++ (⟨#[3, 0, 0, 0]⟩ : ByteArray)) ++ t417) ++ t419).size + t420.size ≤ 9223372036854775807) = true := decide_eq_true c13
          try have c13b2 : (9223372036854775807 < (((t416 ++ (⟨#[3, 0, 0, 0]⟩ : ByteArray)) ++ t417) ++ t419).size + t420.size) = False := eq_false (Nat.not_lt.2 c13)
          try (have c13b3 := c13b2; conv at c13b3 => lhs; simp [go_sem])
          replace H := Option.bind_eq_some_iff.mp H
          obtain ⟨t421, A140, H⟩ := H
          replace H : (if ((((t416 ++ (⟨#[3, 0, 0, 0]⟩ : ByteArray)) ++ t417) ++ t419) ++ t420).size + t421.size ≤ 9223372036854775807 then ((masterdiscref31_summed.f k (((((t416 ++ (⟨#[3, 0, 0, 0]⟩ : ByteArray)) ++ t417) ++ t419) ++ t420) ++ t421)).bind fun t422 => (if t422.size + a3.size ≤ 9223372036854775807 then (some (t422 ++ a3)) else (none))) else (none)) = some r := H
          have A14 := Aside0.mk A140
          clear A140
          by_cases c15 : ((((t416 ++ (⟨#[3, 0, 0, 0]⟩ : ByteArray)) ++ t417) ++ t419) ++ t420).size + t421.size ≤ 9223372036854775807
          · rw [if_pos c15] at H
            have c15b0 := eq_true c15
            have c15b1 : decide (((((t416 ++ (⟨#[3, 0, 0, 0]⟩ : ByteArray)) ++ t417) ++ t419) ++ t420).size + t421.size ≤ 9223372036854775807) = true := decide_eq_true c15
            try have c15b2 : (9223372036854775807 < ((((t416 ++ (⟨#[3, 0, 0, 0]⟩ : ByteArray)) ++ t417) ++ t419) ++ t420).size + t421.size) = False := eq_false (Nat.not_lt.2 c15)
            try (have c15b3 := c15b2; conv at c15b3 => lhs; simp [go_sem])
            replace H := Option.bind_eq_some_iff.mp H
            obtain ⟨t422, A160, H⟩ := H
            replace H : (if t422.size + a3.size ≤ 9223372036854775807 then (some (t422 ++ a3)) else (none)) = some r := H
            have A16 := Aside0.mk A160
            clear A160
            by_cases c17 : t422.size + a3.size ≤ 9223372036854775807
            · rw [if_pos c17] at H
              have c17b0 := eq_true c17
              have c17b1 : decide (t422.size + a3.size ≤ 9223372036854775807) = true := decide_eq_true c17
              try have c17b2 : (9223372036854775807 < t422.size + a3.size) = False := eq_false (Nat.not_lt.2 c17)
              try (have c17b3 := c17b2; conv at c17b3 => lhs; simp [go_sem])
              obtain rfl := Option.some.inj H
              go_enter Try.func131, Try.ntmps131
              go_wp2_with (first | ((with_reducible refine gate_callee (f := 108) rfl ?_); refine goesL_ (some 11) rfl rfl Try.func108 (by kernel_rfl) rfl #[.int .i64 a0, .int .i64 2] rfl (by (try simp only [List.map_toArray, List.map_cons, List.map_nil]); first | done | rfl | (simp only [List.length_drop, List.length_take]; rfl)) ?_; (with_reducible refine (masterdiscref01_Bytes.calls k a0 2 t416 _ A5.out).mono ?_); rintro e w18 ⟨rfl, hb⟩; refine ⟨_, rfl, ?_⟩; have n0_ := Aside0.mk (below_step (by repeat (first | (with_reducible first | exact HB.out | apply below_alloc | apply pw_below_drewN | apply below_drew1) | exact HB.out)) hb); clear HB; have HB := n0_; clear n0_; (try clear hb); (try clear hb2); (try clear hk); (try clear hi)) | ((with_reducible refine gate_callee (f := 108) rfl ?_); refine goesL_ (some 14) rfl rfl Try.func108 (by kernel_rfl) rfl #[.int .i64 a1, .int .i64 2] rfl (by (try simp only [List.map_toArray, List.map_cons, List.map_nil]); first | done | rfl | (simp only [List.length_drop, List.length_take]; rfl)) ?_; (with_reducible refine (masterdiscref01_Bytes.calls k a1 2 t417 _ A7.out).mono ?_); rintro e w19 ⟨rfl, hb⟩; refine ⟨_, rfl, ?_⟩; have n0_ := Aside0.mk (below_step (by repeat (first | (with_reducible first | exact HB.out | apply below_alloc | apply pw_below_drewN | apply below_drew1) | exact HB.out)) hb); clear HB; have HB := n0_; clear n0_; (try clear hb); (try clear hb2); (try clear hk); (try clear hi)) | ((with_reducible refine gate_callee (f := 124) rfl ?_); refine goesL_ (some 18) rfl rfl Try.func124 (by kernel_rfl) rfl #[.string a3] rfl (by (try simp only [List.map_toArray, List.map_cons, List.map_nil]); first | done | rfl | (simp only [List.length_drop, List.length_take]; rfl)) ?_; (with_reducible refine (masterdiscref02_CRC16.calls k a3 t418 _ A9.out).mono ?_); rintro e w' ⟨rfl, ⟨nd, rfl⟩⟩; refine ⟨_, rfl, ?_⟩) | ((with_reducible refine gate_callee (f := 108) rfl ?_); refine goesL_ (some 20) rfl rfl Try.func108 (by kernel_rfl) rfl #[.int .i64 (wrap64 (t418)), .int .i64 2] rfl (by (try simp only [List.map_toArray, List.map_cons, List.map_nil]); first | done | rfl | (simp only [List.length_drop, List.length_take]; rfl)) ?_; (with_reducible refine (masterdiscref01_Bytes.calls k (wrap64 (t418)) 2 t419 _ A10.out).mono ?_); rintro e w20 ⟨rfl, hb⟩; refine ⟨_, rfl, ?_⟩; have n0_ := Aside0.mk (below_step (by repeat (first | (with_reducible first | exact HB.out | apply below_alloc | apply pw_below_drewN | apply below_drew1) | exact HB.out)) hb); clear HB; have HB := n0_; clear n0_; (try clear hb); (try clear hb2); (try clear hk); (try clear hi)) | ((with_reducible refine gate_callee (f := 108) rfl ?_); refine goesL_ (some 24) rfl rfl Try.func108 (by kernel_rfl) rfl #[.int .i64 (a3.size : Int), .int .i64 2] rfl (by (try simp only [List.map_toArray, List.map_cons, List.map_nil]); first | done | rfl | (simp only [List.length_drop, List.length_take]; rfl)) ?_; (with_reducible refine (masterdiscref01_Bytes.calls k (a3.size : Int) 2 t420 _ A12.out).mono ?_); rintro e w21 ⟨rfl, hb⟩; refine ⟨_, rfl, ?_⟩; have n0_ := Aside0.mk (below_step (by repeat (first | (with_reducible first | exact HB.out | apply below_alloc | apply pw_below_drewN | apply below_drew1) | exact HB.out)) hb); clear HB; have HB := n0_; clear n0_; (try clear hb); (try clear hb2); (try clear hk); (try clear hi)) | ((with_reducible refine gate_callee (f := 108) rfl ?_); refine goesL_ (some 27) rfl rfl Try.func108 (by kernel_rfl) rfl #[.int .i64 a2, .int .i64 4] rfl (by (try simp only [List.map_toArray, List.map_cons, List.map_nil]); first | done | rfl | (simp only [List.length_drop, List.length_take]; rfl)) ?_; (with_reducible refine (masterdiscref01_Bytes.calls k a2 4 t421 _ A14.out).mono ?_); rintro e w22 ⟨rfl, hb⟩; refine ⟨_, rfl, ?_⟩; have n0_ := Aside0.mk (below_step (by repeat (first | (with_reducible first | exact HB.out | apply below_alloc | apply pw_below_drewN | apply below_drew1) | exact HB.out)) hb); clear HB; have HB := n0_; clear n0_; (try clear hb); (try clear hb2); (try clear hk); (try clear hi)) | ((with_reducible refine gate_callee (f := 118) rfl ?_); refine goesL_ (some 30) rfl rfl Try.func118 (by kernel_rfl) rfl #[.string (((((t416 ++ (⟨#[3, 0, 0, 0]⟩ : ByteArray)) ++ t417) ++ t419) ++ t420) ++ t421)] rfl (by (try simp only [List.map_toArray, List.map_cons, List.map_nil]); first | done | rfl | (simp only [List.length_drop, List.length_take]; rfl)) ?_; (with_reducible refine (masterdiscref31_summed.calls k (((((t416 ++ (⟨#[3, 0, 0, 0]⟩ : ByteArray)) ++ t417) ++ t419) ++ t420) ++ t421) t422 _ A16.out).mono ?_); rintro e w23 ⟨rfl, hb⟩; refine ⟨_, rfl, ?_⟩; have n0_ := Aside0.mk (below_step (by repeat (first | (with_reducible first | exact HB.out | apply below_alloc | apply pw_below_drewN | apply below_drew1) | exact HB.out)) hb); clear HB; have HB := n0_; clear n0_; (try clear hb); (try clear hb2); (try clear hk); (try clear hi)))
              go_ret
              exact ⟨by first | rfl | (simp [errW_none, errW_some] <;> rfl) | (simp [*, errW_none, errW_some] <;> rfl), by repeat (first | (with_reducible first | exact HB.out | apply below_alloc | apply pw_below_drewN | apply below_drew1) | exact HB.out)⟩
            · rw [if_neg c17] at H
              exact absurd H (by simp)
          · rw [if_neg c15] at H
            exact absurd H (by simp)
        · rw [if_neg c13] at H
          exact absurd H (by simp)
      · rw [if_neg c11] at H
        exact absurd H (by simp)
    · rw [if_neg c8] at H
      exact absurd H (by simp)
  · rw [if_neg c6] at H
    exact absurd H (by simp)

/-! ### masterdiscref31_Pad: function 133 -/
def masterdiscref31_Pad.f (k : Nat) (a0 : ByteArray) (a1 : Int) : Option (ByteArray) := (masterdiscref01_Repeat.f k 0 (wrap64 (a1 - (a0.size : Int)))).bind fun t423 => (if a0.size + t423.size ≤ 9223372036854775807 then (some (a0 ++ t423)) else (none))
theorem masterdiscref31_Pad.mono : ∀ a0 a1 k, LeO (masterdiscref31_Pad.f k a0 a1) (masterdiscref31_Pad.f (k + 1) a0 a1) := by
  intro a0 a1 k
  unfold masterdiscref31_Pad.f
  repeat' first
      | (with_reducible exact masterdiscref01_Repeat.mono _ _ _)
      | (with_reducible exact LeO.refl _)
      | (with_reducible exact LeO.none _)
      | (with_reducible refine LeO.ite ?_ ?_)
      | (with_reducible refine LeO.bind ?_ (fun _ => ?_))
      | exact masterdiscref01_Repeat.mono _ _ _
      | exact LeO.none _
      | refine LeO.ite ?_ ?_
      | refine LeO.bind ?_ (fun _ => ?_)
set_option maxHeartbeats 8000000 in
set_option maxRecDepth 100000 in
theorem masterdiscref31_Pad.calls (k : Nat) (a0 : ByteArray) (a1 : Int) (r : ByteArray) (w : World) (h : masterdiscref31_Pad.f k a0 a1 = some r) :
    Calls Try.prog 133 #[.string a0, .int .i64 a1] w fun e w' => e = .returned (.string r) ∧ Below w.heap.size w w' := by
  have HB := Aside0.mk (Below.refl w.heap.size w)
  have H : ((masterdiscref01_Repeat.f k 0 (wrap64 (a1 - (a0.size : Int)))).bind fun t423 => (if a0.size + t423.size ≤ 9223372036854775807 then (some (a0 ++ t423)) else (none))) = some r := h
  clear h
  replace H := Option.bind_eq_some_iff.mp H
  obtain ⟨t423, A30, H⟩ := H
  replace H : (if a0.size + t423.size ≤ 9223372036854775807 then (some (a0 ++ t423)) else (none)) = some r := H
  have A3 := Aside0.mk A30
  clear A30
  by_cases c4 : a0.size + t423.size ≤ 9223372036854775807
  · rw [if_pos c4] at H
    have c4b0 := eq_true c4
    have c4b1 : decide (a0.size + t423.size ≤ 9223372036854775807) = true := decide_eq_true c4
    try have c4b2 : (9223372036854775807 < a0.size + t423.size) = False := eq_false (Nat.not_lt.2 c4)
    try (have c4b3 := c4b2; conv at c4b3 => lhs; simp [go_sem])
    obtain rfl := Option.some.inj H
    go_enter Try.func133, Try.ntmps133
    go_wp2_with (first | ((with_reducible refine gate_callee (f := 109) rfl ?_); refine goesL_ (some 10) rfl rfl Try.func109 (by kernel_rfl) rfl #[.int .u8 0, .int .i64 (wrap64 (a1 - (a0.size : Int)))] rfl (by (try simp only [List.map_toArray, List.map_cons, List.map_nil]); first | done | rfl | (simp only [List.length_drop, List.length_take]; rfl)) ?_; (with_reducible refine (masterdiscref01_Repeat.calls k 0 (wrap64 (a1 - (a0.size : Int))) t423 _ A3.out).mono ?_); rintro e w5 ⟨rfl, hb⟩; refine ⟨_, rfl, ?_⟩; have n0_ := Aside0.mk (below_step (by repeat (first | (with_reducible first | exact HB.out | apply below_alloc | apply pw_below_drewN | apply below_drew1) | exact HB.out)) hb); clear HB; have HB := n0_; clear n0_; (try clear hb); (try clear hb2); (try clear hk); (try clear hi)))
    go_ret
    exact ⟨by first | rfl | (simp [errW_none, errW_some] <;> rfl) | (simp [*, errW_none, errW_some] <;> rfl), by repeat (first | (with_reducible first | exact HB.out | apply below_alloc | apply pw_below_drewN | apply below_drew1) | exact HB.out)⟩
  · rw [if_neg c4] at H
    exact absurd H (by simp)

/-! ### masterdiscref31_Block: function 74 -/
def masterdiscref31_Block.f (k : Nat) (a0 : Int) (a1 : Int) (a2 : Int) (a3 : ByteArray) : Option (ByteArray × Int) := (masterdiscref31_ranged.f a0 a1 a2).bind fun t424 => (if t424 = true then (if (a3.size : Int) > 2032 then (some ((⟨#[]⟩ : ByteArray), 7)) else ((masterdiscref31_Make.f k a0 a1 a2 a3).bind fun t425 => ((masterdiscref31_Pad.f k t425 2048).bind fun t426 => (some (t426, 0))))) else (some ((⟨#[]⟩ : ByteArray), 2)))
theorem masterdiscref31_Block.mono : ∀ a0 a1 a2 a3 k, LeO (masterdiscref31_Block.f k a0 a1 a2 a3) (masterdiscref31_Block.f (k + 1) a0 a1 a2 a3) := by
  intro a0 a1 a2 a3 k
  unfold masterdiscref31_Block.f
  repeat' first
      | (with_reducible exact masterdiscref31_Make.mono _ _ _ _ _)
      | (with_reducible exact masterdiscref31_Pad.mono _ _ _)
      | (with_reducible exact LeO.refl _)
      | (with_reducible exact LeO.none _)
      | (with_reducible refine LeO.ite ?_ ?_)
      | (with_reducible refine LeO.bind ?_ (fun _ => ?_))
      | exact masterdiscref31_Make.mono _ _ _ _ _
      | exact masterdiscref31_Pad.mono _ _ _
      | exact LeO.none _
      | refine LeO.ite ?_ ?_
      | refine LeO.bind ?_ (fun _ => ?_)
set_option maxHeartbeats 8000000 in
set_option maxRecDepth 100000 in
theorem masterdiscref31_Block.calls (k : Nat) (a0 : Int) (a1 : Int) (a2 : Int) (a3 : ByteArray) (r1 : ByteArray) (r2 : Int) (w : World) (h : masterdiscref31_Block.f k a0 a1 a2 a3 = some (r1, r2)) :
    Calls Try.prog 74 #[.int .i64 a0, .int .i64 a1, .int .i64 a2, .string a3] w fun e w' => e = .returned (.tuple #[.string r1, .int .i64 r2]) ∧ Below w.heap.size w w' := by
  have HB := Aside0.mk (Below.refl w.heap.size w)
  have H : ((masterdiscref31_ranged.f a0 a1 a2).bind fun t424 => (if t424 = true then (if (a3.size : Int) > 2032 then (some ((⟨#[]⟩ : ByteArray), 7)) else ((masterdiscref31_Make.f k a0 a1 a2 a3).bind fun t425 => ((masterdiscref31_Pad.f k t425 2048).bind fun t426 => (some (t426, 0))))) else (some ((⟨#[]⟩ : ByteArray), 2)))) = some (r1, r2) := h
  clear h
  replace H := Option.bind_eq_some_iff.mp H
  obtain ⟨t424, A50, H⟩ := H
  replace H : (if t424 = true then (if (a3.size : Int) > 2032 then (some ((⟨#[]⟩ : ByteArray), 7)) else ((masterdiscref31_Make.f k a0 a1 a2 a3).bind fun t425 => ((masterdiscref31_Pad.f k t425 2048).bind fun t426 => (some (t426, 0))))) else (some ((⟨#[]⟩ : ByteArray), 2))) = some (r1, r2) := H
  have A5 := Aside0.mk A50
  clear A50
  by_cases c6 : t424 = true
  · subst c6
    have H1 : (if (a3.size : Int) > 2032 then (some ((⟨#[]⟩ : ByteArray), 7)) else ((masterdiscref31_Make.f k a0 a1 a2 a3).bind fun t425 => ((masterdiscref31_Pad.f k t425 2048).bind fun t426 => (some (t426, 0))))) = some (r1, r2) := by rw [if_pos rfl] at H; exact H
    clear H
    have H := H1
    clear H1
    by_cases c7 : (a3.size : Int) > 2032
    · rw [if_pos c7] at H
      have c7b0 : decide (2032 < (a3.size : Int)) = true := decide_eq_true c7
      have c7b1 : decide (2032 < a3.size) = true := decide_eq_true (by omega)
      clear c7
      simp only [Option.some.injEq, Prod.mk.injEq] at H
      obtain ⟨rfl, rfl⟩ := H
      go_enter Try.func74, Try.ntmps74
      go_wp2_with (first | ((with_reducible refine gate_callee (f := 130) rfl ?_); refine goesL_ (some 13) rfl rfl Try.func130 (by kernel_rfl) rfl #[.int .i64 a0, .int .i64 a1, .int .i64 a2] rfl (by (try simp only [List.map_toArray, List.map_cons, List.map_nil]); first | done | rfl | (simp only [List.length_drop, List.length_take]; rfl)) ?_; (with_reducible refine (masterdiscref31_ranged.calls a0 a1 a2 true _ A5.out).mono ?_); rintro e w' ⟨rfl, ⟨nd, rfl⟩⟩; refine ⟨_, rfl, ?_⟩))
      go_ret2
      exact ⟨by first | rfl | (simp [errW_none, errW_some] <;> rfl) | (simp [*, errW_none, errW_some] <;> rfl), by repeat (first | (with_reducible first | exact HB.out | apply below_alloc | apply pw_below_drewN | apply below_drew1) | exact HB.out)⟩
    · rw [if_neg c7] at H
      have c7b0 : decide (2032 < (a3.size : Int)) = false := decide_eq_false c7
      have c7b1 : decide (2032 < a3.size) = false := decide_eq_false (by omega)
      clear c7
      replace H := Option.bind_eq_some_iff.mp H
      obtain ⟨t425, A80, H⟩ := H
      replace H : ((masterdiscref31_Pad.f k t425 2048).bind fun t426 => (some (t426, 0))) = some (r1, r2) := H
      have A8 := Aside0.mk A80
      clear A80
      replace H := Option.bind_eq_some_iff.mp H
      obtain ⟨t426, A90, H⟩ := H
      replace H : (some (t426, 0)) = some (r1, r2) := H
      have A9 := Aside0.mk A90
      clear A90
      simp only [Option.some.injEq, Prod.mk.injEq] at H
      obtain ⟨rfl, rfl⟩ := H
      go_enter Try.func74, Try.ntmps74
      go_wp2_with (first | ((with_reducible refine gate_callee (f := 130) rfl ?_); refine goesL_ (some 13) rfl rfl Try.func130 (by kernel_rfl) rfl #[.int .i64 a0, .int .i64 a1, .int .i64 a2] rfl (by (try simp only [List.map_toArray, List.map_cons, List.map_nil]); first | done | rfl | (simp only [List.length_drop, List.length_take]; rfl)) ?_; (with_reducible refine (masterdiscref31_ranged.calls a0 a1 a2 true _ A5.out).mono ?_); rintro e w' ⟨rfl, ⟨nd, rfl⟩⟩; refine ⟨_, rfl, ?_⟩) | ((with_reducible refine gate_callee (f := 131) rfl ?_); refine goesL_ (some 22) rfl rfl Try.func131 (by kernel_rfl) rfl #[.int .i64 a0, .int .i64 a1, .int .i64 a2, .string a3] rfl (by (try simp only [List.map_toArray, List.map_cons, List.map_nil]); first | done | rfl | (simp only [List.length_drop, List.length_take]; rfl)) ?_; (with_reducible refine (masterdiscref31_Make.calls k a0 a1 a2 a3 t425 _ A8.out).mono ?_); rintro e w10 ⟨rfl, hb⟩; refine ⟨_, rfl, ?_⟩; have n0_ := Aside0.mk (below_step (by repeat (first | (with_reducible first | exact HB.out | apply below_alloc | apply pw_below_drewN | apply below_drew1) | exact HB.out)) hb); clear HB; have HB := n0_; clear n0_; (try clear hb); (try clear hb2); (try clear hk); (try clear hi)) | ((with_reducible refine gate_callee (f := 133) rfl ?_); refine goesL_ (some 23) rfl rfl Try.func133 (by kernel_rfl) rfl #[.string t425, .int .i64 2048] rfl (by (try simp only [List.map_toArray, List.map_cons, List.map_nil]); first | done | rfl | (simp only [List.length_drop, List.length_take]; rfl)) ?_; (with_reducible refine (masterdiscref31_Pad.calls k t425 2048 t426 _ A9.out).mono ?_); rintro e w11 ⟨rfl, hb⟩; refine ⟨_, rfl, ?_⟩; have n0_ := Aside0.mk (below_step (by repeat (first | (with_reducible first | exact HB.out | apply below_alloc | apply pw_below_drewN | apply below_drew1) | exact HB.out)) hb); clear HB; have HB := n0_; clear n0_; (try clear hb); (try clear hb2); (try clear hk); (try clear hi)))
      go_ret2
      exact ⟨by first | rfl | (simp [errW_none, errW_some] <;> rfl) | (simp [*, errW_none, errW_some] <;> rfl), by repeat (first | (with_reducible first | exact HB.out | apply below_alloc | apply pw_below_drewN | apply below_drew1) | exact HB.out)⟩
  · replace c6 := Bool.eq_false_iff.mpr c6
    subst c6
    have H1 : (some ((⟨#[]⟩ : ByteArray), 2)) = some (r1, r2) := by rw [if_neg (show ¬ (false = true) by decide)] at H; exact H
    clear H
    have H := H1
    clear H1
    simp only [Option.some.injEq, Prod.mk.injEq] at H
    obtain ⟨rfl, rfl⟩ := H
    go_enter Try.func74, Try.ntmps74
    go_wp2_with (first | ((with_reducible refine gate_callee (f := 130) rfl ?_); refine goesL_ (some 13) rfl rfl Try.func130 (by kernel_rfl) rfl #[.int .i64 a0, .int .i64 a1, .int .i64 a2] rfl (by (try simp only [List.map_toArray, List.map_cons, List.map_nil]); first | done | rfl | (simp only [List.length_drop, List.length_take]; rfl)) ?_; (with_reducible refine (masterdiscref31_ranged.calls a0 a1 a2 false _ A5.out).mono ?_); rintro e w' ⟨rfl, ⟨nd, rfl⟩⟩; refine ⟨_, rfl, ?_⟩))
    go_ret2
    exact ⟨by first | rfl | (simp [errW_none, errW_some] <;> rfl) | (simp [*, errW_none, errW_some] <;> rfl), by repeat (first | (with_reducible first | exact HB.out | apply below_alloc | apply pw_below_drewN | apply below_drew1) | exact HB.out)⟩

end Go.Proofs.Ytijbfebbogiiiaa.Q
