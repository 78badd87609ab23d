/- Contracts of Go functions: each call returns what the Lean function of its name says. Written by wip/gen.py (a patched print) for this claim. -/
import Derived.Test.YtijbfebbogiiiaaQ0
import Derived.Test.YtijbfebbogiiiaaQ1
namespace Go.Proofs.Ytijbfebbogiiiaa.Q
open Go.RowKit Go.Proofs.YtijbfebbogiiiaaW.PrintWords Go.Proofs.YtijbfebbogiiiaaW.PrintLast Go.Proofs.YtijbfebbogiiiaaW.PrintMore
attribute [local go_sem] max2_int min2_int max_two min_two max_three min_three max_four min_four   -- for this text's walks alone
set_option linter.unusedVariables false
set_option linter.unusedSimpArgs false

attribute [local go_sem high] eqA32
/-! ### masterdiscref31_Number: function 99 -/
def masterdiscref31_Number.l0 : Nat → ByteArray → Int → Int → Int → Option (Int)
  | 0, _, _, _, _ => none
  | k + 1, x0, x1, x7, x8 => if x8 ≥ 0 then (if 0 ≤ (wrap64 (x1 + x8)) then (if (wrap64 (x1 + x8)) < (x0.size : Int) then (masterdiscref31_Number.l0 k x0 x1 (wrap64 ((wrap64 (x7 * 256)) + (wrap64 (bt x0 (wrap64 (x1 + x8)))))) (wrap64 (x8 - 1))) else (none)) else (none)) else (some x7)
def masterdiscref31_Number.f (k : Nat) (a0 : ByteArray) (a1 : Int) (a2 : Int) : Option (Int) := masterdiscref31_Number.l0 k a0 a1 0 (wrap64 (a2 - 1))
theorem masterdiscref31_Number.mono_l : ∀ k, (∀ y0 y1 y2 y3, LeO (masterdiscref31_Number.l0 k y0 y1 y2 y3) (masterdiscref31_Number.l0 (k + 1) y0 y1 y2 y3))
  | 0 => fun _ _ _ _ r h => by simp [masterdiscref31_Number.l0] at h
  | k + 1 => by
    have ih0 := masterdiscref31_Number.mono_l k
    · intro y0 y1 y2 y3
      unfold masterdiscref31_Number.l0
      repeat' first
      | (with_reducible exact ih0 _ _ _ _)
      | (with_reducible exact LeO.refl _)
      | (with_reducible exact LeO.none _)
      | (with_reducible refine LeO.ite ?_ ?_)
      | (with_reducible refine LeO.bind ?_ (fun _ => ?_))
      | exact ih0 _ _ _ _
      | exact LeO.none _
      | refine LeO.ite ?_ ?_
      | refine LeO.bind ?_ (fun _ => ?_)
theorem masterdiscref31_Number.mono : ∀ a0 a1 a2 k, LeO (masterdiscref31_Number.f k a0 a1 a2) (masterdiscref31_Number.f (k + 1) a0 a1 a2) := by
  intro a0 a1 a2 k
  have ih0 := masterdiscref31_Number.mono_l k
  unfold masterdiscref31_Number.f
  repeat' first
      | (with_reducible exact ih0 _ _ _ _)
      | (with_reducible exact LeO.refl _)
      | (with_reducible exact LeO.none _)
      | (with_reducible refine LeO.ite ?_ ?_)
      | (with_reducible refine LeO.bind ?_ (fun _ => ?_))
      | exact ih0 _ _ _ _
      | exact LeO.none _
      | refine LeO.ite ?_ ?_
      | refine LeO.bind ?_ (fun _ => ?_)
set_option maxHeartbeats 8000000 in
set_option maxRecDepth 100000 in
theorem masterdiscref31_Number.calls (k : Nat) (a0 : ByteArray) (a1 : Int) (a2 : Int) (r : Int) (w : World) (h : masterdiscref31_Number.f k a0 a1 a2 = some r) :
    Calls Try.prog 99 #[.string a0, .int .i64 a1, .int .i64 a2] w fun e w' => e = .returned (.int .i64 r) ∧ Drawn0 w w' := by
  have H : (masterdiscref31_Number.l0 k a0 a1 0 (wrap64 (a2 - 1))) = some r := h
  clear h
  have H' := Aside0.mk H
  clear H
  go_enter Try.func99, Try.ntmps99
  go_wp2
  go_loopg [7, 8] k (fun kq v7 v8 w' => ∃ (x7_1 : Int) (x8_1 : Int), v7 = .int .i64 x7_1 ∧ v8 = .int .i64 x8_1 ∧ Aside0 (masterdiscref31_Number.l0 kq a0 a1 x7_1 x8_1 = some r) ∧ Aside0 (kq ≤ k) ∧ Drawn0 w w')
  case atStart => exact ⟨(0), (wrap64 (a2 - 1)), (by first | rfl | (simp; done) | (simp [*]; done)), (by first | rfl | (simp; done) | (simp [*]; done)), H', ⟨Nat.le_refl _⟩, by repeat (first | exact Drawn0.refl _ | apply Drawn0.step)⟩
  case round =>
    clear H'
    try clear p2
    obtain ⟨x7_1, x8_1, rfl, rfl, HA, HK1, ⟨m1, rfl⟩⟩ := hrel
    cases gk with
    | zero => exact absurd HA.out (by simp [masterdiscref31_Number.l0])
    | succ k1 =>
      have H := HA.out
      clear HA
      simp only [masterdiscref31_Number.l0] at H
      by_cases c4 : x8_1 ≥ 0
      · rw [if_pos c4] at H
        have c4b0 : decide (0 ≤ x8_1) = true := decide_eq_true c4
        clear c4
        obtain ⟨ji5, hji5⟩ : ∃ j_ : Int, (wrap64 (a1 + x8_1)) = j_ := ⟨_, rfl⟩
        replace H : (if 0 ≤ (ji5) then (if (ji5) < (a0.size : Int) then (masterdiscref31_Number.l0 k1 a0 a1 (wrap64 ((wrap64 (x7_1 * 256)) + (wrap64 (bt a0 (ji5))))) (wrap64 (x8_1 - 1))) else (none)) else (none)) = some r := by first | (rw [hji5] at H; exact H) | (simp only [hji5] at H ⊢; exact H)
        have hji5w : (IntKind.i64.wrap (a1 + x8_1)) = ji5 := (i64_w _).trans hji5
        by_cases c6 : 0 ≤ (ji5)
        · rw [if_pos c6] at H
          have c6b0 : decide (0 ≤ (ji5)) = true := decide_eq_true c6
          clear c6
          by_cases c7 : (ji5) < (a0.size : Int)
          · rw [if_pos c7] at H
            have c7b0 : decide ((ji5) < (a0.size : Int)) = true := decide_eq_true c7
            clear c7
            have H' := Aside0.mk H
            clear H
            have p8 : 0 ≤ ((ji5) : Int) := of_decide_eq_true (by first | (with_reducible assumption) | assumption)
            have q8 : (ji5) < (a0.size : Int) := of_decide_eq_true (by first | (with_reducible assumption) | assumption)
            have hx8 := bt_at a0 (ji5)
            replace p8 := eq_true p8
            replace q8 := eq_true q8
            go_wp2
            go_roundg k1
            case measure => have := HK1.out; omega
            case rel => exact ⟨(wrap64 ((wrap64 (x7_1 * 256)) + (wrap64 (bt a0 (ji5))))), (wrap64 (x8_1 - 1)), (by first | rfl | (simp; done) | (simp only [← hji5] <;> (first | rfl | simp)) | (simp [*]; done)), (by first | rfl | (simp; done) | (simp [*]; done)), H', ⟨by have := HK1.out; omega⟩, by repeat (first | exact Drawn0.refl _ | apply Drawn0.step)⟩
          · rw [if_neg c7] at H
            exact absurd H (by simp)
        · rw [if_neg c6] at H
          exact absurd H (by simp)
      · rw [if_neg c4] at H
        have c4b0 : decide (0 ≤ x8_1) = false := decide_eq_false c4
        clear c4
        obtain rfl := Option.some.inj H
        go_wp2
        go_ret
        exact ⟨by first | rfl | (simp; done) | (simp [*]; done), by repeat (first | exact Drawn0.refl _ | apply Drawn0.step)⟩

end Go.Proofs.Ytijbfebbogiiiaa.Q
