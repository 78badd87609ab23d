/- Contracts of Go functions: each call returns what the Lean function of its name says. Written by wip/gen.py (a patched print) for this claim. -/
import Derived.Test.YtijbfebbogiiiaaQ0
namespace Go.Proofs.Ytijbfebbogiiiaa.Q
open Go.RowKit Go.Proofs.YtijbfebbogiiiaaW.PrintWords Go.Proofs.YtijbfebbogiiiaaW.PrintLast Go.Proofs.YtijbfebbogiiiaaW.PrintMore
attribute [local go_sem] max2_int min2_int max_two min_two max_three min_three max_four min_four   -- for this text's walks alone
set_option linter.unusedVariables false
set_option linter.unusedSimpArgs false

/-! ### spacebitmap_bytes: function 137 -/
def spacebitmap_bytes.f (a0 : Int) : Option (Int) := some (wrap64 (Int.tdiv (wrap64 (a0 + 7)) 8))
set_option maxHeartbeats 8000000 in
set_option maxRecDepth 100000 in
theorem spacebitmap_bytes.calls (a0 : Int) (r : Int) (w : World) (h : spacebitmap_bytes.f a0 = some r) :
    Calls Try.prog 137 #[.int .i64 a0] w fun e w' => e = .returned (.int .i64 r) ∧ Drawn0 w w' := by
  have H : (some (wrap64 (Int.tdiv (wrap64 (a0 + 7)) 8))) = some r := h
  clear h
  obtain rfl := Option.some.inj H
  go_enter Try.func137, Try.ntmps137
  go_wp2
  go_ret
  exact ⟨by first | rfl | (simp; done) | (simp [*]; done), by repeat (first | exact Drawn0.refl _ | apply Drawn0.step)⟩

/-! ### spacebitmap_valid: function 134 -/
def spacebitmap_valid.f (a0 : ByteArray) (a1 : Int) : Option (Bool) := if a1 < 0 then (some false) else (if a1 > 4096 then (some false) else ((spacebitmap_bytes.f a1).bind fun t340 => (if (a0.size : Int) = t340 then (if (Int.tmod a1 8) = 0 then (some true) else (if 0 ≤ (wrap64 ((a0.size : Int) - 1)) then (if (wrap64 ((a0.size : Int) - 1)) < (a0.size : Int) then (if 0 ≤ (Int.tmod a1 8) then (some ((shr .u8 (bt a0 (wrap64 ((a0.size : Int) - 1))) (Int.tmod a1 8)) == 0)) else (none)) else (none)) else (none))) else (some false))))
set_option maxHeartbeats 8000000 in
set_option maxRecDepth 100000 in
theorem spacebitmap_valid.calls (a0 : ByteArray) (a1 : Int) (r : Bool) (w : World) (h : spacebitmap_valid.f a0 a1 = some r) :
    Calls Try.prog 134 #[.string a0, .int .i64 a1] w fun e w' => e = .returned (.bool r) ∧ Drawn0 w w' := by
  have H : (if a1 < 0 then (some false) else (if a1 > 4096 then (some false) else ((spacebitmap_bytes.f a1).bind fun t340 => (if (a0.size : Int) = t340 then (if (Int.tmod a1 8) = 0 then (some true) else (if 0 ≤ (wrap64 ((a0.size : Int) - 1)) then (if (wrap64 ((a0.size : Int) - 1)) < (a0.size : Int) then (if 0 ≤ (Int.tmod a1 8) then (some ((shr .u8 (bt a0 (wrap64 ((a0.size : Int) - 1))) (Int.tmod a1 8)) == 0)) else (none)) else (none)) else (none))) else (some false))))) = some r := h
  clear h
  by_cases c3 : a1 < 0
  · rw [if_pos c3] at H
    have c3b0 : decide (a1 < 0) = true := decide_eq_true c3
    clear c3
    obtain rfl := Option.some.inj H
    go_enter Try.func134, Try.ntmps134
    go_wp2
    go_ret
    exact ⟨by first | rfl | (simp; done) | (simp [*]; done), by repeat (first | exact Drawn0.refl _ | apply Drawn0.step)⟩
  · rw [if_neg c3] at H
    have c3b0 : decide (a1 < 0) = false := decide_eq_false c3
    clear c3
    by_cases c4 : a1 > 4096
    · rw [if_pos c4] at H
      have c4b0 : decide (4096 < a1) = true := decide_eq_true c4
      clear c4
      obtain rfl := Option.some.inj H
      go_enter Try.func134, Try.ntmps134
      go_wp2
      go_ret
      exact ⟨by first | rfl | (simp; done) | (simp [*]; done), by repeat (first | exact Drawn0.refl _ | apply Drawn0.step)⟩
    · rw [if_neg c4] at H
      have c4b0 : decide (4096 < a1) = false := decide_eq_false c4
      clear c4
      replace H := Option.bind_eq_some_iff.mp H
      obtain ⟨t340, A50, H⟩ := H
      replace H : (if (a0.size : Int) = t340 then (if (Int.tmod a1 8) = 0 then (some true) else (if 0 ≤ (wrap64 ((a0.size : Int) - 1)) then (if (wrap64 ((a0.size : Int) - 1)) < (a0.size : Int) then (if 0 ≤ (Int.tmod a1 8) then (some ((shr .u8 (bt a0 (wrap64 ((a0.size : Int) - 1))) (Int.tmod a1 8)) == 0)) else (none)) else (none)) else (none))) else (some false)) = some r := H
      have A5 := Aside0.mk A50
      clear A50
      by_cases c6 : (a0.size : Int) = t340
      · rw [if_pos c6] at H
        have c6b0 : ((a0.size : Int) == t340) = true := beq_iff_eq.mpr c6
        have c6b1 : ((a0.size : Int) != t340) = false := bne_eq_false_iff_eq.mpr c6
        clear c6
        by_cases c7 : (Int.tmod a1 8) = 0
        · rw [if_pos c7] at H
          have c7b0 : ((Int.tmod a1 8) == 0) = true := beq_iff_eq.mpr c7
          have c7b1 : ((Int.tmod a1 8) != 0) = false := bne_eq_false_iff_eq.mpr c7
          clear c7
          obtain rfl := Option.some.inj H
          go_enter Try.func134, Try.ntmps134
          go_wp2_with (first | (go_at_call 137; (with_reducible refine (spacebitmap_bytes.calls a1 t340 _ A5.out).mono ?_); rintro e w' ⟨rfl, ⟨nd, rfl⟩⟩))
          go_ret
          exact ⟨by first | rfl | (simp; done) | (simp [*]; done), by repeat (first | exact Drawn0.refl _ | apply Drawn0.step)⟩
        · rw [if_neg c7] at H
          have c7b0 : ((Int.tmod a1 8) == 0) = false := beq_eq_false_iff_ne.mpr c7
          have c7b1 : ((Int.tmod a1 8) != 0) = true := bne_iff_ne.mpr c7
          obtain ⟨ji8, hji8⟩ : ∃ j_ : Int, (wrap64 ((a0.size : Int) - 1)) = j_ := ⟨_, rfl⟩
          replace H : (if 0 ≤ (ji8) then (if (ji8) < (a0.size : Int) then (if 0 ≤ (Int.tmod a1 8) then (some ((shr .u8 (bt a0 (ji8)) (Int.tmod a1 8)) == 0)) else (none)) else (none)) else (none)) = some r := by first | (rw [hji8] at H; exact H) | (simp only [hji8] at H ⊢; exact H)
          (try rw [hji8] at A5)
          have hji8w : (IntKind.i64.wrap ((a0.size : Int) - 1)) = ji8 := (i64_w _).trans hji8
          by_cases c9 : 0 ≤ (ji8)
          · rw [if_pos c9] at H
            have c9b0 : decide (0 ≤ (ji8)) = true := decide_eq_true c9
            clear c9
            by_cases c10 : (ji8) < (a0.size : Int)
            · rw [if_pos c10] at H
              have c10b0 : decide ((ji8) < (a0.size : Int)) = true := decide_eq_true c10
              clear c10
              obtain ⟨ji12, hji12⟩ : ∃ j_ : Int, (Int.tmod a1 8) = j_ := ⟨_, rfl⟩
              replace H : (if 0 ≤ (ji12) then (some ((shr .u8 (bt a0 (ji8)) (ji12)) == 0)) else (none)) = some r := by first | (rw [hji12] at H; exact H) | (simp only [hji12] at H ⊢; exact H)
              (try rw [hji12] at c7b0)
              (try rw [hji12] at c7b1)
              (try rw [hji12] at A5)
              by_cases c13 : 0 ≤ (ji12)
              · rw [if_pos c13] at H
                have c13b0 := eq_true c13
                have c13b1 : decide (0 ≤ (ji12)) = true := decide_eq_true c13
                clear c13
                obtain ⟨ji14, hji14⟩ : ∃ j_ : Int, (shr .u8 (bt a0 (ji8)) (ji12)) = j_ := ⟨_, rfl⟩
                replace H : (some ((ji14) == 0)) = some r := by first | (rw [hji14] at H; exact H) | (simp only [hji14] at H ⊢; exact H)
                (try rw [hji14] at A5)
                have hji14_ : ((bt a0 (ji8)) / 2 ^ min (ji12).toNat 8) = ji14 := hji14
                have hji14z : (ji12) ≤ 8 → ((bt a0 (ji8)) / 2 ^ (ji12).toNat) = ji14 := shr_small hji14
                obtain rfl := Option.some.inj H
                go_enter Try.func134, Try.ntmps134
                go_wp2_with (first | (go_at_call 137; (with_reducible refine (spacebitmap_bytes.calls a1 t340 _ A5.out).mono ?_); rintro e w' ⟨rfl, ⟨nd, rfl⟩⟩; have p11 : 0 ≤ ((ji8) : Int) := of_decide_eq_true (by first | (with_reducible assumption) | assumption); have q11 : (ji8) < (a0.size : Int) := of_decide_eq_true (by first | (with_reducible assumption) | assumption); have hx11 := bt_at a0 (ji8); replace p11 := eq_true p11; replace q11 := eq_true q11))
                go_ret
                exact ⟨by first | rfl | (simp; done) | (simp only [← hji8, ← hji12, ← hji14] <;> (first | rfl | simp)) | (simp [*]; done), by repeat (first | exact Drawn0.refl _ | apply Drawn0.step)⟩
              · rw [if_neg c13] at H
                exact absurd H (by simp)
            · rw [if_neg c10] at H
              exact absurd H (by simp)
          · rw [if_neg c9] at H
            exact absurd H (by simp)
      · rw [if_neg c6] at H
        have c6b0 : ((a0.size : Int) == t340) = false := beq_eq_false_iff_ne.mpr c6
        have c6b1 : ((a0.size : Int) != t340) = true := bne_iff_ne.mpr c6
        obtain rfl := Option.some.inj H
        go_enter Try.func134, Try.ntmps134
        go_wp2_with (first | (go_at_call 137; (with_reducible refine (spacebitmap_bytes.calls a1 t340 _ A5.out).mono ?_); rintro e w' ⟨rfl, ⟨nd, rfl⟩⟩))
        go_ret
        exact ⟨by first | rfl | (simp; done) | (simp [*]; done), by repeat (first | exact Drawn0.refl _ | apply Drawn0.step)⟩

end Go.Proofs.Ytijbfebbogiiiaa.Q
