/- Contracts of Go functions: each call returns what the Lean function of its name says. Written by wip/gen.py (a patched print) for this claim. -/
import Derived.Test.YtijbfebbogiiiaaHTag
import Derived.Test.YtijbfebbogiiiaaQ0
import Derived.Test.YtijbfebbogiiiaaQ17
import Derived.Test.YtijbfebbogiiiaaQ6
import Derived.Test.YtijbfebbogiiiaaQ7
import Derived.Test.YtijbfebbogiiiaaQ9
namespace Go.Proofs.Ytijbfebbogiiiaa.Q
open Go.RowKit Go.Proofs.YtijbfebbogiiiaaW.PrintWords Go.Proofs.YtijbfebbogiiiaaW.PrintLast Go.Proofs.YtijbfebbogiiiaaW.PrintMore
attribute [local go_sem] max2_int min2_int max_two min_two max_three min_three max_four min_four   -- for this text's walks alone
set_option linter.unusedVariables false
set_option linter.unusedSimpArgs false

/-! ### endian_Put: function 115 -/
def endian_Put.f (a0 : ByteArray) (a1 : Int) (a2 : ByteArray) : Option (ByteArray × Int) := (endian_inside.f a0 a1 (a2.size : Int)).bind fun t387 => (if t387 = true then (if 0 ≤ a1 then (if a1 ≤ (a0.size : Int) then (if (a0.extract 0 (a1 : Int).toNat).size + a2.size ≤ 9223372036854775807 then (if 0 ≤ (wrap64 (a1 + (a2.size : Int))) then (if (wrap64 (a1 + (a2.size : Int))) ≤ (a0.size : Int) then (if ((a0.extract 0 (a1 : Int).toNat) ++ a2).size + (a0.extract ((wrap64 (a1 + (a2.size : Int))) : Int).toNat a0.size).size ≤ 9223372036854775807 then (some (((a0.extract 0 (a1 : Int).toNat) ++ a2) ++ (a0.extract ((wrap64 (a1 + (a2.size : Int))) : Int).toNat a0.size), 0)) else (none)) else (none)) else (none)) else (none)) else (none)) else (none)) else (some ((⟨#[]⟩ : ByteArray), 2)))
set_option maxHeartbeats 8000000 in
set_option maxRecDepth 100000 in
theorem endian_Put.calls (a0 : ByteArray) (a1 : Int) (a2 : ByteArray) (r1 : ByteArray) (r2 : Int) (w : World) (h : endian_Put.f a0 a1 a2 = some (r1, r2)) :
    Calls Try.prog 115 #[.string a0, .int .i64 a1, .string a2] w fun e w' => e = .returned (.tuple #[.string r1, .int .i64 r2]) ∧ Drawn0 w w' := by
  have H : ((endian_inside.f a0 a1 (a2.size : Int)).bind fun t387 => (if t387 = true then (if 0 ≤ a1 then (if a1 ≤ (a0.size : Int) then (if (a0.extract 0 (a1 : Int).toNat).size + a2.size ≤ 9223372036854775807 then (if 0 ≤ (wrap64 (a1 + (a2.size : Int))) then (if (wrap64 (a1 + (a2.size : Int))) ≤ (a0.size : Int) then (if ((a0.extract 0 (a1 : Int).toNat) ++ a2).size + (a0.extract ((wrap64 (a1 + (a2.size : Int))) : Int).toNat a0.size).size ≤ 9223372036854775807 then (some (((a0.extract 0 (a1 : Int).toNat) ++ a2) ++ (a0.extract ((wrap64 (a1 + (a2.size : Int))) : Int).toNat a0.size), 0)) else (none)) else (none)) else (none)) else (none)) else (none)) else (none)) else (some ((⟨#[]⟩ : ByteArray), 2)))) = some (r1, r2) := h
  clear h
  replace H := Option.bind_eq_some_iff.mp H
  obtain ⟨t387, A40, H⟩ := H
  replace H : (if t387 = true then (if 0 ≤ a1 then (if a1 ≤ (a0.size : Int) then (if (a0.extract 0 (a1 : Int).toNat).size + a2.size ≤ 9223372036854775807 then (if 0 ≤ (wrap64 (a1 + (a2.size : Int))) then (if (wrap64 (a1 + (a2.size : Int))) ≤ (a0.size : Int) then (if ((a0.extract 0 (a1 : Int).toNat) ++ a2).size + (a0.extract ((wrap64 (a1 + (a2.size : Int))) : Int).toNat a0.size).size ≤ 9223372036854775807 then (some (((a0.extract 0 (a1 : Int).toNat) ++ a2) ++ (a0.extract ((wrap64 (a1 + (a2.size : Int))) : Int).toNat a0.size), 0)) else (none)) else (none)) else (none)) else (none)) else (none)) else (none)) else (some ((⟨#[]⟩ : ByteArray), 2))) = some (r1, r2) := H
  have A4 := Aside0.mk A40
  clear A40
  by_cases c5 : t387 = true
  · subst c5
    have H1 : (if 0 ≤ a1 then (if a1 ≤ (a0.size : Int) then (if (a0.extract 0 (a1 : Int).toNat).size + a2.size ≤ 9223372036854775807 then (if 0 ≤ (wrap64 (a1 + (a2.size : Int))) then (if (wrap64 (a1 + (a2.size : Int))) ≤ (a0.size : Int) then (if ((a0.extract 0 (a1 : Int).toNat) ++ a2).size + (a0.extract ((wrap64 (a1 + (a2.size : Int))) : Int).toNat a0.size).size ≤ 9223372036854775807 then (some (((a0.extract 0 (a1 : Int).toNat) ++ a2) ++ (a0.extract ((wrap64 (a1 + (a2.size : Int))) : Int).toNat a0.size), 0)) else (none)) else (none)) else (none)) else (none)) else (none)) else (none)) = some (r1, r2) := by rw [if_pos rfl] at H; exact H
    clear H
    have H := H1
    clear H1
    by_cases c6 : 0 ≤ a1
    · rw [if_pos c6] at H
      have c6b0 := eq_true c6
      have c6b1 : decide (0 ≤ a1) = true := decide_eq_true c6
      clear c6
      by_cases c7 : a1 ≤ (a0.size : Int)
      · rw [if_pos c7] at H
        have c7b0 := eq_true c7
        have c7b1 : decide (a1 ≤ (a0.size : Int)) = true := decide_eq_true c7
        clear c7
        by_cases c8 : (a0.extract 0 (a1 : Int).toNat).size + a2.size ≤ 9223372036854775807
        · rw [if_pos c8] at H
          have c8b0 := eq_true c8
          have c8b1 : decide ((a0.extract 0 (a1 : Int).toNat).size + a2.size ≤ 9223372036854775807) = true := decide_eq_true c8
          try have c8b2 : (9223372036854775807 < (a0.extract 0 (a1 : Int).toNat).size + a2.size) = False := eq_false (Nat.not_lt.2 c8)
          try (have c8b3 := c8b2; conv at c8b3 => lhs; simp [go_sem])
          obtain ⟨ji9, hji9⟩ : ∃ j_ : Int, (wrap64 (a1 + (a2.size : Int))) = j_ := ⟨_, rfl⟩
          replace H : (if 0 ≤ (ji9) then (if (ji9) ≤ (a0.size : Int) then (if ((a0.extract 0 (a1 : Int).toNat) ++ a2).size + (a0.extract ((ji9) : Int).toNat a0.size).size ≤ 9223372036854775807 then (some (((a0.extract 0 (a1 : Int).toNat) ++ a2) ++ (a0.extract ((ji9) : Int).toNat a0.size), 0)) else (none)) else (none)) else (none)) = some (r1, r2) := by first | (rw [hji9] at H; exact H) | (simp only [hji9] at H ⊢; exact H)
          (try rw [hji9] at A4)
          have hji9w : (IntKind.i64.wrap (a1 + (a2.size : Int))) = ji9 := (i64_w _).trans hji9
          by_cases c10 : 0 ≤ (ji9)
          · rw [if_pos c10] at H
            have c10b0 := eq_true c10
            have c10b1 : decide (0 ≤ (ji9)) = true := decide_eq_true c10
            clear c10
            by_cases c11 : (ji9) ≤ (a0.size : Int)
            · rw [if_pos c11] at H
              have c11b0 := eq_true c11
              have c11b1 : decide ((ji9) ≤ (a0.size : Int)) = true := decide_eq_true c11
              clear c11
              by_cases c12 : ((a0.extract 0 (a1 : Int).toNat) ++ a2).size + (a0.extract ((ji9) : Int).toNat a0.size).size ≤ 9223372036854775807
              · rw [if_pos c12] at H
                have c12b0 := eq_true c12
                have c12b1 : decide (((a0.extract 0 (a1 : Int).toNat) ++ a2).size + (a0.extract ((ji9) : Int).toNat a0.size).size ≤ 9223372036854775807) = true := decide_eq_true c12
                try have c12b2 : (9223372036854775807 < ((a0.extract 0 (a1 : Int).toNat) ++ a2).size + (a0.extract ((ji9) : Int).toNat a0.size).size) = False := eq_false (Nat.not_lt.2 c12)
                try (have c12b3 := c12b2; conv at c12b3 => lhs; simp [go_sem])
                simp only [Option.some.injEq, Prod.mk.injEq] at H
                obtain ⟨rfl, rfl⟩ := H
                go_enter Try.func115, Try.ntmps115
                go_wp2_with (first | (go_at_call 147; (with_reducible refine (endian_inside.calls a0 a1 (a2.size : Int) true _ A4.out).mono ?_); rintro e w' ⟨rfl, ⟨nd, rfl⟩⟩; (try first | exact ⟨rfl, _, World.drewN_drewN _ _ _⟩ | exact ⟨rfl, _, Eq.trans (World.drewN_drewN _ _ _) (congrArg (World.drewN _) (Nat.add_assoc _ _ _))⟩)))
                repeat (go_quiet (first | (go_at_call 147; (with_reducible refine (endian_inside.calls a0 a1 (a2.size : Int) true _ A4.out).mono ?_); rintro e w' ⟨rfl, ⟨nd, rfl⟩⟩; (try first | exact ⟨rfl, _, World.drewN_drewN _ _ _⟩ | exact ⟨rfl, _, Eq.trans (World.drewN_drewN _ _ _) (congrArg (World.drewN _) (Nat.add_assoc _ _ _))⟩))); try go_wp2_with (first | (go_at_call 147; (with_reducible refine (endian_inside.calls a0 a1 (a2.size : Int) true _ A4.out).mono ?_); rintro e w' ⟨rfl, ⟨nd, rfl⟩⟩; (try first | exact ⟨rfl, _, World.drewN_drewN _ _ _⟩ | exact ⟨rfl, _, Eq.trans (World.drewN_drewN _ _ _) (congrArg (World.drewN _) (Nat.add_assoc _ _ _))⟩))))
                go_ret2
                exact ⟨by first | rfl | (simp; done) | (simp only [← hji9] <;> (first | rfl | simp)) | (simp [*]; done), by repeat (first | exact Drawn0.refl _ | apply Drawn0.step)⟩
              · rw [if_neg c12] at H
                exact absurd H (by simp)
            · rw [if_neg c11] at H
              exact absurd H (by simp)
          · rw [if_neg c10] at H
            exact absurd H (by simp)
        · rw [if_neg c8] at H
          exact absurd H (by simp)
      · rw [if_neg c7] at H
        exact absurd H (by simp)
    · rw [if_neg c6] at H
      exact absurd H (by simp)
  · replace c5 := Bool.eq_false_iff.mpr c5
    subst c5
    have H1 : (some ((⟨#[]⟩ : ByteArray), 2)) = some (r1, r2) := by rw [if_neg (show ¬ (false = true) by decide)] at H; exact H
    clear H
    have H := H1
    clear H1
    simp only [Option.some.injEq, Prod.mk.injEq] at H
    obtain ⟨rfl, rfl⟩ := H
    go_enter Try.func115, Try.ntmps115
    go_wp2_with (first | (go_at_call 147; (with_reducible refine (endian_inside.calls a0 a1 (a2.size : Int) false _ A4.out).mono ?_); rintro e w' ⟨rfl, ⟨nd, rfl⟩⟩; (try first | exact ⟨rfl, _, World.drewN_drewN _ _ _⟩ | exact ⟨rfl, _, Eq.trans (World.drewN_drewN _ _ _) (congrArg (World.drewN _) (Nat.add_assoc _ _ _))⟩)))
    repeat (go_quiet (first | (go_at_call 147; (with_reducible refine (endian_inside.calls a0 a1 (a2.size : Int) false _ A4.out).mono ?_); rintro e w' ⟨rfl, ⟨nd, rfl⟩⟩; (try first | exact ⟨rfl, _, World.drewN_drewN _ _ _⟩ | exact ⟨rfl, _, Eq.trans (World.drewN_drewN _ _ _) (congrArg (World.drewN _) (Nat.add_assoc _ _ _))⟩))); try go_wp2_with (first | (go_at_call 147; (with_reducible refine (endian_inside.calls a0 a1 (a2.size : Int) false _ A4.out).mono ?_); rintro e w' ⟨rfl, ⟨nd, rfl⟩⟩; (try first | exact ⟨rfl, _, World.drewN_drewN _ _ _⟩ | exact ⟨rfl, _, Eq.trans (World.drewN_drewN _ _ _) (congrArg (World.drewN _) (Nat.add_assoc _ _ _))⟩))))
    go_ret2
    exact ⟨by first | rfl | (simp; done) | (simp [*]; done), by repeat (first | exact Drawn0.refl _ | apply Drawn0.step)⟩

/-! ### udftag_Relocate: function 47 -/
def udftag_Relocate.j0 : Nat → ByteArray → Int → Bool → Option (ByteArray × Int)
  | 0, _, _, _ => none
  | k + 1, x0, x1, x28 => if x28 = true then (some ((⟨#[]⟩ : ByteArray), 10)) else ((udftag_little.f x1 4).bind fun t393 => ((endian_Put.f x0 12 t393).bind fun bt394 => ((udftag_summed.f k bt394.1).bind fun t396 => (some (t396, 0)))))
def udftag_Relocate.f (k : Nat) (a0 : ByteArray) (a1 : Int) : Option (ByteArray × Int) := (udftag_fits.f a1 4).bind fun t388 => (if t388 = true then ((udftag_Faults.f a0 a1).bind fun t389 => (if (t389.length : Int) > 1 then (udftag_Relocate.j0 k a0 a1 true) else (if (t389.length : Int) = 1 then (if 0 < (t389.length : Int) then (udftag_Relocate.j0 k a0 a1 ((rd t389 0) != 6)) else (none)) else (udftag_Relocate.j0 k a0 a1 false)))) else (some ((⟨#[]⟩ : ByteArray), 2)))
theorem udftag_Relocate.mono_l : ∀ k, (∀ y0 y1 y2, LeO (udftag_Relocate.j0 k y0 y1 y2) (udftag_Relocate.j0 (k + 1) y0 y1 y2))
  | 0 => fun _ _ _ r h => by simp [udftag_Relocate.j0] at h
  | k + 1 => by
    have ih0 := udftag_Relocate.mono_l k
    · intro y0 y1 y2
      unfold udftag_Relocate.j0
      repeat' first
      | (with_reducible exact ih0 _ _ _)
      | (with_reducible exact udftag_summed.mono _ _)
      | (with_reducible exact LeO.refl _)
      | (with_reducible exact LeO.none _)
      | (with_reducible refine LeO.ite ?_ ?_)
      | (with_reducible refine LeO.bind ?_ (fun _ => ?_))
      | exact ih0 _ _ _
      | exact udftag_summed.mono _ _
      | exact LeO.none _
      | refine LeO.ite ?_ ?_
      | refine LeO.bind ?_ (fun _ => ?_)
theorem udftag_Relocate.mono : ∀ a0 a1 k, LeO (udftag_Relocate.f k a0 a1) (udftag_Relocate.f (k + 1) a0 a1) := by
  intro a0 a1 k
  have ih0 := udftag_Relocate.mono_l k
  unfold udftag_Relocate.f
  repeat' first
      | (with_reducible exact ih0 _ _ _)
      | (with_reducible exact udftag_summed.mono _ _)
      | (with_reducible exact LeO.refl _)
      | (with_reducible exact LeO.none _)
      | (with_reducible refine LeO.ite ?_ ?_)
      | (with_reducible refine LeO.bind ?_ (fun _ => ?_))
      | exact ih0 _ _ _
      | exact udftag_summed.mono _ _
      | exact LeO.none _
      | refine LeO.ite ?_ ?_
      | refine LeO.bind ?_ (fun _ => ?_)
set_option maxHeartbeats 8000000 in
set_option maxRecDepth 100000 in
theorem udftag_Relocate.calls (k : Nat) (a0 : ByteArray) (a1 : Int) (r1 : ByteArray) (r2 : Int) (w : World) (h : udftag_Relocate.f k a0 a1 = some (r1, r2)) :
    Calls Try.prog 47 #[.string a0, .int .i64 a1] w fun e w' => e = .returned (.tuple #[.string r1, .int .i64 r2]) ∧ Below w.heap.size w w' := by
  have HB := Aside0.mk (Below.refl w.heap.size w)
  have H : ((udftag_fits.f a1 4).bind fun t388 => (if t388 = true then ((udftag_Faults.f a0 a1).bind fun t389 => (if (t389.length : Int) > 1 then (udftag_Relocate.j0 k a0 a1 true) else (if (t389.length : Int) = 1 then (if 0 < (t389.length : Int) then (udftag_Relocate.j0 k a0 a1 ((rd t389 0) != 6)) else (none)) else (udftag_Relocate.j0 k a0 a1 false)))) else (some ((⟨#[]⟩ : ByteArray), 2)))) = some (r1, r2) := h
  clear h
  replace H := Option.bind_eq_some_iff.mp H
  obtain ⟨t388, A30, H⟩ := H
  replace H : (if t388 = true then ((udftag_Faults.f a0 a1).bind fun t389 => (if (t389.length : Int) > 1 then (udftag_Relocate.j0 k a0 a1 true) else (if (t389.length : Int) = 1 then (if 0 < (t389.length : Int) then (udftag_Relocate.j0 k a0 a1 ((rd t389 0) != 6)) else (none)) else (udftag_Relocate.j0 k a0 a1 false)))) else (some ((⟨#[]⟩ : ByteArray), 2))) = some (r1, r2) := H
  have A3 := Aside0.mk A30
  clear A30
  by_cases c4 : t388 = true
  · subst c4
    have H1 : ((udftag_Faults.f a0 a1).bind fun t389 => (if (t389.length : Int) > 1 then (udftag_Relocate.j0 k a0 a1 true) else (if (t389.length : Int) = 1 then (if 0 < (t389.length : Int) then (udftag_Relocate.j0 k a0 a1 ((rd t389 0) != 6)) else (none)) else (udftag_Relocate.j0 k a0 a1 false)))) = some (r1, r2) := by rw [if_pos rfl] at H; exact H
    clear H
    have H := H1
    clear H1
    replace H := Option.bind_eq_some_iff.mp H
    obtain ⟨t389, A50, H⟩ := H
    replace H : (if (t389.length : Int) > 1 then (udftag_Relocate.j0 k a0 a1 true) else (if (t389.length : Int) = 1 then (if 0 < (t389.length : Int) then (udftag_Relocate.j0 k a0 a1 ((rd t389 0) != 6)) else (none)) else (udftag_Relocate.j0 k a0 a1 false))) = some (r1, r2) := H
    have A5 := Aside0.mk A50
    clear A50
    have HC6 := Aside0.mk H
    clear H
    go_enter Try.func47, Try.ntmps47
    go_upto_region 4 with (first | ((with_reducible refine gate_callee (f := 114) rfl ?_); refine goesL_ (some 10) rfl rfl Try.func114 (by kernel_rfl) rfl #[.int .i64 a1, .int .i64 4] rfl (by (try simp only [List.map_toArray, List.map_cons, List.map_nil]); first | done | rfl | (simp only [List.length_drop, List.length_take]; rfl)) ?_; (with_reducible refine (udftag_fits.calls a1 4 true _ A3.out).mono ?_); rintro e w' ⟨rfl, ⟨nd, rfl⟩⟩; refine ⟨_, rfl, ?_⟩) | ((with_reducible refine gate_callee (f := 28) rfl ?_); refine goesL_ (some 14) rfl rfl Try.func28 (by kernel_rfl) rfl #[.string a0, .int .i64 a1] rfl (by (try simp only [List.map_toArray, List.map_cons, List.map_nil]); first | done | rfl | (simp only [List.length_drop, List.length_take]; rfl)) ?_; (with_reducible refine (udftag_Faults.calls a0 a1 t389 _ A5.out).mono ?_); rintro e w7 ⟨v390, rfl, ho0, hb⟩; refine ⟨_, rfl, ?_⟩; have n0_ := Aside0.mk (Kd.R_lower ho0 (below_size (by repeat (first | (with_reducible first | exact HB.out | apply below_alloc | apply pw_below_drewN | apply below_drew1) | exact HB.out)))); have n1_ := Aside0.mk (below_step (by repeat (first | (with_reducible first | exact HB.out | apply below_alloc | apply pw_below_drewN | apply below_drew1) | exact HB.out)) hb); clear HB; have HO391 := n0_; have HB := n1_; clear n0_ n1_; (try clear hb); (try clear hb2); (try clear hk); (try clear hi); (try clear ho0)))
    (try simp only [Act.put, List.setIfInBounds_toArray, List.set_cons_zero, List.set_cons_succ])
    go_cut [28] (fun v28 wc => ∃ (kq : Nat) (x28_5 : Bool), v28 = .bool x28_5 ∧ Aside0 (udftag_Relocate.j0 kq a0 a1 x28_5 = some (r1, r2)) ∧ Aside0 (kq ≤ k) ∧ Aside0 (Below w.heap.size w wc))
    case first =>
      have H := HC6.out
      clear HC6
      by_cases c8 : (t389.length : Int) > 1
      · rw [if_pos c8] at H
        have c8b0 : decide (1 < (t389.length : Int)) = true := decide_eq_true c8
        have c8b1 : decide (1 < t389.length) = true := decide_eq_true (by omega)
        clear c8
        (first | rw [c8b0] | (simp only [i64_w, i32_w]; rw [c8b0]) | skip)
        have H' := Aside0.mk H
        clear H
        obtain ⟨Ao9, co9, eo9⟩ := Kd.R_slice HO391.out
        subst eo9
        go_wp2
        go_meet
        case rel => exact ⟨_, (true), (by first | rfl | (simp; done) | (simp [*]; done)), H', ⟨by first | omega | exact Nat.le_refl _⟩, ⟨by repeat (first | (with_reducible first | exact HB.out | apply below_alloc | apply pw_below_drewN | apply below_drew1) | exact HB.out)⟩⟩
      · rw [if_neg c8] at H
        have c8b0 : decide (1 < (t389.length : Int)) = false := decide_eq_false c8
        have c8b1 : decide (1 < t389.length) = false := decide_eq_false (by omega)
        clear c8
        (first | rw [c8b0] | (simp only [i64_w, i32_w]; rw [c8b0]) | skip)
        by_cases c10 : (t389.length : Int) = 1
        · rw [if_pos c10] at H
          have c10b0 : ((t389.length : Int) == 1) = true := beq_iff_eq.mpr c10
          have c10b1 : ((t389.length : Int) != 1) = false := bne_eq_false_iff_eq.mpr c10
          clear c10
          by_cases c11 : 0 < (t389.length : Int)
          · rw [if_pos c11] at H
            have c11b0 : decide (0 < (t389.length : Int)) = true := decide_eq_true c11
            have c11b1 : decide (0 < t389.length) = true := decide_eq_true (by omega)
            clear c11
            have H' := Aside0.mk H
            clear H
            obtain ⟨Ao12, co12, eo12⟩ := Kd.R_slice HO391.out
            subst eo12
            have p392 : 0 ≤ (0 : Int) := (by omega)
            have q392 : 0 < (t389.length : Int) := of_decide_eq_true (by first | (with_reducible assumption) | assumption)
            obtain ⟨ad392, e392, hx392_0⟩ := Kd.at_int (Kd.R_reads' HO391.out).2.2 0 p392 q392
            cases e392
            have qi392 : (0 < t389.length) = True := eq_true (by omega)
            (try rw [show ((0 : Int)).toNat = 0 from rfl] at hx392_0)
            (try rw [Addr.add_zero'] at hx392_0)
            replace p392 := eq_true p392
            replace q392 := eq_true q392
            go_wp2
            go_meet
            case rel => exact ⟨_, (((rd t389 0) != 6)), (by first | rfl | (simp; done) | (simp [*]; done)), H', ⟨by first | omega | exact Nat.le_refl _⟩, ⟨by repeat (first | (with_reducible first | exact HB.out | apply below_alloc | apply pw_below_drewN | apply below_drew1) | exact HB.out)⟩⟩
          · rw [if_neg c11] at H
            exact absurd H (by simp)
        · rw [if_neg c10] at H
          have c10b0 : ((t389.length : Int) == 1) = false := beq_eq_false_iff_ne.mpr c10
          have c10b1 : ((t389.length : Int) != 1) = true := bne_iff_ne.mpr c10
          have H' := Aside0.mk H
          clear H
          obtain ⟨Ao13, co13, eo13⟩ := Kd.R_slice HO391.out
          subst eo13
          go_wp2
          go_meet
          case rel => exact ⟨_, (false), (by first | rfl | (simp; done) | (simp [*]; done)), H', ⟨by first | omega | exact Nat.le_refl _⟩, ⟨by repeat (first | (with_reducible first | exact HB.out | apply below_alloc | apply pw_below_drewN | apply below_drew1) | exact HB.out)⟩⟩
    case rest =>
      clear HC6
      try clear c1
      try clear c2
      try clear p2
      try clear p3
      try clear q3
      try clear hx3
      try clear qi3
      try clear c4
      try clear c8
      try clear c8b0
      try clear c8b1
      try clear c10
      try clear c10b0
      try clear c10b1
      try clear c11
      try clear c11b0
      try clear c11b1
      try clear hx392_0
      try clear p392
      try clear q392
      obtain ⟨kq, x28_5, rfl, HA, HJ5, HB⟩ := hcut
      cases kq with
      | zero => exact absurd HA.out (by simp [udftag_Relocate.j0])
      | succ kj5 =>
        have H := HA.out
        clear HA
        simp only [udftag_Relocate.j0] at H
        by_cases c14 : x28_5 = true
        · subst c14
          have H1 : (some ((⟨#[]⟩ : ByteArray), 10)) = some (r1, r2) := by rw [if_pos rfl] at H; exact H
          clear H
          have H := H1
          clear H1
          simp only [Option.some.injEq, Prod.mk.injEq] at H
          obtain ⟨rfl, rfl⟩ := H
          go_wp2
          go_ret2
          exact ⟨by first | rfl | (simp [errW_none, errW_some] <;> rfl) | (simp [*, errW_none, errW_some] <;> rfl), by repeat (first | (with_reducible first | exact HB.out | apply below_alloc | apply pw_below_drewN | apply below_drew1) | exact HB.out)⟩
        · replace c14 := Bool.eq_false_iff.mpr c14
          subst c14
          have H1 : ((udftag_little.f a1 4).bind fun t393 => ((endian_Put.f a0 12 t393).bind fun bt394 => ((udftag_summed.f kj5 bt394.1).bind fun t396 => (some (t396, 0))))) = some (r1, r2) := by rw [if_neg (show ¬ (false = true) by decide)] at H; exact H
          clear H
          have H := H1
          clear H1
          replace H := Option.bind_eq_some_iff.mp H
          obtain ⟨t393, A150, H⟩ := H
          replace H : ((endian_Put.f a0 12 t393).bind fun bt394 => ((udftag_summed.f kj5 bt394.1).bind fun t396 => (some (t396, 0)))) = some (r1, r2) := H
          have A15 := Aside0.mk A150
          clear A150
          replace H := Option.bind_eq_some_iff.mp H
          obtain ⟨⟨t394, t395⟩, A160, H⟩ := H
          replace H : ((udftag_summed.f kj5 t394).bind fun t396 => (some (t396, 0))) = some (r1, r2) := H
          have A16 := Aside0.mk A160
          clear A160
          replace H := Option.bind_eq_some_iff.mp H
          obtain ⟨t396, A170, H⟩ := H
          replace H : (some (t396, 0)) = some (r1, r2) := H
          have A17 := Aside0.mk A170
          clear A170
          simp only [Option.some.injEq, Prod.mk.injEq] at H
          obtain ⟨rfl, rfl⟩ := H
          go_wp2_with (first | ((with_reducible refine gate_callee (f := 116) rfl ?_); refine goesL_ (some 32) rfl rfl Try.func116 (by kernel_rfl) rfl #[.int .i64 a1, .int .i64 4] rfl (by (try simp only [List.map_toArray, List.map_cons, List.map_nil]); first | done | rfl | (simp only [List.length_drop, List.length_take]; rfl)) ?_; (with_reducible refine (udftag_little.calls a1 4 t393 _ A15.out).mono ?_); rintro e w18 ⟨rfl, hb⟩; refine ⟨_, rfl, ?_⟩; have n0_ := Aside0.mk (below_step (by repeat (first | (with_reducible first | exact HB.out | apply below_alloc | apply pw_below_drewN | apply below_drew1) | exact HB.out)) hb); clear HB; have HB := n0_; clear n0_; (try clear hb); (try clear hb2); (try clear hk); (try clear hi)) | ((with_reducible refine gate_callee (f := 115) rfl ?_); refine goesL_ (some 33) rfl rfl Try.func115 (by kernel_rfl) rfl #[.string a0, .int .i64 12, .string t393] rfl (by (try simp only [List.map_toArray, List.map_cons, List.map_nil]); first | done | rfl | (simp only [List.length_drop, List.length_take]; rfl)) ?_; (with_reducible refine (endian_Put.calls a0 12 t393 t394 t395 _ A16.out).mono ?_); rintro e w' ⟨rfl, ⟨nd, rfl⟩⟩; refine ⟨_, rfl, ?_⟩) | ((with_reducible refine gate_callee (f := 117) rfl ?_); refine goesL_ (some 37) rfl rfl Try.func117 (by kernel_rfl) rfl #[.string t394] rfl (by (try simp only [List.map_toArray, List.map_cons, List.map_nil]); first | done | rfl | (simp only [List.length_drop, List.length_take]; rfl)) ?_; (with_reducible refine (udftag_summed.calls kj5 t394 t396 _ A17.out).mono ?_); rintro e w19 ⟨rfl, hb⟩; refine ⟨_, rfl, ?_⟩; have n0_ := Aside0.mk (below_step (by repeat (first | (with_reducible first | exact HB.out | apply below_alloc | apply pw_below_drewN | apply below_drew1) | exact HB.out)) hb); clear HB; have HB := n0_; clear n0_; (try clear hb); (try clear hb2); (try clear hk); (try clear hi)))
          go_ret2
          exact ⟨by first | rfl | (simp [errW_none, errW_some] <;> rfl) | (simp [*, errW_none, errW_some] <;> rfl), by repeat (first | (with_reducible first | exact HB.out | apply below_alloc | apply pw_below_drewN | apply below_drew1) | exact HB.out)⟩
  · replace c4 := Bool.eq_false_iff.mpr c4
    subst c4
    have H1 : (some ((⟨#[]⟩ : ByteArray), 2)) = some (r1, r2) := by rw [if_neg (show ¬ (false = true) by decide)] at H; exact H
    clear H
    have H := H1
    clear H1
    simp only [Option.some.injEq, Prod.mk.injEq] at H
    obtain ⟨rfl, rfl⟩ := H
    go_enter Try.func47, Try.ntmps47
    go_wp2_with (first | ((with_reducible refine gate_callee (f := 114) rfl ?_); refine goesL_ (some 10) rfl rfl Try.func114 (by kernel_rfl) rfl #[.int .i64 a1, .int .i64 4] rfl (by (try simp only [List.map_toArray, List.map_cons, List.map_nil]); first | done | rfl | (simp only [List.length_drop, List.length_take]; rfl)) ?_; (with_reducible refine (udftag_fits.calls a1 4 false _ A3.out).mono ?_); rintro e w' ⟨rfl, ⟨nd, rfl⟩⟩; refine ⟨_, rfl, ?_⟩))
    go_ret2
    exact ⟨by first | rfl | (simp [errW_none, errW_some] <;> rfl) | (simp [*, errW_none, errW_some] <;> rfl), by repeat (first | (with_reducible first | exact HB.out | apply below_alloc | apply pw_below_drewN | apply below_drew1) | exact HB.out)⟩

/-! ### masterdiscref31_summed: function 118 -/
def masterdiscref31_summed.f (k : Nat) (a0 : ByteArray) : Option (ByteArray) := if 0 ≤ 4 then (if 4 ≤ (a0.size : Int) then ((masterdiscref31_sum.f k a0).bind fun t397 => ((some (([t397] : List Int) : List Int)).bind fun y398 => (if (a0.extract 0 4).size + (strOfNums y398).size ≤ 9223372036854775807 then (if 5 ≤ (a0.size : Int) then (if ((a0.extract 0 4) ++ (strOfNums y398)).size + (a0.extract 5 a0.size).size ≤ 9223372036854775807 then (some (((a0.extract 0 4) ++ (strOfNums y398)) ++ (a0.extract 5 a0.size))) else (none)) else (none)) else (none)))) else (none)) else (none)
theorem masterdiscref31_summed.mono : ∀ a0 k, LeO (masterdiscref31_summed.f k a0) (masterdiscref31_summed.f (k + 1) a0) := by
  intro a0 k
  unfold masterdiscref31_summed.f
  repeat' first
      | (with_reducible exact masterdiscref31_sum.mono _ _)
      | (with_reducible exact LeO.refl _)
      | (with_reducible exact LeO.none _)
      | (with_reducible refine LeO.ite ?_ ?_)
      | (with_reducible refine LeO.bind ?_ (fun _ => ?_))
      | exact masterdiscref31_sum.mono _ _
      | exact LeO.none _
      | refine LeO.ite ?_ ?_
      | refine LeO.bind ?_ (fun _ => ?_)
def masterdiscref31_summed.T1 : Bool × List (List Nat × List Nat) := (true, [([], []), ([0], [0]), ([], []), ([2], [2]), ([3], [3]), ([4], [4]), ([1, 5], [1, 5]), ([], []), ([7], [7]), ([6, 8], [6, 8]), ([9, 3, 0, 1, 2, 3, 4, 5, 6, 7, 8, 9], [9])])
def masterdiscref31_summed.B1 : List Nat := [0, 1, 0, 4, 12, 28, 63, 0, 128, 511, 1023]
theorem masterdiscref31_summed.tab1 : rtab .any (opsOf Try.f118 1) = masterdiscref31_summed.T1 := by kernel_rfl
theorem masterdiscref31_summed.bits1 : waitsOk masterdiscref31_summed.T1.2 masterdiscref31_summed.B1 = true := by kernel_rfl
set_option maxHeartbeats 8000000 in
set_option maxRecDepth 100000 in
theorem masterdiscref31_summed.calls (k : Nat) (a0 : ByteArray) (r : ByteArray) (w : World) (h : masterdiscref31_summed.f k a0 = some r) :
    Calls Try.prog 118 #[.string a0] w fun e w' => e = .returned (.string r) ∧ Below w.heap.size w w' := by
  have HB := Aside0.mk (Below.refl w.heap.size w)
  have H : (if 0 ≤ 4 then (if 4 ≤ (a0.size : Int) then ((masterdiscref31_sum.f k a0).bind fun t397 => ((some (([t397] : List Int) : List Int)).bind fun y398 => (if (a0.extract 0 4).size + (strOfNums y398).size ≤ 9223372036854775807 then (if 5 ≤ (a0.size : Int) then (if ((a0.extract 0 4) ++ (strOfNums y398)).size + (a0.extract 5 a0.size).size ≤ 9223372036854775807 then (some (((a0.extract 0 4) ++ (strOfNums y398)) ++ (a0.extract 5 a0.size))) else (none)) else (none)) else (none)))) else (none)) else (none)) = some r := h
  clear h
  by_cases c2 : 0 ≤ 4
  · rw [if_pos c2] at H
    have c2b0 := eq_true c2
    have c2b1 : decide (0 ≤ 4) = true := decide_eq_true c2
    clear c2
    by_cases c3 : 4 ≤ (a0.size : Int)
    · rw [if_pos c3] at H
      have c3b0 := eq_true c3
      have c3b1 : decide (4 ≤ (a0.size : Int)) = true := decide_eq_true c3
      clear c3
      replace H := Option.bind_eq_some_iff.mp H
      obtain ⟨t397, A40, H⟩ := H
      replace H : ((some (([t397] : List Int) : List Int)).bind fun y398 => (if (a0.extract 0 4).size + (strOfNums y398).size ≤ 9223372036854775807 then (if 5 ≤ (a0.size : Int) then (if ((a0.extract 0 4) ++ (strOfNums y398)).size + (a0.extract 5 a0.size).size ≤ 9223372036854775807 then (some (((a0.extract 0 4) ++ (strOfNums y398)) ++ (a0.extract 5 a0.size))) else (none)) else (none)) else (none))) = some r := H
      have A4 := Aside0.mk A40
      clear A40
      obtain ⟨y398, hy398⟩ : ∃ y_ : List Int, y_ = (([t397] : List Int)) := ⟨_, rfl⟩
      replace H : (if (a0.extract 0 4).size + (strOfNums y398).size ≤ 9223372036854775807 then (if 5 ≤ (a0.size : Int) then (if ((a0.extract 0 4) ++ (strOfNums y398)).size + (a0.extract 5 a0.size).size ≤ 9223372036854775807 then (some (((a0.extract 0 4) ++ (strOfNums y398)) ++ (a0.extract 5 a0.size))) else (none)) else (none)) else (none)) = some r := by first | (rw [hy398]; with_reducible exact H) | (have H2_ := (Option.bind_some _ _).symm.trans H; rw [hy398]; with_reducible exact H2_) | (have H2_ := (Option.bind_some _ _).symm.trans H; with_reducible exact H2_) | with_reducible exact H | (rw [hy398]; exact H) | exact H
      have Ny398 := Aside0.mk hy398
      clear hy398
      by_cases c5 : (a0.extract 0 4).size + (strOfNums y398).size ≤ 9223372036854775807
      · rw [if_pos c5] at H
        have c5b0 := eq_true c5
        have c5b1 : decide ((a0.extract 0 4).size + (strOfNums y398).size ≤ 9223372036854775807) = true := decide_eq_true c5
        try have c5b2 : (9223372036854775807 < (a0.extract 0 4).size + (strOfNums y398).size) = False := eq_false (Nat.not_lt.2 c5)
        try (have c5b3 := c5b2; conv at c5b3 => lhs; simp [go_sem])
        by_cases c6 : 5 ≤ (a0.size : Int)
        · rw [if_pos c6] at H
          have c6b0 := eq_true c6
          have c6b1 : decide (5 ≤ (a0.size : Int)) = true := decide_eq_true c6
          clear c6
          by_cases c7 : ((a0.extract 0 4) ++ (strOfNums y398)).size + (a0.extract 5 a0.size).size ≤ 9223372036854775807
          · rw [if_pos c7] at H
            have c7b0 := eq_true c7
            have c7b1 : decide (((a0.extract 0 4) ++ (strOfNums y398)).size + (a0.extract 5 a0.size).size ≤ 9223372036854775807) = true := decide_eq_true c7
            try have c7b2 : (9223372036854775807 < ((a0.extract 0 4) ++ (strOfNums y398)).size + (a0.extract 5 a0.size).size) = False := eq_false (Nat.not_lt.2 c7)
            try (have c7b3 := c7b2; conv at c7b3 => lhs; simp [go_sem])
            obtain rfl := Option.some.inj H
            go_enter Try.func118, Try.ntmps118
            try go_wp2
            have n0_ := Aside0.mk (below_drew1 HB.out)
            clear HB
            have HB := n0_
            clear n0_
            refine start_ (n := 11) (S := fun w' => True) (ds := []) #[false, false, false, false, false, false, false, false, false, false, false] (by kernel_rfl) rfl rfl trivial (fun hHeld => ?_); refine with_tabW masterdiscref31_summed.tab1 masterdiscref31_summed.bits1 (fun HT_ HW_ => ?_)
            generalize w.drew = w8 at HB hHeld ⊢
            refine pure_ (i := 0) (N := some 3) (v := ?_) (a' := ?_) #[true, false, false, false, false, false, false, false, false, false, false] rfl rfl (any_of HT_.out (by kernel_rfl)) (fun _ _ _ h => h) (Or.inl ⟨by rfl, ?_⟩) ?_ ?_
            rotate_left
            · intro w'
              go_simp
              with_reducible rfl
            rotate_left
            · simp only [Act.put, List.setIfInBounds_toArray, List.set_cons_zero, List.set_cons_succ, i64_w, i32_w]
              rfl
            refine pure_ (i := 1) (N := some 4) (v := ?_) (a' := ?_) #[true, true, false, false, false, false, false, false, false, false, false] rfl rfl (any_of HT_.out (by kernel_rfl)) (fun _ _ _ h => h) (Or.inl ⟨by rfl, ?_⟩) ?_ ?_
            rotate_left
            · intro w'
              go_simp
              with_reducible rfl
            rotate_left
            · simp only [Act.put, List.setIfInBounds_toArray, List.set_cons_zero, List.set_cons_succ, i64_w, i32_w]
              rfl
            refine pure_ (i := 2) (N := some 5) (v := ?_) (a' := ?_) #[true, true, true, false, false, false, false, false, false, false, false] rfl rfl (any_of HT_.out (by kernel_rfl)) (fun _ _ _ h => h) (Or.inl ⟨by rfl, ?_⟩) ?_ ?_
            rotate_left
            · intro w'
              go_simp
              with_reducible rfl
            rotate_left
            · simp only [Act.put, List.setIfInBounds_toArray, List.set_cons_zero, List.set_cons_succ, i64_w, i32_w]
              rfl
            refine pure_ (i := 7) (N := some 10) (v := ?_) (a' := ?_) #[true, true, true, false, false, false, false, true, false, false, false] rfl rfl (any_of HT_.out (by kernel_rfl)) (fun _ _ _ h => h) (Or.inl ⟨by rfl, ?_⟩) ?_ ?_
            rotate_left
            · intro w'
              go_simp
              with_reducible rfl
            rotate_left
            · simp only [Act.put, List.setIfInBounds_toArray, List.set_cons_zero, List.set_cons_succ, i64_w, i32_w]
              rfl
            refine pure_ (i := 8) (N := some 11) (v := ?_) (a' := ?_) #[true, true, true, false, false, false, false, true, true, false, false] rfl rfl (any_of HT_.out (by kernel_rfl)) (fun _ _ _ h => h) (Or.inl ⟨by rfl, ?_⟩) ?_ ?_
            rotate_left
            · intro w'
              go_simp
              with_reducible rfl
            rotate_left
            · simp only [Act.put, List.setIfInBounds_toArray, List.set_cons_zero, List.set_cons_succ, i64_w, i32_w]
              rfl
            refine one_ (i := 3) (N := some 6) #[true, true, true, true, false, false, false, true, true, false, false] rfl rfl (one_of HT_.out (by kernel_rfl)) (by decide) (fun K hK => ?_)
            refine goes_ Try.func123 (by kernel_rfl) rfl #[.string a0] (by rfl) rfl rfl (by (try simp only [List.map_toArray, List.map_cons, List.map_nil]); first | done | rfl | (simp only [List.length_drop, List.length_take]; rfl)) ?_
            with_reducible refine (masterdiscref31_sum.calls k a0 t397 _ A4.out).mono ?_
            rintro e w' ⟨rfl, ⟨nd, rfl⟩⟩
            refine ⟨_, rfl, ?_⟩
            refine hK.out _ _ trivial (fun hHeld => ?_)
            clear hK K
            refine norm_ (a' := ?_) ?_ ?_
            rotate_left
            · show Act.put _ (some 6) _ = _
              simp only [Act.put, List.setIfInBounds_toArray, List.set_cons_zero, List.set_cons_succ, i64_w, i32_w]
              rfl
            refine one_ (i := 4) (N := some 7) #[true, true, true, true, true, false, false, true, true, false, false] rfl rfl (one_of HT_.out (by kernel_rfl)) (by decide) (fun K hK => ?_)
            refine Kd.R_lit_step (Kd.int .u8) _ 5 ?hg (N := 7) ?hd (xs := ([t397] : List Int)) (inner := [.int .u8 t397]) (ok := fun _ => True) (okp := fun _ => True) ?hr ?hp (fun _ hk => hk) trivial (Below.refl _ _) (Nat.le_refl _) (by simp) ?_; (case hd => rfl); (case hg => rfl); (case hr => first | (go_simp; done) | (go_simp; rfl)); (case hp => exact (Reps.one (show Kd.M (Kd.int .u8) _ _ _ t397 [.int .u8 t397] from rfl) (Reps.none _ _)))
            intro v399 w9 ho10 hb hg_ hnew_
            clear hg_ hnew_
            (first | rw [← Ny398.out] at ho10 | (simp only [Int.reduceToNat] at ho10; rw [← Ny398.out] at ho10))
            have n0_ := Aside0.mk (Kd.R_lower ho10 (below_size (by repeat (first | (with_reducible first | exact HB.out | apply below_alloc | apply pw_below_drewN | apply below_drew1) | exact HB.out))))
            have n1_ := Aside0.mk (below_step (by repeat (first | (with_reducible first | exact HB.out | apply below_alloc | apply pw_below_drewN | apply below_drew1) | exact HB.out)) hb)
            clear HB
            have HO400 := n0_
            have HB := n1_
            clear n0_ n1_
            clear hb ho10
            refine hK.out _ _ trivial (fun hHeld => ?_)
            clear hK K
            refine norm_ (a' := ?_) ?_ ?_
            rotate_left
            · show Act.put _ (some 7) _ = _
              simp only [Act.put, List.setIfInBounds_toArray, List.set_cons_zero, List.set_cons_succ, i64_w, i32_w]
              rfl
            refine one_ (i := 5) (N := some 8) #[true, true, true, true, true, true, false, true, true, false, false] rfl rfl (one_of HT_.out (by kernel_rfl)) (by decide) (fun K hK => ?_)
            have hcv11 := own_string (P := Try.prog) Try.underlying29 Try.underlying5 Try.underlying9 (Kd.own_of_R HO400.out)
            refine value_ (w1 := ?_) (v := ?_) (by rfl) rfl ?_ ?_
            rotate_left 2
            · go_simp
              constructor
              · rfl
              · rfl
            clear hcv11
            refine hK.out _ _ trivial (fun hHeld => ?_)
            clear hK K
            refine norm_ (a' := ?_) ?_ ?_
            rotate_left
            · show Act.put _ (some 8) _ = _
              simp only [Act.put, List.setIfInBounds_toArray, List.set_cons_zero, List.set_cons_succ, i64_w, i32_w]
              rfl
            refine pure_ (i := 6) (N := some 9) (v := ?_) (a' := ?_) #[true, true, true, true, true, true, true, true, true, false, false] rfl rfl (any_of HT_.out (by kernel_rfl)) (fun _ _ _ h => h) (Or.inl ⟨by rfl, ?_⟩) ?_ ?_
            rotate_left
            · intro w'
              go_simp
              with_reducible rfl
            rotate_left
            · simp only [Act.put, List.setIfInBounds_toArray, List.set_cons_zero, List.set_cons_succ, i64_w, i32_w]
              rfl
            refine pure_ (i := 9) (N := some 12) (v := ?_) (a' := ?_) #[true, true, true, true, true, true, true, true, true, true, false] rfl rfl (any_of HT_.out (by kernel_rfl)) (fun _ _ _ h => h) (Or.inl ⟨by rfl, ?_⟩) ?_ ?_
            rotate_left
            · intro w'
              go_simp
              with_reducible rfl
            rotate_left
            · simp only [Act.put, List.setIfInBounds_toArray, List.set_cons_zero, List.set_cons_succ, i64_w, i32_w]
              rfl
            refine pure_ (i := 10) (N := some 2) (v := ?_) (a' := ?_) #[true, true, true, true, true, true, true, true, true, true, true] rfl rfl (any_of HT_.out (by kernel_rfl)) (fun _ _ _ h => h) (Or.inl ⟨by rfl, ?_⟩) ?_ ?_
            rotate_left
            · intro w'
              go_simp
              with_reducible rfl
            rotate_left
            · simp only [Act.put, List.setIfInBounds_toArray, List.set_cons_zero, List.set_cons_succ, i64_w, i32_w]
              rfl
            refine done_ (done_of HT_.out (by kernel_rfl)) ?_
            try go_wp2
            go_ret
            exact ⟨by first | rfl | (simp [errW_none, errW_some] <;> rfl) | (simp [*, errW_none, errW_some] <;> rfl), by repeat (first | (with_reducible first | exact HB.out | apply below_alloc | apply pw_below_drewN | apply below_drew1) | exact HB.out)⟩
          · rw [if_neg c7] at H
            exact absurd H (by simp)
        · rw [if_neg c6] at H
          exact absurd H (by simp)
      · rw [if_neg c5] at H
        exact absurd H (by simp)
    · rw [if_neg c3] at H
      exact absurd H (by simp)
  · rw [if_neg c2] at H
    exact absurd H (by simp)

/-! ### masterdiscref31_Relocate: function 48 -/
mutual
def masterdiscref31_Relocate.j0 : Nat → ByteArray → Int → Bool → Option (ByteArray × Int)
  | 0, _, _, _ => none
  | k + 1, x0, x1, x13 => if x13 = true then (some ((⟨#[]⟩ : ByteArray), 2)) else ((masterdiscref31_Faults.f k x0 x1).bind fun t401 => (masterdiscref31_Relocate.l0 k x0 x1 t401 0))
def masterdiscref31_Relocate.l0 : Nat → ByteArray → Int → List Int → Int → Option (ByteArray × Int)
  | 0, _, _, _, _ => none
  | k + 1, x0, x1, x6, x7 => if x7 < (x6.length : Int) then (if 0 ≤ x7 then (if (rd x6 x7) = 6 then (masterdiscref31_Relocate.l0 k x0 x1 x6 (wrap64 (x7 + 1))) else (some ((⟨#[]⟩ : ByteArray), 10))) else (none)) else (if 0 ≤ 12 then (if 12 ≤ (x0.size : Int) then ((masterdiscref01_Bytes.f k x1 4).bind fun t405 => (if (x0.extract 0 12).size + t405.size ≤ 9223372036854775807 then (if 16 ≤ (x0.size : Int) then (if ((x0.extract 0 12) ++ t405).size + (x0.extract 16 x0.size).size ≤ 9223372036854775807 then ((masterdiscref31_summed.f k (((x0.extract 0 12) ++ t405) ++ (x0.extract 16 x0.size))).bind fun t406 => (some (t406, 0))) else (none)) else (none)) else (none))) else (none)) else (none))
end
def masterdiscref31_Relocate.f (k : Nat) (a0 : ByteArray) (a1 : Int) : Option (ByteArray × Int) := if a1 < 0 then (masterdiscref31_Relocate.j0 k a0 a1 true) else (masterdiscref31_Relocate.j0 k a0 a1 (decide (a1 ≥ 4294967296)))
theorem masterdiscref31_Relocate.mono_l : ∀ k, (∀ y0 y1 y2, LeO (masterdiscref31_Relocate.j0 k y0 y1 y2) (masterdiscref31_Relocate.j0 (k + 1) y0 y1 y2)) ∧ (∀ y0 y1 y2 y3, LeO (masterdiscref31_Relocate.l0 k y0 y1 y2 y3) (masterdiscref31_Relocate.l0 (k + 1) y0 y1 y2 y3))
  | 0 => ⟨fun _ _ _ r h => by simp [masterdiscref31_Relocate.j0] at h, fun _ _ _ _ r h => by simp [masterdiscref31_Relocate.l0] at h⟩
  | k + 1 => by
    obtain ⟨ih0, ih1⟩ := masterdiscref31_Relocate.mono_l k
    refine ⟨?_, ?_⟩
    · intro y0 y1 y2
      unfold masterdiscref31_Relocate.j0
      repeat' first
      | (with_reducible exact ih0 _ _ _)
      | (with_reducible exact ih1 _ _ _ _)
      | (with_reducible exact masterdiscref01_Bytes.mono _ _ _)
      | (with_reducible exact masterdiscref31_Faults.mono _ _ _)
      | (with_reducible exact masterdiscref31_summed.mono _ _)
      | (with_reducible exact LeO.refl _)
      | (with_reducible exact LeO.none _)
      | (with_reducible refine LeO.ite ?_ ?_)
      | (with_reducible refine LeO.bind ?_ (fun _ => ?_))
      | exact ih0 _ _ _
      | exact ih1 _ _ _ _
      | exact masterdiscref01_Bytes.mono _ _ _
      | exact masterdiscref31_Faults.mono _ _ _
      | exact masterdiscref31_summed.mono _ _
      | exact LeO.none _
      | refine LeO.ite ?_ ?_
      | refine LeO.bind ?_ (fun _ => ?_)
    · intro y0 y1 y2 y3
      unfold masterdiscref31_Relocate.l0
      repeat' first
      | (with_reducible exact ih0 _ _ _)
      | (with_reducible exact ih1 _ _ _ _)
      | (with_reducible exact masterdiscref01_Bytes.mono _ _ _)
      | (with_reducible exact masterdiscref31_Faults.mono _ _ _)
      | (with_reducible exact masterdiscref31_summed.mono _ _)
      | (with_reducible exact LeO.refl _)
      | (with_reducible exact LeO.none _)
      | (with_reducible refine LeO.ite ?_ ?_)
      | (with_reducible refine LeO.bind ?_ (fun _ => ?_))
      | exact ih0 _ _ _
      | exact ih1 _ _ _ _
      | exact masterdiscref01_Bytes.mono _ _ _
      | exact masterdiscref31_Faults.mono _ _ _
      | exact masterdiscref31_summed.mono _ _
      | exact LeO.none _
      | refine LeO.ite ?_ ?_
      | refine LeO.bind ?_ (fun _ => ?_)
theorem masterdiscref31_Relocate.mono : ∀ a0 a1 k, LeO (masterdiscref31_Relocate.f k a0 a1) (masterdiscref31_Relocate.f (k + 1) a0 a1) := by
  intro a0 a1 k
  obtain ⟨ih0, ih1⟩ := masterdiscref31_Relocate.mono_l k
  unfold masterdiscref31_Relocate.f
  repeat' first
      | (with_reducible exact ih0 _ _ _)
      | (with_reducible exact ih1 _ _ _ _)
      | (with_reducible exact masterdiscref01_Bytes.mono _ _ _)
      | (with_reducible exact masterdiscref31_Faults.mono _ _ _)
      | (with_reducible exact masterdiscref31_summed.mono _ _)
      | (with_reducible exact LeO.refl _)
      | (with_reducible exact LeO.none _)
      | (with_reducible refine LeO.ite ?_ ?_)
      | (with_reducible refine LeO.bind ?_ (fun _ => ?_))
      | exact ih0 _ _ _
      | exact ih1 _ _ _ _
      | exact masterdiscref01_Bytes.mono _ _ _
      | exact masterdiscref31_Faults.mono _ _ _
      | exact masterdiscref31_summed.mono _ _
      | exact LeO.none _
      | refine LeO.ite ?_ ?_
      | refine LeO.bind ?_ (fun _ => ?_)
def masterdiscref31_Relocate.T9 : Bool × List (List Nat × List Nat) := (true, [([], []), ([0], [0]), ([], []), ([2], [2]), ([1, 3], [1, 3]), ([], []), ([5], [5]), ([4, 6], [4, 6]), ([7, 3], [7]), ([8, 8, 0, 1, 2, 3, 4, 5, 6, 7, 8], [8]), ([9, 0, 1, 2, 3, 4, 5, 6, 7, 8, 9], [])])
def masterdiscref31_Relocate.B9 : List Nat := [0, 1, 0, 4, 15, 0, 32, 127, 255, 511, 1023]
theorem masterdiscref31_Relocate.tab9 : rtab .any (opsOf Try.f48 9) = masterdiscref31_Relocate.T9 := by kernel_rfl
theorem masterdiscref31_Relocate.bits9 : waitsOk masterdiscref31_Relocate.T9.2 masterdiscref31_Relocate.B9 = true := by kernel_rfl
set_option maxHeartbeats 8000000 in
set_option maxRecDepth 100000 in
theorem masterdiscref31_Relocate.calls (k : Nat) (a0 : ByteArray) (a1 : Int) (r1 : ByteArray) (r2 : Int) (w : World) (h : masterdiscref31_Relocate.f k a0 a1 = some (r1, r2)) :
    Calls Try.prog 48 #[.string a0, .int .i64 a1] w fun e w' => e = .returned (.tuple #[.string r1, .int .i64 r2]) ∧ Below w.heap.size w w' := by
  have HB := Aside0.mk (Below.refl w.heap.size w)
  have H : (if a1 < 0 then (masterdiscref31_Relocate.j0 k a0 a1 true) else (masterdiscref31_Relocate.j0 k a0 a1 (decide (a1 ≥ 4294967296)))) = some (r1, r2) := h
  clear h
  have HC3 := Aside0.mk H
  clear H
  go_enter Try.func48, Try.ntmps48
  go_upto_region 1 with (fail)
  go_cut [13] (fun v13 wc => ∃ (kq : Nat) (x13_2 : Bool), v13 = .bool x13_2 ∧ Aside0 (masterdiscref31_Relocate.j0 kq a0 a1 x13_2 = some (r1, r2)) ∧ Aside0 (kq ≤ k) ∧ Aside0 (Below w.heap.size w wc))
  case first =>
    have H := HC3.out
    clear HC3
    by_cases c4 : a1 < 0
    · rw [if_pos c4] at H
      have c4b0 : decide (a1 < 0) = true := decide_eq_true c4
      clear c4
      (first | rw [c4b0] | (simp only [i64_w, i32_w]; rw [c4b0]) | skip)
      have H' := Aside0.mk H
      clear H
      go_wp2
      go_meet
      case rel => exact ⟨_, (true), (by first | rfl | (simp; done) | (simp [*]; done)), H', ⟨by first | omega | exact Nat.le_refl _⟩, ⟨by repeat (first | (with_reducible first | exact HB.out | apply below_alloc | apply pw_below_drewN | apply below_drew1) | exact HB.out)⟩⟩
    · rw [if_neg c4] at H
      have c4b0 : decide (a1 < 0) = false := decide_eq_false c4
      clear c4
      (first | rw [c4b0] | (simp only [i64_w, i32_w]; rw [c4b0]) | skip)
      have H' := Aside0.mk H
      clear H
      go_wp2
      go_meet
      case rel => exact ⟨_, (decide (a1 ≥ 4294967296)), (by first | rfl | (simp; done) | (simp [*]; done)), H', ⟨by first | omega | exact Nat.le_refl _⟩, ⟨by repeat (first | (with_reducible first | exact HB.out | apply below_alloc | apply pw_below_drewN | apply below_drew1) | exact HB.out)⟩⟩
  case rest =>
    clear HC3
    try clear p2
    try clear c4
    try clear c4b0
    obtain ⟨kq, x13_2, rfl, HA, HJ2, HB⟩ := hcut
    cases kq with
    | zero => exact absurd HA.out (by simp [masterdiscref31_Relocate.j0])
    | succ kj2 =>
      have H := HA.out
      clear HA
      simp only [masterdiscref31_Relocate.j0] at H
      by_cases c5 : x13_2 = true
      · subst c5
        have H1 : (some ((⟨#[]⟩ : ByteArray), 2)) = some (r1, r2) := by rw [if_pos rfl] at H; exact H
        clear H
        have H := H1
        clear H1
        simp only [Option.some.injEq, Prod.mk.injEq] at H
        obtain ⟨rfl, rfl⟩ := H
        go_wp2
        go_ret2
        exact ⟨by first | rfl | (simp [errW_none, errW_some] <;> rfl) | (simp [*, errW_none, errW_some] <;> rfl), by repeat (first | (with_reducible first | exact HB.out | apply below_alloc | apply pw_below_drewN | apply below_drew1) | exact HB.out)⟩
      · replace c5 := Bool.eq_false_iff.mpr c5
        subst c5
        have H1 : ((masterdiscref31_Faults.f kj2 a0 a1).bind fun t401 => (masterdiscref31_Relocate.l0 kj2 a0 a1 t401 0)) = some (r1, r2) := by rw [if_neg (show ¬ (false = true) by decide)] at H; exact H
        clear H
        have H := H1
        clear H1
        replace H := Option.bind_eq_some_iff.mp H
        obtain ⟨t401, A60, H⟩ := H
        replace H : (masterdiscref31_Relocate.l0 kj2 a0 a1 t401 0) = some (r1, r2) := H
        have A6 := Aside0.mk A60
        clear A60
        have H' := Aside0.mk H
        clear H
        go_wp2_with (first | ((with_reducible refine gate_callee (f := 65) rfl ?_); refine goesL_ (some 16) rfl rfl Try.func65 (by kernel_rfl) rfl #[.string a0, .int .i64 a1] rfl (by (try simp only [List.map_toArray, List.map_cons, List.map_nil]); first | done | rfl | (simp only [List.length_drop, List.length_take]; rfl)) ?_; (with_reducible refine (masterdiscref31_Faults.calls kj2 a0 a1 t401 _ A6.out).mono ?_); rintro e w7 ⟨v402, rfl, ho0, hb⟩; refine ⟨_, rfl, ?_⟩; have n0_ := Aside0.mk (Kd.R_lower ho0 (below_size (by repeat (first | (with_reducible first | exact HB.out | apply below_alloc | apply pw_below_drewN | apply below_drew1) | exact HB.out)))); have n1_ := Aside0.mk (below_step (by repeat (first | (with_reducible first | exact HB.out | apply below_alloc | apply pw_below_drewN | apply below_drew1) | exact HB.out)) hb); clear HB; have HO403 := n0_; have HB := n1_; clear n0_ n1_; (try clear hb); (try clear hb2); (try clear hk); (try clear hi); (try clear ho0)))
        go_loopg [7] kj2 (fun kq v7 w' => ∃ (x7_2 : Int), v7 = .int .i64 x7_2 ∧ Aside0 (masterdiscref31_Relocate.l0 kq a0 a1 t401 x7_2 = some (r1, r2)) ∧ Aside0 (kq ≤ kj2) ∧ Aside0 (Kd.R (Kd.int .i64) 3 w' w.heap.size (fun _ => True) v402 t401) ∧ Aside0 (Below w.heap.size w w'))
        case atStart => exact ⟨(0), (by first | rfl | (simp; done) | (simp [*]; done)), H', ⟨Nat.le_refl _⟩, ⟨by (with_reducible repeat (first | apply Kd.R_alloc | apply Kd.R_drewN | apply Kd.R_drew)); exact HO403.out⟩, ⟨by repeat (first | (with_reducible first | exact HB.out | apply below_alloc | apply pw_below_drewN | apply below_drew1) | exact HB.out)⟩⟩
        case round =>
          clear H'
          try clear p2
          try clear c4
          try clear c4b0
          try clear c5
          try clear c6
          try clear p2
          obtain ⟨x7_2, rfl, HA, HK2, HO_6, HB⟩ := hrel
          cases gk with
          | zero => exact absurd HA.out (by simp [masterdiscref31_Relocate.l0])
          | succ k2 =>
            have H := HA.out
            clear HA
            simp only [masterdiscref31_Relocate.l0] at H
            by_cases c8 : x7_2 < (t401.length : Int)
            · rw [if_pos c8] at H
              have c8b0 : decide (x7_2 < (t401.length : Int)) = true := decide_eq_true c8
              clear c8
              by_cases c9 : 0 ≤ x7_2
              · rw [if_pos c9] at H
                have c9b0 : decide (0 ≤ x7_2) = true := decide_eq_true c9
                clear c9
                by_cases c10 : (rd t401 x7_2) = 6
                · rw [if_pos c10] at H
                  have c10b0 : ((rd t401 x7_2) == 6) = true := beq_iff_eq.mpr c10
                  have c10b1 : ((rd t401 x7_2) != 6) = false := bne_eq_false_iff_eq.mpr c10
                  clear c10
                  have H' := Aside0.mk H
                  clear H
                  obtain ⟨Ao11, co11, eo11⟩ := Kd.R_slice HO_6.out
                  subst eo11
                  have p404 : 0 ≤ (x7_2 : Int) := of_decide_eq_true (by first | (with_reducible assumption) | assumption)
                  have q404 : x7_2 < (t401.length : Int) := of_decide_eq_true (by first | (with_reducible assumption) | assumption)
                  obtain ⟨ad404, e404, hx404_0⟩ := Kd.at_int (Kd.R_reads' HO_6.out).2.2 x7_2 p404 q404
                  cases e404
                  replace p404 := eq_true p404
                  replace q404 := eq_true q404
                  go_wp2
                  go_roundg k2
                  case measure => have := HJ2.out; have := HK2.out; omega
                  case rel => exact ⟨(wrap64 (x7_2 + 1)), (by first | rfl | (simp; done) | (simp [*]; done)), H', ⟨by have := HJ2.out; have := HK2.out; omega⟩, ⟨by (with_reducible repeat (first | apply Kd.R_alloc | apply Kd.R_drewN | apply Kd.R_drew)); exact HO_6.out⟩, ⟨by repeat (first | (with_reducible first | exact HB.out | apply below_alloc | apply pw_below_drewN | apply below_drew1) | exact HB.out)⟩⟩
                · rw [if_neg c10] at H
                  have c10b0 : ((rd t401 x7_2) == 6) = false := beq_eq_false_iff_ne.mpr c10
                  have c10b1 : ((rd t401 x7_2) != 6) = true := bne_iff_ne.mpr c10
                  simp only [Option.some.injEq, Prod.mk.injEq] at H
                  obtain ⟨rfl, rfl⟩ := H
                  obtain ⟨Ao12, co12, eo12⟩ := Kd.R_slice HO_6.out
                  subst eo12
                  have p404 : 0 ≤ (x7_2 : Int) := of_decide_eq_true (by first | (with_reducible assumption) | assumption)
                  have q404 : x7_2 < (t401.length : Int) := of_decide_eq_true (by first | (with_reducible assumption) | assumption)
                  obtain ⟨ad404, e404, hx404_0⟩ := Kd.at_int (Kd.R_reads' HO_6.out).2.2 x7_2 p404 q404
                  cases e404
                  replace p404 := eq_true p404
                  replace q404 := eq_true q404
                  go_wp2
                  go_ret2
                  exact ⟨by first | rfl | (simp [errW_none, errW_some] <;> rfl) | (simp [*, errW_none, errW_some] <;> rfl), by repeat (first | (with_reducible first | exact HB.out | apply below_alloc | apply pw_below_drewN | apply below_drew1) | exact HB.out)⟩
              · rw [if_neg c9] at H
                exact absurd H (by simp)
            · rw [if_neg c8] at H
              have c8b0 : decide (x7_2 < (t401.length : Int)) = false := decide_eq_false c8
              clear c8
              by_cases c13 : 0 ≤ 12
              · rw [if_pos c13] at H
                have c13b0 := eq_true c13
                have c13b1 : decide (0 ≤ 12) = true := decide_eq_true c13
                clear c13
                by_cases c14 : 12 ≤ (a0.size : Int)
                · rw [if_pos c14] at H
                  have c14b0 := eq_true c14
                  have c14b1 : decide (12 ≤ (a0.size : Int)) = true := decide_eq_true c14
                  clear c14
                  replace H := Option.bind_eq_some_iff.mp H
                  obtain ⟨t405, A150, H⟩ := H
                  replace H : (if (a0.extract 0 12).size + t405.size ≤ 9223372036854775807 then (if 16 ≤ (a0.size : Int) then (if ((a0.extract 0 12) ++ t405).size + (a0.extract 16 a0.size).size ≤ 9223372036854775807 then ((masterdiscref31_summed.f k2 (((a0.extract 0 12) ++ t405) ++ (a0.extract 16 a0.size))).bind fun t406 => (some (t406, 0))) else (none)) else (none)) else (none)) = some (r1, r2) := H
                  have A15 := Aside0.mk A150
                  clear A150
                  by_cases c16 : (a0.extract 0 12).size + t405.size ≤ 9223372036854775807
                  · rw [if_pos c16] at H
                    have c16b0 := eq_true c16
                    have c16b1 : decide ((a0.extract 0 12).size + t405.size ≤ 9223372036854775807) = true := decide_eq_true c16
                    try have c16b2 : (9223372036854775807 < (a0.extract 0 12).size + t405.size) = False := eq_false (Nat.not_lt.2 c16)
                    try (have c16b3 := c16b2; conv at c16b3 => lhs; simp [go_sem])
                    by_cases c17 : 16 ≤ (a0.size : Int)
                    · rw [if_pos c17] at H
                      have c17b0 := eq_true c17
                      have c17b1 : decide (16 ≤ (a0.size : Int)) = true := decide_eq_true c17
                      clear c17
                      by_cases c18 : ((a0.extract 0 12) ++ t405).size + (a0.extract 16 a0.size).size ≤ 9223372036854775807
                      · rw [if_pos c18] at H
                        have c18b0 := eq_true c18
                        have c18b1 : decide (((a0.extract 0 12) ++ t405).size + (a0.extract 16 a0.size).size ≤ 9223372036854775807) = true := decide_eq_true c18
                        try have c18b2 : (9223372036854775807 < ((a0.extract 0 12) ++ t405).size + (a0.extract 16 a0.size).size) = False := eq_false (Nat.not_lt.2 c18)
                        try (have c18b3 := c18b2; conv at c18b3 => lhs; simp [go_sem])
                        replace H := Option.bind_eq_some_iff.mp H
                        obtain ⟨t406, A190, H⟩ := H
                        replace H : (some (t406, 0)) = some (r1, r2) := H
                        have A19 := Aside0.mk A190
                        clear A190
                        simp only [Option.some.injEq, Prod.mk.injEq] at H
                        obtain ⟨rfl, rfl⟩ := H
                        obtain ⟨Ao20, co20, eo20⟩ := Kd.R_slice HO_6.out
                        subst eo20
                        try go_wp2
                        have n0_ := Aside0.mk (Kd.R_drew HO_6.out)
                        have n1_ := Aside0.mk (below_drew1 HB.out)
                        clear HO_6
                        clear HB
                        have HO_6 := n0_
                        have HB := n1_
                        clear n0_ n1_
                        refine start_ (n := 11) (S := fun w' => True) (ds := []) #[false, false, false, false, false, false, false, false, false, false, false] (by kernel_rfl) rfl rfl trivial (fun hHeld => ?_); refine with_tabW masterdiscref31_Relocate.tab9 masterdiscref31_Relocate.bits9 (fun HT_ HW_ => ?_)
                        generalize wr.drew = w21 at HO_6 HB hHeld ⊢
                        refine pure_ (i := 0) (N := some 28) (v := ?_) (a' := ?_) #[true, false, false, false, false, false, false, false, false, false, false] rfl rfl (any_of HT_.out (by kernel_rfl)) (fun _ _ _ h => h) (Or.inl ⟨by rfl, ?_⟩) ?_ ?_
                        rotate_left
                        · intro w'
                          go_simp
                          with_reducible rfl
                        rotate_left
                        · simp only [Act.put, List.setIfInBounds_toArray, List.set_cons_zero, List.set_cons_succ, i64_w, i32_w]
                          rfl
                        refine pure_ (i := 1) (N := some 29) (v := ?_) (a' := ?_) #[true, true, false, false, false, false, false, false, false, false, false] rfl rfl (any_of HT_.out (by kernel_rfl)) (fun _ _ _ h => h) (Or.inl ⟨by rfl, ?_⟩) ?_ ?_
                        rotate_left
                        · intro w'
                          go_simp
                          with_reducible rfl
                        rotate_left
                        · simp only [Act.put, List.setIfInBounds_toArray, List.set_cons_zero, List.set_cons_succ, i64_w, i32_w]
                          rfl
                        refine pure_ (i := 2) (N := some 30) (v := ?_) (a' := ?_) #[true, true, true, false, false, false, false, false, false, false, false] rfl rfl (any_of HT_.out (by kernel_rfl)) (fun _ _ _ h => h) (Or.inl ⟨by rfl, ?_⟩) ?_ ?_
                        rotate_left
                        · intro w'
                          go_simp
                          with_reducible rfl
                        rotate_left
                        · simp only [Act.put, List.setIfInBounds_toArray, List.set_cons_zero, List.set_cons_succ, i64_w, i32_w]
                          rfl
                        refine pure_ (i := 5) (N := some 33) (v := ?_) (a' := ?_) #[true, true, true, false, false, true, false, false, false, false, false] rfl rfl (any_of HT_.out (by kernel_rfl)) (fun _ _ _ h => h) (Or.inl ⟨by rfl, ?_⟩) ?_ ?_
                        rotate_left
                        · intro w'
                          go_simp
                          with_reducible rfl
                        rotate_left
                        · simp only [Act.put, List.setIfInBounds_toArray, List.set_cons_zero, List.set_cons_succ, i64_w, i32_w]
                          rfl
                        refine pure_ (i := 6) (N := some 34) (v := ?_) (a' := ?_) #[true, true, true, false, false, true, true, false, false, false, false] rfl rfl (any_of HT_.out (by kernel_rfl)) (fun _ _ _ h => h) (Or.inl ⟨by rfl, ?_⟩) ?_ ?_
                        rotate_left
                        · intro w'
                          go_simp
                          with_reducible rfl
                        rotate_left
                        · simp only [Act.put, List.setIfInBounds_toArray, List.set_cons_zero, List.set_cons_succ, i64_w, i32_w]
                          rfl
                        refine one_ (i := 3) (N := some 31) #[true, true, true, true, false, true, true, false, false, false, false] rfl rfl (one_of HT_.out (by kernel_rfl)) (by decide) (fun K hK => ?_)
                        refine goes_ Try.func108 (by kernel_rfl) rfl #[.int .i64 a1, .int .i64 4] (by rfl) rfl rfl (by (try simp only [List.map_toArray, List.map_cons, List.map_nil]); first | done | rfl | (simp only [List.length_drop, List.length_take]; rfl)) ?_
                        with_reducible refine (masterdiscref01_Bytes.calls k2 a1 4 t405 _ A15.out).mono ?_
                        rintro e w22 ⟨rfl, hb⟩
                        refine ⟨_, rfl, ?_⟩
                        have n0_ := Aside0.mk (Kd.R_below (by (with_reducible repeat (first | apply Kd.R_alloc | apply Kd.R_drewN | apply Kd.R_drew)); exact HO_6.out) hb)
                        have n1_ := Aside0.mk (below_step (by repeat (first | (with_reducible first | exact HB.out | apply below_alloc | apply pw_below_drewN | apply below_drew1) | exact HB.out)) hb)
                        clear HO_6
                        clear HB
                        have HO_6 := n0_
                        have HB := n1_
                        clear n0_ n1_
                        (try clear hb)
                        (try clear hb2)
                        (try clear hk)
                        (try clear hi)
                        refine hK.out _ _ trivial (fun hHeld => ?_)
                        clear hK K
                        refine norm_ (a' := ?_) ?_ ?_
                        rotate_left
                        · show Act.put _ (some 31) _ = _
                          simp only [Act.put, List.setIfInBounds_toArray, List.set_cons_zero, List.set_cons_succ, i64_w, i32_w]
                          rfl
                        refine pure_ (i := 4) (N := some 32) (v := ?_) (a' := ?_) #[true, true, true, true, true, true, true, false, false, false, false] rfl rfl (any_of HT_.out (by kernel_rfl)) (fun _ _ _ h => h) (Or.inl ⟨by rfl, ?_⟩) ?_ ?_
                        rotate_left
                        · intro w'
                          go_simp
                          with_reducible rfl
                        rotate_left
                        · simp only [Act.put, List.setIfInBounds_toArray, List.set_cons_zero, List.set_cons_succ, i64_w, i32_w]
                          rfl
                        refine pure_ (i := 7) (N := some 35) (v := ?_) (a' := ?_) #[true, true, true, true, true, true, true, true, false, false, false] rfl rfl (any_of HT_.out (by kernel_rfl)) (fun _ _ _ h => h) (Or.inl ⟨by rfl, ?_⟩) ?_ ?_
                        rotate_left
                        · intro w'
                          go_simp
                          with_reducible rfl
                        rotate_left
                        · simp only [Act.put, List.setIfInBounds_toArray, List.set_cons_zero, List.set_cons_succ, i64_w, i32_w]
                          rfl
                        refine one_ (i := 8) (N := some 36) #[true, true, true, true, true, true, true, true, true, false, false] rfl rfl (one_of HT_.out (by kernel_rfl)) (by decide) (fun K hK => ?_)
                        refine goes_ Try.func118 (by kernel_rfl) rfl #[.string (((a0.extract 0 12) ++ t405) ++ (a0.extract 16 a0.size))] (by rfl) rfl rfl (by (try simp only [List.map_toArray, List.map_cons, List.map_nil]); first | done | rfl | (simp only [List.length_drop, List.length_take]; rfl)) ?_
                        with_reducible refine (masterdiscref31_summed.calls k2 (((a0.extract 0 12) ++ t405) ++ (a0.extract 16 a0.size)) t406 _ A19.out).mono ?_
                        rintro e w23 ⟨rfl, hb⟩
                        refine ⟨_, rfl, ?_⟩
                        have n0_ := Aside0.mk (Kd.R_below (by (with_reducible repeat (first | apply Kd.R_alloc | apply Kd.R_drewN | apply Kd.R_drew)); exact HO_6.out) hb)
                        have n1_ := Aside0.mk (below_step (by repeat (first | (with_reducible first | exact HB.out | apply below_alloc | apply pw_below_drewN | apply below_drew1) | exact HB.out)) hb)
                        clear HO_6
                        clear HB
                        have HO_6 := n0_
                        have HB := n1_
                        clear n0_ n1_
                        (try clear hb)
                        (try clear hb2)
                        (try clear hk)
                        (try clear hi)
                        refine hK.out _ _ trivial (fun hHeld => ?_)
                        clear hK K
                        refine norm_ (a' := ?_) ?_ ?_
                        rotate_left
                        · show Act.put _ (some 36) _ = _
                          simp only [Act.put, List.setIfInBounds_toArray, List.set_cons_zero, List.set_cons_succ, i64_w, i32_w]
                          rfl
                        refine pure_ (i := 9) (N := some 4) (v := ?_) (a' := ?_) #[true, true, true, true, true, true, true, true, true, true, false] rfl rfl (any_of HT_.out (by kernel_rfl)) (fun _ _ _ h => h) (Or.inl ⟨by rfl, ?_⟩) ?_ ?_
                        rotate_left
                        · intro w'
                          go_simp
                          with_reducible rfl
                        rotate_left
                        · simp only [Act.put, List.setIfInBounds_toArray, List.set_cons_zero, List.set_cons_succ, i64_w, i32_w]
                          rfl
                        refine pure_ (i := 10) (N := some 5) (v := ?_) (a' := ?_) #[true, true, true, true, true, true, true, true, true, true, true] rfl rfl (any_of HT_.out (by kernel_rfl)) (fun _ _ _ h => h) (Or.inl ⟨by rfl, ?_⟩) ?_ ?_
                        rotate_left
                        · intro w'
                          go_simp
                          with_reducible rfl
                        rotate_left
                        · simp only [Act.put, List.setIfInBounds_toArray, List.set_cons_zero, List.set_cons_succ, i64_w, i32_w]
                          rfl
                        refine done_ (done_of HT_.out (by kernel_rfl)) ?_
                        try go_wp2
                        go_ret2
                        exact ⟨by first | rfl | (simp [errW_none, errW_some] <;> rfl) | (simp [*, errW_none, errW_some] <;> rfl), by repeat (first | (with_reducible first | exact HB.out | apply below_alloc | apply pw_below_drewN | apply below_drew1) | exact HB.out)⟩
                      · rw [if_neg c18] at H
                        exact absurd H (by simp)
                    · rw [if_neg c17] at H
                      exact absurd H (by simp)
                  · rw [if_neg c16] at H
                    exact absurd H (by simp)
                · rw [if_neg c14] at H
                  exact absurd H (by simp)
              · rw [if_neg c13] at H
                exact absurd H (by simp)

end Go.Proofs.Ytijbfebbogiiiaa.Q
