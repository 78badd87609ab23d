/- Contracts of Go functions: each call returns what the Lean function of its name says. Written by wip/gen.py (a patched print) for this claim. -/
import Derived.Test.YtijbfebbogiiiaaQ0
import Derived.Test.YtijbfebbogiiiaaQ15
import Derived.Test.YtijbfebbogiiiaaQ16
import Derived.Test.YtijbfebbogiiiaaHBase
namespace Go.Proofs.Ytijbfebbogiiiaa.Q
open Go.RowKit Go.Proofs.YtijbfebbogiiiaaW.PrintWords Go.Proofs.YtijbfebbogiiiaaW.PrintLast Go.Proofs.YtijbfebbogiiiaaW.PrintMore
attribute [local go_sem] max2_int min2_int max_two min_two max_three min_three max_four min_four   -- for this text's walks alone
set_option linter.unusedVariables false
set_option linter.unusedSimpArgs false

/-! ### masterdisclaw33_AllocationCuts: function 12 -/
mutual
def masterdisclaw33_AllocationCuts.j0 : Nat → List (S46) → Int → Bool → Option (Bool)
  | 0, _, _, _ => none
  | k + 1, x0, x1, x21 => if x21 = true then (some true) else ((allocation_Length.f k x0).bind fun t533 => (if t533 < 0 then (some false) else (if (wrap64 ((wrap64 (Int.tdiv t533 2048)) + 1)) = 0 then (none) else ((allocation_Pieces.f k x0 0 (wrap64 ((Int.tmod (wrap64 (x1)) (wrap64 ((wrap64 (Int.tdiv t533 2048)) + 1))) * 2048))).bind fun bt534 => ((allocation_Pieces.f k x0 (wrap64 ((Int.tmod (wrap64 (x1)) (wrap64 ((wrap64 (Int.tdiv t533 2048)) + 1))) * 2048)) (wrap64 (t533 - (wrap64 ((Int.tmod (wrap64 (x1)) (wrap64 ((wrap64 (Int.tdiv t533 2048)) + 1))) * 2048))))).bind fun bt538 => (if bt534.2 = 0 then (if bt538.2 = 0 then ((allocation_Length.f k bt534.1).bind fun t542 => (masterdisclaw33_AllocationCuts.j1 k x0 t533 bt534.1 bt538.1 (t542 != (wrap64 ((Int.tmod (wrap64 (x1)) (wrap64 ((wrap64 (Int.tdiv t533 2048)) + 1))) * 2048))))) else (masterdisclaw33_AllocationCuts.j1 k x0 t533 bt534.1 bt538.1 true)) else (masterdisclaw33_AllocationCuts.j1 k x0 t533 bt534.1 bt538.1 true)))))))
def masterdisclaw33_AllocationCuts.j1 : Nat → List (S46) → Int → List (S46) → List (S46) → Bool → Option (Bool)
  | 0, _, _, _, _, _ => none
  | k + 1, x0, x5, x7, x9, x59 => if x59 = true then (some false) else ((api_Extent_54.f x7).bind fun t543 => (if t543.length + x9.length < 4398046511104 then ((some (t543 ++ x9 : List (S46))).bind fun y546 => ((allocation_Length.f k y546).bind fun t549 => (if t549 = x5 then ((allocation_Join.f k y546).bind fun t550 => ((allocation_Join.f k x0).bind fun t553 => ((api_Extent_42.f k t550 t553).bind fun t556 => (some t556)))) else (some false)))) else (none)))
end
def masterdisclaw33_AllocationCuts.f (k : Nat) (l0 : List (S46)) (a1 : Int) : Option (Bool) := (masterdisclaw33_awake.f k).bind fun t531 => (if t531 = true then (if (l0.length : Int) > 30 then (masterdisclaw33_AllocationCuts.j0 k l0 a1 true) else ((allocation_Valid.f k l0).bind fun t532 => (masterdisclaw33_AllocationCuts.j0 k l0 a1 (!t532)))) else (some false))
theorem masterdisclaw33_AllocationCuts.mono_l : ∀ k, (∀ y0 y1 y2, LeO (masterdisclaw33_AllocationCuts.j0 k y0 y1 y2) (masterdisclaw33_AllocationCuts.j0 (k + 1) y0 y1 y2)) ∧ (∀ y0 y1 y2 y3 y4, LeO (masterdisclaw33_AllocationCuts.j1 k y0 y1 y2 y3 y4) (masterdisclaw33_AllocationCuts.j1 (k + 1) y0 y1 y2 y3 y4))
  | 0 => ⟨fun _ _ _ r h => by simp [masterdisclaw33_AllocationCuts.j0] at h, fun _ _ _ _ _ r h => by simp [masterdisclaw33_AllocationCuts.j1] at h⟩
  | k + 1 => by
    obtain ⟨ih0, ih1⟩ := masterdisclaw33_AllocationCuts.mono_l k
    refine ⟨?_, ?_⟩
    · intro y0 y1 y2
      unfold masterdisclaw33_AllocationCuts.j0
      repeat' first
      | (with_reducible exact ih0 _ _ _)
      | (with_reducible exact ih1 _ _ _ _ _)
      | (with_reducible exact allocation_Join.mono _ _)
      | (with_reducible exact allocation_Length.mono _ _)
      | (with_reducible exact allocation_Pieces.mono _ _ _ _)
      | (with_reducible exact allocation_Valid.mono _ _)
      | (with_reducible exact api_Extent_42.mono _ _ _)
      | (with_reducible exact masterdisclaw33_awake.mono _)
      | (with_reducible exact LeO.refl _)
      | (with_reducible exact LeO.none _)
      | (with_reducible refine LeO.ite ?_ ?_)
      | (with_reducible refine LeO.bind ?_ (fun _ => ?_))
      | exact ih0 _ _ _
      | exact ih1 _ _ _ _ _
      | exact allocation_Join.mono _ _
      | exact allocation_Length.mono _ _
      | exact allocation_Pieces.mono _ _ _ _
      | exact allocation_Valid.mono _ _
      | exact api_Extent_42.mono _ _ _
      | exact masterdisclaw33_awake.mono _
      | exact LeO.none _
      | refine LeO.ite ?_ ?_
      | refine LeO.bind ?_ (fun _ => ?_)
    · intro y0 y1 y2 y3 y4
      unfold masterdisclaw33_AllocationCuts.j1
      repeat' first
      | (with_reducible exact ih0 _ _ _)
      | (with_reducible exact ih1 _ _ _ _ _)
      | (with_reducible exact allocation_Join.mono _ _)
      | (with_reducible exact allocation_Length.mono _ _)
      | (with_reducible exact allocation_Pieces.mono _ _ _ _)
      | (with_reducible exact allocation_Valid.mono _ _)
      | (with_reducible exact api_Extent_42.mono _ _ _)
      | (with_reducible exact masterdisclaw33_awake.mono _)
      | (with_reducible exact LeO.refl _)
      | (with_reducible exact LeO.none _)
      | (with_reducible refine LeO.ite ?_ ?_)
      | (with_reducible refine LeO.bind ?_ (fun _ => ?_))
      | exact ih0 _ _ _
      | exact ih1 _ _ _ _ _
      | exact allocation_Join.mono _ _
      | exact allocation_Length.mono _ _
      | exact allocation_Pieces.mono _ _ _ _
      | exact allocation_Valid.mono _ _
      | exact api_Extent_42.mono _ _ _
      | exact masterdisclaw33_awake.mono _
      | exact LeO.none _
      | refine LeO.ite ?_ ?_
      | refine LeO.bind ?_ (fun _ => ?_)
theorem masterdisclaw33_AllocationCuts.mono : ∀ a0 a1 k, LeO (masterdisclaw33_AllocationCuts.f k a0 a1) (masterdisclaw33_AllocationCuts.f (k + 1) a0 a1) := by
  intro a0 a1 k
  obtain ⟨ih0, ih1⟩ := masterdisclaw33_AllocationCuts.mono_l k
  unfold masterdisclaw33_AllocationCuts.f
  repeat' first
      | (with_reducible exact ih0 _ _ _)
      | (with_reducible exact ih1 _ _ _ _ _)
      | (with_reducible exact allocation_Join.mono _ _)
      | (with_reducible exact allocation_Length.mono _ _)
      | (with_reducible exact allocation_Pieces.mono _ _ _ _)
      | (with_reducible exact allocation_Valid.mono _ _)
      | (with_reducible exact api_Extent_42.mono _ _ _)
      | (with_reducible exact masterdisclaw33_awake.mono _)
      | (with_reducible exact LeO.refl _)
      | (with_reducible exact LeO.none _)
      | (with_reducible refine LeO.ite ?_ ?_)
      | (with_reducible refine LeO.bind ?_ (fun _ => ?_))
      | exact ih0 _ _ _
      | exact ih1 _ _ _ _ _
      | exact allocation_Join.mono _ _
      | exact allocation_Length.mono _ _
      | exact allocation_Pieces.mono _ _ _ _
      | exact allocation_Valid.mono _ _
      | exact api_Extent_42.mono _ _ _
      | exact masterdisclaw33_awake.mono _
      | exact LeO.none _
      | refine LeO.ite ?_ ?_
      | refine LeO.bind ?_ (fun _ => ?_)
set_option maxHeartbeats 8000000 in
set_option maxRecDepth 100000 in
theorem masterdisclaw33_AllocationCuts.calls (k : Nat) (A0 : Option Addr) (c0 : Nat) (l0 : List (S46)) (a1 : Int) (r : Bool) (w : World) (hr0 : Kd.C k46 w A0 l0.length l0) (hc0 : l0.length ≤ c0) (h : masterdisclaw33_AllocationCuts.f k l0 a1 = some r) :
    Calls Try.prog 12 #[.slice A0 l0.length c0, .int .u32 a1] w fun e w' => e = .returned (.bool r) ∧ Below w.heap.size w w' := by
  have HR0 := Aside0.mk hr0
  have HC0 := Aside0.mk hc0
  clear hr0 hc0
  have HB := Aside0.mk (Below.refl w.heap.size w)
  have H : ((masterdisclaw33_awake.f k).bind fun t531 => (if t531 = true then (if (l0.length : Int) > 30 then (masterdisclaw33_AllocationCuts.j0 k l0 a1 true) else ((allocation_Valid.f k l0).bind fun t532 => (masterdisclaw33_AllocationCuts.j0 k l0 a1 (!t532)))) else (some false))) = some r := h
  clear h
  replace H := Option.bind_eq_some_iff.mp H
  obtain ⟨t531, A30, H⟩ := H
  replace H : (if t531 = true then (if (l0.length : Int) > 30 then (masterdisclaw33_AllocationCuts.j0 k l0 a1 true) else ((allocation_Valid.f k l0).bind fun t532 => (masterdisclaw33_AllocationCuts.j0 k l0 a1 (!t532)))) else (some false)) = some r := H
  have A3 := Aside0.mk A30
  clear A30
  by_cases c4 : t531 = true
  · subst c4
    have H1 : (if (l0.length : Int) > 30 then (masterdisclaw33_AllocationCuts.j0 k l0 a1 true) else ((allocation_Valid.f k l0).bind fun t532 => (masterdisclaw33_AllocationCuts.j0 k l0 a1 (!t532)))) = some r := by rw [if_pos rfl] at H; exact H
    clear H
    have H := H1
    clear H1
    have HC5 := Aside0.mk H
    clear H
    go_enter Try.func12, Try.ntmps12
    go_upto_region 3 with (first | ((with_reducible refine gate_callee (f := 33) rfl ?_); refine goesL_ (some 12) rfl rfl Try.func33 (by kernel_rfl) rfl #[] rfl (by (try simp only [List.map_toArray, List.map_cons, List.map_nil]); first | done | rfl | (simp only [List.length_drop, List.length_take]; rfl)) ?_; (with_reducible refine (masterdisclaw33_awake.calls k  true _ A3.out).mono ?_); rintro e w6 ⟨rfl, hb⟩; refine ⟨_, rfl, ?_⟩; have n0_ := Aside0.mk (below_step (by repeat (first | (with_reducible first | exact HB.out | apply below_alloc | apply pw_below_drewN | apply below_drew1) | exact HB.out)) hb); clear HB; have HB := n0_; clear n0_; (try clear hb); (try clear hb2); (try clear hk); (try clear hi)))
    (try simp only [Act.put, List.setIfInBounds_toArray, List.set_cons_zero, List.set_cons_succ])
    go_cut [21] (fun v21 wc => ∃ (kq : Nat) (x21_4 : Bool), v21 = .bool x21_4 ∧ Aside0 (masterdisclaw33_AllocationCuts.j0 kq l0 a1 x21_4 = some r) ∧ Aside0 (kq ≤ k) ∧ Aside0 (Below w.heap.size w wc))
    case first =>
      have H := HC5.out
      clear HC5
      by_cases c7 : (l0.length : Int) > 30
      · rw [if_pos c7] at H
        have c7b0 : decide (30 < (l0.length : Int)) = true := decide_eq_true c7
        have c7b1 : decide (30 < l0.length) = true := decide_eq_true (by omega)
        clear c7
        (first | rw [c7b0] | (simp only [i64_w, i32_w]; rw [c7b0]) | skip)
        have H' := Aside0.mk H
        clear H
        go_wp2
        go_meet
        case rel => exact ⟨_, (true), (by first | rfl | (simp; done) | (simp [*]; done)), H', ⟨by first | omega | exact Nat.le_refl _⟩, ⟨by repeat (first | (with_reducible first | exact HB.out | apply below_alloc | apply pw_below_drewN | apply below_drew1) | exact HB.out)⟩⟩
      · rw [if_neg c7] at H
        have c7b0 : decide (30 < (l0.length : Int)) = false := decide_eq_false c7
        have c7b1 : decide (30 < l0.length) = false := decide_eq_false (by omega)
        clear c7
        (first | rw [c7b0] | (simp only [i64_w, i32_w]; rw [c7b0]) | skip)
        replace H := Option.bind_eq_some_iff.mp H
        obtain ⟨t532, A80, H⟩ := H
        replace H : (masterdisclaw33_AllocationCuts.j0 k l0 a1 (!t532)) = some r := H
        have A8 := Aside0.mk A80
        clear A80
        have H' := Aside0.mk H
        clear H
        go_wp2_with (first | (go_at_call 38; (with_reducible refine (allocation_Valid.calls k _ _ l0 t532 _ ?side1 ?side2 A8.out).mono ?_); (case side1 => repeat (first | exact (Kd.C_below HR0.out HB.out) | (with_reducible refine Kd.C_alloc ?_ _) | (with_reducible refine Kd.C_drewN ?_ _) | (with_reducible refine Kd.C_drew ?_))); (case side2 => exact HC0.out); rintro e w9 ⟨rfl, hb⟩; have n0_ := Aside0.mk (below_step (by repeat (first | (with_reducible first | exact HB.out | apply below_alloc | apply pw_below_drewN | apply below_drew1) | exact HB.out)) hb); clear HB; have HB := n0_; clear n0_; (try clear hb); (try clear hb2); (try clear hk); (try clear hi)))
        go_meet
        case rel => exact ⟨_, (!t532), (by first | rfl | (simp; done) | (simp [*]; done)), H', ⟨by first | omega | exact Nat.le_refl _⟩, ⟨by repeat (first | (with_reducible first | exact HB.out | apply below_alloc | apply pw_below_drewN | apply below_drew1) | exact HB.out)⟩⟩
    case rest =>
      clear HC5
      try clear c1
      try clear p2
      try clear c3
      try clear c4
      try clear c7
      try clear c7b0
      try clear c7b1
      obtain ⟨kq, x21_4, rfl, HA, HJ4, HB⟩ := hcut
      cases kq with
      | zero => exact absurd HA.out (by simp [masterdisclaw33_AllocationCuts.j0])
      | succ kj4 =>
        have H := HA.out
        clear HA
        simp only [masterdisclaw33_AllocationCuts.j0] at H
        by_cases c10 : x21_4 = true
        · subst c10
          have H1 : (some true) = some r := by rw [if_pos rfl] at H; exact H
          clear H
          have H := H1
          clear H1
          obtain rfl := Option.some.inj H
          go_wp2
          go_ret
          exact ⟨by first | rfl | (simp [errW_none, errW_some] <;> rfl) | (simp [*, errW_none, errW_some] <;> rfl), by repeat (first | (with_reducible first | exact HB.out | apply below_alloc | apply pw_below_drewN | apply below_drew1) | exact HB.out)⟩
        · replace c10 := Bool.eq_false_iff.mpr c10
          subst c10
          have H1 : ((allocation_Length.f kj4 l0).bind fun t533 => (if t533 < 0 then (some false) else (if (wrap64 ((wrap64 (Int.tdiv t533 2048)) + 1)) = 0 then (none) else ((allocation_Pieces.f kj4 l0 0 (wrap64 ((Int.tmod (wrap64 (a1)) (wrap64 ((wrap64 (Int.tdiv t533 2048)) + 1))) * 2048))).bind fun bt534 => ((allocation_Pieces.f kj4 l0 (wrap64 ((Int.tmod (wrap64 (a1)) (wrap64 ((wrap64 (Int.tdiv t533 2048)) + 1))) * 2048)) (wrap64 (t533 - (wrap64 ((Int.tmod (wrap64 (a1)) (wrap64 ((wrap64 (Int.tdiv t533 2048)) + 1))) * 2048))))).bind fun bt538 => (if bt534.2 = 0 then (if bt538.2 = 0 then ((allocation_Length.f kj4 bt534.1).bind fun t542 => (masterdisclaw33_AllocationCuts.j1 kj4 l0 t533 bt534.1 bt538.1 (t542 != (wrap64 ((Int.tmod (wrap64 (a1)) (wrap64 ((wrap64 (Int.tdiv t533 2048)) + 1))) * 2048))))) else (masterdisclaw33_AllocationCuts.j1 kj4 l0 t533 bt534.1 bt538.1 true)) else (masterdisclaw33_AllocationCuts.j1 kj4 l0 t533 bt534.1 bt538.1 true))))))) = some r := by rw [if_neg (show ¬ (false = true) by decide)] at H; exact H
          clear H
          have H := H1
          clear H1
          replace H := Option.bind_eq_some_iff.mp H
          obtain ⟨t533, A110, H⟩ := H
          replace H : (if t533 < 0 then (some false) else (if (wrap64 ((wrap64 (Int.tdiv t533 2048)) + 1)) = 0 then (none) else ((allocation_Pieces.f kj4 l0 0 (wrap64 ((Int.tmod (wrap64 (a1)) (wrap64 ((wrap64 (Int.tdiv t533 2048)) + 1))) * 2048))).bind fun bt534 => ((allocation_Pieces.f kj4 l0 (wrap64 ((Int.tmod (wrap64 (a1)) (wrap64 ((wrap64 (Int.tdiv t533 2048)) + 1))) * 2048)) (wrap64 (t533 - (wrap64 ((Int.tmod (wrap64 (a1)) (wrap64 ((wrap64 (Int.tdiv t533 2048)) + 1))) * 2048))))).bind fun bt538 => (if bt534.2 = 0 then (if bt538.2 = 0 then ((allocation_Length.f kj4 bt534.1).bind fun t542 => (masterdisclaw33_AllocationCuts.j1 kj4 l0 t533 bt534.1 bt538.1 (t542 != (wrap64 ((Int.tmod (wrap64 (a1)) (wrap64 ((wrap64 (Int.tdiv t533 2048)) + 1))) * 2048))))) else (masterdisclaw33_AllocationCuts.j1 kj4 l0 t533 bt534.1 bt538.1 true)) else (masterdisclaw33_AllocationCuts.j1 kj4 l0 t533 bt534.1 bt538.1 true)))))) = some r := H
          have A11 := Aside0.mk A110
          clear A110
          by_cases c12 : t533 < 0
          · rw [if_pos c12] at H
            have c12b0 : decide (t533 < 0) = true := decide_eq_true c12
            clear c12
            obtain rfl := Option.some.inj H
            go_wp2_with (first | ((with_reducible refine gate_callee (f := 40) rfl ?_); refine goesL_ (some 23) rfl rfl Try.func40 (by kernel_rfl) rfl #[.slice A0 l0.length c0] rfl (by (try simp only [List.map_toArray, List.map_cons, List.map_nil]); first | done | rfl | (simp only [List.length_drop, List.length_take]; rfl)) ?_; (with_reducible refine (allocation_Length.calls kj4 _ _ l0 t533 _ ?side1 ?side2 A11.out).mono ?_); (case side1 => repeat (first | exact (Kd.C_below HR0.out HB.out) | (with_reducible refine Kd.C_alloc ?_ _) | (with_reducible refine Kd.C_drewN ?_ _) | (with_reducible refine Kd.C_drew ?_))); (case side2 => exact HC0.out); rintro e w13 ⟨rfl, hb⟩; refine ⟨_, rfl, ?_⟩; have n0_ := Aside0.mk (below_step (by repeat (first | (with_reducible first | exact HB.out | apply below_alloc | apply pw_below_drewN | apply below_drew1) | exact HB.out)) hb); clear HB; have HB := n0_; clear n0_; (try clear hb); (try clear hb2); (try clear hk); (try clear hi)))
            go_ret
            exact ⟨by first | rfl | (simp [errW_none, errW_some] <;> rfl) | (simp [*, errW_none, errW_some] <;> rfl), by repeat (first | (with_reducible first | exact HB.out | apply below_alloc | apply pw_below_drewN | apply below_drew1) | exact HB.out)⟩
          · rw [if_neg c12] at H
            have c12b0 : decide (t533 < 0) = false := decide_eq_false c12
            clear c12
            by_cases c14 : (wrap64 ((wrap64 (Int.tdiv t533 2048)) + 1)) = 0
            · rw [if_pos c14] at H
              exact absurd H (by simp)
            · rw [if_neg c14] at H
              have c14b0 : ((wrap64 ((wrap64 (Int.tdiv t533 2048)) + 1)) == 0) = false := beq_eq_false_iff_ne.mpr c14
              have c14b1 : ((wrap64 ((wrap64 (Int.tdiv t533 2048)) + 1)) != 0) = true := bne_iff_ne.mpr c14
              replace H := Option.bind_eq_some_iff.mp H
              obtain ⟨⟨t534, t535⟩, A150, H⟩ := H
              replace H : ((allocation_Pieces.f kj4 l0 (wrap64 ((Int.tmod (wrap64 (a1)) (wrap64 ((wrap64 (Int.tdiv t533 2048)) + 1))) * 2048)) (wrap64 (t533 - (wrap64 ((Int.tmod (wrap64 (a1)) (wrap64 ((wrap64 (Int.tdiv t533 2048)) + 1))) * 2048))))).bind fun bt538 => (if t535 = 0 then (if bt538.2 = 0 then ((allocation_Length.f kj4 t534).bind fun t542 => (masterdisclaw33_AllocationCuts.j1 kj4 l0 t533 t534 bt538.1 (t542 != (wrap64 ((Int.tmod (wrap64 (a1)) (wrap64 ((wrap64 (Int.tdiv t533 2048)) + 1))) * 2048))))) else (masterdisclaw33_AllocationCuts.j1 kj4 l0 t533 t534 bt538.1 true)) else (masterdisclaw33_AllocationCuts.j1 kj4 l0 t533 t534 bt538.1 true))) = some r := H
              have A15 := Aside0.mk A150
              clear A150
              replace H := Option.bind_eq_some_iff.mp H
              obtain ⟨⟨t538, t539⟩, A160, H⟩ := H
              replace H : (if t535 = 0 then (if t539 = 0 then ((allocation_Length.f kj4 t534).bind fun t542 => (masterdisclaw33_AllocationCuts.j1 kj4 l0 t533 t534 t538 (t542 != (wrap64 ((Int.tmod (wrap64 (a1)) (wrap64 ((wrap64 (Int.tdiv t533 2048)) + 1))) * 2048))))) else (masterdisclaw33_AllocationCuts.j1 kj4 l0 t533 t534 t538 true)) else (masterdisclaw33_AllocationCuts.j1 kj4 l0 t533 t534 t538 true)) = some r := H
              have A16 := Aside0.mk A160
              clear A160
              have HC17 := Aside0.mk H
              clear H
              go_upto_region 11 with (first | ((with_reducible refine gate_callee (f := 40) rfl ?_); refine goesL_ (some 23) rfl rfl Try.func40 (by kernel_rfl) rfl #[.slice A0 l0.length c0] rfl (by (try simp only [List.map_toArray, List.map_cons, List.map_nil]); first | done | rfl | (simp only [List.length_drop, List.length_take]; rfl)) ?_; (with_reducible refine (allocation_Length.calls kj4 _ _ l0 t533 _ ?side1 ?side2 A11.out).mono ?_); (case side1 => repeat (first | exact (Kd.C_below HR0.out HB.out) | (with_reducible refine Kd.C_alloc ?_ _) | (with_reducible refine Kd.C_drewN ?_ _) | (with_reducible refine Kd.C_drew ?_))); (case side2 => exact HC0.out); rintro e w18 ⟨rfl, hb⟩; refine ⟨_, rfl, ?_⟩; have n0_ := Aside0.mk (below_step (by repeat (first | (with_reducible first | exact HB.out | apply below_alloc | apply pw_below_drewN | apply below_drew1) | exact HB.out)) hb); clear HB; have HB := n0_; clear n0_; (try clear hb); (try clear hb2); (try clear hk); (try clear hi)) | ((with_reducible refine gate_callee (f := 53) rfl ?_); refine goesL_ (some 36) rfl rfl Try.func53 (by kernel_rfl) rfl #[.slice A0 l0.length c0, .int .i64 0, .int .i64 (wrap64 ((Int.tmod (wrap64 (a1)) (wrap64 ((wrap64 (Int.tdiv t533 2048)) + 1))) * 2048))] rfl (by (try simp only [List.map_toArray, List.map_cons, List.map_nil]); first | done | rfl | (simp only [List.length_drop, List.length_take]; rfl)) ?_; (with_reducible refine (allocation_Pieces.calls kj4 _ _ l0 0 (wrap64 ((Int.tmod (wrap64 (a1)) (wrap64 ((wrap64 (Int.tdiv t533 2048)) + 1))) * 2048)) t534 t535 _ ?side1 ?side2 A15.out).mono ?_); (case side1 => repeat (first | exact (Kd.C_below HR0.out HB.out) | (with_reducible refine Kd.C_alloc ?_ _) | (with_reducible refine Kd.C_drewN ?_ _) | (with_reducible refine Kd.C_drew ?_))); (case side2 => exact HC0.out); rintro e w19 ⟨v536, rfl, ho0, hb⟩; refine ⟨_, rfl, ?_⟩; have n0_ := Aside0.mk (Kd.R_lower ho0 (below_size (by repeat (first | (with_reducible first | exact HB.out | apply below_alloc | apply pw_below_drewN | apply below_drew1) | exact HB.out)))); have n1_ := Aside0.mk (below_step (by repeat (first | (with_reducible first | exact HB.out | apply below_alloc | apply pw_below_drewN | apply below_drew1) | exact HB.out)) hb); clear HB; have HO537 := n0_; have HB := n1_; clear n0_ n1_; (try clear hb); (try clear hb2); (try clear hk); (try clear hi); (try clear ho0)) | ((with_reducible refine gate_callee (f := 53) rfl ?_); refine goesL_ (some 45) rfl rfl Try.func53 (by kernel_rfl) rfl #[.slice A0 l0.length c0, .int .i64 (wrap64 ((Int.tmod (wrap64 (a1)) (wrap64 ((wrap64 (Int.tdiv t533 2048)) + 1))) * 2048)), .int .i64 (wrap64 (t533 - (wrap64 ((Int.tmod (wrap64 (a1)) (wrap64 ((wrap64 (Int.tdiv t533 2048)) + 1))) * 2048))))] rfl (by (try simp only [List.map_toArray, List.map_cons, List.map_nil]); first | done | rfl | (simp only [List.length_drop, List.length_take]; rfl)) ?_; (with_reducible refine (allocation_Pieces.calls kj4 _ _ l0 (wrap64 ((Int.tmod (wrap64 (a1)) (wrap64 ((wrap64 (Int.tdiv t533 2048)) + 1))) * 2048)) (wrap64 (t533 - (wrap64 ((Int.tmod (wrap64 (a1)) (wrap64 ((wrap64 (Int.tdiv t533 2048)) + 1))) * 2048)))) t538 t539 _ ?side1 ?side2 A16.out).mono ?_); (case side1 => repeat (first | exact (Kd.C_below HR0.out HB.out) | (with_reducible refine Kd.C_alloc ?_ _) | (with_reducible refine Kd.C_drewN ?_ _) | (with_reducible refine Kd.C_drew ?_))); (case side2 => exact HC0.out); rintro e w20 ⟨v540, rfl, ho0, hb⟩; refine ⟨_, rfl, ?_⟩; have n0_ := Aside0.mk (Kd.R_elder' (by (with_reducible repeat (first | apply Kd.R_alloc | apply Kd.R_drewN | apply Kd.R_drew)); exact HO537.out) (Kd.R_base ho0) hb); have n1_ := Aside0.mk (Kd.R_lower (Kd.R_new' ho0 (Kd.R_lt (by (with_reducible repeat (first | apply Kd.R_alloc | apply Kd.R_drewN | apply Kd.R_drew)); exact HO537.out))) (below_size (by repeat (first | (with_reducible first | exact HB.out | apply below_alloc | apply pw_below_drewN | apply below_drew1) | exact HB.out)))); have n2_ := Aside0.mk (below_step (by repeat (first | (with_reducible first | exact HB.out | apply below_alloc | apply pw_below_drewN | apply below_drew1) | exact HB.out)) hb); clear HO537; clear HB; have HO537 := n0_; have HO541 := n1_; have HB := n2_; clear n0_ n1_ n2_; (try clear hb); (try clear hb2); (try clear hk); (try clear hi); (try clear ho0)))
              (try simp only [Act.put, List.setIfInBounds_toArray, List.set_cons_zero, List.set_cons_succ])
              go_cut [59] (fun v59 wc => ∃ (kq : Nat) (x59_16 : Bool), v59 = .bool x59_16 ∧ Aside0 (masterdisclaw33_AllocationCuts.j1 kq l0 t533 t534 t538 x59_16 = some r) ∧ Aside0 (kq ≤ kj4) ∧ Aside0 (Kd.R k46 46 wc w.heap.size (fun k_ => some k_ ≠ (v540 : Value).ownBlock) v536 t534) ∧ Aside0 (Kd.R k46 46 wc w.heap.size (fun k_ => some k_ ≠ (v536 : Value).ownBlock) v540 t538) ∧ Aside0 (Below w.heap.size w wc))
              case first =>
                have H := HC17.out
                clear HC17
                by_cases c21 : t535 = 0
                · rw [if_pos c21] at H
                  have c21b0 : (t535 == 0) = true := beq_iff_eq.mpr c21
                  have c21b1 : (t535 != 0) = false := bne_eq_false_iff_eq.mpr c21
                  clear c21
                  (first | rw [c21b0] | (simp only [i64_w, i32_w]; rw [c21b0]) | skip)
                  by_cases c22 : t539 = 0
                  · rw [if_pos c22] at H
                    have c22b0 : (t539 == 0) = true := beq_iff_eq.mpr c22
                    have c22b1 : (t539 != 0) = false := bne_eq_false_iff_eq.mpr c22
                    clear c22
                    replace H := Option.bind_eq_some_iff.mp H
                    obtain ⟨t542, A230, H⟩ := H
                    replace H : (masterdisclaw33_AllocationCuts.j1 kj4 l0 t533 t534 t538 (t542 != (wrap64 ((Int.tmod (wrap64 (a1)) (wrap64 ((wrap64 (Int.tdiv t533 2048)) + 1))) * 2048)))) = some r := H
                    have A23 := Aside0.mk A230
                    clear A230
                    have H' := Aside0.mk H
                    clear H
                    obtain ⟨Ao24, co24, eo24⟩ := Kd.R_slice HO537.out
                    subst eo24
                    go_wp2_with (first | (go_at_call 40; (with_reducible refine (allocation_Length.calls kj4 _ _ t534 t542 _ ?side1 ?side2 A23.out).mono ?_); (case side1 => repeat (first | exact (Kd.R_reads' HO537.out).2.2 | (with_reducible refine Kd.C_alloc ?_ _) | (with_reducible refine Kd.C_drewN ?_ _) | (with_reducible refine Kd.C_drew ?_))); (case side2 => exact (Kd.R_reads' HO537.out).2.1); rintro e w25 ⟨rfl, hb⟩; have n0_ := Aside0.mk (Kd.R_below (by (with_reducible repeat (first | apply Kd.R_alloc | apply Kd.R_drewN | apply Kd.R_drew)); exact HO537.out) hb); have n1_ := Aside0.mk (Kd.R_below (by (with_reducible repeat (first | apply Kd.R_alloc | apply Kd.R_drewN | apply Kd.R_drew)); exact HO541.out) hb); have n2_ := Aside0.mk (below_step (by repeat (first | (with_reducible first | exact HB.out | apply below_alloc | apply pw_below_drewN | apply below_drew1) | exact HB.out)) hb); clear HO537; clear HO541; clear HB; have HO537 := n0_; have HO541 := n1_; have HB := n2_; clear n0_ n1_ n2_; (try clear hb); (try clear hb2); (try clear hk); (try clear hi)))
                    go_meet
                    case rel => exact ⟨_, ((t542 != (wrap64 ((Int.tmod (wrap64 (a1)) (wrap64 ((wrap64 (Int.tdiv t533 2048)) + 1))) * 2048)))), (by first | rfl | (simp; done) | (simp [*]; done)), H', ⟨by have := HJ4.out; first | omega | exact Nat.le_refl _⟩, ⟨by (with_reducible repeat (first | apply Kd.R_alloc | apply Kd.R_drewN | apply Kd.R_drew)); exact Kd.R_mono HO537.out (fun _ hk => hk.2)⟩, ⟨by (with_reducible repeat (first | apply Kd.R_alloc | apply Kd.R_drewN | apply Kd.R_drew)); exact Kd.R_mono HO541.out (fun _ hk => hk.2)⟩, ⟨by repeat (first | (with_reducible first | exact HB.out | apply below_alloc | apply pw_below_drewN | apply below_drew1) | exact HB.out)⟩⟩
                  · rw [if_neg c22] at H
                    have c22b0 : (t539 == 0) = false := beq_eq_false_iff_ne.mpr c22
                    have c22b1 : (t539 != 0) = true := bne_iff_ne.mpr c22
                    have H' := Aside0.mk H
                    clear H
                    go_wp2
                    go_meet
                    case rel => exact ⟨_, (true), (by first | rfl | (simp; done) | (simp [*]; done)), H', ⟨by have := HJ4.out; first | omega | exact Nat.le_refl _⟩, ⟨by (with_reducible repeat (first | apply Kd.R_alloc | apply Kd.R_drewN | apply Kd.R_drew)); exact Kd.R_mono HO537.out (fun _ hk => hk.2)⟩, ⟨by (with_reducible repeat (first | apply Kd.R_alloc | apply Kd.R_drewN | apply Kd.R_drew)); exact Kd.R_mono HO541.out (fun _ hk => hk.2)⟩, ⟨by repeat (first | (with_reducible first | exact HB.out | apply below_alloc | apply pw_below_drewN | apply below_drew1) | exact HB.out)⟩⟩
                · rw [if_neg c21] at H
                  have c21b0 : (t535 == 0) = false := beq_eq_false_iff_ne.mpr c21
                  have c21b1 : (t535 != 0) = true := bne_iff_ne.mpr c21
                  (first | rw [c21b0] | (simp only [i64_w, i32_w]; rw [c21b0]) | skip)
                  have H' := Aside0.mk H
                  clear H
                  go_wp2
                  go_meet
                  case rel => exact ⟨_, (true), (by first | rfl | (simp; done) | (simp [*]; done)), H', ⟨by have := HJ4.out; first | omega | exact Nat.le_refl _⟩, ⟨by (with_reducible repeat (first | apply Kd.R_alloc | apply Kd.R_drewN | apply Kd.R_drew)); exact Kd.R_mono HO537.out (fun _ hk => hk.2)⟩, ⟨by (with_reducible repeat (first | apply Kd.R_alloc | apply Kd.R_drewN | apply Kd.R_drew)); exact Kd.R_mono HO541.out (fun _ hk => hk.2)⟩, ⟨by repeat (first | (with_reducible first | exact HB.out | apply below_alloc | apply pw_below_drewN | apply below_drew1) | exact HB.out)⟩⟩
              case rest =>
                clear HC17
                try clear c1
                try clear c2
                try clear p2
                try clear c3
                try clear c4
                try clear c5
                try clear p6
                try clear c7
                try clear c7b0
                try clear c7b1
                try clear c10
                try clear c12
                try clear c12b0
                try clear c14
                try clear c14b0
                try clear c14b1
                try clear c21
                try clear c21b0
                try clear c21b1
                try clear c22
                try clear c22b0
                try clear c22b1
                try clear p2
                obtain ⟨kq, x59_16, rfl, HA, HJ16, HO_7, HO_9, HB⟩ := hcut
                cases kq with
                | zero => exact absurd HA.out (by simp [masterdisclaw33_AllocationCuts.j1])
                | succ kj16 =>
                  have H := HA.out
                  clear HA
                  simp only [masterdisclaw33_AllocationCuts.j1] at H
                  by_cases c26 : x59_16 = true
                  · subst c26
                    have H1 : (some false) = some r := by rw [if_pos rfl] at H; exact H
                    clear H
                    have H := H1
                    clear H1
                    obtain rfl := Option.some.inj H
                    go_wp2
                    go_ret
                    exact ⟨by first | rfl | (simp [errW_none, errW_some] <;> rfl) | (simp [*, errW_none, errW_some] <;> rfl), by repeat (first | (with_reducible first | exact HB.out | apply below_alloc | apply pw_below_drewN | apply below_drew1) | exact HB.out)⟩
                  · replace c26 := Bool.eq_false_iff.mpr c26
                    subst c26
                    have H1 : ((api_Extent_54.f t534).bind fun t543 => (if t543.length + t538.length < 4398046511104 then ((some (t543 ++ t538 : List (S46))).bind fun y546 => ((allocation_Length.f kj16 y546).bind fun t549 => (if t549 = t533 then ((allocation_Join.f kj16 y546).bind fun t550 => ((allocation_Join.f kj16 l0).bind fun t553 => ((api_Extent_42.f kj16 t550 t553).bind fun t556 => (some t556)))) else (some false)))) else (none))) = some r := by rw [if_neg (show ¬ (false = true) by decide)] at H; exact H
                    clear H
                    have H := H1
                    clear H1
                    replace H := Option.bind_eq_some_iff.mp H
                    obtain ⟨t543, A270, H⟩ := H
                    replace H : (if t543.length + t538.length < 4398046511104 then ((some (t543 ++ t538 : List (S46))).bind fun y546 => ((allocation_Length.f kj16 y546).bind fun t549 => (if t549 = t533 then ((allocation_Join.f kj16 y546).bind fun t550 => ((allocation_Join.f kj16 l0).bind fun t553 => ((api_Extent_42.f kj16 t550 t553).bind fun t556 => (some t556)))) else (some false)))) else (none)) = some r := H
                    have A27 := Aside0.mk A270
                    clear A270
                    by_cases c28 : t543.length + t538.length < 4398046511104
                    · rw [if_pos c28] at H
                      have LMc28 := Aside0.mk c28
                      clear c28
                      obtain ⟨y546, hy546⟩ : ∃ y_ : List (S46), y_ = (t543 ++ t538) := ⟨_, rfl⟩
                      replace H : ((allocation_Length.f kj16 y546).bind fun t549 => (if t549 = t533 then ((allocation_Join.f kj16 y546).bind fun t550 => ((allocation_Join.f kj16 l0).bind fun t553 => ((api_Extent_42.f kj16 t550 t553).bind fun t556 => (some t556)))) else (some false))) = some r := by first | (rw [hy546]; with_reducible exact H) | (have H2_ := (Option.bind_some _ _).symm.trans H; rw [hy546]; with_reducible exact H2_) | (have H2_ := (Option.bind_some _ _).symm.trans H; with_reducible exact H2_) | with_reducible exact H | (rw [hy546]; exact H) | exact H
                      have Ny546 := Aside0.mk hy546
                      clear hy546
                      replace H := Option.bind_eq_some_iff.mp H
                      obtain ⟨t549, A290, H⟩ := H
                      replace H : (if t549 = t533 then ((allocation_Join.f kj16 y546).bind fun t550 => ((allocation_Join.f kj16 l0).bind fun t553 => ((api_Extent_42.f kj16 t550 t553).bind fun t556 => (some t556)))) else (some false)) = some r := H
                      have A29 := Aside0.mk A290
                      clear A290
                      by_cases c30 : t549 = t533
                      · rw [if_pos c30] at H
                        have c30b0 : (t549 == t533) = true := beq_iff_eq.mpr c30
                        have c30b1 : (t549 != t533) = false := bne_eq_false_iff_eq.mpr c30
                        clear c30
                        replace H := Option.bind_eq_some_iff.mp H
                        obtain ⟨t550, A310, H⟩ := H
                        replace H : ((allocation_Join.f kj16 l0).bind fun t553 => ((api_Extent_42.f kj16 t550 t553).bind fun t556 => (some t556))) = some r := H
                        have A31 := Aside0.mk A310
                        clear A310
                        replace H := Option.bind_eq_some_iff.mp H
                        obtain ⟨t553, A320, H⟩ := H
                        replace H : ((api_Extent_42.f kj16 t550 t553).bind fun t556 => (some t556)) = some r := H
                        have A32 := Aside0.mk A320
                        clear A320
                        replace H := Option.bind_eq_some_iff.mp H
                        obtain ⟨t556, A330, H⟩ := H
                        replace H : (some t556) = some r := H
                        have A33 := Aside0.mk A330
                        clear A330
                        obtain rfl := Option.some.inj H
                        obtain ⟨Ao34, co34, eo34⟩ := Kd.R_slice HO_7.out
                        subst eo34
                        go_wp2_with (first | ((with_reducible refine gate_callee (f := 54) rfl ?_); refine goesL_ (some 61) rfl rfl Try.func54 (by kernel_rfl) rfl #[.slice Ao34 t534.length co34] rfl (by (try simp only [List.map_toArray, List.map_cons, List.map_nil]); first | done | rfl | (simp only [List.length_drop, List.length_take]; rfl)) ?_; (with_reducible refine (api_Extent_54.calls _ _ t534 t543 _ ?side1 ?side2 A27.out).mono ?_); (case side1 => repeat (first | exact (Kd.R_reads' HO_7.out).2.2 | (with_reducible refine Kd.C_alloc ?_ _) | (with_reducible refine Kd.C_drewN ?_ _) | (with_reducible refine Kd.C_drew ?_))); (case side2 => exact (Kd.R_reads' HO_7.out).2.1); rintro e w35 ⟨v544, rfl, ho0, hb⟩; refine ⟨_, rfl, ?_⟩; have n0_ := Aside0.mk (Kd.R_elder' (by (with_reducible repeat (first | apply Kd.R_alloc | apply Kd.R_drewN | apply Kd.R_drew)); exact HO_7.out) (Kd.R_base ho0) hb); have n1_ := Aside0.mk (Kd.R_elder' (by (with_reducible repeat (first | apply Kd.R_alloc | apply Kd.R_drewN | apply Kd.R_drew)); exact HO_9.out) (Kd.R_base ho0) hb); have n2_ := Aside0.mk (Kd.R_lower (Kd.R_new' (Kd.R_new' ho0 (Kd.R_lt (by (with_reducible repeat (first | apply Kd.R_alloc | apply Kd.R_drewN | apply Kd.R_drew)); exact HO_7.out))) (Kd.R_lt (by (with_reducible repeat (first | apply Kd.R_alloc | apply Kd.R_drewN | apply Kd.R_drew)); exact HO_9.out))) (below_size (by repeat (first | (with_reducible first | exact HB.out | apply below_alloc | apply pw_below_drewN | apply below_drew1) | exact HB.out)))); have n3_ := Aside0.mk (below_step (by repeat (first | (with_reducible first | exact HB.out | apply below_alloc | apply pw_below_drewN | apply below_drew1) | exact HB.out)) hb); clear HO_7; clear HO_9; clear HB; have HO_7 := n0_; have HO_9 := n1_; have HO545 := n2_; have HB := n3_; clear n0_ n1_ n2_ n3_; (try clear hb); (try clear hb2); (try clear hk); (try clear hi); (try clear ho0); obtain ⟨Ao37, co37, eo37⟩ := Kd.R_slice HO_9.out; subst eo37) | ((with_reducible refine gate_builtin (b := .append) (xs := #[.tmp 61, .tmp 62]) rfl ?_); at_builtin; refine Kd.R_append_rows k46 (w0 := w) w.heap.size rfl (.tmp 61) (.tmp 62) 37 46 (.agg #[(.int .i64 0), (.int .i64 0), (.int .i64 0), (.int .i64 0)]) 32 rfl Try.underlying37 info46 rfl (by decide) (by omega) v544 t543 t538 _ _ _ (fun k_ => some k_ ≠ (.slice Ao34 t534.length co34 : Value).ownBlock ∧ some k_ ≠ (.slice Ao37 t538.length co37 : Value).ownBlock) (fun _ => False) rfl rfl ?aO ?aR (fun _ _ h => h) (fun _ h => h.elim) ?aF ?aB ?aS ?aL ?_; (case aR => repeat (first | exact (Kd.R_reads' HO_9.out).2.2 | (with_reducible refine Kd.C_alloc ?_ _) | (with_reducible refine Kd.C_drewN ?_ _) | (with_reducible refine Kd.C_drew ?_))); (case aB => exact (by repeat (first | (with_reducible first | exact HB.out | apply below_alloc | apply pw_below_drewN | apply below_drew1) | exact HB.out))); (case aF => exact (fun k_ hk => ⟨Kd.fresh' (Kd.R_lt (by (with_reducible repeat (first | apply Kd.R_alloc | apply Kd.R_drewN | apply Kd.R_drew)); exact HO_7.out)) k_ hk, Kd.fresh' (Kd.R_lt (by (with_reducible repeat (first | apply Kd.R_alloc | apply Kd.R_drewN | apply Kd.R_drew)); exact HO_9.out)) k_ hk⟩)); (case aO => exact (by (with_reducible repeat (first | apply Kd.R_alloc | apply Kd.R_drewN | apply Kd.R_drew)); exact Kd.R_mono HO545.out (fun _ hk => ⟨hk.1.2, hk.2⟩))); (case aS => exact (below_size (by repeat (first | (with_reducible first | exact HB.out | apply below_alloc | apply pw_below_drewN | apply below_drew1) | exact HB.out)))); (case aL => have := LMc28.out; omega); intro v547 w36 ho hb hg hat; rw [← Ny546.out] at ho; have n0_ := Aside0.mk (Kd.R_after (ok := (fun k_ => some k_ ≠ (.slice Ao37 t538.length co37 : Value).ownBlock)) (by (with_reducible repeat (first | apply Kd.R_alloc | apply Kd.R_drewN | apply Kd.R_drew)); exact HO_7.out) hg hat); have n1_ := Aside0.mk (Kd.R_after (ok := (fun k_ => some k_ ≠ (.slice Ao34 t534.length co34 : Value).ownBlock)) (by (with_reducible repeat (first | apply Kd.R_alloc | apply Kd.R_drewN | apply Kd.R_drew)); exact HO_9.out) hg hat); have n2_ := Aside0.mk (hb); have n3_ := Aside0.mk (ho); clear HO_7; clear HO_9; clear HB; clear HO545; have HO_7 := n0_; have HO_9 := n1_; have HB := n2_; have HO548 := n3_; clear n0_ n1_ n2_ n3_; clear ho hb hg hat; obtain ⟨Ao38, co38, eo38⟩ := Kd.R_slice HO548.out; subst eo38) | ((with_reducible refine gate_callee (f := 40) rfl ?_); refine goesL_ (some 65) rfl rfl Try.func40 (by kernel_rfl) rfl #[.slice Ao38 y546.length co38] rfl (by (try simp only [List.map_toArray, List.map_cons, List.map_nil]); first | done | rfl | (simp only [List.length_drop, List.length_take]; rfl)) ?_; (with_reducible refine (allocation_Length.calls kj16 _ _ y546 t549 _ ?side1 ?side2 A29.out).mono ?_); (case side1 => repeat (first | exact (Kd.R_reads' HO548.out).2.2 | (with_reducible refine Kd.C_alloc ?_ _) | (with_reducible refine Kd.C_drewN ?_ _) | (with_reducible refine Kd.C_drew ?_))); (case side2 => exact (Kd.R_reads' HO548.out).2.1); rintro e w39 ⟨rfl, hb⟩; refine ⟨_, rfl, ?_⟩; have n0_ := Aside0.mk (Kd.R_below (by (with_reducible repeat (first | apply Kd.R_alloc | apply Kd.R_drewN | apply Kd.R_drew)); exact HO_7.out) hb); have n1_ := Aside0.mk (Kd.R_below (by (with_reducible repeat (first | apply Kd.R_alloc | apply Kd.R_drewN | apply Kd.R_drew)); exact HO_9.out) hb); have n2_ := Aside0.mk (Kd.R_below (by (with_reducible repeat (first | apply Kd.R_alloc | apply Kd.R_drewN | apply Kd.R_drew)); exact HO548.out) hb); have n3_ := Aside0.mk (below_step (by repeat (first | (with_reducible first | exact HB.out | apply below_alloc | apply pw_below_drewN | apply below_drew1) | exact HB.out)) hb); clear HO_7; clear HO_9; clear HO548; clear HB; have HO_7 := n0_; have HO_9 := n1_; have HO548 := n2_; have HB := n3_; clear n0_ n1_ n2_ n3_; (try clear hb); (try clear hb2); (try clear hk); (try clear hi)) | (go_at_call 39; (with_reducible refine (allocation_Join.calls kj16 _ _ y546 t550 _ ?side1 ?side2 A31.out).mono ?_); (case side1 => repeat (first | exact (Kd.R_reads' HO548.out).2.2 | (with_reducible refine Kd.C_alloc ?_ _) | (with_reducible refine Kd.C_drewN ?_ _) | (with_reducible refine Kd.C_drew ?_))); (case side2 => exact (Kd.R_reads' HO548.out).2.1); rintro e w40 ⟨v551, rfl, ho0, hb⟩; have n0_ := Aside0.mk (Kd.R_elder' (by (with_reducible repeat (first | apply Kd.R_alloc | apply Kd.R_drewN | apply Kd.R_drew)); exact HO_7.out) (Kd.R_base ho0) hb); have n1_ := Aside0.mk (Kd.R_elder' (by (with_reducible repeat (first | apply Kd.R_alloc | apply Kd.R_drewN | apply Kd.R_drew)); exact HO_9.out) (Kd.R_base ho0) hb); have n2_ := Aside0.mk (Kd.R_elder' (by (with_reducible repeat (first | apply Kd.R_alloc | apply Kd.R_drewN | apply Kd.R_drew)); exact HO548.out) (Kd.R_base ho0) hb); have n3_ := Aside0.mk (Kd.R_lower (Kd.R_new' (Kd.R_new' (Kd.R_new' ho0 (Kd.R_lt (by (with_reducible repeat (first | apply Kd.R_alloc | apply Kd.R_drewN | apply Kd.R_drew)); exact HO_7.out))) (Kd.R_lt (by (with_reducible repeat (first | apply Kd.R_alloc | apply Kd.R_drewN | apply Kd.R_drew)); exact HO_9.out))) (Kd.R_lt (by (with_reducible repeat (first | apply Kd.R_alloc | apply Kd.R_drewN | apply Kd.R_drew)); exact HO548.out))) (below_size (by repeat (first | (with_reducible first | exact HB.out | apply below_alloc | apply pw_below_drewN | apply below_drew1) | exact HB.out)))); have n4_ := Aside0.mk (below_step (by repeat (first | (with_reducible first | exact HB.out | apply below_alloc | apply pw_below_drewN | apply below_drew1) | exact HB.out)) hb); clear HO_7; clear HO_9; clear HO548; clear HB; have HO_7 := n0_; have HO_9 := n1_; have HO548 := n2_; have HO552 := n3_; have HB := n4_; clear n0_ n1_ n2_ n3_ n4_; (try clear hb); (try clear hb2); (try clear hk); (try clear hi); (try clear ho0)) | (go_at_call 39; (with_reducible refine (allocation_Join.calls kj16 _ _ l0 t553 _ ?side1 ?side2 A32.out).mono ?_); (case side1 => repeat (first | exact (Kd.C_below HR0.out HB.out) | (with_reducible refine Kd.C_alloc ?_ _) | (with_reducible refine Kd.C_drewN ?_ _) | (with_reducible refine Kd.C_drew ?_))); (case side2 => exact HC0.out); rintro e w41 ⟨v554, rfl, ho0, hb⟩; have n0_ := Aside0.mk (Kd.R_elder' (by (with_reducible repeat (first | apply Kd.R_alloc | apply Kd.R_drewN | apply Kd.R_drew)); exact HO_7.out) (Kd.R_base ho0) hb); have n1_ := Aside0.mk (Kd.R_elder' (by (with_reducible repeat (first | apply Kd.R_alloc | apply Kd.R_drewN | apply Kd.R_drew)); exact HO_9.out) (Kd.R_base ho0) hb); have n2_ := Aside0.mk (Kd.R_elder' (by (with_reducible repeat (first | apply Kd.R_alloc | apply Kd.R_drewN | apply Kd.R_drew)); exact HO548.out) (Kd.R_base ho0) hb); have n3_ := Aside0.mk (Kd.R_elder' (by (with_reducible repeat (first | apply Kd.R_alloc | apply Kd.R_drewN | apply Kd.R_drew)); exact HO552.out) (Kd.R_base ho0) hb); have n4_ := Aside0.mk (Kd.R_lower (Kd.R_new' (Kd.R_new' (Kd.R_new' (Kd.R_new' ho0 (Kd.R_lt (by (with_reducible repeat (first | apply Kd.R_alloc | apply Kd.R_drewN | apply Kd.R_drew)); exact HO_7.out))) (Kd.R_lt (by (with_reducible repeat (first | apply Kd.R_alloc | apply Kd.R_drewN | apply Kd.R_drew)); exact HO_9.out))) (Kd.R_lt (by (with_reducible repeat (first | apply Kd.R_alloc | apply Kd.R_drewN | apply Kd.R_drew)); exact HO548.out))) (Kd.R_lt (by (with_reducible repeat (first | apply Kd.R_alloc | apply Kd.R_drewN | apply Kd.R_drew)); exact HO552.out))) (below_size (by repeat (first | (with_reducible first | exact HB.out | apply below_alloc | apply pw_below_drewN | apply below_drew1) | exact HB.out)))); have n5_ := Aside0.mk (below_step (by repeat (first | (with_reducible first | exact HB.out | apply below_alloc | apply pw_below_drewN | apply below_drew1) | exact HB.out)) hb); clear HO_7; clear HO_9; clear HO548; clear HO552; clear HB; have HO_7 := n0_; have HO_9 := n1_; have HO548 := n2_; have HO552 := n3_; have HO555 := n4_; have HB := n5_; clear n0_ n1_ n2_ n3_ n4_ n5_; (try clear hb); (try clear hb2); (try clear hk); (try clear hi); (try clear ho0); obtain ⟨Ao42, co42, eo42⟩ := Kd.R_slice HO552.out; subst eo42; obtain ⟨Ao43, co43, eo43⟩ := Kd.R_slice HO555.out; subst eo43) | (go_at_call 42; (with_reducible refine (api_Extent_42.calls kj16 _ _ t550 _ _ t553 t556 _ ?side1 ?side2 ?side3 ?side4 A33.out).mono ?_); (case side1 => repeat (first | exact (Kd.R_reads' HO552.out).2.2 | (with_reducible refine Kd.C_alloc ?_ _) | (with_reducible refine Kd.C_drewN ?_ _) | (with_reducible refine Kd.C_drew ?_))); (case side2 => exact (Kd.R_reads' HO552.out).2.1); (case side3 => repeat (first | exact (Kd.R_reads' HO555.out).2.2 | (with_reducible refine Kd.C_alloc ?_ _) | (with_reducible refine Kd.C_drewN ?_ _) | (with_reducible refine Kd.C_drew ?_))); (case side4 => exact (Kd.R_reads' HO555.out).2.1); rintro e w' ⟨rfl, ⟨nd, rfl⟩⟩))
                        go_ret
                        exact ⟨by first | rfl | (simp [errW_none, errW_some] <;> rfl) | (simp [*, errW_none, errW_some] <;> rfl), by repeat (first | (with_reducible first | exact HB.out | apply below_alloc | apply pw_below_drewN | apply below_drew1) | exact HB.out)⟩
                      · rw [if_neg c30] at H
                        have c30b0 : (t549 == t533) = false := beq_eq_false_iff_ne.mpr c30
                        have c30b1 : (t549 != t533) = true := bne_iff_ne.mpr c30
                        obtain rfl := Option.some.inj H
                        obtain ⟨Ao44, co44, eo44⟩ := Kd.R_slice HO_7.out
                        subst eo44
                        go_wp2_with (first | ((with_reducible refine gate_callee (f := 54) rfl ?_); refine goesL_ (some 61) rfl rfl Try.func54 (by kernel_rfl) rfl #[.slice Ao44 t534.length co44] rfl (by (try simp only [List.map_toArray, List.map_cons, List.map_nil]); first | done | rfl | (simp only [List.length_drop, List.length_take]; rfl)) ?_; (with_reducible refine (api_Extent_54.calls _ _ t534 t543 _ ?side1 ?side2 A27.out).mono ?_); (case side1 => repeat (first | exact (Kd.R_reads' HO_7.out).2.2 | (with_reducible refine Kd.C_alloc ?_ _) | (with_reducible refine Kd.C_drewN ?_ _) | (with_reducible refine Kd.C_drew ?_))); (case side2 => exact (Kd.R_reads' HO_7.out).2.1); rintro e w45 ⟨v544, rfl, ho0, hb⟩; refine ⟨_, rfl, ?_⟩; have n0_ := Aside0.mk (Kd.R_elder' (by (with_reducible repeat (first | apply Kd.R_alloc | apply Kd.R_drewN | apply Kd.R_drew)); exact HO_7.out) (Kd.R_base ho0) hb); have n1_ := Aside0.mk (Kd.R_elder' (by (with_reducible repeat (first | apply Kd.R_alloc | apply Kd.R_drewN | apply Kd.R_drew)); exact HO_9.out) (Kd.R_base ho0) hb); have n2_ := Aside0.mk (Kd.R_lower (Kd.R_new' (Kd.R_new' ho0 (Kd.R_lt (by (with_reducible repeat (first | apply Kd.R_alloc | apply Kd.R_drewN | apply Kd.R_drew)); exact HO_7.out))) (Kd.R_lt (by (with_reducible repeat (first | apply Kd.R_alloc | apply Kd.R_drewN | apply Kd.R_drew)); exact HO_9.out))) (below_size (by repeat (first | (with_reducible first | exact HB.out | apply below_alloc | apply pw_below_drewN | apply below_drew1) | exact HB.out)))); have n3_ := Aside0.mk (below_step (by repeat (first | (with_reducible first | exact HB.out | apply below_alloc | apply pw_below_drewN | apply below_drew1) | exact HB.out)) hb); clear HO_7; clear HO_9; clear HB; have HO_7 := n0_; have HO_9 := n1_; have HO545 := n2_; have HB := n3_; clear n0_ n1_ n2_ n3_; (try clear hb); (try clear hb2); (try clear hk); (try clear hi); (try clear ho0); obtain ⟨Ao47, co47, eo47⟩ := Kd.R_slice HO_9.out; subst eo47) | ((with_reducible refine gate_builtin (b := .append) (xs := #[.tmp 61, .tmp 62]) rfl ?_); at_builtin; refine Kd.R_append_rows k46 (w0 := w) w.heap.size rfl (.tmp 61) (.tmp 62) 37 46 (.agg #[(.int .i64 0), (.int .i64 0), (.int .i64 0), (.int .i64 0)]) 32 rfl Try.underlying37 info46 rfl (by decide) (by omega) v544 t543 t538 _ _ _ (fun k_ => some k_ ≠ (.slice Ao44 t534.length co44 : Value).ownBlock ∧ some k_ ≠ (.slice Ao47 t538.length co47 : Value).ownBlock) (fun _ => False) rfl rfl ?aO ?aR (fun _ _ h => h) (fun _ h => h.elim) ?aF ?aB ?aS ?aL ?_; (case aR => repeat (first | exact (Kd.R_reads' HO_9.out).2.2 | (with_reducible refine Kd.C_alloc ?_ _) | (with_reducible refine Kd.C_drewN ?_ _) | (with_reducible refine Kd.C_drew ?_))); (case aB => exact (by repeat (first | (with_reducible first | exact HB.out | apply below_alloc | apply pw_below_drewN | apply below_drew1) | exact HB.out))); (case aF => exact (fun k_ hk => ⟨Kd.fresh' (Kd.R_lt (by (with_reducible repeat (first | apply Kd.R_alloc | apply Kd.R_drewN | apply Kd.R_drew)); exact HO_7.out)) k_ hk, Kd.fresh' (Kd.R_lt (by (with_reducible repeat (first | apply Kd.R_alloc | apply Kd.R_drewN | apply Kd.R_drew)); exact HO_9.out)) k_ hk⟩)); (case aO => exact (by (with_reducible repeat (first | apply Kd.R_alloc | apply Kd.R_drewN | apply Kd.R_drew)); exact Kd.R_mono HO545.out (fun _ hk => ⟨hk.1.2, hk.2⟩))); (case aS => exact (below_size (by repeat (first | (with_reducible first | exact HB.out | apply below_alloc | apply pw_below_drewN | apply below_drew1) | exact HB.out)))); (case aL => have := LMc28.out; omega); intro v547 w46 ho hb hg hat; rw [← Ny546.out] at ho; have n0_ := Aside0.mk (Kd.R_after (ok := (fun k_ => some k_ ≠ (.slice Ao47 t538.length co47 : Value).ownBlock)) (by (with_reducible repeat (first | apply Kd.R_alloc | apply Kd.R_drewN | apply Kd.R_drew)); exact HO_7.out) hg hat); have n1_ := Aside0.mk (Kd.R_after (ok := (fun k_ => some k_ ≠ (.slice Ao44 t534.length co44 : Value).ownBlock)) (by (with_reducible repeat (first | apply Kd.R_alloc | apply Kd.R_drewN | apply Kd.R_drew)); exact HO_9.out) hg hat); have n2_ := Aside0.mk (hb); have n3_ := Aside0.mk (ho); clear HO_7; clear HO_9; clear HB; clear HO545; have HO_7 := n0_; have HO_9 := n1_; have HB := n2_; have HO548 := n3_; clear n0_ n1_ n2_ n3_; clear ho hb hg hat; obtain ⟨Ao48, co48, eo48⟩ := Kd.R_slice HO548.out; subst eo48) | ((with_reducible refine gate_callee (f := 40) rfl ?_); refine goesL_ (some 65) rfl rfl Try.func40 (by kernel_rfl) rfl #[.slice Ao48 y546.length co48] rfl (by (try simp only [List.map_toArray, List.map_cons, List.map_nil]); first | done | rfl | (simp only [List.length_drop, List.length_take]; rfl)) ?_; (with_reducible refine (allocation_Length.calls kj16 _ _ y546 t549 _ ?side1 ?side2 A29.out).mono ?_); (case side1 => repeat (first | exact (Kd.R_reads' HO548.out).2.2 | (with_reducible refine Kd.C_alloc ?_ _) | (with_reducible refine Kd.C_drewN ?_ _) | (with_reducible refine Kd.C_drew ?_))); (case side2 => exact (Kd.R_reads' HO548.out).2.1); rintro e w49 ⟨rfl, hb⟩; refine ⟨_, rfl, ?_⟩; have n0_ := Aside0.mk (Kd.R_below (by (with_reducible repeat (first | apply Kd.R_alloc | apply Kd.R_drewN | apply Kd.R_drew)); exact HO_7.out) hb); have n1_ := Aside0.mk (Kd.R_below (by (with_reducible repeat (first | apply Kd.R_alloc | apply Kd.R_drewN | apply Kd.R_drew)); exact HO_9.out) hb); have n2_ := Aside0.mk (Kd.R_below (by (with_reducible repeat (first | apply Kd.R_alloc | apply Kd.R_drewN | apply Kd.R_drew)); exact HO548.out) hb); have n3_ := Aside0.mk (below_step (by repeat (first | (with_reducible first | exact HB.out | apply below_alloc | apply pw_below_drewN | apply below_drew1) | exact HB.out)) hb); clear HO_7; clear HO_9; clear HO548; clear HB; have HO_7 := n0_; have HO_9 := n1_; have HO548 := n2_; have HB := n3_; clear n0_ n1_ n2_ n3_; (try clear hb); (try clear hb2); (try clear hk); (try clear hi)))
                        go_ret
                        exact ⟨by first | rfl | (simp [errW_none, errW_some] <;> rfl) | (simp [*, errW_none, errW_some] <;> rfl), by repeat (first | (with_reducible first | exact HB.out | apply below_alloc | apply pw_below_drewN | apply below_drew1) | exact HB.out)⟩
                    · rw [if_neg c28] at H
                      exact absurd H (by simp)
  · replace c4 := Bool.eq_false_iff.mpr c4
    subst c4
    have H1 : (some false) = some r := by rw [if_neg (show ¬ (false = true) by decide)] at H; exact H
    clear H
    have H := H1
    clear H1
    obtain rfl := Option.some.inj H
    go_enter Try.func12, Try.ntmps12
    go_wp2_with (first | ((with_reducible refine gate_callee (f := 33) rfl ?_); refine goesL_ (some 12) rfl rfl Try.func33 (by kernel_rfl) rfl #[] rfl (by (try simp only [List.map_toArray, List.map_cons, List.map_nil]); first | done | rfl | (simp only [List.length_drop, List.length_take]; rfl)) ?_; (with_reducible refine (masterdisclaw33_awake.calls k  false _ A3.out).mono ?_); rintro e w50 ⟨rfl, hb⟩; refine ⟨_, rfl, ?_⟩; have n0_ := Aside0.mk (below_step (by repeat (first | (with_reducible first | exact HB.out | apply below_alloc | apply pw_below_drewN | apply below_drew1) | exact HB.out)) hb); clear HB; have HB := n0_; clear n0_; (try clear hb); (try clear hb2); (try clear hk); (try clear hi)))
    go_ret
    exact ⟨by first | rfl | (simp [errW_none, errW_some] <;> rfl) | (simp [*, errW_none, errW_some] <;> rfl), by repeat (first | (with_reducible first | exact HB.out | apply below_alloc | apply pw_below_drewN | apply below_drew1) | exact HB.out)⟩

end Go.Proofs.Ytijbfebbogiiiaa.Q
