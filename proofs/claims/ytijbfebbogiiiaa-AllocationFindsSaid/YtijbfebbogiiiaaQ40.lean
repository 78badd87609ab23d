/- Contracts of Go functions: each call returns what the Lean function of its name says. Written by wip/gen.py (a patched print) for this claim. -/
import Derived.Test.YtijbfebbogiiiaaQ0
import Derived.Test.YtijbfebbogiiiaaQ16
namespace Go.Proofs.Ytijbfebbogiiiaa.Q
open Go.RowKit Go.Proofs.YtijbfebbogiiiaaW.PrintWords Go.Proofs.YtijbfebbogiiiaaW.PrintLast Go.Proofs.YtijbfebbogiiiaaW.PrintMore
attribute [local go_sem] max2_int min2_int max_two min_two max_three min_three max_four min_four   -- for this text's walks alone
set_option linter.unusedVariables false
set_option linter.unusedSimpArgs false

/-! ### masterdiscref33_Length: function 58 -/
def masterdiscref33_Length.l0 : Nat → List (S46) → Int → Int → Option (Int)
  | 0, _, _, _ => none
  | k + 1, x0, x3, x4 => if x4 < (x0.length : Int) then (if 0 ≤ x4 then (masterdiscref33_Length.l0 k x0 (wrap64 (x3 + ((rd_T46 x0 x4).f1))) (wrap64 (x4 + 1))) else (none)) else (some x3)
def masterdiscref33_Length.f (k : Nat) (l0 : List (S46)) : Option (Int) := (masterdiscref33_Formed.f k l0).bind fun t527 => (if t527 = true then (masterdiscref33_Length.l0 k l0 0 0) else (some 0))
theorem masterdiscref33_Length.mono_l : ∀ k, (∀ y0 y1 y2, LeO (masterdiscref33_Length.l0 k y0 y1 y2) (masterdiscref33_Length.l0 (k + 1) y0 y1 y2))
  | 0 => fun _ _ _ r h => by simp [masterdiscref33_Length.l0] at h
  | k + 1 => by
    have ih0 := masterdiscref33_Length.mono_l k
    · intro y0 y1 y2
      unfold masterdiscref33_Length.l0
      repeat' first
      | (with_reducible exact ih0 _ _ _)
      | (with_reducible exact masterdiscref33_Formed.mono _ _)
      | (with_reducible exact LeO.refl _)
      | (with_reducible exact LeO.none _)
      | (with_reducible refine LeO.ite ?_ ?_)
      | (with_reducible refine LeO.bind ?_ (fun _ => ?_))
      | exact ih0 _ _ _
      | exact masterdiscref33_Formed.mono _ _
      | exact LeO.none _
      | refine LeO.ite ?_ ?_
      | refine LeO.bind ?_ (fun _ => ?_)
theorem masterdiscref33_Length.mono : ∀ a0 k, LeO (masterdiscref33_Length.f k a0) (masterdiscref33_Length.f (k + 1) a0) := by
  intro a0 k
  have ih0 := masterdiscref33_Length.mono_l k
  unfold masterdiscref33_Length.f
  repeat' first
      | (with_reducible exact ih0 _ _ _)
      | (with_reducible exact masterdiscref33_Formed.mono _ _)
      | (with_reducible exact LeO.refl _)
      | (with_reducible exact LeO.none _)
      | (with_reducible refine LeO.ite ?_ ?_)
      | (with_reducible refine LeO.bind ?_ (fun _ => ?_))
      | exact ih0 _ _ _
      | exact masterdiscref33_Formed.mono _ _
      | exact LeO.none _
      | refine LeO.ite ?_ ?_
      | refine LeO.bind ?_ (fun _ => ?_)
set_option maxHeartbeats 8000000 in
set_option maxRecDepth 100000 in
theorem masterdiscref33_Length.calls (k : Nat) (A0 : Option Addr) (c0 : Nat) (l0 : List (S46)) (r : Int) (w : World) (hr0 : Kd.C k46 w A0 l0.length l0) (hc0 : l0.length ≤ c0) (h : masterdiscref33_Length.f k l0 = some r) :
    Calls Try.prog 58 #[.slice A0 l0.length c0] w fun e w' => e = .returned (.int .i64 r) ∧ Below w.heap.size w w' := by
  have HR0 := Aside0.mk hr0
  have HC0 := Aside0.mk hc0
  clear hr0 hc0
  have HB := Aside0.mk (Below.refl w.heap.size w)
  have H : ((masterdiscref33_Formed.f k l0).bind fun t527 => (if t527 = true then (masterdiscref33_Length.l0 k l0 0 0) else (some 0))) = some r := h
  clear h
  replace H := Option.bind_eq_some_iff.mp H
  obtain ⟨t527, A20, H⟩ := H
  replace H : (if t527 = true then (masterdiscref33_Length.l0 k l0 0 0) else (some 0)) = some r := H
  have A2 := Aside0.mk A20
  clear A20
  by_cases c3 : t527 = true
  · subst c3
    have H1 : (masterdiscref33_Length.l0 k l0 0 0) = some r := by rw [if_pos rfl] at H; exact H
    clear H
    have H := H1
    clear H1
    have H' := Aside0.mk H
    clear H
    go_enter Try.func58, Try.ntmps58
    go_wp2_with (first | ((with_reducible refine gate_callee (f := 104) rfl ?_); refine goesL_ (some 6) rfl rfl Try.func104 (by kernel_rfl) rfl #[.slice A0 l0.length c0] rfl (by (try simp only [List.map_toArray, List.map_cons, List.map_nil]); first | done | rfl | (simp only [List.length_drop, List.length_take]; rfl)) ?_; (with_reducible refine (masterdiscref33_Formed.calls k _ _ l0 true _ ?side1 ?side2 A2.out).mono ?_); (case side1 => repeat (first | exact HR0.out | (with_reducible refine Kd.C_alloc ?_ _) | (with_reducible refine Kd.C_drewN ?_ _) | (with_reducible refine Kd.C_drew ?_))); (case side2 => exact HC0.out); rintro e w4 ⟨rfl, hb⟩; refine ⟨_, rfl, ?_⟩; have n0_ := Aside0.mk (below_step (by repeat (first | (with_reducible first | exact HB.out | apply below_alloc | apply pw_below_drewN | apply below_drew1) | exact HB.out)) hb); clear HB; have HB := n0_; clear n0_; (try clear hb); (try clear hb2); (try clear hk); (try clear hi)))
    go_loopg [3, 4] k (fun kq v3 v4 w' => ∃ (x3_1 : Int) (x4_1 : Int), v3 = .int .i64 x3_1 ∧ v4 = .int .i64 x4_1 ∧ Aside0 (masterdiscref33_Length.l0 kq l0 x3_1 x4_1 = some r) ∧ Aside0 (kq ≤ k) ∧ Aside0 (Below w.heap.size w w'))
    case atStart => exact ⟨(0), (0), (by first | rfl | (simp; done) | (simp [*]; done)), (by first | rfl | (simp; done) | (simp [*]; done)), H', ⟨Nat.le_refl _⟩, ⟨by repeat (first | (with_reducible first | exact HB.out | apply below_alloc | apply pw_below_drewN | apply below_drew1) | exact HB.out)⟩⟩
    case round =>
      clear H'
      try clear c1
      try clear p2
      try clear c3
      obtain ⟨x3_1, x4_1, rfl, rfl, HA, HK1, HB⟩ := hrel
      cases gk with
      | zero => exact absurd HA.out (by simp [masterdiscref33_Length.l0])
      | succ k1 =>
        have H := HA.out
        clear HA
        simp only [masterdiscref33_Length.l0] at H
        by_cases c5 : x4_1 < (l0.length : Int)
        · rw [if_pos c5] at H
          have c5b0 : decide (x4_1 < (l0.length : Int)) = true := decide_eq_true c5
          clear c5
          by_cases c6 : 0 ≤ x4_1
          · rw [if_pos c6] at H
            have c6b0 : decide (0 ≤ x4_1) = true := decide_eq_true c6
            clear c6
            have H' := Aside0.mk H
            clear H
            have p528 : 0 ≤ (x4_1 : Int) := of_decide_eq_true (by first | (with_reducible assumption) | assumption)
            have q528 : x4_1 < (l0.length : Int) := of_decide_eq_true (by first | (with_reducible assumption) | assumption)
            obtain ⟨ad528, e528, hx528_0, hx528_1, hx528_2, hx528_3⟩ := at_T46 HR0.out x4_1 p528 q528
            cases e528
            replace hx528_0 := (HB.out.cell (World.block_lt_of_cell? w _ hx528_0)).trans hx528_0
            replace hx528_1 := (HB.out.cell (World.block_lt_of_cell? w _ hx528_1)).trans hx528_1
            replace hx528_2 := (HB.out.cell (World.block_lt_of_cell? w _ hx528_2)).trans hx528_2
            replace hx528_3 := (HB.out.cell (World.block_lt_of_cell? w _ hx528_3)).trans hx528_3
            replace p528 := eq_true p528
            replace q528 := eq_true q528
            go_wp2
            go_roundg k1
            case measure => have := HK1.out; omega
            case rel => exact ⟨(wrap64 (x3_1 + ((rd_T46 l0 x4_1).f1))), (wrap64 (x4_1 + 1)), (by first | rfl | (simp; done) | (simp [*]; done)), (by first | rfl | (simp; done) | (simp [*]; done)), H', ⟨by have := HK1.out; omega⟩, ⟨by repeat (first | (with_reducible first | exact HB.out | apply below_alloc | apply pw_below_drewN | apply below_drew1) | exact HB.out)⟩⟩
          · rw [if_neg c6] at H
            exact absurd H (by simp)
        · rw [if_neg c5] at H
          have c5b0 : decide (x4_1 < (l0.length : Int)) = false := decide_eq_false c5
          clear c5
          obtain rfl := Option.some.inj H
          go_wp2
          go_ret
          exact ⟨by first | rfl | (simp [errW_none, errW_some] <;> rfl) | (simp [*, errW_none, errW_some] <;> rfl), by repeat (first | (with_reducible first | exact HB.out | apply below_alloc | apply pw_below_drewN | apply below_drew1) | exact HB.out)⟩
  · replace c3 := Bool.eq_false_iff.mpr c3
    subst c3
    have H1 : (some 0) = some r := by rw [if_neg (show ¬ (false = true) by decide)] at H; exact H
    clear H
    have H := H1
    clear H1
    obtain rfl := Option.some.inj H
    go_enter Try.func58, Try.ntmps58
    go_wp2_with (first | ((with_reducible refine gate_callee (f := 104) rfl ?_); refine goesL_ (some 6) rfl rfl Try.func104 (by kernel_rfl) rfl #[.slice A0 l0.length c0] rfl (by (try simp only [List.map_toArray, List.map_cons, List.map_nil]); first | done | rfl | (simp only [List.length_drop, List.length_take]; rfl)) ?_; (with_reducible refine (masterdiscref33_Formed.calls k _ _ l0 false _ ?side1 ?side2 A2.out).mono ?_); (case side1 => repeat (first | exact HR0.out | (with_reducible refine Kd.C_alloc ?_ _) | (with_reducible refine Kd.C_drewN ?_ _) | (with_reducible refine Kd.C_drew ?_))); (case side2 => exact HC0.out); rintro e w7 ⟨rfl, hb⟩; refine ⟨_, rfl, ?_⟩; have n0_ := Aside0.mk (below_step (by repeat (first | (with_reducible first | exact HB.out | apply below_alloc | apply pw_below_drewN | apply below_drew1) | exact HB.out)) hb); clear HB; have HB := n0_; clear n0_; (try clear hb); (try clear hb2); (try clear hk); (try clear hi)))
    go_ret
    exact ⟨by first | rfl | (simp [errW_none, errW_some] <;> rfl) | (simp [*, errW_none, errW_some] <;> rfl), by repeat (first | (with_reducible first | exact HB.out | apply below_alloc | apply pw_below_drewN | apply below_drew1) | exact HB.out)⟩

/-! ### masterdiscref33_Count: function 120 -/
def masterdiscref33_Count.f (a0 : Int) : Option (Int) := some (wrap64 (Int.tdiv (wrap64 ((wrap64 (a0 + 2048)) - 1)) 2048))
set_option maxHeartbeats 8000000 in
set_option maxRecDepth 100000 in
theorem masterdiscref33_Count.calls (a0 : Int) (r : Int) (w : World) (h : masterdiscref33_Count.f a0 = some r) :
    Calls Try.prog 120 #[.int .i64 a0] w fun e w' => e = .returned (.int .i64 r) ∧ Drawn0 w w' := by
  have H : (some (wrap64 (Int.tdiv (wrap64 ((wrap64 (a0 + 2048)) - 1)) 2048))) = some r := h
  clear h
  obtain rfl := Option.some.inj H
  go_enter Try.func120, Try.ntmps120
  go_wp2
  go_ret
  exact ⟨by first | rfl | (simp; done) | (simp [*]; done), by repeat (first | exact Drawn0.refl _ | apply Drawn0.step)⟩

/-! ### masterdiscref33_Valid: function 60 -/
mutual
def masterdiscref33_Valid.j0 : Nat → List (S46) → Bool → Option (Bool)
  | 0, _, _ => none
  | k + 1, x0, x12 => if x12 = true then (some false) else (masterdiscref33_Valid.l0 k x0 0)
def masterdiscref33_Valid.l0 : Nat → List (S46) → Int → Option (Bool)
  | 0, _, _ => none
  | k + 1, x0, x3 => if x3 < (x0.length : Int) then (if 0 ≤ x3 then (if ((rd_T46 x0 x3).f0) = 3 then (some false) else (if (wrap64 (x3 + 1)) < (x0.length : Int) then (if (Int.tmod ((rd_T46 x0 x3).f1) 2048) = 0 then ((masterdiscref33_Count.f ((rd_T46 x0 x3).f1)).bind fun t533 => (if (wrap64 (((rd_T46 x0 x3).f2.f0) + t533)) > 4294967296 then (some false) else (masterdiscref33_Valid.l0 k x0 (wrap64 (x3 + 1))))) else (some false)) else ((masterdiscref33_Count.f ((rd_T46 x0 x3).f1)).bind fun t534 => (if (wrap64 (((rd_T46 x0 x3).f2.f0) + t534)) > 4294967296 then (some false) else (masterdiscref33_Valid.l0 k x0 (wrap64 (x3 + 1))))))) else (none)) else (some true)
end
def masterdiscref33_Valid.f (k : Nat) (l0 : List (S46)) : Option (Bool) := (masterdiscref33_Formed.f k l0).bind fun t529 => (if t529 = true then ((masterdiscref33_Length.f k l0).bind fun t530 => (masterdiscref33_Valid.j0 k l0 (decide (t530 > 1073739776)))) else (masterdiscref33_Valid.j0 k l0 true))
theorem masterdiscref33_Valid.mono_l : ∀ k, (∀ y0 y1, LeO (masterdiscref33_Valid.j0 k y0 y1) (masterdiscref33_Valid.j0 (k + 1) y0 y1)) ∧ (∀ y0 y1, LeO (masterdiscref33_Valid.l0 k y0 y1) (masterdiscref33_Valid.l0 (k + 1) y0 y1))
  | 0 => ⟨fun _ _ r h => by simp [masterdiscref33_Valid.j0] at h, fun _ _ r h => by simp [masterdiscref33_Valid.l0] at h⟩
  | k + 1 => by
    obtain ⟨ih0, ih1⟩ := masterdiscref33_Valid.mono_l k
    refine ⟨?_, ?_⟩
    · intro y0 y1
      unfold masterdiscref33_Valid.j0
      repeat' first
      | (with_reducible exact ih0 _ _)
      | (with_reducible exact ih1 _ _)
      | (with_reducible exact masterdiscref33_Formed.mono _ _)
      | (with_reducible exact masterdiscref33_Length.mono _ _)
      | (with_reducible exact LeO.refl _)
      | (with_reducible exact LeO.none _)
      | (with_reducible refine LeO.ite ?_ ?_)
      | (with_reducible refine LeO.bind ?_ (fun _ => ?_))
      | exact ih0 _ _
      | exact ih1 _ _
      | exact masterdiscref33_Formed.mono _ _
      | exact masterdiscref33_Length.mono _ _
      | exact LeO.none _
      | refine LeO.ite ?_ ?_
      | refine LeO.bind ?_ (fun _ => ?_)
    · intro y0 y1
      unfold masterdiscref33_Valid.l0
      repeat' first
      | (with_reducible exact ih0 _ _)
      | (with_reducible exact ih1 _ _)
      | (with_reducible exact masterdiscref33_Formed.mono _ _)
      | (with_reducible exact masterdiscref33_Length.mono _ _)
      | (with_reducible exact LeO.refl _)
      | (with_reducible exact LeO.none _)
      | (with_reducible refine LeO.ite ?_ ?_)
      | (with_reducible refine LeO.bind ?_ (fun _ => ?_))
      | exact ih0 _ _
      | exact ih1 _ _
      | exact masterdiscref33_Formed.mono _ _
      | exact masterdiscref33_Length.mono _ _
      | exact LeO.none _
      | refine LeO.ite ?_ ?_
      | refine LeO.bind ?_ (fun _ => ?_)
theorem masterdiscref33_Valid.mono : ∀ a0 k, LeO (masterdiscref33_Valid.f k a0) (masterdiscref33_Valid.f (k + 1) a0) := by
  intro a0 k
  obtain ⟨ih0, ih1⟩ := masterdiscref33_Valid.mono_l k
  unfold masterdiscref33_Valid.f
  repeat' first
      | (with_reducible exact ih0 _ _)
      | (with_reducible exact ih1 _ _)
      | (with_reducible exact masterdiscref33_Formed.mono _ _)
      | (with_reducible exact masterdiscref33_Length.mono _ _)
      | (with_reducible exact LeO.refl _)
      | (with_reducible exact LeO.none _)
      | (with_reducible refine LeO.ite ?_ ?_)
      | (with_reducible refine LeO.bind ?_ (fun _ => ?_))
      | exact ih0 _ _
      | exact ih1 _ _
      | exact masterdiscref33_Formed.mono _ _
      | exact masterdiscref33_Length.mono _ _
      | exact LeO.none _
      | refine LeO.ite ?_ ?_
      | refine LeO.bind ?_ (fun _ => ?_)
set_option maxHeartbeats 8000000 in
set_option maxRecDepth 100000 in
theorem masterdiscref33_Valid.calls (k : Nat) (A0 : Option Addr) (c0 : Nat) (l0 : List (S46)) (r : Bool) (w : World) (hr0 : Kd.C k46 w A0 l0.length l0) (hc0 : l0.length ≤ c0) (h : masterdiscref33_Valid.f k l0 = some r) :
    Calls Try.prog 60 #[.slice A0 l0.length c0] w fun e w' => e = .returned (.bool r) ∧ Below w.heap.size w w' := by
  have hu46 := Try.underlying46
  have HR0 := Aside0.mk hr0
  have HC0 := Aside0.mk hc0
  clear hr0 hc0
  have HB := Aside0.mk (Below.refl w.heap.size w)
  have H : ((masterdiscref33_Formed.f k l0).bind fun t529 => (if t529 = true then ((masterdiscref33_Length.f k l0).bind fun t530 => (masterdiscref33_Valid.j0 k l0 (decide (t530 > 1073739776)))) else (masterdiscref33_Valid.j0 k l0 true))) = some r := h
  clear h
  have HC2 := Aside0.mk H
  clear H
  go_enter Try.func60, Try.ntmps60
  go_upto_region 1 with (fail)
  repeat (go_quiet (fail); go_upto_region 1 with (fail))
  go_cut [12] (fun v12 wc => ∃ (kq : Nat) (x12_1 : Bool), v12 = .bool x12_1 ∧ Aside0 (masterdiscref33_Valid.j0 kq l0 x12_1 = some r) ∧ Aside0 (kq ≤ k) ∧ Aside0 (Below w.heap.size w wc))
  case first =>
    have H := HC2.out
    clear HC2
    replace H := Option.bind_eq_some_iff.mp H
    obtain ⟨t529, A30, H⟩ := H
    replace H : (if t529 = true then ((masterdiscref33_Length.f k l0).bind fun t530 => (masterdiscref33_Valid.j0 k l0 (decide (t530 > 1073739776)))) else (masterdiscref33_Valid.j0 k l0 true)) = some r := H
    have A3 := Aside0.mk A30
    clear A30
    by_cases c4 : t529 = true
    · subst c4
      have H1 : ((masterdiscref33_Length.f k l0).bind fun t530 => (masterdiscref33_Valid.j0 k l0 (decide (t530 > 1073739776)))) = some r := by rw [if_pos rfl] at H; exact H
      clear H
      have H := H1
      clear H1
      replace H := Option.bind_eq_some_iff.mp H
      obtain ⟨t530, A50, H⟩ := H
      replace H : (masterdiscref33_Valid.j0 k l0 (decide (t530 > 1073739776))) = some r := H
      have A5 := Aside0.mk A50
      clear A50
      have H' := Aside0.mk H
      clear H
      go_wp2_with (first | (go_at_call 104; (with_reducible refine (masterdiscref33_Formed.calls k _ _ l0 true _ ?side1 ?side2 A3.out).mono ?_); (case side1 => repeat (first | exact (Kd.C_below HR0.out HB.out) | (with_reducible refine Kd.C_alloc ?_ _) | (with_reducible refine Kd.C_drewN ?_ _) | (with_reducible refine Kd.C_drew ?_))); (case side2 => exact HC0.out); rintro e w6 ⟨rfl, hb⟩; have n0_ := Aside0.mk (below_step (by repeat (first | (with_reducible first | exact HB.out | apply below_alloc | apply pw_below_drewN | apply below_drew1) | exact HB.out)) hb); clear HB; have HB := n0_; clear n0_; (try clear hb); (try clear hb2); (try clear hk); (try clear hi)) | (go_at_call 58; (with_reducible refine (masterdiscref33_Length.calls k _ _ l0 t530 _ ?side1 ?side2 A5.out).mono ?_); (case side1 => repeat (first | exact (Kd.C_below HR0.out HB.out) | (with_reducible refine Kd.C_alloc ?_ _) | (with_reducible refine Kd.C_drewN ?_ _) | (with_reducible refine Kd.C_drew ?_))); (case side2 => exact HC0.out); rintro e w7 ⟨rfl, hb⟩; have n0_ := Aside0.mk (below_step (by repeat (first | (with_reducible first | exact HB.out | apply below_alloc | apply pw_below_drewN | apply below_drew1) | exact HB.out)) hb); clear HB; have HB := n0_; clear n0_; (try clear hb); (try clear hb2); (try clear hk); (try clear hi)))
      repeat (go_quiet (first | (go_at_call 104; (with_reducible refine (masterdiscref33_Formed.calls k _ _ l0 true _ ?side1 ?side2 A3.out).mono ?_); (case side1 => repeat (first | exact (Kd.C_below HR0.out HB.out) | (with_reducible refine Kd.C_alloc ?_ _) | (with_reducible refine Kd.C_drewN ?_ _) | (with_reducible refine Kd.C_drew ?_))); (case side2 => exact HC0.out); rintro e w6 ⟨rfl, hb⟩; have n0_ := Aside0.mk (below_step (by repeat (first | (with_reducible first | exact HB.out | apply below_alloc | apply pw_below_drewN | apply below_drew1) | exact HB.out)) hb); clear HB; have HB := n0_; clear n0_; (try clear hb); (try clear hb2); (try clear hk); (try clear hi)) | (go_at_call 58; (with_reducible refine (masterdiscref33_Length.calls k _ _ l0 t530 _ ?side1 ?side2 A5.out).mono ?_); (case side1 => repeat (first | exact (Kd.C_below HR0.out HB.out) | (with_reducible refine Kd.C_alloc ?_ _) | (with_reducible refine Kd.C_drewN ?_ _) | (with_reducible refine Kd.C_drew ?_))); (case side2 => exact HC0.out); rintro e w7 ⟨rfl, hb⟩; have n0_ := Aside0.mk (below_step (by repeat (first | (with_reducible first | exact HB.out | apply below_alloc | apply pw_below_drewN | apply below_drew1) | exact HB.out)) hb); clear HB; have HB := n0_; clear n0_; (try clear hb); (try clear hb2); (try clear hk); (try clear hi))); try go_wp2_with (first | (go_at_call 104; (with_reducible refine (masterdiscref33_Formed.calls k _ _ l0 true _ ?side1 ?side2 A3.out).mono ?_); (case side1 => repeat (first | exact (Kd.C_below HR0.out HB.out) | (with_reducible refine Kd.C_alloc ?_ _) | (with_reducible refine Kd.C_drewN ?_ _) | (with_reducible refine Kd.C_drew ?_))); (case side2 => exact HC0.out); rintro e w6 ⟨rfl, hb⟩; have n0_ := Aside0.mk (below_step (by repeat (first | (with_reducible first | exact HB.out | apply below_alloc | apply pw_below_drewN | apply below_drew1) | exact HB.out)) hb); clear HB; have HB := n0_; clear n0_; (try clear hb); (try clear hb2); (try clear hk); (try clear hi)) | (go_at_call 58; (with_reducible refine (masterdiscref33_Length.calls k _ _ l0 t530 _ ?side1 ?side2 A5.out).mono ?_); (case side1 => repeat (first | exact (Kd.C_below HR0.out HB.out) | (with_reducible refine Kd.C_alloc ?_ _) | (with_reducible refine Kd.C_drewN ?_ _) | (with_reducible refine Kd.C_drew ?_))); (case side2 => exact HC0.out); rintro e w7 ⟨rfl, hb⟩; have n0_ := Aside0.mk (below_step (by repeat (first | (with_reducible first | exact HB.out | apply below_alloc | apply pw_below_drewN | apply below_drew1) | exact HB.out)) hb); clear HB; have HB := n0_; clear n0_; (try clear hb); (try clear hb2); (try clear hk); (try clear hi))))
      go_meet
      case rel => exact ⟨_, (decide (t530 > 1073739776)), (by first | rfl | (simp; done) | (simp [*]; done)), H', ⟨by first | omega | exact Nat.le_refl _⟩, ⟨by repeat (first | (with_reducible first | exact HB.out | apply below_alloc | apply pw_below_drewN | apply below_drew1) | exact HB.out)⟩⟩
    · replace c4 := Bool.eq_false_iff.mpr c4
      subst c4
      have H1 : (masterdiscref33_Valid.j0 k l0 true) = some r := by rw [if_neg (show ¬ (false = true) by decide)] at H; exact H
      clear H
      have H := H1
      clear H1
      have H' := Aside0.mk H
      clear H
      go_wp2_with (first | (go_at_call 104; (with_reducible refine (masterdiscref33_Formed.calls k _ _ l0 false _ ?side1 ?side2 A3.out).mono ?_); (case side1 => repeat (first | exact (Kd.C_below HR0.out HB.out) | (with_reducible refine Kd.C_alloc ?_ _) | (with_reducible refine Kd.C_drewN ?_ _) | (with_reducible refine Kd.C_drew ?_))); (case side2 => exact HC0.out); rintro e w8 ⟨rfl, hb⟩; have n0_ := Aside0.mk (below_step (by repeat (first | (with_reducible first | exact HB.out | apply below_alloc | apply pw_below_drewN | apply below_drew1) | exact HB.out)) hb); clear HB; have HB := n0_; clear n0_; (try clear hb); (try clear hb2); (try clear hk); (try clear hi)))
      repeat (go_quiet (first | (go_at_call 104; (with_reducible refine (masterdiscref33_Formed.calls k _ _ l0 false _ ?side1 ?side2 A3.out).mono ?_); (case side1 => repeat (first | exact (Kd.C_below HR0.out HB.out) | (with_reducible refine Kd.C_alloc ?_ _) | (with_reducible refine Kd.C_drewN ?_ _) | (with_reducible refine Kd.C_drew ?_))); (case side2 => exact HC0.out); rintro e w8 ⟨rfl, hb⟩; have n0_ := Aside0.mk (below_step (by repeat (first | (with_reducible first | exact HB.out | apply below_alloc | apply pw_below_drewN | apply below_drew1) | exact HB.out)) hb); clear HB; have HB := n0_; clear n0_; (try clear hb); (try clear hb2); (try clear hk); (try clear hi))); try go_wp2_with (first | (go_at_call 104; (with_reducible refine (masterdiscref33_Formed.calls k _ _ l0 false _ ?side1 ?side2 A3.out).mono ?_); (case side1 => repeat (first | exact (Kd.C_below HR0.out HB.out) | (with_reducible refine Kd.C_alloc ?_ _) | (with_reducible refine Kd.C_drewN ?_ _) | (with_reducible refine Kd.C_drew ?_))); (case side2 => exact HC0.out); rintro e w8 ⟨rfl, hb⟩; have n0_ := Aside0.mk (below_step (by repeat (first | (with_reducible first | exact HB.out | apply below_alloc | apply pw_below_drewN | apply below_drew1) | exact HB.out)) hb); clear HB; have HB := n0_; clear n0_; (try clear hb); (try clear hb2); (try clear hk); (try clear hi))))
      go_meet
      case rel => exact ⟨_, (true), (by first | rfl | (simp; done) | (simp [*]; done)), H', ⟨by first | omega | exact Nat.le_refl _⟩, ⟨by repeat (first | (with_reducible first | exact HB.out | apply below_alloc | apply pw_below_drewN | apply below_drew1) | exact HB.out)⟩⟩
  case rest =>
    clear HC2
    try clear p2
    try clear c4
    try clear c6
    obtain ⟨kq, x12_1, rfl, HA, HJ1, HB⟩ := hcut
    cases kq with
    | zero => exact absurd HA.out (by simp [masterdiscref33_Valid.j0])
    | succ kj1 =>
      have H := HA.out
      clear HA
      simp only [masterdiscref33_Valid.j0] at H
      by_cases c9 : x12_1 = true
      · subst c9
        have H1 : (some false) = some r := by rw [if_pos rfl] at H; exact H
        clear H
        have H := H1
        clear H1
        obtain rfl := Option.some.inj H
        go_wp2
        repeat (go_quiet (fail); try go_wp2)
        go_ret
        exact ⟨by first | rfl | (simp [errW_none, errW_some] <;> rfl) | (simp [*, errW_none, errW_some] <;> rfl), by repeat (first | (with_reducible first | exact HB.out | apply below_alloc | apply pw_below_drewN | apply below_drew1) | exact HB.out)⟩
      · replace c9 := Bool.eq_false_iff.mpr c9
        subst c9
        have H1 : (masterdiscref33_Valid.l0 kj1 l0 0) = some r := by rw [if_neg (show ¬ (false = true) by decide)] at H; exact H
        clear H
        have H := H1
        clear H1
        have H' := Aside0.mk H
        clear H
        go_wp2
        repeat (go_quiet (fail); try go_wp2)
        go_loopg [3] kj1 (fun kq v3 w' => ∃ (x3_2 : Int), v3 = .int .i64 x3_2 ∧ Aside0 (masterdiscref33_Valid.l0 kq l0 x3_2 = some r) ∧ Aside0 (kq ≤ kj1) ∧ Aside0 (Below w.heap.size w w'))
        case atStart => exact ⟨(0), (by first | rfl | (simp; done) | (simp [*]; done)), H', ⟨Nat.le_refl _⟩, ⟨by repeat (first | (with_reducible first | exact HB.out | apply below_alloc | apply pw_below_drewN | apply below_drew1) | exact HB.out)⟩⟩
        case round =>
          clear H'
          try clear p2
          try clear c4
          try clear c6
          try clear c9
          try clear p2
          obtain ⟨x3_2, rfl, HA, HK2, HB⟩ := hrel
          cases gk with
          | zero => exact absurd HA.out (by simp [masterdiscref33_Valid.l0])
          | succ k2 =>
            have H := HA.out
            clear HA
            simp only [masterdiscref33_Valid.l0] at H
            by_cases c10 : x3_2 < (l0.length : Int)
            · rw [if_pos c10] at H
              have c10b0 : decide (x3_2 < (l0.length : Int)) = true := decide_eq_true c10
              clear c10
              by_cases c11 : 0 ≤ x3_2
              · rw [if_pos c11] at H
                have c11b0 : decide (0 ≤ x3_2) = true := decide_eq_true c11
                clear c11
                by_cases c12 : ((rd_T46 l0 x3_2).f0) = 3
                · rw [if_pos c12] at H
                  have c12b0 : (((rd_T46 l0 x3_2).f0) == 3) = true := beq_iff_eq.mpr c12
                  have c12b1 : (((rd_T46 l0 x3_2).f0) != 3) = false := bne_eq_false_iff_eq.mpr c12
                  clear c12
                  obtain rfl := Option.some.inj H
                  have p531 : 0 ≤ (x3_2 : Int) := of_decide_eq_true (by first | (with_reducible assumption) | assumption)
                  have q531 : x3_2 < (l0.length : Int) := of_decide_eq_true (by first | (with_reducible assumption) | assumption)
                  obtain ⟨ad531, e531, hx531_0, hx531_1, hx531_2, hx531_3⟩ := at_T46 HR0.out x3_2 p531 q531
                  cases e531
                  replace hx531_0 := (HB.out.cell (World.block_lt_of_cell? w _ hx531_0)).trans hx531_0
                  replace hx531_1 := (HB.out.cell (World.block_lt_of_cell? w _ hx531_1)).trans hx531_1
                  replace hx531_2 := (HB.out.cell (World.block_lt_of_cell? w _ hx531_2)).trans hx531_2
                  replace hx531_3 := (HB.out.cell (World.block_lt_of_cell? w _ hx531_3)).trans hx531_3
                  replace p531 := eq_true p531
                  replace q531 := eq_true q531
                  go_wp2_with (first | ((with_reducible refine gate_dst (N := 4) rfl ?_); (try (refine gate_guard (by rfl) ?_; dsimp only)); refine box_event ?hg (N := 4) ?hd (cs := #[.int .i64 0, .int .i64 0, .int .i64 0, .int .i64 0]) (t := 46) ?hr ?_; (case hd => rfl); (case hg => rfl); (case hr => first | (go_simp; done) | (go_simp; rfl)); intro gb532 hg w13 hbox hb; have n0_ := Aside0.mk (below_step (by repeat (first | (with_reducible first | exact HB.out | apply below_alloc | apply pw_below_drewN | apply below_drew1) | exact HB.out)) hb); have n1_ := Aside0.mk (hbox); have n2_ := Aside0.mk ((by rw [hg]; exact (below_size (by repeat (first | (with_reducible first | exact HB.out | apply below_alloc | apply pw_below_drewN | apply below_drew1) | exact HB.out))) : w.heap.size ≤ gb532)); have n3_ := Aside0.mk ((by rw [hg]; exact (below_size (by repeat (first | (with_reducible first | exact HB.out | apply below_alloc | apply pw_below_drewN | apply below_drew1) | exact HB.out))) : w.heap.size ≤ gb532)); clear HB; have HB := n0_; have BK532 := n1_; have GW532 := n2_; have GE532 := n3_; clear n0_ n1_ n2_ n3_; clear hb hbox hg; have hcz14_0 : w13.cell? ⟨gb532, 0, none⟩ = some (.int .i64 0) := (blk_cell BK532.out 0).trans rfl; have hcz14_1 : w13.cell? ⟨gb532, 1, none⟩ = some (.int .i64 0) := (blk_cell BK532.out 1).trans rfl; have hcz14_2 : w13.cell? ⟨gb532, 2, none⟩ = some (.int .i64 0) := (blk_cell BK532.out 2).trans rfl; have hcz14_3 : w13.cell? ⟨gb532, 3, none⟩ = some (.int .i64 0) := (blk_cell BK532.out 3).trans rfl; have hfz14_0 := blk_frozen BK532.out 0; have hfz14_1 := blk_frozen BK532.out 1; have hfz14_2 := blk_frozen BK532.out 2; have hfz14_3 := blk_frozen BK532.out 3))
                  repeat (go_quiet (first | ((with_reducible refine gate_dst (N := 4) rfl ?_); (try (refine gate_guard (by rfl) ?_; dsimp only)); refine box_event ?hg (N := 4) ?hd (cs := #[.int .i64 0, .int .i64 0, .int .i64 0, .int .i64 0]) (t := 46) ?hr ?_; (case hd => rfl); (case hg => rfl); (case hr => first | (go_simp; done) | (go_simp; rfl)); intro gb532 hg w13 hbox hb; have n0_ := Aside0.mk (below_step (by repeat (first | (with_reducible first | exact HB.out | apply below_alloc | apply pw_below_drewN | apply below_drew1) | exact HB.out)) hb); have n1_ := Aside0.mk (hbox); have n2_ := Aside0.mk ((by rw [hg]; exact (below_size (by repeat (first | (with_reducible first | exact HB.out | apply below_alloc | apply pw_below_drewN | apply below_drew1) | exact HB.out))) : w.heap.size ≤ gb532)); have n3_ := Aside0.mk ((by rw [hg]; exact (below_size (by repeat (first | (with_reducible first | exact HB.out | apply below_alloc | apply pw_below_drewN | apply below_drew1) | exact HB.out))) : w.heap.size ≤ gb532)); clear HB; have HB := n0_; have BK532 := n1_; have GW532 := n2_; have GE532 := n3_; clear n0_ n1_ n2_ n3_; clear hb hbox hg; have hcz14_0 : w13.cell? ⟨gb532, 0, none⟩ = some (.int .i64 0) := (blk_cell BK532.out 0).trans rfl; have hcz14_1 : w13.cell? ⟨gb532, 1, none⟩ = some (.int .i64 0) := (blk_cell BK532.out 1).trans rfl; have hcz14_2 : w13.cell? ⟨gb532, 2, none⟩ = some (.int .i64 0) := (blk_cell BK532.out 2).trans rfl; have hcz14_3 : w13.cell? ⟨gb532, 3, none⟩ = some (.int .i64 0) := (blk_cell BK532.out 3).trans rfl; have hfz14_0 := blk_frozen BK532.out 0; have hfz14_1 := blk_frozen BK532.out 1; have hfz14_2 := blk_frozen BK532.out 2; have hfz14_3 := blk_frozen BK532.out 3)); try go_wp2_with (first | ((with_reducible refine gate_dst (N := 4) rfl ?_); (try (refine gate_guard (by rfl) ?_; dsimp only)); refine box_event ?hg (N := 4) ?hd (cs := #[.int .i64 0, .int .i64 0, .int .i64 0, .int .i64 0]) (t := 46) ?hr ?_; (case hd => rfl); (case hg => rfl); (case hr => first | (go_simp; done) | (go_simp; rfl)); intro gb532 hg w13 hbox hb; have n0_ := Aside0.mk (below_step (by repeat (first | (with_reducible first | exact HB.out | apply below_alloc | apply pw_below_drewN | apply below_drew1) | exact HB.out)) hb); have n1_ := Aside0.mk (hbox); have n2_ := Aside0.mk ((by rw [hg]; exact (below_size (by repeat (first | (with_reducible first | exact HB.out | apply below_alloc | apply pw_below_drewN | apply below_drew1) | exact HB.out))) : w.heap.size ≤ gb532)); have n3_ := Aside0.mk ((by rw [hg]; exact (below_size (by repeat (first | (with_reducible first | exact HB.out | apply below_alloc | apply pw_below_drewN | apply below_drew1) | exact HB.out))) : w.heap.size ≤ gb532)); clear HB; have HB := n0_; have BK532 := n1_; have GW532 := n2_; have GE532 := n3_; clear n0_ n1_ n2_ n3_; clear hb hbox hg; have hcz14_0 : w13.cell? ⟨gb532, 0, none⟩ = some (.int .i64 0) := (blk_cell BK532.out 0).trans rfl; have hcz14_1 : w13.cell? ⟨gb532, 1, none⟩ = some (.int .i64 0) := (blk_cell BK532.out 1).trans rfl; have hcz14_2 : w13.cell? ⟨gb532, 2, none⟩ = some (.int .i64 0) := (blk_cell BK532.out 2).trans rfl; have hcz14_3 : w13.cell? ⟨gb532, 3, none⟩ = some (.int .i64 0) := (blk_cell BK532.out 3).trans rfl; have hfz14_0 := blk_frozen BK532.out 0; have hfz14_1 := blk_frozen BK532.out 1; have hfz14_2 := blk_frozen BK532.out 2; have hfz14_3 := blk_frozen BK532.out 3)))
                  go_ret
                  exact ⟨by first | rfl | (simp [errW_none, errW_some] <;> rfl) | (simp [*, errW_none, errW_some] <;> rfl), by repeat (first | (with_reducible first | exact HB.out | apply below_alloc | apply pw_below_drewN | apply below_drew1 | refine below_set ?_ GE532.out) | exact HB.out)⟩
                · rw [if_neg c12] at H
                  have c12b0 : (((rd_T46 l0 x3_2).f0) == 3) = false := beq_eq_false_iff_ne.mpr c12
                  have c12b1 : (((rd_T46 l0 x3_2).f0) != 3) = true := bne_iff_ne.mpr c12
                  by_cases c15 : (wrap64 (x3_2 + 1)) < (l0.length : Int)
                  · rw [if_pos c15] at H
                    have c15b0 : decide ((wrap64 (x3_2 + 1)) < (l0.length : Int)) = true := decide_eq_true c15
                    clear c15
                    by_cases c16 : (Int.tmod ((rd_T46 l0 x3_2).f1) 2048) = 0
                    · rw [if_pos c16] at H
                      have c16b0 : ((Int.tmod ((rd_T46 l0 x3_2).f1) 2048) == 0) = true := beq_iff_eq.mpr c16
                      have c16b1 : ((Int.tmod ((rd_T46 l0 x3_2).f1) 2048) != 0) = false := bne_eq_false_iff_eq.mpr c16
                      clear c16
                      replace H := Option.bind_eq_some_iff.mp H
                      obtain ⟨t533, A170, H⟩ := H
                      replace H : (if (wrap64 (((rd_T46 l0 x3_2).f2.f0) + t533)) > 4294967296 then (some false) else (masterdiscref33_Valid.l0 k2 l0 (wrap64 (x3_2 + 1)))) = some r := H
                      have A17 := Aside0.mk A170
                      clear A170
                      by_cases c18 : (wrap64 (((rd_T46 l0 x3_2).f2.f0) + t533)) > 4294967296
                      · rw [if_pos c18] at H
                        have c18b0 : decide (4294967296 < (wrap64 (((rd_T46 l0 x3_2).f2.f0) + t533))) = true := decide_eq_true c18
                        clear c18
                        obtain rfl := Option.some.inj H
                        have p531 : 0 ≤ (x3_2 : Int) := of_decide_eq_true (by first | (with_reducible assumption) | assumption)
                        have q531 : x3_2 < (l0.length : Int) := of_decide_eq_true (by first | (with_reducible assumption) | assumption)
                        obtain ⟨ad531, e531, hx531_0, hx531_1, hx531_2, hx531_3⟩ := at_T46 HR0.out x3_2 p531 q531
                        cases e531
                        replace hx531_0 := (HB.out.cell (World.block_lt_of_cell? w _ hx531_0)).trans hx531_0
                        replace hx531_1 := (HB.out.cell (World.block_lt_of_cell? w _ hx531_1)).trans hx531_1
                        replace hx531_2 := (HB.out.cell (World.block_lt_of_cell? w _ hx531_2)).trans hx531_2
                        replace hx531_3 := (HB.out.cell (World.block_lt_of_cell? w _ hx531_3)).trans hx531_3
                        replace p531 := eq_true p531
                        replace q531 := eq_true q531
                        go_wp2_with (first | ((with_reducible refine gate_dst (N := 4) rfl ?_); (try (refine gate_guard (by rfl) ?_; dsimp only)); refine box_event ?hg (N := 4) ?hd (cs := #[.int .i64 0, .int .i64 0, .int .i64 0, .int .i64 0]) (t := 46) ?hr ?_; (case hd => rfl); (case hg => rfl); (case hr => first | (go_simp; done) | (go_simp; rfl)); intro gb532 hg w19 hbox hb; have n0_ := Aside0.mk (below_step (by repeat (first | (with_reducible first | exact HB.out | apply below_alloc | apply pw_below_drewN | apply below_drew1) | exact HB.out)) hb); have n1_ := Aside0.mk (hbox); have n2_ := Aside0.mk ((by rw [hg]; exact (below_size (by repeat (first | (with_reducible first | exact HB.out | apply below_alloc | apply pw_below_drewN | apply below_drew1) | exact HB.out))) : w.heap.size ≤ gb532)); have n3_ := Aside0.mk ((by rw [hg]; exact (below_size (by repeat (first | (with_reducible first | exact HB.out | apply below_alloc | apply pw_below_drewN | apply below_drew1) | exact HB.out))) : w.heap.size ≤ gb532)); clear HB; have HB := n0_; have BK532 := n1_; have GW532 := n2_; have GE532 := n3_; clear n0_ n1_ n2_ n3_; clear hb hbox hg; have hcz20_0 : w19.cell? ⟨gb532, 0, none⟩ = some (.int .i64 0) := (blk_cell BK532.out 0).trans rfl; have hcz20_1 : w19.cell? ⟨gb532, 1, none⟩ = some (.int .i64 0) := (blk_cell BK532.out 1).trans rfl; have hcz20_2 : w19.cell? ⟨gb532, 2, none⟩ = some (.int .i64 0) := (blk_cell BK532.out 2).trans rfl; have hcz20_3 : w19.cell? ⟨gb532, 3, none⟩ = some (.int .i64 0) := (blk_cell BK532.out 3).trans rfl; have hfz20_0 := blk_frozen BK532.out 0; have hfz20_1 := blk_frozen BK532.out 1; have hfz20_2 := blk_frozen BK532.out 2; have hfz20_3 := blk_frozen BK532.out 3) | (go_at_call 120; (with_reducible refine (masterdiscref33_Count.calls ((rd_T46 l0 x3_2).f1) t533 _ A17.out).mono ?_); rintro e w' ⟨rfl, ⟨nd, rfl⟩⟩; (try first | exact ⟨rfl, _, World.drewN_drewN _ _ _⟩ | exact ⟨rfl, _, Eq.trans (World.drewN_drewN _ _ _) (congrArg (World.drewN _) (Nat.add_assoc _ _ _))⟩)))
                        repeat (go_quiet (first | ((with_reducible refine gate_dst (N := 4) rfl ?_); (try (refine gate_guard (by rfl) ?_; dsimp only)); refine box_event ?hg (N := 4) ?hd (cs := #[.int .i64 0, .int .i64 0, .int .i64 0, .int .i64 0]) (t := 46) ?hr ?_; (case hd => rfl); (case hg => rfl); (case hr => first | (go_simp; done) | (go_simp; rfl)); intro gb532 hg w19 hbox hb; have n0_ := Aside0.mk (below_step (by repeat (first | (with_reducible first | exact HB.out | apply below_alloc | apply pw_below_drewN | apply below_drew1) | exact HB.out)) hb); have n1_ := Aside0.mk (hbox); have n2_ := Aside0.mk ((by rw [hg]; exact (below_size (by repeat (first | (with_reducible first | exact HB.out | apply below_alloc | apply pw_below_drewN | apply below_drew1) | exact HB.out))) : w.heap.size ≤ gb532)); have n3_ := Aside0.mk ((by rw [hg]; exact (below_size (by repeat (first | (with_reducible first | exact HB.out | apply below_alloc | apply pw_below_drewN | apply below_drew1) | exact HB.out))) : w.heap.size ≤ gb532)); clear HB; have HB := n0_; have BK532 := n1_; have GW532 := n2_; have GE532 := n3_; clear n0_ n1_ n2_ n3_; clear hb hbox hg; have hcz20_0 : w19.cell? ⟨gb532, 0, none⟩ = some (.int .i64 0) := (blk_cell BK532.out 0).trans rfl; have hcz20_1 : w19.cell? ⟨gb532, 1, none⟩ = some (.int .i64 0) := (blk_cell BK532.out 1).trans rfl; have hcz20_2 : w19.cell? ⟨gb532, 2, none⟩ = some (.int .i64 0) := (blk_cell BK532.out 2).trans rfl; have hcz20_3 : w19.cell? ⟨gb532, 3, none⟩ = some (.int .i64 0) := (blk_cell BK532.out 3).trans rfl; have hfz20_0 := blk_frozen BK532.out 0; have hfz20_1 := blk_frozen BK532.out 1; have hfz20_2 := blk_frozen BK532.out 2; have hfz20_3 := blk_frozen BK532.out 3) | (go_at_call 120; (with_reducible refine (masterdiscref33_Count.calls ((rd_T46 l0 x3_2).f1) t533 _ A17.out).mono ?_); rintro e w' ⟨rfl, ⟨nd, rfl⟩⟩; (try first | exact ⟨rfl, _, World.drewN_drewN _ _ _⟩ | exact ⟨rfl, _, Eq.trans (World.drewN_drewN _ _ _) (congrArg (World.drewN _) (Nat.add_assoc _ _ _))⟩))); try go_wp2_with (first | ((with_reducible refine gate_dst (N := 4) rfl ?_); (try (refine gate_guard (by rfl) ?_; dsimp only)); refine box_event ?hg (N := 4) ?hd (cs := #[.int .i64 0, .int .i64 0, .int .i64 0, .int .i64 0]) (t := 46) ?hr ?_; (case hd => rfl); (case hg => rfl); (case hr => first | (go_simp; done) | (go_simp; rfl)); intro gb532 hg w19 hbox hb; have n0_ := Aside0.mk (below_step (by repeat (first | (with_reducible first | exact HB.out | apply below_alloc | apply pw_below_drewN | apply below_drew1) | exact HB.out)) hb); have n1_ := Aside0.mk (hbox); have n2_ := Aside0.mk ((by rw [hg]; exact (below_size (by repeat (first | (with_reducible first | exact HB.out | apply below_alloc | apply pw_below_drewN | apply below_drew1) | exact HB.out))) : w.heap.size ≤ gb532)); have n3_ := Aside0.mk ((by rw [hg]; exact (below_size (by repeat (first | (with_reducible first | exact HB.out | apply below_alloc | apply pw_below_drewN | apply below_drew1) | exact HB.out))) : w.heap.size ≤ gb532)); clear HB; have HB := n0_; have BK532 := n1_; have GW532 := n2_; have GE532 := n3_; clear n0_ n1_ n2_ n3_; clear hb hbox hg; have hcz20_0 : w19.cell? ⟨gb532, 0, none⟩ = some (.int .i64 0) := (blk_cell BK532.out 0).trans rfl; have hcz20_1 : w19.cell? ⟨gb532, 1, none⟩ = some (.int .i64 0) := (blk_cell BK532.out 1).trans rfl; have hcz20_2 : w19.cell? ⟨gb532, 2, none⟩ = some (.int .i64 0) := (blk_cell BK532.out 2).trans rfl; have hcz20_3 : w19.cell? ⟨gb532, 3, none⟩ = some (.int .i64 0) := (blk_cell BK532.out 3).trans rfl; have hfz20_0 := blk_frozen BK532.out 0; have hfz20_1 := blk_frozen BK532.out 1; have hfz20_2 := blk_frozen BK532.out 2; have hfz20_3 := blk_frozen BK532.out 3) | (go_at_call 120; (with_reducible refine (masterdiscref33_Count.calls ((rd_T46 l0 x3_2).f1) t533 _ A17.out).mono ?_); rintro e w' ⟨rfl, ⟨nd, rfl⟩⟩; (try first | exact ⟨rfl, _, World.drewN_drewN _ _ _⟩ | exact ⟨rfl, _, Eq.trans (World.drewN_drewN _ _ _) (congrArg (World.drewN _) (Nat.add_assoc _ _ _))⟩))))
                        go_ret
                        exact ⟨by first | rfl | (simp [errW_none, errW_some] <;> rfl) | (simp [*, errW_none, errW_some] <;> rfl), by repeat (first | (with_reducible first | exact HB.out | apply below_alloc | apply pw_below_drewN | apply below_drew1 | refine below_set ?_ GE532.out) | exact HB.out)⟩
                      · rw [if_neg c18] at H
                        have c18b0 : decide (4294967296 < (wrap64 (((rd_T46 l0 x3_2).f2.f0) + t533))) = false := decide_eq_false c18
                        clear c18
                        have H' := Aside0.mk H
                        clear H
                        have p531 : 0 ≤ (x3_2 : Int) := of_decide_eq_true (by first | (with_reducible assumption) | assumption)
                        have q531 : x3_2 < (l0.length : Int) := of_decide_eq_true (by first | (with_reducible assumption) | assumption)
                        obtain ⟨ad531, e531, hx531_0, hx531_1, hx531_2, hx531_3⟩ := at_T46 HR0.out x3_2 p531 q531
                        cases e531
                        replace hx531_0 := (HB.out.cell (World.block_lt_of_cell? w _ hx531_0)).trans hx531_0
                        replace hx531_1 := (HB.out.cell (World.block_lt_of_cell? w _ hx531_1)).trans hx531_1
                        replace hx531_2 := (HB.out.cell (World.block_lt_of_cell? w _ hx531_2)).trans hx531_2
                        replace hx531_3 := (HB.out.cell (World.block_lt_of_cell? w _ hx531_3)).trans hx531_3
                        replace p531 := eq_true p531
                        replace q531 := eq_true q531
                        go_wp2_with (first | ((with_reducible refine gate_dst (N := 4) rfl ?_); (try (refine gate_guard (by rfl) ?_; dsimp only)); refine box_event ?hg (N := 4) ?hd (cs := #[.int .i64 0, .int .i64 0, .int .i64 0, .int .i64 0]) (t := 46) ?hr ?_; (case hd => rfl); (case hg => rfl); (case hr => first | (go_simp; done) | (go_simp; rfl)); intro gb532 hg w21 hbox hb; have n0_ := Aside0.mk (below_step (by repeat (first | (with_reducible first | exact HB.out | apply below_alloc | apply pw_below_drewN | apply below_drew1) | exact HB.out)) hb); have n1_ := Aside0.mk (hbox); have n2_ := Aside0.mk ((by rw [hg]; exact (below_size (by repeat (first | (with_reducible first | exact HB.out | apply below_alloc | apply pw_below_drewN | apply below_drew1) | exact HB.out))) : w.heap.size ≤ gb532)); have n3_ := Aside0.mk ((by rw [hg]; exact (below_size (by repeat (first | (with_reducible first | exact HB.out | apply below_alloc | apply pw_below_drewN | apply below_drew1) | exact HB.out))) : w.heap.size ≤ gb532)); clear HB; have HB := n0_; have BK532 := n1_; have GW532 := n2_; have GE532 := n3_; clear n0_ n1_ n2_ n3_; clear hb hbox hg; have hcz22_0 : w21.cell? ⟨gb532, 0, none⟩ = some (.int .i64 0) := (blk_cell BK532.out 0).trans rfl; have hcz22_1 : w21.cell? ⟨gb532, 1, none⟩ = some (.int .i64 0) := (blk_cell BK532.out 1).trans rfl; have hcz22_2 : w21.cell? ⟨gb532, 2, none⟩ = some (.int .i64 0) := (blk_cell BK532.out 2).trans rfl; have hcz22_3 : w21.cell? ⟨gb532, 3, none⟩ = some (.int .i64 0) := (blk_cell BK532.out 3).trans rfl; have hfz22_0 := blk_frozen BK532.out 0; have hfz22_1 := blk_frozen BK532.out 1; have hfz22_2 := blk_frozen BK532.out 2; have hfz22_3 := blk_frozen BK532.out 3) | (go_at_call 120; (with_reducible refine (masterdiscref33_Count.calls ((rd_T46 l0 x3_2).f1) t533 _ A17.out).mono ?_); rintro e w' ⟨rfl, ⟨nd, rfl⟩⟩; (try first | exact ⟨rfl, _, World.drewN_drewN _ _ _⟩ | exact ⟨rfl, _, Eq.trans (World.drewN_drewN _ _ _) (congrArg (World.drewN _) (Nat.add_assoc _ _ _))⟩)))
                        repeat (go_quiet (first | ((with_reducible refine gate_dst (N := 4) rfl ?_); (try (refine gate_guard (by rfl) ?_; dsimp only)); refine box_event ?hg (N := 4) ?hd (cs := #[.int .i64 0, .int .i64 0, .int .i64 0, .int .i64 0]) (t := 46) ?hr ?_; (case hd => rfl); (case hg => rfl); (case hr => first | (go_simp; done) | (go_simp; rfl)); intro gb532 hg w21 hbox hb; have n0_ := Aside0.mk (below_step (by repeat (first | (with_reducible first | exact HB.out | apply below_alloc | apply pw_below_drewN | apply below_drew1) | exact HB.out)) hb); have n1_ := Aside0.mk (hbox); have n2_ := Aside0.mk ((by rw [hg]; exact (below_size (by repeat (first | (with_reducible first | exact HB.out | apply below_alloc | apply pw_below_drewN | apply below_drew1) | exact HB.out))) : w.heap.size ≤ gb532)); have n3_ := Aside0.mk ((by rw [hg]; exact (below_size (by repeat (first | (with_reducible first | exact HB.out | apply below_alloc | apply pw_below_drewN | apply below_drew1) | exact HB.out))) : w.heap.size ≤ gb532)); clear HB; have HB := n0_; have BK532 := n1_; have GW532 := n2_; have GE532 := n3_; clear n0_ n1_ n2_ n3_; clear hb hbox hg; have hcz22_0 : w21.cell? ⟨gb532, 0, none⟩ = some (.int .i64 0) := (blk_cell BK532.out 0).trans rfl; have hcz22_1 : w21.cell? ⟨gb532, 1, none⟩ = some (.int .i64 0) := (blk_cell BK532.out 1).trans rfl; have hcz22_2 : w21.cell? ⟨gb532, 2, none⟩ = some (.int .i64 0) := (blk_cell BK532.out 2).trans rfl; have hcz22_3 : w21.cell? ⟨gb532, 3, none⟩ = some (.int .i64 0) := (blk_cell BK532.out 3).trans rfl; have hfz22_0 := blk_frozen BK532.out 0; have hfz22_1 := blk_frozen BK532.out 1; have hfz22_2 := blk_frozen BK532.out 2; have hfz22_3 := blk_frozen BK532.out 3) | (go_at_call 120; (with_reducible refine (masterdiscref33_Count.calls ((rd_T46 l0 x3_2).f1) t533 _ A17.out).mono ?_); rintro e w' ⟨rfl, ⟨nd, rfl⟩⟩; (try first | exact ⟨rfl, _, World.drewN_drewN _ _ _⟩ | exact ⟨rfl, _, Eq.trans (World.drewN_drewN _ _ _) (congrArg (World.drewN _) (Nat.add_assoc _ _ _))⟩))); try go_wp2_with (first | ((with_reducible refine gate_dst (N := 4) rfl ?_); (try (refine gate_guard (by rfl) ?_; dsimp only)); refine box_event ?hg (N := 4) ?hd (cs := #[.int .i64 0, .int .i64 0, .int .i64 0, .int .i64 0]) (t := 46) ?hr ?_; (case hd => rfl); (case hg => rfl); (case hr => first | (go_simp; done) | (go_simp; rfl)); intro gb532 hg w21 hbox hb; have n0_ := Aside0.mk (below_step (by repeat (first | (with_reducible first | exact HB.out | apply below_alloc | apply pw_below_drewN | apply below_drew1) | exact HB.out)) hb); have n1_ := Aside0.mk (hbox); have n2_ := Aside0.mk ((by rw [hg]; exact (below_size (by repeat (first | (with_reducible first | exact HB.out | apply below_alloc | apply pw_below_drewN | apply below_drew1) | exact HB.out))) : w.heap.size ≤ gb532)); have n3_ := Aside0.mk ((by rw [hg]; exact (below_size (by repeat (first | (with_reducible first | exact HB.out | apply below_alloc | apply pw_below_drewN | apply below_drew1) | exact HB.out))) : w.heap.size ≤ gb532)); clear HB; have HB := n0_; have BK532 := n1_; have GW532 := n2_; have GE532 := n3_; clear n0_ n1_ n2_ n3_; clear hb hbox hg; have hcz22_0 : w21.cell? ⟨gb532, 0, none⟩ = some (.int .i64 0) := (blk_cell BK532.out 0).trans rfl; have hcz22_1 : w21.cell? ⟨gb532, 1, none⟩ = some (.int .i64 0) := (blk_cell BK532.out 1).trans rfl; have hcz22_2 : w21.cell? ⟨gb532, 2, none⟩ = some (.int .i64 0) := (blk_cell BK532.out 2).trans rfl; have hcz22_3 : w21.cell? ⟨gb532, 3, none⟩ = some (.int .i64 0) := (blk_cell BK532.out 3).trans rfl; have hfz22_0 := blk_frozen BK532.out 0; have hfz22_1 := blk_frozen BK532.out 1; have hfz22_2 := blk_frozen BK532.out 2; have hfz22_3 := blk_frozen BK532.out 3) | (go_at_call 120; (with_reducible refine (masterdiscref33_Count.calls ((rd_T46 l0 x3_2).f1) t533 _ A17.out).mono ?_); rintro e w' ⟨rfl, ⟨nd, rfl⟩⟩; (try first | exact ⟨rfl, _, World.drewN_drewN _ _ _⟩ | exact ⟨rfl, _, Eq.trans (World.drewN_drewN _ _ _) (congrArg (World.drewN _) (Nat.add_assoc _ _ _))⟩))))
                        go_roundg k2
                        case measure => have := HJ1.out; have := HK2.out; omega
                        case rel => exact ⟨(wrap64 (x3_2 + 1)), (by first | rfl | (simp; done) | (simp [*]; done)), H', ⟨by have := HJ1.out; have := HK2.out; omega⟩, ⟨by repeat (first | (with_reducible first | exact HB.out | apply below_alloc | apply pw_below_drewN | apply below_drew1 | refine below_set ?_ GE532.out) | exact HB.out)⟩⟩
                    · rw [if_neg c16] at H
                      have c16b0 : ((Int.tmod ((rd_T46 l0 x3_2).f1) 2048) == 0) = false := beq_eq_false_iff_ne.mpr c16
                      have c16b1 : ((Int.tmod ((rd_T46 l0 x3_2).f1) 2048) != 0) = true := bne_iff_ne.mpr c16
                      obtain rfl := Option.some.inj H
                      have p531 : 0 ≤ (x3_2 : Int) := of_decide_eq_true (by first | (with_reducible assumption) | assumption)
                      have q531 : x3_2 < (l0.length : Int) := of_decide_eq_true (by first | (with_reducible assumption) | assumption)
                      obtain ⟨ad531, e531, hx531_0, hx531_1, hx531_2, hx531_3⟩ := at_T46 HR0.out x3_2 p531 q531
                      cases e531
                      replace hx531_0 := (HB.out.cell (World.block_lt_of_cell? w _ hx531_0)).trans hx531_0
                      replace hx531_1 := (HB.out.cell (World.block_lt_of_cell? w _ hx531_1)).trans hx531_1
                      replace hx531_2 := (HB.out.cell (World.block_lt_of_cell? w _ hx531_2)).trans hx531_2
                      replace hx531_3 := (HB.out.cell (World.block_lt_of_cell? w _ hx531_3)).trans hx531_3
                      replace p531 := eq_true p531
                      replace q531 := eq_true q531
                      go_wp2_with (first | ((with_reducible refine gate_dst (N := 4) rfl ?_); (try (refine gate_guard (by rfl) ?_; dsimp only)); refine box_event ?hg (N := 4) ?hd (cs := #[.int .i64 0, .int .i64 0, .int .i64 0, .int .i64 0]) (t := 46) ?hr ?_; (case hd => rfl); (case hg => rfl); (case hr => first | (go_simp; done) | (go_simp; rfl)); intro gb532 hg w23 hbox hb; have n0_ := Aside0.mk (below_step (by repeat (first | (with_reducible first | exact HB.out | apply below_alloc | apply pw_below_drewN | apply below_drew1) | exact HB.out)) hb); have n1_ := Aside0.mk (hbox); have n2_ := Aside0.mk ((by rw [hg]; exact (below_size (by repeat (first | (with_reducible first | exact HB.out | apply below_alloc | apply pw_below_drewN | apply below_drew1) | exact HB.out))) : w.heap.size ≤ gb532)); have n3_ := Aside0.mk ((by rw [hg]; exact (below_size (by repeat (first | (with_reducible first | exact HB.out | apply below_alloc | apply pw_below_drewN | apply below_drew1) | exact HB.out))) : w.heap.size ≤ gb532)); clear HB; have HB := n0_; have BK532 := n1_; have GW532 := n2_; have GE532 := n3_; clear n0_ n1_ n2_ n3_; clear hb hbox hg; have hcz24_0 : w23.cell? ⟨gb532, 0, none⟩ = some (.int .i64 0) := (blk_cell BK532.out 0).trans rfl; have hcz24_1 : w23.cell? ⟨gb532, 1, none⟩ = some (.int .i64 0) := (blk_cell BK532.out 1).trans rfl; have hcz24_2 : w23.cell? ⟨gb532, 2, none⟩ = some (.int .i64 0) := (blk_cell BK532.out 2).trans rfl; have hcz24_3 : w23.cell? ⟨gb532, 3, none⟩ = some (.int .i64 0) := (blk_cell BK532.out 3).trans rfl; have hfz24_0 := blk_frozen BK532.out 0; have hfz24_1 := blk_frozen BK532.out 1; have hfz24_2 := blk_frozen BK532.out 2; have hfz24_3 := blk_frozen BK532.out 3))
                      repeat (go_quiet (first | ((with_reducible refine gate_dst (N := 4) rfl ?_); (try (refine gate_guard (by rfl) ?_; dsimp only)); refine box_event ?hg (N := 4) ?hd (cs := #[.int .i64 0, .int .i64 0, .int .i64 0, .int .i64 0]) (t := 46) ?hr ?_; (case hd => rfl); (case hg => rfl); (case hr => first | (go_simp; done) | (go_simp; rfl)); intro gb532 hg w23 hbox hb; have n0_ := Aside0.mk (below_step (by repeat (first | (with_reducible first | exact HB.out | apply below_alloc | apply pw_below_drewN | apply below_drew1) | exact HB.out)) hb); have n1_ := Aside0.mk (hbox); have n2_ := Aside0.mk ((by rw [hg]; exact (below_size (by repeat (first | (with_reducible first | exact HB.out | apply below_alloc | apply pw_below_drewN | apply below_drew1) | exact HB.out))) : w.heap.size ≤ gb532)); have n3_ := Aside0.mk ((by rw [hg]; exact (below_size (by repeat (first | (with_reducible first | exact HB.out | apply below_alloc | apply pw_below_drewN | apply below_drew1) | exact HB.out))) : w.heap.size ≤ gb532)); clear HB; have HB := n0_; have BK532 := n1_; have GW532 := n2_; have GE532 := n3_; clear n0_ n1_ n2_ n3_; clear hb hbox hg; have hcz24_0 : w23.cell? ⟨gb532, 0, none⟩ = some (.int .i64 0) := (blk_cell BK532.out 0).trans rfl; have hcz24_1 : w23.cell? ⟨gb532, 1, none⟩ = some (.int .i64 0) := (blk_cell BK532.out 1).trans rfl; have hcz24_2 : w23.cell? ⟨gb532, 2, none⟩ = some (.int .i64 0) := (blk_cell BK532.out 2).trans rfl; have hcz24_3 : w23.cell? ⟨gb532, 3, none⟩ = some (.int .i64 0) := (blk_cell BK532.out 3).trans rfl; have hfz24_0 := blk_frozen BK532.out 0; have hfz24_1 := blk_frozen BK532.out 1; have hfz24_2 := blk_frozen BK532.out 2; have hfz24_3 := blk_frozen BK532.out 3)); try go_wp2_with (first | ((with_reducible refine gate_dst (N := 4) rfl ?_); (try (refine gate_guard (by rfl) ?_; dsimp only)); refine box_event ?hg (N := 4) ?hd (cs := #[.int .i64 0, .int .i64 0, .int .i64 0, .int .i64 0]) (t := 46) ?hr ?_; (case hd => rfl); (case hg => rfl); (case hr => first | (go_simp; done) | (go_simp; rfl)); intro gb532 hg w23 hbox hb; have n0_ := Aside0.mk (below_step (by repeat (first | (with_reducible first | exact HB.out | apply below_alloc | apply pw_below_drewN | apply below_drew1) | exact HB.out)) hb); have n1_ := Aside0.mk (hbox); have n2_ := Aside0.mk ((by rw [hg]; exact (below_size (by repeat (first | (with_reducible first | exact HB.out | apply below_alloc | apply pw_below_drewN | apply below_drew1) | exact HB.out))) : w.heap.size ≤ gb532)); have n3_ := Aside0.mk ((by rw [hg]; exact (below_size (by repeat (first | (with_reducible first | exact HB.out | apply below_alloc | apply pw_below_drewN | apply below_drew1) | exact HB.out))) : w.heap.size ≤ gb532)); clear HB; have HB := n0_; have BK532 := n1_; have GW532 := n2_; have GE532 := n3_; clear n0_ n1_ n2_ n3_; clear hb hbox hg; have hcz24_0 : w23.cell? ⟨gb532, 0, none⟩ = some (.int .i64 0) := (blk_cell BK532.out 0).trans rfl; have hcz24_1 : w23.cell? ⟨gb532, 1, none⟩ = some (.int .i64 0) := (blk_cell BK532.out 1).trans rfl; have hcz24_2 : w23.cell? ⟨gb532, 2, none⟩ = some (.int .i64 0) := (blk_cell BK532.out 2).trans rfl; have hcz24_3 : w23.cell? ⟨gb532, 3, none⟩ = some (.int .i64 0) := (blk_cell BK532.out 3).trans rfl; have hfz24_0 := blk_frozen BK532.out 0; have hfz24_1 := blk_frozen BK532.out 1; have hfz24_2 := blk_frozen BK532.out 2; have hfz24_3 := blk_frozen BK532.out 3)))
                      go_ret
                      exact ⟨by first | rfl | (simp [errW_none, errW_some] <;> rfl) | (simp [*, errW_none, errW_some] <;> rfl), by repeat (first | (with_reducible first | exact HB.out | apply below_alloc | apply pw_below_drewN | apply below_drew1 | refine below_set ?_ GE532.out) | exact HB.out)⟩
                  · rw [if_neg c15] at H
                    have c15b0 : decide ((wrap64 (x3_2 + 1)) < (l0.length : Int)) = false := decide_eq_false c15
                    clear c15
                    replace H := Option.bind_eq_some_iff.mp H
                    obtain ⟨t534, A250, H⟩ := H
                    replace H : (if (wrap64 (((rd_T46 l0 x3_2).f2.f0) + t534)) > 4294967296 then (some false) else (masterdiscref33_Valid.l0 k2 l0 (wrap64 (x3_2 + 1)))) = some r := H
                    have A25 := Aside0.mk A250
                    clear A250
                    by_cases c26 : (wrap64 (((rd_T46 l0 x3_2).f2.f0) + t534)) > 4294967296
                    · rw [if_pos c26] at H
                      have c26b0 : decide (4294967296 < (wrap64 (((rd_T46 l0 x3_2).f2.f0) + t534))) = true := decide_eq_true c26
                      clear c26
                      obtain rfl := Option.some.inj H
                      have p531 : 0 ≤ (x3_2 : Int) := of_decide_eq_true (by first | (with_reducible assumption) | assumption)
                      have q531 : x3_2 < (l0.length : Int) := of_decide_eq_true (by first | (with_reducible assumption) | assumption)
                      obtain ⟨ad531, e531, hx531_0, hx531_1, hx531_2, hx531_3⟩ := at_T46 HR0.out x3_2 p531 q531
                      cases e531
                      replace hx531_0 := (HB.out.cell (World.block_lt_of_cell? w _ hx531_0)).trans hx531_0
                      replace hx531_1 := (HB.out.cell (World.block_lt_of_cell? w _ hx531_1)).trans hx531_1
                      replace hx531_2 := (HB.out.cell (World.block_lt_of_cell? w _ hx531_2)).trans hx531_2
                      replace hx531_3 := (HB.out.cell (World.block_lt_of_cell? w _ hx531_3)).trans hx531_3
                      replace p531 := eq_true p531
                      replace q531 := eq_true q531
                      go_wp2_with (first | ((with_reducible refine gate_dst (N := 4) rfl ?_); (try (refine gate_guard (by rfl) ?_; dsimp only)); refine box_event ?hg (N := 4) ?hd (cs := #[.int .i64 0, .int .i64 0, .int .i64 0, .int .i64 0]) (t := 46) ?hr ?_; (case hd => rfl); (case hg => rfl); (case hr => first | (go_simp; done) | (go_simp; rfl)); intro gb532 hg w27 hbox hb; have n0_ := Aside0.mk (below_step (by repeat (first | (with_reducible first | exact HB.out | apply below_alloc | apply pw_below_drewN | apply below_drew1) | exact HB.out)) hb); have n1_ := Aside0.mk (hbox); have n2_ := Aside0.mk ((by rw [hg]; exact (below_size (by repeat (first | (with_reducible first | exact HB.out | apply below_alloc | apply pw_below_drewN | apply below_drew1) | exact HB.out))) : w.heap.size ≤ gb532)); have n3_ := Aside0.mk ((by rw [hg]; exact (below_size (by repeat (first | (with_reducible first | exact HB.out | apply below_alloc | apply pw_below_drewN | apply below_drew1) | exact HB.out))) : w.heap.size ≤ gb532)); clear HB; have HB := n0_; have BK532 := n1_; have GW532 := n2_; have GE532 := n3_; clear n0_ n1_ n2_ n3_; clear hb hbox hg; have hcz28_0 : w27.cell? ⟨gb532, 0, none⟩ = some (.int .i64 0) := (blk_cell BK532.out 0).trans rfl; have hcz28_1 : w27.cell? ⟨gb532, 1, none⟩ = some (.int .i64 0) := (blk_cell BK532.out 1).trans rfl; have hcz28_2 : w27.cell? ⟨gb532, 2, none⟩ = some (.int .i64 0) := (blk_cell BK532.out 2).trans rfl; have hcz28_3 : w27.cell? ⟨gb532, 3, none⟩ = some (.int .i64 0) := (blk_cell BK532.out 3).trans rfl; have hfz28_0 := blk_frozen BK532.out 0; have hfz28_1 := blk_frozen BK532.out 1; have hfz28_2 := blk_frozen BK532.out 2; have hfz28_3 := blk_frozen BK532.out 3) | (go_at_call 120; (with_reducible refine (masterdiscref33_Count.calls ((rd_T46 l0 x3_2).f1) t534 _ A25.out).mono ?_); rintro e w' ⟨rfl, ⟨nd, rfl⟩⟩; (try first | exact ⟨rfl, _, World.drewN_drewN _ _ _⟩ | exact ⟨rfl, _, Eq.trans (World.drewN_drewN _ _ _) (congrArg (World.drewN _) (Nat.add_assoc _ _ _))⟩)))
                      repeat (go_quiet (first | ((with_reducible refine gate_dst (N := 4) rfl ?_); (try (refine gate_guard (by rfl) ?_; dsimp only)); refine box_event ?hg (N := 4) ?hd (cs := #[.int .i64 0, .int .i64 0, .int .i64 0, .int .i64 0]) (t := 46) ?hr ?_; (case hd => rfl); (case hg => rfl); (case hr => first | (go_simp; done) | (go_simp; rfl)); intro gb532 hg w27 hbox hb; have n0_ := Aside0.mk (below_step (by repeat (first | (with_reducible first | exact HB.out | apply below_alloc | apply pw_below_drewN | apply below_drew1) | exact HB.out)) hb); have n1_ := Aside0.mk (hbox); have n2_ := Aside0.mk ((by rw [hg]; exact (below_size (by repeat (first | (with_reducible first | exact HB.out | apply below_alloc | apply pw_below_drewN | apply below_drew1) | exact HB.out))) : w.heap.size ≤ gb532)); have n3_ := Aside0.mk ((by rw [hg]; exact (below_size (by repeat (first | (with_reducible first | exact HB.out | apply below_alloc | apply pw_below_drewN | apply below_drew1) | exact HB.out))) : w.heap.size ≤ gb532)); clear HB; have HB := n0_; have BK532 := n1_; have GW532 := n2_; have GE532 := n3_; clear n0_ n1_ n2_ n3_; clear hb hbox hg; have hcz28_0 : w27.cell? ⟨gb532, 0, none⟩ = some (.int .i64 0) := (blk_cell BK532.out 0).trans rfl; have hcz28_1 : w27.cell? ⟨gb532, 1, none⟩ = some (.int .i64 0) := (blk_cell BK532.out 1).trans rfl; have hcz28_2 : w27.cell? ⟨gb532, 2, none⟩ = some (.int .i64 0) := (blk_cell BK532.out 2).trans rfl; have hcz28_3 : w27.cell? ⟨gb532, 3, none⟩ = some (.int .i64 0) := (blk_cell BK532.out 3).trans rfl; have hfz28_0 := blk_frozen BK532.out 0; have hfz28_1 := blk_frozen BK532.out 1; have hfz28_2 := blk_frozen BK532.out 2; have hfz28_3 := blk_frozen BK532.out 3) | (go_at_call 120; (with_reducible refine (masterdiscref33_Count.calls ((rd_T46 l0 x3_2).f1) t534 _ A25.out).mono ?_); rintro e w' ⟨rfl, ⟨nd, rfl⟩⟩; (try first | exact ⟨rfl, _, World.drewN_drewN _ _ _⟩ | exact ⟨rfl, _, Eq.trans (World.drewN_drewN _ _ _) (congrArg (World.drewN _) (Nat.add_assoc _ _ _))⟩))); try go_wp2_with (first | ((with_reducible refine gate_dst (N := 4) rfl ?_); (try (refine gate_guard (by rfl) ?_; dsimp only)); refine box_event ?hg (N := 4) ?hd (cs := #[.int .i64 0, .int .i64 0, .int .i64 0, .int .i64 0]) (t := 46) ?hr ?_; (case hd => rfl); (case hg => rfl); (case hr => first | (go_simp; done) | (go_simp; rfl)); intro gb532 hg w27 hbox hb; have n0_ := Aside0.mk (below_step (by repeat (first | (with_reducible first | exact HB.out | apply below_alloc | apply pw_below_drewN | apply below_drew1) | exact HB.out)) hb); have n1_ := Aside0.mk (hbox); have n2_ := Aside0.mk ((by rw [hg]; exact (below_size (by repeat (first | (with_reducible first | exact HB.out | apply below_alloc | apply pw_below_drewN | apply below_drew1) | exact HB.out))) : w.heap.size ≤ gb532)); have n3_ := Aside0.mk ((by rw [hg]; exact (below_size (by repeat (first | (with_reducible first | exact HB.out | apply below_alloc | apply pw_below_drewN | apply below_drew1) | exact HB.out))) : w.heap.size ≤ gb532)); clear HB; have HB := n0_; have BK532 := n1_; have GW532 := n2_; have GE532 := n3_; clear n0_ n1_ n2_ n3_; clear hb hbox hg; have hcz28_0 : w27.cell? ⟨gb532, 0, none⟩ = some (.int .i64 0) := (blk_cell BK532.out 0).trans rfl; have hcz28_1 : w27.cell? ⟨gb532, 1, none⟩ = some (.int .i64 0) := (blk_cell BK532.out 1).trans rfl; have hcz28_2 : w27.cell? ⟨gb532, 2, none⟩ = some (.int .i64 0) := (blk_cell BK532.out 2).trans rfl; have hcz28_3 : w27.cell? ⟨gb532, 3, none⟩ = some (.int .i64 0) := (blk_cell BK532.out 3).trans rfl; have hfz28_0 := blk_frozen BK532.out 0; have hfz28_1 := blk_frozen BK532.out 1; have hfz28_2 := blk_frozen BK532.out 2; have hfz28_3 := blk_frozen BK532.out 3) | (go_at_call 120; (with_reducible refine (masterdiscref33_Count.calls ((rd_T46 l0 x3_2).f1) t534 _ A25.out).mono ?_); rintro e w' ⟨rfl, ⟨nd, rfl⟩⟩; (try first | exact ⟨rfl, _, World.drewN_drewN _ _ _⟩ | exact ⟨rfl, _, Eq.trans (World.drewN_drewN _ _ _) (congrArg (World.drewN _) (Nat.add_assoc _ _ _))⟩))))
                      go_ret
                      exact ⟨by first | rfl | (simp [errW_none, errW_some] <;> rfl) | (simp [*, errW_none, errW_some] <;> rfl), by repeat (first | (with_reducible first | exact HB.out | apply below_alloc | apply pw_below_drewN | apply below_drew1 | refine below_set ?_ GE532.out) | exact HB.out)⟩
                    · rw [if_neg c26] at H
                      have c26b0 : decide (4294967296 < (wrap64 (((rd_T46 l0 x3_2).f2.f0) + t534))) = false := decide_eq_false c26
                      clear c26
                      have H' := Aside0.mk H
                      clear H
                      have p531 : 0 ≤ (x3_2 : Int) := of_decide_eq_true (by first | (with_reducible assumption) | assumption)
                      have q531 : x3_2 < (l0.length : Int) := of_decide_eq_true (by first | (with_reducible assumption) | assumption)
                      obtain ⟨ad531, e531, hx531_0, hx531_1, hx531_2, hx531_3⟩ := at_T46 HR0.out x3_2 p531 q531
                      cases e531
                      replace hx531_0 := (HB.out.cell (World.block_lt_of_cell? w _ hx531_0)).trans hx531_0
                      replace hx531_1 := (HB.out.cell (World.block_lt_of_cell? w _ hx531_1)).trans hx531_1
                      replace hx531_2 := (HB.out.cell (World.block_lt_of_cell? w _ hx531_2)).trans hx531_2
                      replace hx531_3 := (HB.out.cell (World.block_lt_of_cell? w _ hx531_3)).trans hx531_3
                      replace p531 := eq_true p531
                      replace q531 := eq_true q531
                      go_wp2_with (first | ((with_reducible refine gate_dst (N := 4) rfl ?_); (try (refine gate_guard (by rfl) ?_; dsimp only)); refine box_event ?hg (N := 4) ?hd (cs := #[.int .i64 0, .int .i64 0, .int .i64 0, .int .i64 0]) (t := 46) ?hr ?_; (case hd => rfl); (case hg => rfl); (case hr => first | (go_simp; done) | (go_simp; rfl)); intro gb532 hg w29 hbox hb; have n0_ := Aside0.mk (below_step (by repeat (first | (with_reducible first | exact HB.out | apply below_alloc | apply pw_below_drewN | apply below_drew1) | exact HB.out)) hb); have n1_ := Aside0.mk (hbox); have n2_ := Aside0.mk ((by rw [hg]; exact (below_size (by repeat (first | (with_reducible first | exact HB.out | apply below_alloc | apply pw_below_drewN | apply below_drew1) | exact HB.out))) : w.heap.size ≤ gb532)); have n3_ := Aside0.mk ((by rw [hg]; exact (below_size (by repeat (first | (with_reducible first | exact HB.out | apply below_alloc | apply pw_below_drewN | apply below_drew1) | exact HB.out))) : w.heap.size ≤ gb532)); clear HB; have HB := n0_; have BK532 := n1_; have GW532 := n2_; have GE532 := n3_; clear n0_ n1_ n2_ n3_; clear hb hbox hg; have hcz30_0 : w29.cell? ⟨gb532, 0, none⟩ = some (.int .i64 0) := (blk_cell BK532.out 0).trans rfl; have hcz30_1 : w29.cell? ⟨gb532, 1, none⟩ = some (.int .i64 0) := (blk_cell BK532.out 1).trans rfl; have hcz30_2 : w29.cell? ⟨gb532, 2, none⟩ = some (.int .i64 0) := (blk_cell BK532.out 2).trans rfl; have hcz30_3 : w29.cell? ⟨gb532, 3, none⟩ = some (.int .i64 0) := (blk_cell BK532.out 3).trans rfl; have hfz30_0 := blk_frozen BK532.out 0; have hfz30_1 := blk_frozen BK532.out 1; have hfz30_2 := blk_frozen BK532.out 2; have hfz30_3 := blk_frozen BK532.out 3) | (go_at_call 120; (with_reducible refine (masterdiscref33_Count.calls ((rd_T46 l0 x3_2).f1) t534 _ A25.out).mono ?_); rintro e w' ⟨rfl, ⟨nd, rfl⟩⟩; (try first | exact ⟨rfl, _, World.drewN_drewN _ _ _⟩ | exact ⟨rfl, _, Eq.trans (World.drewN_drewN _ _ _) (congrArg (World.drewN _) (Nat.add_assoc _ _ _))⟩)))
                      repeat (go_quiet (first | ((with_reducible refine gate_dst (N := 4) rfl ?_); (try (refine gate_guard (by rfl) ?_; dsimp only)); refine box_event ?hg (N := 4) ?hd (cs := #[.int .i64 0, .int .i64 0, .int .i64 0, .int .i64 0]) (t := 46) ?hr ?_; (case hd => rfl); (case hg => rfl); (case hr => first | (go_simp; done) | (go_simp; rfl)); intro gb532 hg w29 hbox hb; have n0_ := Aside0.mk (below_step (by repeat (first | (with_reducible first | exact HB.out | apply below_alloc | apply pw_below_drewN | apply below_drew1) | exact HB.out)) hb); have n1_ := Aside0.mk (hbox); have n2_ := Aside0.mk ((by rw [hg]; exact (below_size (by repeat (first | (with_reducible first | exact HB.out | apply below_alloc | apply pw_below_drewN | apply below_drew1) | exact HB.out))) : w.heap.size ≤ gb532)); have n3_ := Aside0.mk ((by rw [hg]; exact (below_size (by repeat (first | (with_reducible first | exact HB.out | apply below_alloc | apply pw_below_drewN | apply below_drew1) | exact HB.out))) : w.heap.size ≤ gb532)); clear HB; have HB := n0_; have BK532 := n1_; have GW532 := n2_; have GE532 := n3_; clear n0_ n1_ n2_ n3_; clear hb hbox hg; have hcz30_0 : w29.cell? ⟨gb532, 0, none⟩ = some (.int .i64 0) := (blk_cell BK532.out 0).trans rfl; have hcz30_1 : w29.cell? ⟨gb532, 1, none⟩ = some (.int .i64 0) := (blk_cell BK532.out 1).trans rfl; have hcz30_2 : w29.cell? ⟨gb532, 2, none⟩ = some (.int .i64 0) := (blk_cell BK532.out 2).trans rfl; have hcz30_3 : w29.cell? ⟨gb532, 3, none⟩ = some (.int .i64 0) := (blk_cell BK532.out 3).trans rfl; have hfz30_0 := blk_frozen BK532.out 0; have hfz30_1 := blk_frozen BK532.out 1; have hfz30_2 := blk_frozen BK532.out 2; have hfz30_3 := blk_frozen BK532.out 3) | (go_at_call 120; (with_reducible refine (masterdiscref33_Count.calls ((rd_T46 l0 x3_2).f1) t534 _ A25.out).mono ?_); rintro e w' ⟨rfl, ⟨nd, rfl⟩⟩; (try first | exact ⟨rfl, _, World.drewN_drewN _ _ _⟩ | exact ⟨rfl, _, Eq.trans (World.drewN_drewN _ _ _) (congrArg (World.drewN _) (Nat.add_assoc _ _ _))⟩))); try go_wp2_with (first | ((with_reducible refine gate_dst (N := 4) rfl ?_); (try (refine gate_guard (by rfl) ?_; dsimp only)); refine box_event ?hg (N := 4) ?hd (cs := #[.int .i64 0, .int .i64 0, .int .i64 0, .int .i64 0]) (t := 46) ?hr ?_; (case hd => rfl); (case hg => rfl); (case hr => first | (go_simp; done) | (go_simp; rfl)); intro gb532 hg w29 hbox hb; have n0_ := Aside0.mk (below_step (by repeat (first | (with_reducible first | exact HB.out | apply below_alloc | apply pw_below_drewN | apply below_drew1) | exact HB.out)) hb); have n1_ := Aside0.mk (hbox); have n2_ := Aside0.mk ((by rw [hg]; exact (below_size (by repeat (first | (with_reducible first | exact HB.out | apply below_alloc | apply pw_below_drewN | apply below_drew1) | exact HB.out))) : w.heap.size ≤ gb532)); have n3_ := Aside0.mk ((by rw [hg]; exact (below_size (by repeat (first | (with_reducible first | exact HB.out | apply below_alloc | apply pw_below_drewN | apply below_drew1) | exact HB.out))) : w.heap.size ≤ gb532)); clear HB; have HB := n0_; have BK532 := n1_; have GW532 := n2_; have GE532 := n3_; clear n0_ n1_ n2_ n3_; clear hb hbox hg; have hcz30_0 : w29.cell? ⟨gb532, 0, none⟩ = some (.int .i64 0) := (blk_cell BK532.out 0).trans rfl; have hcz30_1 : w29.cell? ⟨gb532, 1, none⟩ = some (.int .i64 0) := (blk_cell BK532.out 1).trans rfl; have hcz30_2 : w29.cell? ⟨gb532, 2, none⟩ = some (.int .i64 0) := (blk_cell BK532.out 2).trans rfl; have hcz30_3 : w29.cell? ⟨gb532, 3, none⟩ = some (.int .i64 0) := (blk_cell BK532.out 3).trans rfl; have hfz30_0 := blk_frozen BK532.out 0; have hfz30_1 := blk_frozen BK532.out 1; have hfz30_2 := blk_frozen BK532.out 2; have hfz30_3 := blk_frozen BK532.out 3) | (go_at_call 120; (with_reducible refine (masterdiscref33_Count.calls ((rd_T46 l0 x3_2).f1) t534 _ A25.out).mono ?_); rintro e w' ⟨rfl, ⟨nd, rfl⟩⟩; (try first | exact ⟨rfl, _, World.drewN_drewN _ _ _⟩ | exact ⟨rfl, _, Eq.trans (World.drewN_drewN _ _ _) (congrArg (World.drewN _) (Nat.add_assoc _ _ _))⟩))))
                      go_roundg k2
                      case measure => have := HJ1.out; have := HK2.out; omega
                      case rel => exact ⟨(wrap64 (x3_2 + 1)), (by first | rfl | (simp; done) | (simp [*]; done)), H', ⟨by have := HJ1.out; have := HK2.out; omega⟩, ⟨by repeat (first | (with_reducible first | exact HB.out | apply below_alloc | apply pw_below_drewN | apply below_drew1 | refine below_set ?_ GE532.out) | exact HB.out)⟩⟩
              · rw [if_neg c11] at H
                exact absurd H (by simp)
            · rw [if_neg c10] at H
              have c10b0 : decide (x3_2 < (l0.length : Int)) = false := decide_eq_false c10
              clear c10
              obtain rfl := Option.some.inj H
              go_wp2
              repeat (go_quiet (fail); try go_wp2)
              go_ret
              exact ⟨by first | rfl | (simp [errW_none, errW_some] <;> rfl) | (simp [*, errW_none, errW_some] <;> rfl), by repeat (first | (with_reducible first | exact HB.out | apply below_alloc | apply pw_below_drewN | apply below_drew1) | exact HB.out)⟩

/-! ### masterdiscref33_Pieces: function 55 -/
mutual
def masterdiscref33_Pieces.j0 : Nat → List (S46) → Int → Int → Bool → Option ((List (S46)) × Int)
  | 0, _, _, _, _ => none
  | k + 1, x0, x1, x2, x41 => if x41 = true then (some (([] : List (S46)), 2)) else (masterdiscref33_Pieces.l0 k x0 x1 x2 (([] : List (S46))) 0 0)
def masterdiscref33_Pieces.l0 : Nat → List (S46) → Int → Int → List (S46) → Int → Int → Option ((List (S46)) × Int)
  | 0, _, _, _, _, _, _ => none
  | k + 1, x0, x1, x2, x8, x9, x10 => if x10 < (x0.length : Int) then (if 0 ≤ x10 then (if (mx x9 x1) < (mn (wrap64 (x9 + ((rd_T46 x0 x10).f1))) (wrap64 (x1 + x2))) then (if x8.length < 4398046511104 then (masterdiscref33_Pieces.l0 k x0 x1 x2 (x8 ++ [(⟨(rd_T46 x0 x10).f0, wrap64 ((mn (wrap64 (x9 + ((rd_T46 x0 x10).f1))) (wrap64 (x1 + x2))) - (mx x9 x1)), (⟨wrap64 (((rd_T46 x0 x10).f2.f0) + (wrap64 (Int.tdiv (wrap64 ((mx x9 x1) - x9)) 2048))), (rd_T46 x0 x10).f2.f1⟩ : S44)⟩ : S46)]) (wrap64 (x9 + ((rd_T46 x0 x10).f1))) (wrap64 (x10 + 1))) else (none)) else (masterdiscref33_Pieces.l0 k x0 x1 x2 x8 (wrap64 (x9 + ((rd_T46 x0 x10).f1))) (wrap64 (x10 + 1)))) else (none)) else (some (x8, 0))
end
def masterdiscref33_Pieces.f (k : Nat) (l0 : List (S46)) (a1 : Int) (a2 : Int) : Option ((List (S46)) × Int) := (masterdiscref33_Valid.f k l0).bind fun t535 => (if t535 = true then (if a1 < 0 then (masterdiscref33_Pieces.j0 k l0 a1 a2 true) else (if (Int.tmod a1 2048) = 0 then (if a2 < 0 then (masterdiscref33_Pieces.j0 k l0 a1 a2 true) else ((masterdiscref33_Length.f k l0).bind fun t536 => (if a1 > t536 then (masterdiscref33_Pieces.j0 k l0 a1 a2 true) else ((masterdiscref33_Length.f k l0).bind fun t537 => (masterdiscref33_Pieces.j0 k l0 a1 a2 (decide (a2 > (wrap64 (t537 - a1))))))))) else (masterdiscref33_Pieces.j0 k l0 a1 a2 true))) else (some (([] : List (S46)), 1)))
theorem masterdiscref33_Pieces.mono_l : ∀ k, (∀ y0 y1 y2 y3, LeO (masterdiscref33_Pieces.j0 k y0 y1 y2 y3) (masterdiscref33_Pieces.j0 (k + 1) y0 y1 y2 y3)) ∧ (∀ y0 y1 y2 y3 y4 y5, LeO (masterdiscref33_Pieces.l0 k y0 y1 y2 y3 y4 y5) (masterdiscref33_Pieces.l0 (k + 1) y0 y1 y2 y3 y4 y5))
  | 0 => ⟨fun _ _ _ _ r h => by simp [masterdiscref33_Pieces.j0] at h, fun _ _ _ _ _ _ r h => by simp [masterdiscref33_Pieces.l0] at h⟩
  | k + 1 => by
    obtain ⟨ih0, ih1⟩ := masterdiscref33_Pieces.mono_l k
    refine ⟨?_, ?_⟩
    · intro y0 y1 y2 y3
      unfold masterdiscref33_Pieces.j0
      repeat' first
      | (with_reducible exact ih0 _ _ _ _)
      | (with_reducible exact ih1 _ _ _ _ _ _)
      | (with_reducible exact masterdiscref33_Length.mono _ _)
      | (with_reducible exact masterdiscref33_Valid.mono _ _)
      | (with_reducible exact LeO.refl _)
      | (with_reducible exact LeO.none _)
      | (with_reducible refine LeO.ite ?_ ?_)
      | (with_reducible refine LeO.bind ?_ (fun _ => ?_))
      | exact ih0 _ _ _ _
      | exact ih1 _ _ _ _ _ _
      | exact masterdiscref33_Length.mono _ _
      | exact masterdiscref33_Valid.mono _ _
      | exact LeO.none _
      | refine LeO.ite ?_ ?_
      | refine LeO.bind ?_ (fun _ => ?_)
    · intro y0 y1 y2 y3 y4 y5
      unfold masterdiscref33_Pieces.l0
      repeat' first
      | (with_reducible exact ih0 _ _ _ _)
      | (with_reducible exact ih1 _ _ _ _ _ _)
      | (with_reducible exact masterdiscref33_Length.mono _ _)
      | (with_reducible exact masterdiscref33_Valid.mono _ _)
      | (with_reducible exact LeO.refl _)
      | (with_reducible exact LeO.none _)
      | (with_reducible refine LeO.ite ?_ ?_)
      | (with_reducible refine LeO.bind ?_ (fun _ => ?_))
      | exact ih0 _ _ _ _
      | exact ih1 _ _ _ _ _ _
      | exact masterdiscref33_Length.mono _ _
      | exact masterdiscref33_Valid.mono _ _
      | exact LeO.none _
      | refine LeO.ite ?_ ?_
      | refine LeO.bind ?_ (fun _ => ?_)
theorem masterdiscref33_Pieces.mono : ∀ a0 a1 a2 k, LeO (masterdiscref33_Pieces.f k a0 a1 a2) (masterdiscref33_Pieces.f (k + 1) a0 a1 a2) := by
  intro a0 a1 a2 k
  obtain ⟨ih0, ih1⟩ := masterdiscref33_Pieces.mono_l k
  unfold masterdiscref33_Pieces.f
  repeat' first
      | (with_reducible exact ih0 _ _ _ _)
      | (with_reducible exact ih1 _ _ _ _ _ _)
      | (with_reducible exact masterdiscref33_Length.mono _ _)
      | (with_reducible exact masterdiscref33_Valid.mono _ _)
      | (with_reducible exact LeO.refl _)
      | (with_reducible exact LeO.none _)
      | (with_reducible refine LeO.ite ?_ ?_)
      | (with_reducible refine LeO.bind ?_ (fun _ => ?_))
      | exact ih0 _ _ _ _
      | exact ih1 _ _ _ _ _ _
      | exact masterdiscref33_Length.mono _ _
      | exact masterdiscref33_Valid.mono _ _
      | exact LeO.none _
      | refine LeO.ite ?_ ?_
      | refine LeO.bind ?_ (fun _ => ?_)
set_option maxHeartbeats 8000000 in
set_option maxRecDepth 100000 in
theorem masterdiscref33_Pieces.calls (k : Nat) (A0 : Option Addr) (c0 : Nat) (l0 : List (S46)) (a1 : Int) (a2 : Int) (r1 : List (S46)) (r2 : Int) (w : World) (hr0 : Kd.C k46 w A0 l0.length l0) (hc0 : l0.length ≤ c0) (h : masterdiscref33_Pieces.f k l0 a1 a2 = some (r1, r2)) :
    Calls Try.prog 55 #[.slice A0 l0.length c0, .int .i64 a1, .int .i64 a2] w fun e w' => ∃ v0_ : Value, e = .returned (.tuple #[v0_, .int .i64 r2]) ∧ Kd.R k46 46 w' w.heap.size (fun _ => True) v0_ r1 ∧ Below w.heap.size w w' := by
  have hu46 := Try.underlying46
  have hu44 := Try.underlying44
  have HR0 := Aside0.mk hr0
  have HC0 := Aside0.mk hc0
  clear hr0 hc0
  have HB := Aside0.mk (Below.refl w.heap.size w)
  have H : ((masterdiscref33_Valid.f k l0).bind fun t535 => (if t535 = true then (if a1 < 0 then (masterdiscref33_Pieces.j0 k l0 a1 a2 true) else (if (Int.tmod a1 2048) = 0 then (if a2 < 0 then (masterdiscref33_Pieces.j0 k l0 a1 a2 true) else ((masterdiscref33_Length.f k l0).bind fun t536 => (if a1 > t536 then (masterdiscref33_Pieces.j0 k l0 a1 a2 true) else ((masterdiscref33_Length.f k l0).bind fun t537 => (masterdiscref33_Pieces.j0 k l0 a1 a2 (decide (a2 > (wrap64 (t537 - a1))))))))) else (masterdiscref33_Pieces.j0 k l0 a1 a2 true))) else (some (([] : List (S46)), 1)))) = some (r1, r2) := h
  clear h
  replace H := Option.bind_eq_some_iff.mp H
  obtain ⟨t535, A40, H⟩ := H
  replace H : (if t535 = true then (if a1 < 0 then (masterdiscref33_Pieces.j0 k l0 a1 a2 true) else (if (Int.tmod a1 2048) = 0 then (if a2 < 0 then (masterdiscref33_Pieces.j0 k l0 a1 a2 true) else ((masterdiscref33_Length.f k l0).bind fun t536 => (if a1 > t536 then (masterdiscref33_Pieces.j0 k l0 a1 a2 true) else ((masterdiscref33_Length.f k l0).bind fun t537 => (masterdiscref33_Pieces.j0 k l0 a1 a2 (decide (a2 > (wrap64 (t537 - a1))))))))) else (masterdiscref33_Pieces.j0 k l0 a1 a2 true))) else (some (([] : List (S46)), 1))) = some (r1, r2) := H
  have A4 := Aside0.mk A40
  clear A40
  by_cases c5 : t535 = true
  · subst c5
    have H1 : (if a1 < 0 then (masterdiscref33_Pieces.j0 k l0 a1 a2 true) else (if (Int.tmod a1 2048) = 0 then (if a2 < 0 then (masterdiscref33_Pieces.j0 k l0 a1 a2 true) else ((masterdiscref33_Length.f k l0).bind fun t536 => (if a1 > t536 then (masterdiscref33_Pieces.j0 k l0 a1 a2 true) else ((masterdiscref33_Length.f k l0).bind fun t537 => (masterdiscref33_Pieces.j0 k l0 a1 a2 (decide (a2 > (wrap64 (t537 - a1))))))))) else (masterdiscref33_Pieces.j0 k l0 a1 a2 true))) = some (r1, r2) := by rw [if_pos rfl] at H; exact H
    clear H
    have H := H1
    clear H1
    have HC6 := Aside0.mk H
    clear H
    go_enter Try.func55, Try.ntmps55
    go_upto_region 3 with (first | (go_at_call 60; (with_reducible refine (masterdiscref33_Valid.calls k _ _ l0 true _ ?side1 ?side2 A4.out).mono ?_); (case side1 => repeat (first | exact HR0.out | (with_reducible refine Kd.C_alloc ?_ _) | (with_reducible refine Kd.C_drewN ?_ _) | (with_reducible refine Kd.C_drew ?_))); (case side2 => exact HC0.out); rintro e w7 ⟨rfl, hb⟩; have n0_ := Aside0.mk (below_step (by repeat (first | (with_reducible first | exact HB.out | apply below_alloc | apply pw_below_drewN | apply below_drew1) | exact HB.out)) hb); clear HB; have HB := n0_; clear n0_; (try clear hb); (try clear hb2); (try clear hk); (try clear hi)))
    repeat (go_quiet (first | (go_at_call 60; (with_reducible refine (masterdiscref33_Valid.calls k _ _ l0 true _ ?side1 ?side2 A4.out).mono ?_); (case side1 => repeat (first | exact HR0.out | (with_reducible refine Kd.C_alloc ?_ _) | (with_reducible refine Kd.C_drewN ?_ _) | (with_reducible refine Kd.C_drew ?_))); (case side2 => exact HC0.out); rintro e w7 ⟨rfl, hb⟩; have n0_ := Aside0.mk (below_step (by repeat (first | (with_reducible first | exact HB.out | apply below_alloc | apply pw_below_drewN | apply below_drew1) | exact HB.out)) hb); clear HB; have HB := n0_; clear n0_; (try clear hb); (try clear hb2); (try clear hk); (try clear hi))); go_upto_region 3 with (first | (go_at_call 60; (with_reducible refine (masterdiscref33_Valid.calls k _ _ l0 true _ ?side1 ?side2 A4.out).mono ?_); (case side1 => repeat (first | exact HR0.out | (with_reducible refine Kd.C_alloc ?_ _) | (with_reducible refine Kd.C_drewN ?_ _) | (with_reducible refine Kd.C_drew ?_))); (case side2 => exact HC0.out); rintro e w7 ⟨rfl, hb⟩; have n0_ := Aside0.mk (below_step (by repeat (first | (with_reducible first | exact HB.out | apply below_alloc | apply pw_below_drewN | apply below_drew1) | exact HB.out)) hb); clear HB; have HB := n0_; clear n0_; (try clear hb); (try clear hb2); (try clear hk); (try clear hi))))
    (try simp only [Act.put, List.setIfInBounds_toArray, List.set_cons_zero, List.set_cons_succ])
    go_cut [41] (fun v41 wc => ∃ (kq : Nat) (x41_5 : Bool), v41 = .bool x41_5 ∧ Aside0 (masterdiscref33_Pieces.j0 kq l0 a1 a2 x41_5 = some (r1, r2)) ∧ Aside0 (kq ≤ k) ∧ Aside0 (Below w.heap.size w wc))
    case first =>
      have H := HC6.out
      clear HC6
      by_cases c8 : a1 < 0
      · rw [if_pos c8] at H
        have c8b0 : decide (a1 < 0) = true := decide_eq_true c8
        clear c8
        (first | rw [c8b0] | (simp only [i64_w, i32_w]; rw [c8b0]) | skip)
        have H' := Aside0.mk H
        clear H
        go_wp2
        repeat (go_quiet (fail); try go_wp2)
        go_meet
        case rel => exact ⟨_, (true), (by first | rfl | (simp; done) | (rw [Option.some.inj (A11.out.symm.trans A14.out)]) | (simp [*]; done)), H', ⟨by first | omega | exact Nat.le_refl _⟩, ⟨by repeat (first | (with_reducible first | exact HB.out | apply below_alloc | apply pw_below_drewN | apply below_drew1) | exact HB.out)⟩⟩
      · rw [if_neg c8] at H
        have c8b0 : decide (a1 < 0) = false := decide_eq_false c8
        clear c8
        (first | rw [c8b0] | (simp only [i64_w, i32_w]; rw [c8b0]) | skip)
        by_cases c9 : (Int.tmod a1 2048) = 0
        · rw [if_pos c9] at H
          have c9b0 : ((Int.tmod a1 2048) == 0) = true := beq_iff_eq.mpr c9
          have c9b1 : ((Int.tmod a1 2048) != 0) = false := bne_eq_false_iff_eq.mpr c9
          clear c9
          by_cases c10 : a2 < 0
          · rw [if_pos c10] at H
            have c10b0 : decide (a2 < 0) = true := decide_eq_true c10
            clear c10
            have H' := Aside0.mk H
            clear H
            go_wp2
            repeat (go_quiet (fail); try go_wp2)
            go_meet
            case rel => exact ⟨_, (true), (by first | rfl | (simp; done) | (rw [Option.some.inj (A11.out.symm.trans A14.out)]) | (simp [*]; done)), H', ⟨by first | omega | exact Nat.le_refl _⟩, ⟨by repeat (first | (with_reducible first | exact HB.out | apply below_alloc | apply pw_below_drewN | apply below_drew1) | exact HB.out)⟩⟩
          · rw [if_neg c10] at H
            have c10b0 : decide (a2 < 0) = false := decide_eq_false c10
            clear c10
            replace H := Option.bind_eq_some_iff.mp H
            obtain ⟨t536, A110, H⟩ := H
            replace H : (if a1 > t536 then (masterdiscref33_Pieces.j0 k l0 a1 a2 true) else ((masterdiscref33_Length.f k l0).bind fun t537 => (masterdiscref33_Pieces.j0 k l0 a1 a2 (decide (a2 > (wrap64 (t537 - a1))))))) = some (r1, r2) := H
            have A11 := Aside0.mk A110
            clear A110
            by_cases c12 : a1 > t536
            · rw [if_pos c12] at H
              have c12b0 : decide (t536 < a1) = true := decide_eq_true c12
              clear c12
              have H' := Aside0.mk H
              clear H
              go_wp2_with (first | (go_at_call 58; (with_reducible refine (masterdiscref33_Length.calls k _ _ l0 t536 _ ?side1 ?side2 A11.out).mono ?_); (case side1 => repeat (first | exact (Kd.C_below HR0.out HB.out) | (with_reducible refine Kd.C_alloc ?_ _) | (with_reducible refine Kd.C_drewN ?_ _) | (with_reducible refine Kd.C_drew ?_))); (case side2 => exact HC0.out); rintro e w13 ⟨rfl, hb⟩; have n0_ := Aside0.mk (below_step (by repeat (first | (with_reducible first | exact HB.out | apply below_alloc | apply pw_below_drewN | apply below_drew1) | exact HB.out)) hb); clear HB; have HB := n0_; clear n0_; (try clear hb); (try clear hb2); (try clear hk); (try clear hi)))
              repeat (go_quiet (first | (go_at_call 58; (with_reducible refine (masterdiscref33_Length.calls k _ _ l0 t536 _ ?side1 ?side2 A11.out).mono ?_); (case side1 => repeat (first | exact (Kd.C_below HR0.out HB.out) | (with_reducible refine Kd.C_alloc ?_ _) | (with_reducible refine Kd.C_drewN ?_ _) | (with_reducible refine Kd.C_drew ?_))); (case side2 => exact HC0.out); rintro e w13 ⟨rfl, hb⟩; have n0_ := Aside0.mk (below_step (by repeat (first | (with_reducible first | exact HB.out | apply below_alloc | apply pw_below_drewN | apply below_drew1) | exact HB.out)) hb); clear HB; have HB := n0_; clear n0_; (try clear hb); (try clear hb2); (try clear hk); (try clear hi))); try go_wp2_with (first | (go_at_call 58; (with_reducible refine (masterdiscref33_Length.calls k _ _ l0 t536 _ ?side1 ?side2 A11.out).mono ?_); (case side1 => repeat (first | exact (Kd.C_below HR0.out HB.out) | (with_reducible refine Kd.C_alloc ?_ _) | (with_reducible refine Kd.C_drewN ?_ _) | (with_reducible refine Kd.C_drew ?_))); (case side2 => exact HC0.out); rintro e w13 ⟨rfl, hb⟩; have n0_ := Aside0.mk (below_step (by repeat (first | (with_reducible first | exact HB.out | apply below_alloc | apply pw_below_drewN | apply below_drew1) | exact HB.out)) hb); clear HB; have HB := n0_; clear n0_; (try clear hb); (try clear hb2); (try clear hk); (try clear hi))))
              go_meet
              case rel => exact ⟨_, (true), (by first | rfl | (simp; done) | (rw [Option.some.inj (A11.out.symm.trans A14.out)]) | (simp [*]; done)), H', ⟨by first | omega | exact Nat.le_refl _⟩, ⟨by repeat (first | (with_reducible first | exact HB.out | apply below_alloc | apply pw_below_drewN | apply below_drew1) | exact HB.out)⟩⟩
            · rw [if_neg c12] at H
              have c12b0 : decide (t536 < a1) = false := decide_eq_false c12
              clear c12
              replace H := Option.bind_eq_some_iff.mp H
              obtain ⟨t537, A140, H⟩ := H
              replace H : (masterdiscref33_Pieces.j0 k l0 a1 a2 (decide (a2 > (wrap64 (t537 - a1))))) = some (r1, r2) := H
              have A14 := Aside0.mk A140
              clear A140
              have H' := Aside0.mk H
              clear H
              go_wp2_with (first | (go_at_call 58; (with_reducible refine (masterdiscref33_Length.calls k _ _ l0 t536 _ ?side1 ?side2 A11.out).mono ?_); (case side1 => repeat (first | exact (Kd.C_below HR0.out HB.out) | (with_reducible refine Kd.C_alloc ?_ _) | (with_reducible refine Kd.C_drewN ?_ _) | (with_reducible refine Kd.C_drew ?_))); (case side2 => exact HC0.out); rintro e w15 ⟨rfl, hb⟩; have n0_ := Aside0.mk (below_step (by repeat (first | (with_reducible first | exact HB.out | apply below_alloc | apply pw_below_drewN | apply below_drew1) | exact HB.out)) hb); clear HB; have HB := n0_; clear n0_; (try clear hb); (try clear hb2); (try clear hk); (try clear hi)) | (go_at_call 58; (with_reducible refine (masterdiscref33_Length.calls k _ _ l0 t537 _ ?side1 ?side2 A14.out).mono ?_); (case side1 => repeat (first | exact (Kd.C_below HR0.out HB.out) | (with_reducible refine Kd.C_alloc ?_ _) | (with_reducible refine Kd.C_drewN ?_ _) | (with_reducible refine Kd.C_drew ?_))); (case side2 => exact HC0.out); rintro e w16 ⟨rfl, hb⟩; have n0_ := Aside0.mk (below_step (by repeat (first | (with_reducible first | exact HB.out | apply below_alloc | apply pw_below_drewN | apply below_drew1) | exact HB.out)) hb); clear HB; have HB := n0_; clear n0_; (try clear hb); (try clear hb2); (try clear hk); (try clear hi)))
              repeat (go_quiet (first | (go_at_call 58; (with_reducible refine (masterdiscref33_Length.calls k _ _ l0 t536 _ ?side1 ?side2 A11.out).mono ?_); (case side1 => repeat (first | exact (Kd.C_below HR0.out HB.out) | (with_reducible refine Kd.C_alloc ?_ _) | (with_reducible refine Kd.C_drewN ?_ _) | (with_reducible refine Kd.C_drew ?_))); (case side2 => exact HC0.out); rintro e w15 ⟨rfl, hb⟩; have n0_ := Aside0.mk (below_step (by repeat (first | (with_reducible first | exact HB.out | apply below_alloc | apply pw_below_drewN | apply below_drew1) | exact HB.out)) hb); clear HB; have HB := n0_; clear n0_; (try clear hb); (try clear hb2); (try clear hk); (try clear hi)) | (go_at_call 58; (with_reducible refine (masterdiscref33_Length.calls k _ _ l0 t537 _ ?side1 ?side2 A14.out).mono ?_); (case side1 => repeat (first | exact (Kd.C_below HR0.out HB.out) | (with_reducible refine Kd.C_alloc ?_ _) | (with_reducible refine Kd.C_drewN ?_ _) | (with_reducible refine Kd.C_drew ?_))); (case side2 => exact HC0.out); rintro e w16 ⟨rfl, hb⟩; have n0_ := Aside0.mk (below_step (by repeat (first | (with_reducible first | exact HB.out | apply below_alloc | apply pw_below_drewN | apply below_drew1) | exact HB.out)) hb); clear HB; have HB := n0_; clear n0_; (try clear hb); (try clear hb2); (try clear hk); (try clear hi))); try go_wp2_with (first | (go_at_call 58; (with_reducible refine (masterdiscref33_Length.calls k _ _ l0 t536 _ ?side1 ?side2 A11.out).mono ?_); (case side1 => repeat (first | exact (Kd.C_below HR0.out HB.out) | (with_reducible refine Kd.C_alloc ?_ _) | (with_reducible refine Kd.C_drewN ?_ _) | (with_reducible refine Kd.C_drew ?_))); (case side2 => exact HC0.out); rintro e w15 ⟨rfl, hb⟩; have n0_ := Aside0.mk (below_step (by repeat (first | (with_reducible first | exact HB.out | apply below_alloc | apply pw_below_drewN | apply below_drew1) | exact HB.out)) hb); clear HB; have HB := n0_; clear n0_; (try clear hb); (try clear hb2); (try clear hk); (try clear hi)) | (go_at_call 58; (with_reducible refine (masterdiscref33_Length.calls k _ _ l0 t537 _ ?side1 ?side2 A14.out).mono ?_); (case side1 => repeat (first | exact (Kd.C_below HR0.out HB.out) | (with_reducible refine Kd.C_alloc ?_ _) | (with_reducible refine Kd.C_drewN ?_ _) | (with_reducible refine Kd.C_drew ?_))); (case side2 => exact HC0.out); rintro e w16 ⟨rfl, hb⟩; have n0_ := Aside0.mk (below_step (by repeat (first | (with_reducible first | exact HB.out | apply below_alloc | apply pw_below_drewN | apply below_drew1) | exact HB.out)) hb); clear HB; have HB := n0_; clear n0_; (try clear hb); (try clear hb2); (try clear hk); (try clear hi))))
              go_meet
              case rel => exact ⟨_, (decide (a2 > (wrap64 (t537 - a1)))), (by first | rfl | (simp; done) | (rw [Option.some.inj (A11.out.symm.trans A14.out)]) | (simp [*]; done)), H', ⟨by first | omega | exact Nat.le_refl _⟩, ⟨by repeat (first | (with_reducible first | exact HB.out | apply below_alloc | apply pw_below_drewN | apply below_drew1) | exact HB.out)⟩⟩
        · rw [if_neg c9] at H
          have c9b0 : ((Int.tmod a1 2048) == 0) = false := beq_eq_false_iff_ne.mpr c9
          have c9b1 : ((Int.tmod a1 2048) != 0) = true := bne_iff_ne.mpr c9
          have H' := Aside0.mk H
          clear H
          go_wp2
          repeat (go_quiet (fail); try go_wp2)
          go_meet
          case rel => exact ⟨_, (true), (by first | rfl | (simp; done) | (rw [Option.some.inj (A11.out.symm.trans A14.out)]) | (simp [*]; done)), H', ⟨by first | omega | exact Nat.le_refl _⟩, ⟨by repeat (first | (with_reducible first | exact HB.out | apply below_alloc | apply pw_below_drewN | apply below_drew1) | exact HB.out)⟩⟩
    case rest =>
      clear HC6
      try clear c1
      try clear p2
      try clear c5
      try clear p6
      try clear c8
      try clear c8b0
      try clear c9
      try clear c9b0
      try clear c9b1
      try clear c10
      try clear c10b0
      try clear c12
      try clear c12b0
      obtain ⟨kq, x41_5, rfl, HA, HJ5, HB⟩ := hcut
      cases kq with
      | zero => exact absurd HA.out (by simp [masterdiscref33_Pieces.j0])
      | succ kj5 =>
        have H := HA.out
        clear HA
        simp only [masterdiscref33_Pieces.j0] at H
        by_cases c17 : x41_5 = true
        · subst c17
          have H1 : (some (([] : List (S46)), 2)) = some (r1, r2) := by rw [if_pos rfl] at H; exact H
          clear H
          have H := H1
          clear H1
          simp only [Option.some.injEq, Prod.mk.injEq] at H
          obtain ⟨rfl, rfl⟩ := H
          go_wp2
          repeat (go_quiet (fail); try go_wp2)
          go_ret2
          exact ⟨_, by first | rfl | (simp [errW_none, errW_some] <;> rfl) | (simp [*, errW_none, errW_some] <;> rfl), by first | exact Kd.R_nil _ _ _ _ _ | exact Kd.N_nil _ _ _ _ _ | exact Kd.V_nil _ _ _ _ _ | exact Kd.Q_nil _ _ _ _ _ | exact Kd.S_nil _ _ _ _ _, by repeat (first | (with_reducible first | exact HB.out | apply below_alloc | apply pw_below_drewN | apply below_drew1) | exact HB.out)⟩
        · replace c17 := Bool.eq_false_iff.mpr c17
          subst c17
          have H1 : (masterdiscref33_Pieces.l0 kj5 l0 a1 a2 (([] : List (S46))) 0 0) = some (r1, r2) := by rw [if_neg (show ¬ (false = true) by decide)] at H; exact H
          clear H
          have H := H1
          clear H1
          obtain ⟨y538, hy538⟩ : ∃ y_ : List (S46), y_ = (([] : List (S46))) := ⟨_, rfl⟩
          replace H : (masterdiscref33_Pieces.l0 kj5 l0 a1 a2 y538 0 0) = some (r1, r2) := by first | (rw [hy538]; with_reducible exact H) | (have H2_ := (Option.bind_some _ _).symm.trans H; rw [hy538]; with_reducible exact H2_) | (have H2_ := (Option.bind_some _ _).symm.trans H; with_reducible exact H2_) | with_reducible exact H | (rw [hy538]; exact H) | exact H
          have Ny538 := Aside0.mk hy538
          clear hy538
          have H' := Aside0.mk H
          clear H
          go_wp2_with (first | ((with_reducible refine gate_dst (N := 42) rfl ?_); refine Kd.R_lit k46 _ 46 ?hg (N := 42) ?hd (xs := ([] : List (S46))) (inner := []) (ok := fun _ => True) (okp := fun _ => True) ?hr ?hp (fun _ hk => hk) trivial (Below.refl _ _) (Nat.le_refl _) (by simp) ?_; (case hd => rfl); (case hg => rfl); (case hr => first | (go_simp; done) | (go_simp; rfl)); (case hp => exact (Reps.none _ _)); intro v539 w18 ho19 hb hg_ hnew_; clear hg_ hnew_; (first | rw [← Ny538.out] at ho19 | (simp only [Int.reduceToNat] at ho19; rw [← Ny538.out] at ho19)); have n0_ := Aside0.mk (Kd.R_lower ho19 (below_size (by repeat (first | (with_reducible first | exact HB.out | apply below_alloc | apply pw_below_drewN | apply below_drew1) | exact HB.out)))); have n1_ := Aside0.mk (below_step (by repeat (first | (with_reducible first | exact HB.out | apply below_alloc | apply pw_below_drewN | apply below_drew1) | exact HB.out)) hb); clear HB; have HO540 := n0_; have HB := n1_; clear n0_ n1_; clear hb ho19))
          repeat (go_quiet (first | ((with_reducible refine gate_dst (N := 42) rfl ?_); refine Kd.R_lit k46 _ 46 ?hg (N := 42) ?hd (xs := ([] : List (S46))) (inner := []) (ok := fun _ => True) (okp := fun _ => True) ?hr ?hp (fun _ hk => hk) trivial (Below.refl _ _) (Nat.le_refl _) (by simp) ?_; (case hd => rfl); (case hg => rfl); (case hr => first | (go_simp; done) | (go_simp; rfl)); (case hp => exact (Reps.none _ _)); intro v539 w18 ho19 hb hg_ hnew_; clear hg_ hnew_; (first | rw [← Ny538.out] at ho19 | (simp only [Int.reduceToNat] at ho19; rw [← Ny538.out] at ho19)); have n0_ := Aside0.mk (Kd.R_lower ho19 (below_size (by repeat (first | (with_reducible first | exact HB.out | apply below_alloc | apply pw_below_drewN | apply below_drew1) | exact HB.out)))); have n1_ := Aside0.mk (below_step (by repeat (first | (with_reducible first | exact HB.out | apply below_alloc | apply pw_below_drewN | apply below_drew1) | exact HB.out)) hb); clear HB; have HO540 := n0_; have HB := n1_; clear n0_ n1_; clear hb ho19)); try go_wp2_with (first | ((with_reducible refine gate_dst (N := 42) rfl ?_); refine Kd.R_lit k46 _ 46 ?hg (N := 42) ?hd (xs := ([] : List (S46))) (inner := []) (ok := fun _ => True) (okp := fun _ => True) ?hr ?hp (fun _ hk => hk) trivial (Below.refl _ _) (Nat.le_refl _) (by simp) ?_; (case hd => rfl); (case hg => rfl); (case hr => first | (go_simp; done) | (go_simp; rfl)); (case hp => exact (Reps.none _ _)); intro v539 w18 ho19 hb hg_ hnew_; clear hg_ hnew_; (first | rw [← Ny538.out] at ho19 | (simp only [Int.reduceToNat] at ho19; rw [← Ny538.out] at ho19)); have n0_ := Aside0.mk (Kd.R_lower ho19 (below_size (by repeat (first | (with_reducible first | exact HB.out | apply below_alloc | apply pw_below_drewN | apply below_drew1) | exact HB.out)))); have n1_ := Aside0.mk (below_step (by repeat (first | (with_reducible first | exact HB.out | apply below_alloc | apply pw_below_drewN | apply below_drew1) | exact HB.out)) hb); clear HB; have HO540 := n0_; have HB := n1_; clear n0_ n1_; clear hb ho19)))
          go_loopg [8, 9, 10] kj5 (fun kq v8 v9 v10 w' => ∃ (x8_2 : List (S46)) (x9_2 : Int) (x10_2 : Int), v9 = .int .i64 x9_2 ∧ v10 = .int .i64 x10_2 ∧ Aside0 (masterdiscref33_Pieces.l0 kq l0 a1 a2 x8_2 x9_2 x10_2 = some (r1, r2)) ∧ Aside0 (kq ≤ kj5) ∧ Aside0 (Kd.R k46 46 w' w.heap.size (fun _ => True) v8 x8_2) ∧ Aside0 (Below w.heap.size w w'))
          case atStart => exact ⟨(y538), (0), (0), (by first | rfl | (simp; done) | (rw [Option.some.inj (A11.out.symm.trans A14.out)]) | (simp [*]; done)), (by first | rfl | (simp; done) | (rw [Option.some.inj (A11.out.symm.trans A14.out)]) | (simp [*]; done)), H', ⟨Nat.le_refl _⟩, ⟨by (with_reducible repeat (first | apply Kd.R_alloc | apply Kd.R_drewN | apply Kd.R_drew)); exact HO540.out⟩, ⟨by repeat (first | (with_reducible first | exact HB.out | apply below_alloc | apply pw_below_drewN | apply below_drew1) | exact HB.out)⟩⟩
          case round =>
            clear H'
            try clear c1
            try clear p2
            try clear c5
            try clear p6
            try clear c8
            try clear c8b0
            try clear c9
            try clear c9b0
            try clear c9b1
            try clear c10
            try clear c10b0
            try clear c12
            try clear c12b0
            try clear c17
            try clear p2
            try clear p6
            obtain ⟨x8_2, x9_2, x10_2, rfl, rfl, HA, HK2, HO_8, HB⟩ := hrel
            cases gk with
            | zero => exact absurd HA.out (by simp [masterdiscref33_Pieces.l0])
            | succ k2 =>
              have H := HA.out
              clear HA
              simp only [masterdiscref33_Pieces.l0] at H
              by_cases c20 : x10_2 < (l0.length : Int)
              · rw [if_pos c20] at H
                have c20b0 : decide (x10_2 < (l0.length : Int)) = true := decide_eq_true c20
                clear c20
                by_cases c21 : 0 ≤ x10_2
                · rw [if_pos c21] at H
                  have c21b0 : decide (0 ≤ x10_2) = true := decide_eq_true c21
                  clear c21
                  obtain ⟨ji22, hji22⟩ : ∃ j_ : Int, (mx x9_2 a1) = j_ := ⟨_, rfl⟩
                  replace H : (if (ji22) < (mn (wrap64 (x9_2 + ((rd_T46 l0 x10_2).f1))) (wrap64 (a1 + a2))) then (if x8_2.length < 4398046511104 then (masterdiscref33_Pieces.l0 k2 l0 a1 a2 (x8_2 ++ [(⟨(rd_T46 l0 x10_2).f0, wrap64 ((mn (wrap64 (x9_2 + ((rd_T46 l0 x10_2).f1))) (wrap64 (a1 + a2))) - (ji22)), (⟨wrap64 (((rd_T46 l0 x10_2).f2.f0) + (wrap64 (Int.tdiv (wrap64 ((ji22) - x9_2)) 2048))), (rd_T46 l0 x10_2).f2.f1⟩ : S44)⟩ : S46)]) (wrap64 (x9_2 + ((rd_T46 l0 x10_2).f1))) (wrap64 (x10_2 + 1))) else (none)) else (masterdiscref33_Pieces.l0 k2 l0 a1 a2 x8_2 (wrap64 (x9_2 + ((rd_T46 l0 x10_2).f1))) (wrap64 (x10_2 + 1)))) = some (r1, r2) := by first | (rw [hji22] at H; exact H) | (simp only [hji22] at H ⊢; exact H)
                  have hji22_ : (if x9_2 < a1 then a1 else x9_2) = ji22 := hji22
                  obtain ⟨ji23, hji23⟩ : ∃ j_ : Int, (mn (wrap64 (x9_2 + ((rd_T46 l0 x10_2).f1))) (wrap64 (a1 + a2))) = j_ := ⟨_, rfl⟩
                  replace H : (if (ji22) < (ji23) then (if x8_2.length < 4398046511104 then (masterdiscref33_Pieces.l0 k2 l0 a1 a2 (x8_2 ++ [(⟨(rd_T46 l0 x10_2).f0, wrap64 ((ji23) - (ji22)), (⟨wrap64 (((rd_T46 l0 x10_2).f2.f0) + (wrap64 (Int.tdiv (wrap64 ((ji22) - x9_2)) 2048))), (rd_T46 l0 x10_2).f2.f1⟩ : S44)⟩ : S46)]) (wrap64 (x9_2 + ((rd_T46 l0 x10_2).f1))) (wrap64 (x10_2 + 1))) else (none)) else (masterdiscref33_Pieces.l0 k2 l0 a1 a2 x8_2 (wrap64 (x9_2 + ((rd_T46 l0 x10_2).f1))) (wrap64 (x10_2 + 1)))) = some (r1, r2) := by first | (rw [hji23] at H; exact H) | (simp only [hji23] at H ⊢; exact H)
                  have hji23_ : (if (wrap64 (a1 + a2)) < (wrap64 (x9_2 + ((rd_T46 l0 x10_2).f1))) then (wrap64 (a1 + a2)) else (wrap64 (x9_2 + ((rd_T46 l0 x10_2).f1)))) = ji23 := hji23
                  by_cases c24 : (ji22) < (ji23)
                  · rw [if_pos c24] at H
                    have c24b0 : decide ((ji22) < (ji23)) = true := decide_eq_true c24
                    clear c24
                    by_cases c25 : x8_2.length < 4398046511104
                    · rw [if_pos c25] at H
                      have LMc25 := Aside0.mk c25
                      clear c25
                      obtain ⟨y543, hy543⟩ : ∃ y_ : List (S46), y_ = (x8_2 ++ [(⟨(rd_T46 l0 x10_2).f0, wrap64 ((ji23) - (ji22)), (⟨wrap64 (((rd_T46 l0 x10_2).f2.f0) + (wrap64 (Int.tdiv (wrap64 ((ji22) - x9_2)) 2048))), (rd_T46 l0 x10_2).f2.f1⟩ : S44)⟩ : S46)]) := ⟨_, rfl⟩
                      replace H : (masterdiscref33_Pieces.l0 k2 l0 a1 a2 y543 (wrap64 (x9_2 + ((rd_T46 l0 x10_2).f1))) (wrap64 (x10_2 + 1))) = some (r1, r2) := by first | (rw [hy543]; with_reducible exact H) | (have H2_ := (Option.bind_some _ _).symm.trans H; rw [hy543]; with_reducible exact H2_) | (have H2_ := (Option.bind_some _ _).symm.trans H; with_reducible exact H2_) | with_reducible exact H | (rw [hy543]; exact H) | exact H
                      have Ny543 := Aside0.mk hy543
                      clear hy543
                      have H' := Aside0.mk H
                      clear H
                      have p541 : 0 ≤ (x10_2 : Int) := of_decide_eq_true (by first | (with_reducible assumption) | assumption)
                      have q541 : x10_2 < (l0.length : Int) := of_decide_eq_true (by first | (with_reducible assumption) | assumption)
                      obtain ⟨ad541, e541, hx541_0, hx541_1, hx541_2, hx541_3⟩ := at_T46 HR0.out x10_2 p541 q541
                      cases e541
                      replace hx541_0 := (HB.out.cell (World.block_lt_of_cell? w _ hx541_0)).trans hx541_0
                      replace hx541_1 := (HB.out.cell (World.block_lt_of_cell? w _ hx541_1)).trans hx541_1
                      replace hx541_2 := (HB.out.cell (World.block_lt_of_cell? w _ hx541_2)).trans hx541_2
                      replace hx541_3 := (HB.out.cell (World.block_lt_of_cell? w _ hx541_3)).trans hx541_3
                      replace p541 := eq_true p541
                      replace q541 := eq_true q541
                      go_wp2_with (first | ((with_reducible refine gate_dst (N := 11) rfl ?_); refine box_event ?hg (N := 11) ?hd (cs := #[.int .i64 0, .int .i64 0, .int .i64 0, .int .i64 0]) (t := 46) ?hr ?_; (case hd => rfl); (case hg => rfl); (case hr => first | (go_simp; done) | (go_simp; rfl)); intro gb542 hg w26 hbox hb; have n0_ := Aside0.mk (Kd.R_below (Kd.R_elderB (by (with_reducible repeat (first | apply Kd.R_alloc | apply Kd.R_drewN | apply Kd.R_drew)); exact HO_8.out) gb542 (Nat.le_of_eq hg.symm)) hb); have n1_ := Aside0.mk (below_step (by repeat (first | (with_reducible first | exact HB.out | apply below_alloc | apply pw_below_drewN | apply below_drew1) | exact HB.out)) hb); have n2_ := Aside0.mk (hbox); have n3_ := Aside0.mk ((by rw [hg]; exact (below_size (by repeat (first | (with_reducible first | exact HB.out | apply below_alloc | apply pw_below_drewN | apply below_drew1) | exact HB.out))) : w.heap.size ≤ gb542)); have n4_ := Aside0.mk ((by rw [hg]; exact (below_size (by repeat (first | (with_reducible first | exact HB.out | apply below_alloc | apply pw_below_drewN | apply below_drew1) | exact HB.out))) : w.heap.size ≤ gb542)); clear HO_8; clear HB; have HO_8 := n0_; have HB := n1_; have BK542 := n2_; have GW542 := n3_; have GE542 := n4_; clear n0_ n1_ n2_ n3_ n4_; clear hb hbox hg; have hcz27_0 : w26.cell? ⟨gb542, 0, none⟩ = some (.int .i64 0) := (blk_cell BK542.out 0).trans rfl; have hcz27_1 : w26.cell? ⟨gb542, 1, none⟩ = some (.int .i64 0) := (blk_cell BK542.out 1).trans rfl; have hcz27_2 : w26.cell? ⟨gb542, 2, none⟩ = some (.int .i64 0) := (blk_cell BK542.out 2).trans rfl; have hcz27_3 : w26.cell? ⟨gb542, 3, none⟩ = some (.int .i64 0) := (blk_cell BK542.out 3).trans rfl; have hfz27_0 := blk_frozen BK542.out 0; have hfz27_1 := blk_frozen BK542.out 1; have hfz27_2 := blk_frozen BK542.out 2; have hfz27_3 := blk_frozen BK542.out 3) | ((with_reducible refine gate_builtin (b := .append) (xs := #[.tmp 67, .tmp 86]) rfl ?_); at_builtin; refine Kd.R_append k46 (w0 := w) w.heap.size rfl (.tmp 67) (.tmp 86) 37 46 (.agg #[(.int .i64 0), (.int .i64 0), (.int .i64 0), (.int .i64 0)]) 32 rfl Try.underlying37 info46 rfl (by decide) (by omega) u8 x8_2 (⟨(rd_T46 l0 x10_2).f0, wrap64 ((ji23) - (ji22)), (⟨wrap64 (((rd_T46 l0 x10_2).f2.f0) + (wrap64 (Int.tdiv (wrap64 ((ji22) - x9_2)) 2048))), (rd_T46 l0 x10_2).f2.f1⟩ : S44)⟩ : S46) [.int .i64 ((rd_T46 l0 x10_2).f0), .int .i64 (wrap64 ((ji23) - (ji22))), .int .i64 (wrap64 (((rd_T46 l0 x10_2).f2.f0) + (wrap64 (Int.tdiv (wrap64 ((ji22) - x9_2)) 2048)))), .int .i64 ((rd_T46 l0 x10_2).f2.f1)] (fun k_ => k_ ≠ gb542) (fun _ => False) rfl (by first | (go_simp; done) | (go_simp; rfl)) ?aP (fun _ hk => hk.elim) ?aF ?aO ?aB ?aS ?aL ?_; (case aP => exact k46_mkM _ _ _ (⟨(rd_T46 l0 x10_2).f0, wrap64 ((ji23) - (ji22)), (⟨wrap64 (((rd_T46 l0 x10_2).f2.f0) + (wrap64 (Int.tdiv (wrap64 ((ji22) - x9_2)) 2048))), (rd_T46 l0 x10_2).f2.f1⟩ : S44)⟩ : S46)); (case aB => exact (by repeat (first | (with_reducible first | exact HB.out | apply below_alloc | apply pw_below_drewN | apply below_drew1 | refine below_set ?_ GE542.out) | exact HB.out))); (case aF => exact (fun k_ hk => Kd.freshB (g := gb542) (o := .cells #[.int .i64 ((rd_T46 l0 x10_2).f0), .int .i64 ((rd_T46 l0 x10_2).f1), .int .i64 ((rd_T46 l0 x10_2).f2.f0), .int .i64 ((rd_T46 l0 x10_2).f2.f1)] 46 (0, 0)) (by (with_reducible repeat (first | refine blk_drewN ?_ _ | refine blk_drew ?_ | refine blk_alloc ?_ _)); refine blk_put (cs := #[.int .i64 ((rd_T46 l0 x10_2).f0), .int .i64 ((rd_T46 l0 x10_2).f1), .int .i64 ((rd_T46 l0 x10_2).f2.f0), .int .i64 0]) ?_ 3 _ rfl; (with_reducible repeat (first | refine blk_drewN ?_ _ | refine blk_drew ?_ | refine blk_alloc ?_ _)); refine blk_put (cs := #[.int .i64 ((rd_T46 l0 x10_2).f0), .int .i64 ((rd_T46 l0 x10_2).f1), .int .i64 0, .int .i64 0]) ?_ 2 _ rfl; (with_reducible repeat (first | refine blk_drewN ?_ _ | refine blk_drew ?_ | refine blk_alloc ?_ _)); refine blk_put (cs := #[.int .i64 ((rd_T46 l0 x10_2).f0), .int .i64 0, .int .i64 0, .int .i64 0]) ?_ 1 _ rfl; (with_reducible repeat (first | refine blk_drewN ?_ _ | refine blk_drew ?_ | refine blk_alloc ?_ _)); refine blk_put (cs := #[.int .i64 0, .int .i64 0, .int .i64 0, .int .i64 0]) ?_ 0 _ rfl; (with_reducible repeat (first | refine blk_drewN ?_ _ | refine blk_drew ?_ | refine blk_alloc ?_ _)); exact BK542.out) k_ hk)); (case aO => exact (by (with_reducible repeat (first | apply Kd.R_alloc | apply Kd.R_drewN | apply Kd.R_drew)); exact Kd.R_mono (Kd.R_far (p := ⟨gb542, 3, none⟩) (Kd.R_far (p := ⟨gb542, 2, none⟩) (Kd.R_far (p := ⟨gb542, 1, none⟩) (Kd.R_far (p := ⟨gb542, 0, none⟩) (Kd.R_mono HO_8.out (fun k_ hk => (⟨hk, hk.2⟩ : _ ∧ k_ ≠ gb542))) (fun _ hk => hk.2) (.int .i64 ((rd_T46 l0 x10_2).f0))) (fun _ hk => hk.2) (.int .i64 ((rd_T46 l0 x10_2).f1))) (fun _ hk => hk.2) (.int .i64 ((rd_T46 l0 x10_2).f2.f0))) (fun _ hk => hk.2) (.int .i64 ((rd_T46 l0 x10_2).f2.f1))) (fun _ hk => hk.1.2))); (case aS => exact (below_size (by repeat (first | (with_reducible first | exact HB.out | apply below_alloc | apply pw_below_drewN | apply below_drew1 | refine below_set ?_ GE542.out) | exact HB.out)))); (case aL => have := LMc25.out; omega); intro v544 w28 ho hb hg hat; rw [← Ny543.out] at ho; have n0_ := Aside0.mk (blk_grown (g := gb542) (o := .cells #[.int .i64 ((rd_T46 l0 x10_2).f0), .int .i64 ((rd_T46 l0 x10_2).f1), .int .i64 ((rd_T46 l0 x10_2).f2.f0), .int .i64 ((rd_T46 l0 x10_2).f2.f1)] 46 (0, 0)) (by (with_reducible repeat (first | refine blk_drewN ?_ _ | refine blk_drew ?_ | refine blk_alloc ?_ _)); refine blk_put (cs := #[.int .i64 ((rd_T46 l0 x10_2).f0), .int .i64 ((rd_T46 l0 x10_2).f1), .int .i64 ((rd_T46 l0 x10_2).f2.f0), .int .i64 0]) ?_ 3 _ rfl; (with_reducible repeat (first | refine blk_drewN ?_ _ | refine blk_drew ?_ | refine blk_alloc ?_ _)); refine blk_put (cs := #[.int .i64 ((rd_T46 l0 x10_2).f0), .int .i64 ((rd_T46 l0 x10_2).f1), .int .i64 0, .int .i64 0]) ?_ 2 _ rfl; (with_reducible repeat (first | refine blk_drewN ?_ _ | refine blk_drew ?_ | refine blk_alloc ?_ _)); refine blk_put (cs := #[.int .i64 ((rd_T46 l0 x10_2).f0), .int .i64 0, .int .i64 0, .int .i64 0]) ?_ 1 _ rfl; (with_reducible repeat (first | refine blk_drewN ?_ _ | refine blk_drew ?_ | refine blk_alloc ?_ _)); refine blk_put (cs := #[.int .i64 0, .int .i64 0, .int .i64 0, .int .i64 0]) ?_ 0 _ rfl; (with_reducible repeat (first | refine blk_drewN ?_ _ | refine blk_drew ?_ | refine blk_alloc ?_ _)); exact BK542.out) hg (Kd.R_away HO_8.out (fun _ hk => hk.2))); have n1_ := Aside0.mk (hb); have n2_ := Aside0.mk (ho); clear BK542; clear HB; clear HO_8; have BK542 := n0_; have HB := n1_; have HO545 := n2_; clear n0_ n1_ n2_; clear ho hb hg hat; have hcz29_0 : w28.cell? ⟨gb542, 0, none⟩ = some (.int .i64 ((rd_T46 l0 x10_2).f0)) := (blk_cell BK542.out 0).trans rfl; have hcz29_1 : w28.cell? ⟨gb542, 1, none⟩ = some (.int .i64 ((rd_T46 l0 x10_2).f1)) := (blk_cell BK542.out 1).trans rfl; have hcz29_2 : w28.cell? ⟨gb542, 2, none⟩ = some (.int .i64 ((rd_T46 l0 x10_2).f2.f0)) := (blk_cell BK542.out 2).trans rfl; have hcz29_3 : w28.cell? ⟨gb542, 3, none⟩ = some (.int .i64 ((rd_T46 l0 x10_2).f2.f1)) := (blk_cell BK542.out 3).trans rfl; have hfz29_0 := blk_frozen BK542.out 0; have hfz29_1 := blk_frozen BK542.out 1; have hfz29_2 := blk_frozen BK542.out 2; have hfz29_3 := blk_frozen BK542.out 3))
                      repeat (go_quiet (first | ((with_reducible refine gate_dst (N := 11) rfl ?_); refine box_event ?hg (N := 11) ?hd (cs := #[.int .i64 0, .int .i64 0, .int .i64 0, .int .i64 0]) (t := 46) ?hr ?_; (case hd => rfl); (case hg => rfl); (case hr => first | (go_simp; done) | (go_simp; rfl)); intro gb542 hg w26 hbox hb; have n0_ := Aside0.mk (Kd.R_below (Kd.R_elderB (by (with_reducible repeat (first | apply Kd.R_alloc | apply Kd.R_drewN | apply Kd.R_drew)); exact HO_8.out) gb542 (Nat.le_of_eq hg.symm)) hb); have n1_ := Aside0.mk (below_step (by repeat (first | (with_reducible first | exact HB.out | apply below_alloc | apply pw_below_drewN | apply below_drew1) | exact HB.out)) hb); have n2_ := Aside0.mk (hbox); have n3_ := Aside0.mk ((by rw [hg]; exact (below_size (by repeat (first | (with_reducible first | exact HB.out | apply below_alloc | apply pw_below_drewN | apply below_drew1) | exact HB.out))) : w.heap.size ≤ gb542)); have n4_ := Aside0.mk ((by rw [hg]; exact (below_size (by repeat (first | (with_reducible first | exact HB.out | apply below_alloc | apply pw_below_drewN | apply below_drew1) | exact HB.out))) : w.heap.size ≤ gb542)); clear HO_8; clear HB; have HO_8 := n0_; have HB := n1_; have BK542 := n2_; have GW542 := n3_; have GE542 := n4_; clear n0_ n1_ n2_ n3_ n4_; clear hb hbox hg; have hcz27_0 : w26.cell? ⟨gb542, 0, none⟩ = some (.int .i64 0) := (blk_cell BK542.out 0).trans rfl; have hcz27_1 : w26.cell? ⟨gb542, 1, none⟩ = some (.int .i64 0) := (blk_cell BK542.out 1).trans rfl; have hcz27_2 : w26.cell? ⟨gb542, 2, none⟩ = some (.int .i64 0) := (blk_cell BK542.out 2).trans rfl; have hcz27_3 : w26.cell? ⟨gb542, 3, none⟩ = some (.int .i64 0) := (blk_cell BK542.out 3).trans rfl; have hfz27_0 := blk_frozen BK542.out 0; have hfz27_1 := blk_frozen BK542.out 1; have hfz27_2 := blk_frozen BK542.out 2; have hfz27_3 := blk_frozen BK542.out 3) | ((with_reducible refine gate_builtin (b := .append) (xs := #[.tmp 67, .tmp 86]) rfl ?_); at_builtin; refine Kd.R_append k46 (w0 := w) w.heap.size rfl (.tmp 67) (.tmp 86) 37 46 (.agg #[(.int .i64 0), (.int .i64 0), (.int .i64 0), (.int .i64 0)]) 32 rfl Try.underlying37 info46 rfl (by decide) (by omega) u8 x8_2 (⟨(rd_T46 l0 x10_2).f0, wrap64 ((ji23) - (ji22)), (⟨wrap64 (((rd_T46 l0 x10_2).f2.f0) + (wrap64 (Int.tdiv (wrap64 ((ji22) - x9_2)) 2048))), (rd_T46 l0 x10_2).f2.f1⟩ : S44)⟩ : S46) [.int .i64 ((rd_T46 l0 x10_2).f0), .int .i64 (wrap64 ((ji23) - (ji22))), .int .i64 (wrap64 (((rd_T46 l0 x10_2).f2.f0) + (wrap64 (Int.tdiv (wrap64 ((ji22) - x9_2)) 2048)))), .int .i64 ((rd_T46 l0 x10_2).f2.f1)] (fun k_ => k_ ≠ gb542) (fun _ => False) rfl (by first | (go_simp; done) | (go_simp; rfl)) ?aP (fun _ hk => hk.elim) ?aF ?aO ?aB ?aS ?aL ?_; (case aP => exact k46_mkM _ _ _ (⟨(rd_T46 l0 x10_2).f0, wrap64 ((ji23) - (ji22)), (⟨wrap64 (((rd_T46 l0 x10_2).f2.f0) + (wrap64 (Int.tdiv (wrap64 ((ji22) - x9_2)) 2048))), (rd_T46 l0 x10_2).f2.f1⟩ : S44)⟩ : S46)); (case aB => exact (by repeat (first | (with_reducible first | exact HB.out | apply below_alloc | apply pw_below_drewN | apply below_drew1 | refine below_set ?_ GE542.out) | exact HB.out))); (case aF => exact (fun k_ hk => Kd.freshB (g := gb542) (o := .cells #[.int .i64 ((rd_T46 l0 x10_2).f0), .int .i64 ((rd_T46 l0 x10_2).f1), .int .i64 ((rd_T46 l0 x10_2).f2.f0), .int .i64 ((rd_T46 l0 x10_2).f2.f1)] 46 (0, 0)) (by (with_reducible repeat (first | refine blk_drewN ?_ _ | refine blk_drew ?_ | refine blk_alloc ?_ _)); refine blk_put (cs := #[.int .i64 ((rd_T46 l0 x10_2).f0), .int .i64 ((rd_T46 l0 x10_2).f1), .int .i64 ((rd_T46 l0 x10_2).f2.f0), .int .i64 0]) ?_ 3 _ rfl; (with_reducible repeat (first | refine blk_drewN ?_ _ | refine blk_drew ?_ | refine blk_alloc ?_ _)); refine blk_put (cs := #[.int .i64 ((rd_T46 l0 x10_2).f0), .int .i64 ((rd_T46 l0 x10_2).f1), .int .i64 0, .int .i64 0]) ?_ 2 _ rfl; (with_reducible repeat (first | refine blk_drewN ?_ _ | refine blk_drew ?_ | refine blk_alloc ?_ _)); refine blk_put (cs := #[.int .i64 ((rd_T46 l0 x10_2).f0), .int .i64 0, .int .i64 0, .int .i64 0]) ?_ 1 _ rfl; (with_reducible repeat (first | refine blk_drewN ?_ _ | refine blk_drew ?_ | refine blk_alloc ?_ _)); refine blk_put (cs := #[.int .i64 0, .int .i64 0, .int .i64 0, .int .i64 0]) ?_ 0 _ rfl; (with_reducible repeat (first | refine blk_drewN ?_ _ | refine blk_drew ?_ | refine blk_alloc ?_ _)); exact BK542.out) k_ hk)); (case aO => exact (by (with_reducible repeat (first | apply Kd.R_alloc | apply Kd.R_drewN | apply Kd.R_drew)); exact Kd.R_mono (Kd.R_far (p := ⟨gb542, 3, none⟩) (Kd.R_far (p := ⟨gb542, 2, none⟩) (Kd.R_far (p := ⟨gb542, 1, none⟩) (Kd.R_far (p := ⟨gb542, 0, none⟩) (Kd.R_mono HO_8.out (fun k_ hk => (⟨hk, hk.2⟩ : _ ∧ k_ ≠ gb542))) (fun _ hk => hk.2) (.int .i64 ((rd_T46 l0 x10_2).f0))) (fun _ hk => hk.2) (.int .i64 ((rd_T46 l0 x10_2).f1))) (fun _ hk => hk.2) (.int .i64 ((rd_T46 l0 x10_2).f2.f0))) (fun _ hk => hk.2) (.int .i64 ((rd_T46 l0 x10_2).f2.f1))) (fun _ hk => hk.1.2))); (case aS => exact (below_size (by repeat (first | (with_reducible first | exact HB.out | apply below_alloc | apply pw_below_drewN | apply below_drew1 | refine below_set ?_ GE542.out) | exact HB.out)))); (case aL => have := LMc25.out; omega); intro v544 w28 ho hb hg hat; rw [← Ny543.out] at ho; have n0_ := Aside0.mk (blk_grown (g := gb542) (o := .cells #[.int .i64 ((rd_T46 l0 x10_2).f0), .int .i64 ((rd_T46 l0 x10_2).f1), .int .i64 ((rd_T46 l0 x10_2).f2.f0), .int .i64 ((rd_T46 l0 x10_2).f2.f1)] 46 (0, 0)) (by (with_reducible repeat (first | refine blk_drewN ?_ _ | refine blk_drew ?_ | refine blk_alloc ?_ _)); refine blk_put (cs := #[.int .i64 ((rd_T46 l0 x10_2).f0), .int .i64 ((rd_T46 l0 x10_2).f1), .int .i64 ((rd_T46 l0 x10_2).f2.f0), .int .i64 0]) ?_ 3 _ rfl; (with_reducible repeat (first | refine blk_drewN ?_ _ | refine blk_drew ?_ | refine blk_alloc ?_ _)); refine blk_put (cs := #[.int .i64 ((rd_T46 l0 x10_2).f0), .int .i64 ((rd_T46 l0 x10_2).f1), .int .i64 0, .int .i64 0]) ?_ 2 _ rfl; (with_reducible repeat (first | refine blk_drewN ?_ _ | refine blk_drew ?_ | refine blk_alloc ?_ _)); refine blk_put (cs := #[.int .i64 ((rd_T46 l0 x10_2).f0), .int .i64 0, .int .i64 0, .int .i64 0]) ?_ 1 _ rfl; (with_reducible repeat (first | refine blk_drewN ?_ _ | refine blk_drew ?_ | refine blk_alloc ?_ _)); refine blk_put (cs := #[.int .i64 0, .int .i64 0, .int .i64 0, .int .i64 0]) ?_ 0 _ rfl; (with_reducible repeat (first | refine blk_drewN ?_ _ | refine blk_drew ?_ | refine blk_alloc ?_ _)); exact BK542.out) hg (Kd.R_away HO_8.out (fun _ hk => hk.2))); have n1_ := Aside0.mk (hb); have n2_ := Aside0.mk (ho); clear BK542; clear HB; clear HO_8; have BK542 := n0_; have HB := n1_; have HO545 := n2_; clear n0_ n1_ n2_; clear ho hb hg hat; have hcz29_0 : w28.cell? ⟨gb542, 0, none⟩ = some (.int .i64 ((rd_T46 l0 x10_2).f0)) := (blk_cell BK542.out 0).trans rfl; have hcz29_1 : w28.cell? ⟨gb542, 1, none⟩ = some (.int .i64 ((rd_T46 l0 x10_2).f1)) := (blk_cell BK542.out 1).trans rfl; have hcz29_2 : w28.cell? ⟨gb542, 2, none⟩ = some (.int .i64 ((rd_T46 l0 x10_2).f2.f0)) := (blk_cell BK542.out 2).trans rfl; have hcz29_3 : w28.cell? ⟨gb542, 3, none⟩ = some (.int .i64 ((rd_T46 l0 x10_2).f2.f1)) := (blk_cell BK542.out 3).trans rfl; have hfz29_0 := blk_frozen BK542.out 0; have hfz29_1 := blk_frozen BK542.out 1; have hfz29_2 := blk_frozen BK542.out 2; have hfz29_3 := blk_frozen BK542.out 3)); try go_wp2_with (first | ((with_reducible refine gate_dst (N := 11) rfl ?_); refine box_event ?hg (N := 11) ?hd (cs := #[.int .i64 0, .int .i64 0, .int .i64 0, .int .i64 0]) (t := 46) ?hr ?_; (case hd => rfl); (case hg => rfl); (case hr => first | (go_simp; done) | (go_simp; rfl)); intro gb542 hg w26 hbox hb; have n0_ := Aside0.mk (Kd.R_below (Kd.R_elderB (by (with_reducible repeat (first | apply Kd.R_alloc | apply Kd.R_drewN | apply Kd.R_drew)); exact HO_8.out) gb542 (Nat.le_of_eq hg.symm)) hb); have n1_ := Aside0.mk (below_step (by repeat (first | (with_reducible first | exact HB.out | apply below_alloc | apply pw_below_drewN | apply below_drew1) | exact HB.out)) hb); have n2_ := Aside0.mk (hbox); have n3_ := Aside0.mk ((by rw [hg]; exact (below_size (by repeat (first | (with_reducible first | exact HB.out | apply below_alloc | apply pw_below_drewN | apply below_drew1) | exact HB.out))) : w.heap.size ≤ gb542)); have n4_ := Aside0.mk ((by rw [hg]; exact (below_size (by repeat (first | (with_reducible first | exact HB.out | apply below_alloc | apply pw_below_drewN | apply below_drew1) | exact HB.out))) : w.heap.size ≤ gb542)); clear HO_8; clear HB; have HO_8 := n0_; have HB := n1_; have BK542 := n2_; have GW542 := n3_; have GE542 := n4_; clear n0_ n1_ n2_ n3_ n4_; clear hb hbox hg; have hcz27_0 : w26.cell? ⟨gb542, 0, none⟩ = some (.int .i64 0) := (blk_cell BK542.out 0).trans rfl; have hcz27_1 : w26.cell? ⟨gb542, 1, none⟩ = some (.int .i64 0) := (blk_cell BK542.out 1).trans rfl; have hcz27_2 : w26.cell? ⟨gb542, 2, none⟩ = some (.int .i64 0) := (blk_cell BK542.out 2).trans rfl; have hcz27_3 : w26.cell? ⟨gb542, 3, none⟩ = some (.int .i64 0) := (blk_cell BK542.out 3).trans rfl; have hfz27_0 := blk_frozen BK542.out 0; have hfz27_1 := blk_frozen BK542.out 1; have hfz27_2 := blk_frozen BK542.out 2; have hfz27_3 := blk_frozen BK542.out 3) | ((with_reducible refine gate_builtin (b := .append) (xs := #[.tmp 67, .tmp 86]) rfl ?_); at_builtin; refine Kd.R_append k46 (w0 := w) w.heap.size rfl (.tmp 67) (.tmp 86) 37 46 (.agg #[(.int .i64 0), (.int .i64 0), (.int .i64 0), (.int .i64 0)]) 32 rfl Try.underlying37 info46 rfl (by decide) (by omega) u8 x8_2 (⟨(rd_T46 l0 x10_2).f0, wrap64 ((ji23) - (ji22)), (⟨wrap64 (((rd_T46 l0 x10_2).f2.f0) + (wrap64 (Int.tdiv (wrap64 ((ji22) - x9_2)) 2048))), (rd_T46 l0 x10_2).f2.f1⟩ : S44)⟩ : S46) [.int .i64 ((rd_T46 l0 x10_2).f0), .int .i64 (wrap64 ((ji23) - (ji22))), .int .i64 (wrap64 (((rd_T46 l0 x10_2).f2.f0) + (wrap64 (Int.tdiv (wrap64 ((ji22) - x9_2)) 2048)))), .int .i64 ((rd_T46 l0 x10_2).f2.f1)] (fun k_ => k_ ≠ gb542) (fun _ => False) rfl (by first | (go_simp; done) | (go_simp; rfl)) ?aP (fun _ hk => hk.elim) ?aF ?aO ?aB ?aS ?aL ?_; (case aP => exact k46_mkM _ _ _ (⟨(rd_T46 l0 x10_2).f0, wrap64 ((ji23) - (ji22)), (⟨wrap64 (((rd_T46 l0 x10_2).f2.f0) + (wrap64 (Int.tdiv (wrap64 ((ji22) - x9_2)) 2048))), (rd_T46 l0 x10_2).f2.f1⟩ : S44)⟩ : S46)); (case aB => exact (by repeat (first | (with_reducible first | exact HB.out | apply below_alloc | apply pw_below_drewN | apply below_drew1 | refine below_set ?_ GE542.out) | exact HB.out))); (case aF => exact (fun k_ hk => Kd.freshB (g := gb542) (o := .cells #[.int .i64 ((rd_T46 l0 x10_2).f0), .int .i64 ((rd_T46 l0 x10_2).f1), .int .i64 ((rd_T46 l0 x10_2).f2.f0), .int .i64 ((rd_T46 l0 x10_2).f2.f1)] 46 (0, 0)) (by (with_reducible repeat (first | refine blk_drewN ?_ _ | refine blk_drew ?_ | refine blk_alloc ?_ _)); refine blk_put (cs := #[.int .i64 ((rd_T46 l0 x10_2).f0), .int .i64 ((rd_T46 l0 x10_2).f1), .int .i64 ((rd_T46 l0 x10_2).f2.f0), .int .i64 0]) ?_ 3 _ rfl; (with_reducible repeat (first | refine blk_drewN ?_ _ | refine blk_drew ?_ | refine blk_alloc ?_ _)); refine blk_put (cs := #[.int .i64 ((rd_T46 l0 x10_2).f0), .int .i64 ((rd_T46 l0 x10_2).f1), .int .i64 0, .int .i64 0]) ?_ 2 _ rfl; (with_reducible repeat (first | refine blk_drewN ?_ _ | refine blk_drew ?_ | refine blk_alloc ?_ _)); refine blk_put (cs := #[.int .i64 ((rd_T46 l0 x10_2).f0), .int .i64 0, .int .i64 0, .int .i64 0]) ?_ 1 _ rfl; (with_reducible repeat (first | refine blk_drewN ?_ _ | refine blk_drew ?_ | refine blk_alloc ?_ _)); refine blk_put (cs := #[.int .i64 0, .int .i64 0, .int .i64 0, .int .i64 0]) ?_ 0 _ rfl; (with_reducible repeat (first | refine blk_drewN ?_ _ | refine blk_drew ?_ | refine blk_alloc ?_ _)); exact BK542.out) k_ hk)); (case aO => exact (by (with_reducible repeat (first | apply Kd.R_alloc | apply Kd.R_drewN | apply Kd.R_drew)); exact Kd.R_mono (Kd.R_far (p := ⟨gb542, 3, none⟩) (Kd.R_far (p := ⟨gb542, 2, none⟩) (Kd.R_far (p := ⟨gb542, 1, none⟩) (Kd.R_far (p := ⟨gb542, 0, none⟩) (Kd.R_mono HO_8.out (fun k_ hk => (⟨hk, hk.2⟩ : _ ∧ k_ ≠ gb542))) (fun _ hk => hk.2) (.int .i64 ((rd_T46 l0 x10_2).f0))) (fun _ hk => hk.2) (.int .i64 ((rd_T46 l0 x10_2).f1))) (fun _ hk => hk.2) (.int .i64 ((rd_T46 l0 x10_2).f2.f0))) (fun _ hk => hk.2) (.int .i64 ((rd_T46 l0 x10_2).f2.f1))) (fun _ hk => hk.1.2))); (case aS => exact (below_size (by repeat (first | (with_reducible first | exact HB.out | apply below_alloc | apply pw_below_drewN | apply below_drew1 | refine below_set ?_ GE542.out) | exact HB.out)))); (case aL => have := LMc25.out; omega); intro v544 w28 ho hb hg hat; rw [← Ny543.out] at ho; have n0_ := Aside0.mk (blk_grown (g := gb542) (o := .cells #[.int .i64 ((rd_T46 l0 x10_2).f0), .int .i64 ((rd_T46 l0 x10_2).f1), .int .i64 ((rd_T46 l0 x10_2).f2.f0), .int .i64 ((rd_T46 l0 x10_2).f2.f1)] 46 (0, 0)) (by (with_reducible repeat (first | refine blk_drewN ?_ _ | refine blk_drew ?_ | refine blk_alloc ?_ _)); refine blk_put (cs := #[.int .i64 ((rd_T46 l0 x10_2).f0), .int .i64 ((rd_T46 l0 x10_2).f1), .int .i64 ((rd_T46 l0 x10_2).f2.f0), .int .i64 0]) ?_ 3 _ rfl; (with_reducible repeat (first | refine blk_drewN ?_ _ | refine blk_drew ?_ | refine blk_alloc ?_ _)); refine blk_put (cs := #[.int .i64 ((rd_T46 l0 x10_2).f0), .int .i64 ((rd_T46 l0 x10_2).f1), .int .i64 0, .int .i64 0]) ?_ 2 _ rfl; (with_reducible repeat (first | refine blk_drewN ?_ _ | refine blk_drew ?_ | refine blk_alloc ?_ _)); refine blk_put (cs := #[.int .i64 ((rd_T46 l0 x10_2).f0), .int .i64 0, .int .i64 0, .int .i64 0]) ?_ 1 _ rfl; (with_reducible repeat (first | refine blk_drewN ?_ _ | refine blk_drew ?_ | refine blk_alloc ?_ _)); refine blk_put (cs := #[.int .i64 0, .int .i64 0, .int .i64 0, .int .i64 0]) ?_ 0 _ rfl; (with_reducible repeat (first | refine blk_drewN ?_ _ | refine blk_drew ?_ | refine blk_alloc ?_ _)); exact BK542.out) hg (Kd.R_away HO_8.out (fun _ hk => hk.2))); have n1_ := Aside0.mk (hb); have n2_ := Aside0.mk (ho); clear BK542; clear HB; clear HO_8; have BK542 := n0_; have HB := n1_; have HO545 := n2_; clear n0_ n1_ n2_; clear ho hb hg hat; have hcz29_0 : w28.cell? ⟨gb542, 0, none⟩ = some (.int .i64 ((rd_T46 l0 x10_2).f0)) := (blk_cell BK542.out 0).trans rfl; have hcz29_1 : w28.cell? ⟨gb542, 1, none⟩ = some (.int .i64 ((rd_T46 l0 x10_2).f1)) := (blk_cell BK542.out 1).trans rfl; have hcz29_2 : w28.cell? ⟨gb542, 2, none⟩ = some (.int .i64 ((rd_T46 l0 x10_2).f2.f0)) := (blk_cell BK542.out 2).trans rfl; have hcz29_3 : w28.cell? ⟨gb542, 3, none⟩ = some (.int .i64 ((rd_T46 l0 x10_2).f2.f1)) := (blk_cell BK542.out 3).trans rfl; have hfz29_0 := blk_frozen BK542.out 0; have hfz29_1 := blk_frozen BK542.out 1; have hfz29_2 := blk_frozen BK542.out 2; have hfz29_3 := blk_frozen BK542.out 3)))
                      go_roundg k2
                      case measure => have := HJ5.out; have := HK2.out; omega
                      case rel => exact ⟨(y543), (wrap64 (x9_2 + ((rd_T46 l0 x10_2).f1))), (wrap64 (x10_2 + 1)), (by first | rfl | (simp; done) | (rw [Option.some.inj (A11.out.symm.trans A14.out)]) | (simp [*]; done)), (by first | rfl | (simp; done) | (rw [Option.some.inj (A11.out.symm.trans A14.out)]) | (simp [*]; done)), H', ⟨by have := HJ5.out; have := HK2.out; omega⟩, ⟨by (with_reducible repeat (first | apply Kd.R_alloc | apply Kd.R_drewN | apply Kd.R_drew)); exact Kd.R_mono HO545.out (fun _ hk => trivial)⟩, ⟨by repeat (first | (with_reducible first | exact HB.out | apply below_alloc | apply pw_below_drewN | apply below_drew1 | refine below_set ?_ GE542.out) | exact HB.out)⟩⟩
                    · rw [if_neg c25] at H
                      exact absurd H (by simp)
                  · rw [if_neg c24] at H
                    have c24b0 : decide ((ji22) < (ji23)) = false := decide_eq_false c24
                    clear c24
                    have H' := Aside0.mk H
                    clear H
                    have p541 : 0 ≤ (x10_2 : Int) := of_decide_eq_true (by first | (with_reducible assumption) | assumption)
                    have q541 : x10_2 < (l0.length : Int) := of_decide_eq_true (by first | (with_reducible assumption) | assumption)
                    obtain ⟨ad541, e541, hx541_0, hx541_1, hx541_2, hx541_3⟩ := at_T46 HR0.out x10_2 p541 q541
                    cases e541
                    replace hx541_0 := (HB.out.cell (World.block_lt_of_cell? w _ hx541_0)).trans hx541_0
                    replace hx541_1 := (HB.out.cell (World.block_lt_of_cell? w _ hx541_1)).trans hx541_1
                    replace hx541_2 := (HB.out.cell (World.block_lt_of_cell? w _ hx541_2)).trans hx541_2
                    replace hx541_3 := (HB.out.cell (World.block_lt_of_cell? w _ hx541_3)).trans hx541_3
                    replace p541 := eq_true p541
                    replace q541 := eq_true q541
                    go_wp2_with (first | ((with_reducible refine gate_dst (N := 11) rfl ?_); refine box_event ?hg (N := 11) ?hd (cs := #[.int .i64 0, .int .i64 0, .int .i64 0, .int .i64 0]) (t := 46) ?hr ?_; (case hd => rfl); (case hg => rfl); (case hr => first | (go_simp; done) | (go_simp; rfl)); intro gb542 hg w30 hbox hb; have n0_ := Aside0.mk (Kd.R_below (Kd.R_elderB (by (with_reducible repeat (first | apply Kd.R_alloc | apply Kd.R_drewN | apply Kd.R_drew)); exact HO_8.out) gb542 (Nat.le_of_eq hg.symm)) hb); have n1_ := Aside0.mk (below_step (by repeat (first | (with_reducible first | exact HB.out | apply below_alloc | apply pw_below_drewN | apply below_drew1) | exact HB.out)) hb); have n2_ := Aside0.mk (hbox); have n3_ := Aside0.mk ((by rw [hg]; exact (below_size (by repeat (first | (with_reducible first | exact HB.out | apply below_alloc | apply pw_below_drewN | apply below_drew1) | exact HB.out))) : w.heap.size ≤ gb542)); have n4_ := Aside0.mk ((by rw [hg]; exact (below_size (by repeat (first | (with_reducible first | exact HB.out | apply below_alloc | apply pw_below_drewN | apply below_drew1) | exact HB.out))) : w.heap.size ≤ gb542)); clear HO_8; clear HB; have HO_8 := n0_; have HB := n1_; have BK542 := n2_; have GW542 := n3_; have GE542 := n4_; clear n0_ n1_ n2_ n3_ n4_; clear hb hbox hg; have hcz31_0 : w30.cell? ⟨gb542, 0, none⟩ = some (.int .i64 0) := (blk_cell BK542.out 0).trans rfl; have hcz31_1 : w30.cell? ⟨gb542, 1, none⟩ = some (.int .i64 0) := (blk_cell BK542.out 1).trans rfl; have hcz31_2 : w30.cell? ⟨gb542, 2, none⟩ = some (.int .i64 0) := (blk_cell BK542.out 2).trans rfl; have hcz31_3 : w30.cell? ⟨gb542, 3, none⟩ = some (.int .i64 0) := (blk_cell BK542.out 3).trans rfl; have hfz31_0 := blk_frozen BK542.out 0; have hfz31_1 := blk_frozen BK542.out 1; have hfz31_2 := blk_frozen BK542.out 2; have hfz31_3 := blk_frozen BK542.out 3))
                    repeat (go_quiet (first | ((with_reducible refine gate_dst (N := 11) rfl ?_); refine box_event ?hg (N := 11) ?hd (cs := #[.int .i64 0, .int .i64 0, .int .i64 0, .int .i64 0]) (t := 46) ?hr ?_; (case hd => rfl); (case hg => rfl); (case hr => first | (go_simp; done) | (go_simp; rfl)); intro gb542 hg w30 hbox hb; have n0_ := Aside0.mk (Kd.R_below (Kd.R_elderB (by (with_reducible repeat (first | apply Kd.R_alloc | apply Kd.R_drewN | apply Kd.R_drew)); exact HO_8.out) gb542 (Nat.le_of_eq hg.symm)) hb); have n1_ := Aside0.mk (below_step (by repeat (first | (with_reducible first | exact HB.out | apply below_alloc | apply pw_below_drewN | apply below_drew1) | exact HB.out)) hb); have n2_ := Aside0.mk (hbox); have n3_ := Aside0.mk ((by rw [hg]; exact (below_size (by repeat (first | (with_reducible first | exact HB.out | apply below_alloc | apply pw_below_drewN | apply below_drew1) | exact HB.out))) : w.heap.size ≤ gb542)); have n4_ := Aside0.mk ((by rw [hg]; exact (below_size (by repeat (first | (with_reducible first | exact HB.out | apply below_alloc | apply pw_below_drewN | apply below_drew1) | exact HB.out))) : w.heap.size ≤ gb542)); clear HO_8; clear HB; have HO_8 := n0_; have HB := n1_; have BK542 := n2_; have GW542 := n3_; have GE542 := n4_; clear n0_ n1_ n2_ n3_ n4_; clear hb hbox hg; have hcz31_0 : w30.cell? ⟨gb542, 0, none⟩ = some (.int .i64 0) := (blk_cell BK542.out 0).trans rfl; have hcz31_1 : w30.cell? ⟨gb542, 1, none⟩ = some (.int .i64 0) := (blk_cell BK542.out 1).trans rfl; have hcz31_2 : w30.cell? ⟨gb542, 2, none⟩ = some (.int .i64 0) := (blk_cell BK542.out 2).trans rfl; have hcz31_3 : w30.cell? ⟨gb542, 3, none⟩ = some (.int .i64 0) := (blk_cell BK542.out 3).trans rfl; have hfz31_0 := blk_frozen BK542.out 0; have hfz31_1 := blk_frozen BK542.out 1; have hfz31_2 := blk_frozen BK542.out 2; have hfz31_3 := blk_frozen BK542.out 3)); try go_wp2_with (first | ((with_reducible refine gate_dst (N := 11) rfl ?_); refine box_event ?hg (N := 11) ?hd (cs := #[.int .i64 0, .int .i64 0, .int .i64 0, .int .i64 0]) (t := 46) ?hr ?_; (case hd => rfl); (case hg => rfl); (case hr => first | (go_simp; done) | (go_simp; rfl)); intro gb542 hg w30 hbox hb; have n0_ := Aside0.mk (Kd.R_below (Kd.R_elderB (by (with_reducible repeat (first | apply Kd.R_alloc | apply Kd.R_drewN | apply Kd.R_drew)); exact HO_8.out) gb542 (Nat.le_of_eq hg.symm)) hb); have n1_ := Aside0.mk (below_step (by repeat (first | (with_reducible first | exact HB.out | apply below_alloc | apply pw_below_drewN | apply below_drew1) | exact HB.out)) hb); have n2_ := Aside0.mk (hbox); have n3_ := Aside0.mk ((by rw [hg]; exact (below_size (by repeat (first | (with_reducible first | exact HB.out | apply below_alloc | apply pw_below_drewN | apply below_drew1) | exact HB.out))) : w.heap.size ≤ gb542)); have n4_ := Aside0.mk ((by rw [hg]; exact (below_size (by repeat (first | (with_reducible first | exact HB.out | apply below_alloc | apply pw_below_drewN | apply below_drew1) | exact HB.out))) : w.heap.size ≤ gb542)); clear HO_8; clear HB; have HO_8 := n0_; have HB := n1_; have BK542 := n2_; have GW542 := n3_; have GE542 := n4_; clear n0_ n1_ n2_ n3_ n4_; clear hb hbox hg; have hcz31_0 : w30.cell? ⟨gb542, 0, none⟩ = some (.int .i64 0) := (blk_cell BK542.out 0).trans rfl; have hcz31_1 : w30.cell? ⟨gb542, 1, none⟩ = some (.int .i64 0) := (blk_cell BK542.out 1).trans rfl; have hcz31_2 : w30.cell? ⟨gb542, 2, none⟩ = some (.int .i64 0) := (blk_cell BK542.out 2).trans rfl; have hcz31_3 : w30.cell? ⟨gb542, 3, none⟩ = some (.int .i64 0) := (blk_cell BK542.out 3).trans rfl; have hfz31_0 := blk_frozen BK542.out 0; have hfz31_1 := blk_frozen BK542.out 1; have hfz31_2 := blk_frozen BK542.out 2; have hfz31_3 := blk_frozen BK542.out 3)))
                    go_roundg k2
                    case measure => have := HJ5.out; have := HK2.out; omega
                    case rel => exact ⟨(x8_2), (wrap64 (x9_2 + ((rd_T46 l0 x10_2).f1))), (wrap64 (x10_2 + 1)), (by first | rfl | (simp; done) | (rw [Option.some.inj (A11.out.symm.trans A14.out)]) | (simp [*]; done)), (by first | rfl | (simp; done) | (rw [Option.some.inj (A11.out.symm.trans A14.out)]) | (simp [*]; done)), H', ⟨by have := HJ5.out; have := HK2.out; omega⟩, ⟨by (with_reducible repeat (first | apply Kd.R_alloc | apply Kd.R_drewN | apply Kd.R_drew)); exact Kd.R_mono (Kd.R_far (p := ⟨gb542, 3, none⟩) (Kd.R_far (p := ⟨gb542, 2, none⟩) (Kd.R_far (p := ⟨gb542, 1, none⟩) (Kd.R_far (p := ⟨gb542, 0, none⟩) (Kd.R_mono HO_8.out (fun k_ hk => (⟨hk, hk.2⟩ : _ ∧ k_ ≠ gb542))) (fun _ hk => hk.2) (.int .i64 ((rd_T46 l0 x10_2).f0))) (fun _ hk => hk.2) (.int .i64 ((rd_T46 l0 x10_2).f1))) (fun _ hk => hk.2) (.int .i64 ((rd_T46 l0 x10_2).f2.f0))) (fun _ hk => hk.2) (.int .i64 ((rd_T46 l0 x10_2).f2.f1))) (fun _ hk => trivial)⟩, ⟨by repeat (first | (with_reducible first | exact HB.out | apply below_alloc | apply pw_below_drewN | apply below_drew1 | refine below_set ?_ GE542.out) | exact HB.out)⟩⟩
                · rw [if_neg c21] at H
                  exact absurd H (by simp)
              · rw [if_neg c20] at H
                have c20b0 : decide (x10_2 < (l0.length : Int)) = false := decide_eq_false c20
                clear c20
                simp only [Option.some.injEq, Prod.mk.injEq] at H
                obtain ⟨rfl, rfl⟩ := H
                go_wp2
                repeat (go_quiet (fail); try go_wp2)
                go_ret2
                exact ⟨_, by first | rfl | (simp [errW_none, errW_some] <;> rfl) | (simp [*, errW_none, errW_some] <;> rfl), by (with_reducible repeat (first | apply Kd.R_alloc | apply Kd.R_drewN | apply Kd.R_drew)); exact HO_8.out, by repeat (first | (with_reducible first | exact HB.out | apply below_alloc | apply pw_below_drewN | apply below_drew1) | exact HB.out)⟩
  · replace c5 := Bool.eq_false_iff.mpr c5
    subst c5
    have H1 : (some (([] : List (S46)), 1)) = some (r1, r2) := by rw [if_neg (show ¬ (false = true) by decide)] at H; exact H
    clear H
    have H := H1
    clear H1
    simp only [Option.some.injEq, Prod.mk.injEq] at H
    obtain ⟨rfl, rfl⟩ := H
    go_enter Try.func55, Try.ntmps55
    go_wp2_with (first | (go_at_call 60; (with_reducible refine (masterdiscref33_Valid.calls k _ _ l0 false _ ?side1 ?side2 A4.out).mono ?_); (case side1 => repeat (first | exact HR0.out | (with_reducible refine Kd.C_alloc ?_ _) | (with_reducible refine Kd.C_drewN ?_ _) | (with_reducible refine Kd.C_drew ?_))); (case side2 => exact HC0.out); rintro e w32 ⟨rfl, hb⟩; have n0_ := Aside0.mk (below_step (by repeat (first | (with_reducible first | exact HB.out | apply below_alloc | apply pw_below_drewN | apply below_drew1) | exact HB.out)) hb); clear HB; have HB := n0_; clear n0_; (try clear hb); (try clear hb2); (try clear hk); (try clear hi)))
    repeat (go_quiet (first | (go_at_call 60; (with_reducible refine (masterdiscref33_Valid.calls k _ _ l0 false _ ?side1 ?side2 A4.out).mono ?_); (case side1 => repeat (first | exact HR0.out | (with_reducible refine Kd.C_alloc ?_ _) | (with_reducible refine Kd.C_drewN ?_ _) | (with_reducible refine Kd.C_drew ?_))); (case side2 => exact HC0.out); rintro e w32 ⟨rfl, hb⟩; have n0_ := Aside0.mk (below_step (by repeat (first | (with_reducible first | exact HB.out | apply below_alloc | apply pw_below_drewN | apply below_drew1) | exact HB.out)) hb); clear HB; have HB := n0_; clear n0_; (try clear hb); (try clear hb2); (try clear hk); (try clear hi))); try go_wp2_with (first | (go_at_call 60; (with_reducible refine (masterdiscref33_Valid.calls k _ _ l0 false _ ?side1 ?side2 A4.out).mono ?_); (case side1 => repeat (first | exact HR0.out | (with_reducible refine Kd.C_alloc ?_ _) | (with_reducible refine Kd.C_drewN ?_ _) | (with_reducible refine Kd.C_drew ?_))); (case side2 => exact HC0.out); rintro e w32 ⟨rfl, hb⟩; have n0_ := Aside0.mk (below_step (by repeat (first | (with_reducible first | exact HB.out | apply below_alloc | apply pw_below_drewN | apply below_drew1) | exact HB.out)) hb); clear HB; have HB := n0_; clear n0_; (try clear hb); (try clear hb2); (try clear hk); (try clear hi))))
    go_ret2
    exact ⟨_, by first | rfl | (simp [errW_none, errW_some] <;> rfl) | (simp [*, errW_none, errW_some] <;> rfl), by first | exact Kd.R_nil _ _ _ _ _ | exact Kd.N_nil _ _ _ _ _ | exact Kd.V_nil _ _ _ _ _ | exact Kd.Q_nil _ _ _ _ _ | exact Kd.S_nil _ _ _ _ _, by repeat (first | (with_reducible first | exact HB.out | apply below_alloc | apply pw_below_drewN | apply below_drew1) | exact HB.out)⟩

/-! ### masterdiscref33_Locate: function 57 -/
mutual
def masterdiscref33_Locate.j0 : Nat → List (S46) → Int → Bool → Option (Int × Int × Int × Int)
  | 0, _, _, _ => none
  | k + 1, x0, x1, x20 => if x20 = true then (some (0, 0, 0, 2)) else (masterdiscref33_Locate.l0 k x0 x1 0)
def masterdiscref33_Locate.l0 : Nat → List (S46) → Int → Int → Option (Int × Int × Int × Int)
  | 0, _, _, _ => none
  | k + 1, x0, x1, x7 => if 0 ≤ x7 then (if x7 < (x0.length : Int) then ((masterdiscref33_Count.f ((rd_T46 x0 x7).f1)).bind fun t556 => (if x1 ≥ t556 then ((masterdiscref33_Count.f ((rd_T46 x0 x7).f1)).bind fun t558 => (masterdiscref33_Locate.l0 k x0 (wrap64 (x1 - t558)) (wrap64 (x7 + 1)))) else (some (wrap64 (((rd_T46 x0 x7).f2.f0) + x1), (rd_T46 x0 x7).f2.f1, (rd_T46 x0 x7).f0, 0)))) else (none)) else (none)
end
def masterdiscref33_Locate.f (k : Nat) (l0 : List (S46)) (a1 : Int) : Option (Int × Int × Int × Int) := (masterdiscref33_Valid.f k l0).bind fun t552 => (if t552 = true then (if a1 < 0 then (masterdiscref33_Locate.j0 k l0 a1 true) else ((masterdiscref33_Length.f k l0).bind fun t553 => ((masterdiscref33_Count.f t553).bind fun t554 => (masterdiscref33_Locate.j0 k l0 a1 (decide (a1 ≥ t554)))))) else (some (0, 0, 0, 1)))
theorem masterdiscref33_Locate.mono_l : ∀ k, (∀ y0 y1 y2, LeO (masterdiscref33_Locate.j0 k y0 y1 y2) (masterdiscref33_Locate.j0 (k + 1) y0 y1 y2)) ∧ (∀ y0 y1 y2, LeO (masterdiscref33_Locate.l0 k y0 y1 y2) (masterdiscref33_Locate.l0 (k + 1) y0 y1 y2))
  | 0 => ⟨fun _ _ _ r h => by simp [masterdiscref33_Locate.j0] at h, fun _ _ _ r h => by simp [masterdiscref33_Locate.l0] at h⟩
  | k + 1 => by
    obtain ⟨ih0, ih1⟩ := masterdiscref33_Locate.mono_l k
    refine ⟨?_, ?_⟩
    · intro y0 y1 y2
      unfold masterdiscref33_Locate.j0
      repeat' first
      | (with_reducible exact ih0 _ _ _)
      | (with_reducible exact ih1 _ _ _)
      | (with_reducible exact masterdiscref33_Length.mono _ _)
      | (with_reducible exact masterdiscref33_Valid.mono _ _)
      | (with_reducible exact LeO.refl _)
      | (with_reducible exact LeO.none _)
      | (with_reducible refine LeO.ite ?_ ?_)
      | (with_reducible refine LeO.bind ?_ (fun _ => ?_))
      | exact ih0 _ _ _
      | exact ih1 _ _ _
      | exact masterdiscref33_Length.mono _ _
      | exact masterdiscref33_Valid.mono _ _
      | exact LeO.none _
      | refine LeO.ite ?_ ?_
      | refine LeO.bind ?_ (fun _ => ?_)
    · intro y0 y1 y2
      unfold masterdiscref33_Locate.l0
      repeat' first
      | (with_reducible exact ih0 _ _ _)
      | (with_reducible exact ih1 _ _ _)
      | (with_reducible exact masterdiscref33_Length.mono _ _)
      | (with_reducible exact masterdiscref33_Valid.mono _ _)
      | (with_reducible exact LeO.refl _)
      | (with_reducible exact LeO.none _)
      | (with_reducible refine LeO.ite ?_ ?_)
      | (with_reducible refine LeO.bind ?_ (fun _ => ?_))
      | exact ih0 _ _ _
      | exact ih1 _ _ _
      | exact masterdiscref33_Length.mono _ _
      | exact masterdiscref33_Valid.mono _ _
      | exact LeO.none _
      | refine LeO.ite ?_ ?_
      | refine LeO.bind ?_ (fun _ => ?_)
theorem masterdiscref33_Locate.mono : ∀ a0 a1 k, LeO (masterdiscref33_Locate.f k a0 a1) (masterdiscref33_Locate.f (k + 1) a0 a1) := by
  intro a0 a1 k
  obtain ⟨ih0, ih1⟩ := masterdiscref33_Locate.mono_l k
  unfold masterdiscref33_Locate.f
  repeat' first
      | (with_reducible exact ih0 _ _ _)
      | (with_reducible exact ih1 _ _ _)
      | (with_reducible exact masterdiscref33_Length.mono _ _)
      | (with_reducible exact masterdiscref33_Valid.mono _ _)
      | (with_reducible exact LeO.refl _)
      | (with_reducible exact LeO.none _)
      | (with_reducible refine LeO.ite ?_ ?_)
      | (with_reducible refine LeO.bind ?_ (fun _ => ?_))
      | exact ih0 _ _ _
      | exact ih1 _ _ _
      | exact masterdiscref33_Length.mono _ _
      | exact masterdiscref33_Valid.mono _ _
      | exact LeO.none _
      | refine LeO.ite ?_ ?_
      | refine LeO.bind ?_ (fun _ => ?_)
def masterdiscref33_Locate.T9 : Bool × List (List Nat × List Nat) := (true, [([], []), ([], []), ([0, 1], [0, 1]), ([2], [2]), ([3], [3]), ([4], [4]), ([], []), ([5, 6], [5, 6]), ([], []), ([], []), ([8, 9], [8, 9]), ([10], [10]), ([11], [11]), ([12], [12]), ([7, 13], [7, 13]), ([], []), ([], []), ([15, 16], [15, 16]), ([17], [17]), ([18], [18]), ([14, 0, 1, 2, 3, 4, 5, 6, 7, 8, 9, 10, 11, 12, 13, 14], [14]), ([19, 20, 0, 1, 2, 3, 4, 5, 6, 7, 8, 9, 10, 11, 12, 13, 14, 15, 16, 17, 18, 19, 20], [19]), ([21, 0, 1, 2, 3, 4, 5, 6, 7, 8, 9, 10, 11, 12, 13, 14, 15, 16, 17, 18, 19, 20, 21], [])])
def masterdiscref33_Locate.B9 : List Nat := [0, 0, 3, 7, 15, 31, 0, 127, 0, 0, 768, 1792, 3840, 7936, 16383, 0, 0, 98304, 229376, 491520, 32767, 2097151, 4194303]
theorem masterdiscref33_Locate.tab9 : rtab .any (opsOf Try.f57 9) = masterdiscref33_Locate.T9 := by kernel_rfl
theorem masterdiscref33_Locate.bits9 : waitsOk masterdiscref33_Locate.T9.2 masterdiscref33_Locate.B9 = true := by kernel_rfl
set_option maxHeartbeats 8000000 in
set_option maxRecDepth 100000 in
theorem masterdiscref33_Locate.calls (k : Nat) (A0 : Option Addr) (c0 : Nat) (l0 : List (S46)) (a1 : Int) (r1 : Int) (r2 : Int) (r3 : Int) (r4 : Int) (w : World) (hr0 : Kd.C k46 w A0 l0.length l0) (hc0 : l0.length ≤ c0) (h : masterdiscref33_Locate.f k l0 a1 = some (r1, r2, r3, r4)) :
    Calls Try.prog 57 #[.slice A0 l0.length c0, .int .i64 a1] w fun e w' => e = .returned (.tuple #[.agg #[.int .i64 r1, .int .i64 r2], .int .i64 r3, .int .i64 r4]) ∧ Below w.heap.size w w' := by
  have hu44 := Try.underlying44
  have HR0 := Aside0.mk hr0
  have HC0 := Aside0.mk hc0
  clear hr0 hc0
  have HB := Aside0.mk (Below.refl w.heap.size w)
  have H : ((masterdiscref33_Valid.f k l0).bind fun t552 => (if t552 = true then (if a1 < 0 then (masterdiscref33_Locate.j0 k l0 a1 true) else ((masterdiscref33_Length.f k l0).bind fun t553 => ((masterdiscref33_Count.f t553).bind fun t554 => (masterdiscref33_Locate.j0 k l0 a1 (decide (a1 ≥ t554)))))) else (some (0, 0, 0, 1)))) = some (r1, r2, r3, r4) := h
  clear h
  replace H := Option.bind_eq_some_iff.mp H
  obtain ⟨t552, A30, H⟩ := H
  replace H : (if t552 = true then (if a1 < 0 then (masterdiscref33_Locate.j0 k l0 a1 true) else ((masterdiscref33_Length.f k l0).bind fun t553 => ((masterdiscref33_Count.f t553).bind fun t554 => (masterdiscref33_Locate.j0 k l0 a1 (decide (a1 ≥ t554)))))) else (some (0, 0, 0, 1))) = some (r1, r2, r3, r4) := H
  have A3 := Aside0.mk A30
  clear A30
  by_cases c4 : t552 = true
  · subst c4
    have H1 : (if a1 < 0 then (masterdiscref33_Locate.j0 k l0 a1 true) else ((masterdiscref33_Length.f k l0).bind fun t553 => ((masterdiscref33_Count.f t553).bind fun t554 => (masterdiscref33_Locate.j0 k l0 a1 (decide (a1 ≥ t554)))))) = some (r1, r2, r3, r4) := by rw [if_pos rfl] at H; exact H
    clear H
    have H := H1
    clear H1
    have HC5 := Aside0.mk H
    clear H
    go_enter Try.func57, Try.ntmps57
    go_upto_region 3 with (first | ((with_reducible refine gate_dst (N := 4) rfl ?_); refine box_event ?hg (N := 4) ?hd (cs := #[.int .i64 0, .int .i64 0]) (t := 44) ?hr ?_; (case hd => rfl); (case hg => rfl); (case hr => first | (go_simp; done) | (go_simp; rfl)); intro gb551 hg w6 hbox hb; have n0_ := Aside0.mk (below_step (by repeat (first | (with_reducible first | exact HB.out | apply below_alloc | apply pw_below_drewN | apply below_drew1) | exact HB.out)) hb); have n1_ := Aside0.mk (hbox); have n2_ := Aside0.mk ((by rw [hg]; exact (below_size (by repeat (first | (with_reducible first | exact HB.out | apply below_alloc | apply pw_below_drewN | apply below_drew1) | exact HB.out))) : w.heap.size ≤ gb551)); have n3_ := Aside0.mk ((by rw [hg]; exact (below_size (by repeat (first | (with_reducible first | exact HB.out | apply below_alloc | apply pw_below_drewN | apply below_drew1) | exact HB.out))) : w.heap.size ≤ gb551)); clear HB; have HB := n0_; have BK551 := n1_; have GW551 := n2_; have GE551 := n3_; clear n0_ n1_ n2_ n3_; clear hb hbox hg) | ((with_reducible refine gate_callee (f := 60) rfl ?_); refine goesL_ (some 9) rfl rfl Try.func60 (by kernel_rfl) rfl #[.slice A0 l0.length c0] rfl (by (try simp only [List.map_toArray, List.map_cons, List.map_nil]); first | done | rfl | (simp only [List.length_drop, List.length_take]; rfl)) ?_; (with_reducible refine (masterdiscref33_Valid.calls k _ _ l0 true _ ?side1 ?side2 A3.out).mono ?_); (case side1 => repeat (first | exact (Kd.C_below HR0.out HB.out) | (with_reducible refine Kd.C_alloc ?_ _) | (with_reducible refine Kd.C_drewN ?_ _) | (with_reducible refine Kd.C_drew ?_))); (case side2 => exact HC0.out); rintro e w7 ⟨rfl, hb⟩; refine ⟨_, rfl, ?_⟩; have n0_ := Aside0.mk (blk_below (g := gb551) (o := .cells #[.int .i64 0, .int .i64 0] 44 (0, 0)) (by (with_reducible repeat (first | refine blk_drewN ?_ _ | refine blk_drew ?_ | refine blk_alloc ?_ _)); exact BK551.out) hb); have n1_ := Aside0.mk (below_step (by repeat (first | (with_reducible first | exact HB.out | apply below_alloc | apply pw_below_drewN | apply below_drew1 | refine below_set ?_ GE551.out) | exact HB.out)) hb); clear BK551; clear HB; have BK551 := n0_; have HB := n1_; clear n0_ n1_; (try clear hb); (try clear hb2); (try clear hk); (try clear hi)))
    (try simp only [Act.put, List.setIfInBounds_toArray, List.set_cons_zero, List.set_cons_succ])
    go_cut [20] (fun v20 wc => ∃ (kq : Nat) (x20_4 : Bool), v20 = .bool x20_4 ∧ Aside0 (masterdiscref33_Locate.j0 kq l0 a1 x20_4 = some (r1, r2, r3, r4)) ∧ Aside0 (kq ≤ k) ∧ Aside0 (wc.heap[gb551]? = some (.cells #[.int .i64 0, .int .i64 0] 44 (0, 0))) ∧ Aside0 (Below w.heap.size w wc))
    case first =>
      have H := HC5.out
      clear HC5
      by_cases c8 : a1 < 0
      · rw [if_pos c8] at H
        have c8b0 : decide (a1 < 0) = true := decide_eq_true c8
        clear c8
        (first | rw [c8b0] | (simp only [i64_w, i32_w]; rw [c8b0]) | skip)
        have H' := Aside0.mk H
        clear H
        go_wp2
        go_meet
        case rel => exact ⟨_, (true), (by first | rfl | (simp; done) | (simp [*]; done)), H', ⟨by first | omega | exact Nat.le_refl _⟩, ⟨by (with_reducible repeat (first | refine blk_drewN ?_ _ | refine blk_drew ?_ | refine blk_alloc ?_ _)); exact BK551.out⟩, ⟨by repeat (first | (with_reducible first | exact HB.out | apply below_alloc | apply pw_below_drewN | apply below_drew1 | refine below_set ?_ GE551.out) | exact HB.out)⟩⟩
      · rw [if_neg c8] at H
        have c8b0 : decide (a1 < 0) = false := decide_eq_false c8
        clear c8
        (first | rw [c8b0] | (simp only [i64_w, i32_w]; rw [c8b0]) | skip)
        replace H := Option.bind_eq_some_iff.mp H
        obtain ⟨t553, A90, H⟩ := H
        replace H : ((masterdiscref33_Count.f t553).bind fun t554 => (masterdiscref33_Locate.j0 k l0 a1 (decide (a1 ≥ t554)))) = some (r1, r2, r3, r4) := H
        have A9 := Aside0.mk A90
        clear A90
        replace H := Option.bind_eq_some_iff.mp H
        obtain ⟨t554, A100, H⟩ := H
        replace H : (masterdiscref33_Locate.j0 k l0 a1 (decide (a1 ≥ t554))) = some (r1, r2, r3, r4) := H
        have A10 := Aside0.mk A100
        clear A100
        have H' := Aside0.mk H
        clear H
        go_wp2_with (first | (go_at_call 58; (with_reducible refine (masterdiscref33_Length.calls k _ _ l0 t553 _ ?side1 ?side2 A9.out).mono ?_); (case side1 => repeat (first | exact (Kd.C_below HR0.out HB.out) | (with_reducible refine Kd.C_alloc ?_ _) | (with_reducible refine Kd.C_drewN ?_ _) | (with_reducible refine Kd.C_drew ?_))); (case side2 => exact HC0.out); rintro e w11 ⟨rfl, hb⟩; have n0_ := Aside0.mk (blk_below (g := gb551) (o := .cells #[.int .i64 0, .int .i64 0] 44 (0, 0)) (by (with_reducible repeat (first | refine blk_drewN ?_ _ | refine blk_drew ?_ | refine blk_alloc ?_ _)); exact BK551.out) hb); have n1_ := Aside0.mk (below_step (by repeat (first | (with_reducible first | exact HB.out | apply below_alloc | apply pw_below_drewN | apply below_drew1 | refine below_set ?_ GE551.out) | exact HB.out)) hb); clear BK551; clear HB; have BK551 := n0_; have HB := n1_; clear n0_ n1_; (try clear hb); (try clear hb2); (try clear hk); (try clear hi)) | (go_at_call 120; (with_reducible refine (masterdiscref33_Count.calls t553 t554 _ A10.out).mono ?_); rintro e w' ⟨rfl, ⟨nd, rfl⟩⟩))
        go_meet
        case rel => exact ⟨_, (decide (a1 ≥ t554)), (by first | rfl | (simp; done) | (simp [*]; done)), H', ⟨by first | omega | exact Nat.le_refl _⟩, ⟨by (with_reducible repeat (first | refine blk_drewN ?_ _ | refine blk_drew ?_ | refine blk_alloc ?_ _)); exact BK551.out⟩, ⟨by repeat (first | (with_reducible first | exact HB.out | apply below_alloc | apply pw_below_drewN | apply below_drew1 | refine below_set ?_ GE551.out) | exact HB.out)⟩⟩
    case rest =>
      clear HC5
      try clear p2
      try clear c4
      try clear c5
      try clear c6
      try clear c8
      try clear c8b0
      obtain ⟨kq, x20_4, rfl, HA, HJ4, BK551, HB⟩ := hcut
      cases kq with
      | zero => exact absurd HA.out (by simp [masterdiscref33_Locate.j0])
      | succ kj4 =>
        have H := HA.out
        clear HA
        simp only [masterdiscref33_Locate.j0] at H
        by_cases c12 : x20_4 = true
        · subst c12
          have H1 : (some (0, 0, 0, 2)) = some (r1, r2, r3, r4) := by rw [if_pos rfl] at H; exact H
          clear H
          have H := H1
          clear H1
          simp only [Option.some.injEq, Prod.mk.injEq] at H
          obtain ⟨rfl, rfl, rfl, rfl⟩ := H
          have hcz13_0 : wc.cell? ⟨gb551, 0, none⟩ = some (.int .i64 0) := (blk_cell BK551.out 0).trans rfl
          have hcz13_1 : wc.cell? ⟨gb551, 1, none⟩ = some (.int .i64 0) := (blk_cell BK551.out 1).trans rfl
          have hfz13_0 := blk_frozen BK551.out 0
          have hfz13_1 := blk_frozen BK551.out 1
          go_wp2
          refine bodyPost_ret (results_ctt rfl _ _ gb551 44 #[.int .i64 0, .int .i64 0] (0, 0) _ rfl (by (with_reducible repeat (first | refine blk_drewN ?_ _ | refine blk_drew ?_ | refine blk_alloc ?_ _)); refine blk_put (cs := #[.int .i64 0, .int .i64 0]) ?_ 1 _ rfl; (with_reducible repeat (first | refine blk_drewN ?_ _ | refine blk_drew ?_ | refine blk_alloc ?_ _)); refine blk_put (cs := #[.int .i64 0, .int .i64 0]) ?_ 0 _ rfl; (with_reducible repeat (first | refine blk_drewN ?_ _ | refine blk_drew ?_ | refine blk_alloc ?_ _)); exact BK551.out) Try.underlying44 rfl (by kernel_rfl)) rfl ?_
          exact ⟨by first | rfl | (simp [errW_none, errW_some] <;> rfl) | (simp [*, errW_none, errW_some] <;> rfl), by repeat (first | (with_reducible first | exact HB.out | apply below_alloc | apply pw_below_drewN | apply below_drew1 | refine below_set ?_ GE551.out) | exact HB.out)⟩
        · replace c12 := Bool.eq_false_iff.mpr c12
          subst c12
          have H1 : (masterdiscref33_Locate.l0 kj4 l0 a1 0) = some (r1, r2, r3, r4) := by rw [if_neg (show ¬ (false = true) by decide)] at H; exact H
          clear H
          have H := H1
          clear H1
          have H' := Aside0.mk H
          clear H
          go_wp2
          go_loopg [1, 7] kj4 (fun kq v1 v7 w' => ∃ (x1_2 : Int) (x7_2 : Int), v1 = .int .i64 x1_2 ∧ v7 = .int .i64 x7_2 ∧ Aside0 (masterdiscref33_Locate.l0 kq l0 x1_2 x7_2 = some (r1, r2, r3, r4)) ∧ Aside0 (kq ≤ kj4) ∧ Aside0 (w'.heap[gb551]? = some (.cells #[.int .i64 0, .int .i64 0] 44 (0, 0))) ∧ Aside0 (Below w.heap.size w w'))
          case atStart => exact ⟨(a1), (0), (by first | rfl | (simp; done) | (simp [*]; done)), (by first | rfl | (simp; done) | (simp [*]; done)), H', ⟨Nat.le_refl _⟩, ⟨by (with_reducible repeat (first | refine blk_drewN ?_ _ | refine blk_drew ?_ | refine blk_alloc ?_ _)); exact BK551.out⟩, ⟨by repeat (first | (with_reducible first | exact HB.out | apply below_alloc | apply pw_below_drewN | apply below_drew1 | refine below_set ?_ GE551.out) | exact HB.out)⟩⟩
          case round =>
            clear H'
            try clear c1
            try clear p2
            try clear c4
            try clear c5
            try clear c6
            try clear c8
            try clear c8b0
            try clear c12
            try clear hcz13_0
            try clear hcz13_1
            try clear hfz13_0
            try clear hfz13_1
            try clear p2
            obtain ⟨x1_2, x7_2, rfl, rfl, HA, HK2, BK551, HB⟩ := hrel
            cases gk with
            | zero => exact absurd HA.out (by simp [masterdiscref33_Locate.l0])
            | succ k2 =>
              have H := HA.out
              clear HA
              simp only [masterdiscref33_Locate.l0] at H
              by_cases c14 : 0 ≤ x7_2
              · rw [if_pos c14] at H
                have c14b0 : decide (0 ≤ x7_2) = true := decide_eq_true c14
                clear c14
                by_cases c15 : x7_2 < (l0.length : Int)
                · rw [if_pos c15] at H
                  have c15b0 : decide (x7_2 < (l0.length : Int)) = true := decide_eq_true c15
                  clear c15
                  replace H := Option.bind_eq_some_iff.mp H
                  obtain ⟨t556, A160, H⟩ := H
                  replace H : (if x1_2 ≥ t556 then ((masterdiscref33_Count.f ((rd_T46 l0 x7_2).f1)).bind fun t558 => (masterdiscref33_Locate.l0 k2 l0 (wrap64 (x1_2 - t558)) (wrap64 (x7_2 + 1)))) else (some (wrap64 (((rd_T46 l0 x7_2).f2.f0) + x1_2), (rd_T46 l0 x7_2).f2.f1, (rd_T46 l0 x7_2).f0, 0))) = some (r1, r2, r3, r4) := H
                  have A16 := Aside0.mk A160
                  clear A160
                  by_cases c17 : x1_2 ≥ t556
                  · rw [if_pos c17] at H
                    have c17b0 : decide (t556 ≤ x1_2) = true := decide_eq_true c17
                    clear c17
                    replace H := Option.bind_eq_some_iff.mp H
                    obtain ⟨t558, A180, H⟩ := H
                    replace H : (masterdiscref33_Locate.l0 k2 l0 (wrap64 (x1_2 - t558)) (wrap64 (x7_2 + 1))) = some (r1, r2, r3, r4) := H
                    have A18 := Aside0.mk A180
                    clear A180
                    have H' := Aside0.mk H
                    clear H
                    have p555 : 0 ≤ (x7_2 : Int) := of_decide_eq_true (by first | (with_reducible assumption) | assumption)
                    have q555 : x7_2 < (l0.length : Int) := of_decide_eq_true (by first | (with_reducible assumption) | assumption)
                    obtain ⟨ad555, e555, hx555_0, hx555_1, hx555_2, hx555_3⟩ := at_T46 HR0.out x7_2 p555 q555
                    cases e555
                    replace hx555_0 := (HB.out.cell (World.block_lt_of_cell? w _ hx555_0)).trans hx555_0
                    replace hx555_1 := (HB.out.cell (World.block_lt_of_cell? w _ hx555_1)).trans hx555_1
                    replace hx555_2 := (HB.out.cell (World.block_lt_of_cell? w _ hx555_2)).trans hx555_2
                    replace hx555_3 := (HB.out.cell (World.block_lt_of_cell? w _ hx555_3)).trans hx555_3
                    replace p555 := eq_true p555
                    replace q555 := eq_true q555
                    go_wp2_with (first | ((with_reducible refine gate_callee (f := 120) rfl ?_); refine goesL_ (some 28) rfl rfl Try.func120 (by kernel_rfl) rfl #[.int .i64 ((rd_T46 l0 x7_2).f1)] rfl (by (try simp only [List.map_toArray, List.map_cons, List.map_nil]); first | done | rfl | (simp only [List.length_drop, List.length_take]; rfl)) ?_; (with_reducible refine (masterdiscref33_Count.calls ((rd_T46 l0 x7_2).f1) t556 _ A16.out).mono ?_); rintro e w' ⟨rfl, ⟨nd, rfl⟩⟩; refine ⟨_, rfl, ?_⟩; have p557 : 0 ≤ (x7_2 : Int) := of_decide_eq_true (by first | (with_reducible assumption) | assumption); have q557 : x7_2 < (l0.length : Int) := of_decide_eq_true (by first | (with_reducible assumption) | assumption); obtain ⟨ad557, e557, hx557_0, hx557_1, hx557_2, hx557_3⟩ := at_T46 HR0.out x7_2 p557 q557; obtain rfl : ad555 = ad557 := (by injection e557); replace hx557_0 := (HB.out.cell (World.block_lt_of_cell? w _ hx557_0)).trans hx557_0; replace hx557_1 := (HB.out.cell (World.block_lt_of_cell? w _ hx557_1)).trans hx557_1; replace hx557_2 := (HB.out.cell (World.block_lt_of_cell? w _ hx557_2)).trans hx557_2; replace hx557_3 := (HB.out.cell (World.block_lt_of_cell? w _ hx557_3)).trans hx557_3; replace p557 := eq_true p557; replace q557 := eq_true q557) | ((with_reducible refine gate_callee (f := 120) rfl ?_); refine goesL_ (some 36) rfl rfl Try.func120 (by kernel_rfl) rfl #[.int .i64 ((rd_T46 l0 x7_2).f1)] rfl (by (try simp only [List.map_toArray, List.map_cons, List.map_nil]); first | done | rfl | (simp only [List.length_drop, List.length_take]; rfl)) ?_; (with_reducible refine (masterdiscref33_Count.calls ((rd_T46 l0 x7_2).f1) t558 _ A18.out).mono ?_); rintro e w' ⟨rfl, ⟨nd, rfl⟩⟩; refine ⟨_, rfl, ?_⟩))
                    go_roundg k2
                    case measure => have := HJ4.out; have := HK2.out; omega
                    case rel => exact ⟨(wrap64 (x1_2 - t558)), (wrap64 (x7_2 + 1)), (by first | rfl | (simp; done) | (simp [*]; done)), (by first | rfl | (simp; done) | (simp [*]; done)), H', ⟨by have := HJ4.out; have := HK2.out; omega⟩, ⟨by (with_reducible repeat (first | refine blk_drewN ?_ _ | refine blk_drew ?_ | refine blk_alloc ?_ _)); exact BK551.out⟩, ⟨by repeat (first | (with_reducible first | exact HB.out | apply below_alloc | apply pw_below_drewN | apply below_drew1 | refine below_set ?_ GE551.out) | exact HB.out)⟩⟩
                  · rw [if_neg c17] at H
                    have c17b0 : decide (t556 ≤ x1_2) = false := decide_eq_false c17
                    clear c17
                    simp only [Option.some.injEq, Prod.mk.injEq] at H
                    obtain ⟨rfl, rfl, rfl, rfl⟩ := H
                    have p555 : 0 ≤ (x7_2 : Int) := of_decide_eq_true (by first | (with_reducible assumption) | assumption)
                    have q555 : x7_2 < (l0.length : Int) := of_decide_eq_true (by first | (with_reducible assumption) | assumption)
                    obtain ⟨ad555, e555, hx555_0, hx555_1, hx555_2, hx555_3⟩ := at_T46 HR0.out x7_2 p555 q555
                    cases e555
                    replace hx555_0 := (HB.out.cell (World.block_lt_of_cell? w _ hx555_0)).trans hx555_0
                    replace hx555_1 := (HB.out.cell (World.block_lt_of_cell? w _ hx555_1)).trans hx555_1
                    replace hx555_2 := (HB.out.cell (World.block_lt_of_cell? w _ hx555_2)).trans hx555_2
                    replace hx555_3 := (HB.out.cell (World.block_lt_of_cell? w _ hx555_3)).trans hx555_3
                    replace p555 := eq_true p555
                    replace q555 := eq_true q555
                    try go_wp2_with (first | ((with_reducible refine gate_callee (f := 120) rfl ?_); refine goesL_ (some 28) rfl rfl Try.func120 (by kernel_rfl) rfl #[.int .i64 ((rd_T46 l0 x7_2).f1)] rfl (by (try simp only [List.map_toArray, List.map_cons, List.map_nil]); first | done | rfl | (simp only [List.length_drop, List.length_take]; rfl)) ?_; (with_reducible refine (masterdiscref33_Count.calls ((rd_T46 l0 x7_2).f1) t556 _ A16.out).mono ?_); rintro e w' ⟨rfl, ⟨nd, rfl⟩⟩; refine ⟨_, rfl, ?_⟩; (try (rw [drewN_self wr]; generalize hq_ : World.drewN wr _ = wr; have n0_ : Aside0 (wr.heap[gb551]? = some (.cells #[.int .i64 0, .int .i64 0] 44 (0, 0))) := ⟨by rw [← hq_]; exact (by (with_reducible repeat (first | refine blk_drewN ?_ _ | refine blk_drew ?_ | refine blk_alloc ?_ _)); exact BK551.out)⟩; have n1_ : Aside0 (Below w.heap.size w wr) := ⟨by rw [← hq_]; exact (by repeat (first | (with_reducible first | exact HB.out | apply below_alloc | apply pw_below_drewN | apply below_drew1 | refine below_set ?_ GE551.out) | exact HB.out))⟩; clear BK551 HB hq_; have BK551 := n0_; have HB := n1_; clear n0_ n1_))))
                    have n0_ := Aside0.mk (blk_drew BK551.out)
                    have n1_ := Aside0.mk (below_drew1 HB.out)
                    clear BK551
                    clear HB
                    have BK551 := n0_
                    have HB := n1_
                    clear n0_ n1_
                    have p559 : 0 ≤ (x7_2 : Int) := of_decide_eq_true (by first | (with_reducible assumption) | assumption)
                    have q559 : x7_2 < (l0.length : Int) := of_decide_eq_true (by first | (with_reducible assumption) | assumption)
                    obtain ⟨ad559, e559, hx559_0, hx559_1, hx559_2, hx559_3⟩ := at_T46 HR0.out x7_2 p559 q559
                    have hw559_3 := hx559_3
                    have hw559_2 := hx559_2
                    have hw559_1 := hx559_1
                    have hw559_0 := hx559_0
                    obtain rfl : ad555 = ad559 := (by injection e559)
                    replace hx559_0 := (HB.out.cell (World.block_lt_of_cell? w _ hx559_0)).trans hx559_0
                    replace hx559_1 := (HB.out.cell (World.block_lt_of_cell? w _ hx559_1)).trans hx559_1
                    replace hx559_2 := (HB.out.cell (World.block_lt_of_cell? w _ hx559_2)).trans hx559_2
                    replace hx559_3 := (HB.out.cell (World.block_lt_of_cell? w _ hx559_3)).trans hx559_3
                    replace p559 := eq_true p559
                    replace q559 := eq_true q559
                    have p560 : 0 ≤ (x7_2 : Int) := of_decide_eq_true (by first | (with_reducible assumption) | assumption)
                    have q560 : x7_2 < (l0.length : Int) := of_decide_eq_true (by first | (with_reducible assumption) | assumption)
                    obtain ⟨ad560, e560, hx560_0, hx560_1, hx560_2, hx560_3⟩ := at_T46 HR0.out x7_2 p560 q560
                    have hw560_3 := hx560_3
                    have hw560_2 := hx560_2
                    have hw560_1 := hx560_1
                    have hw560_0 := hx560_0
                    obtain rfl : ad555 = ad560 := (by injection e560)
                    replace hx560_0 := (HB.out.cell (World.block_lt_of_cell? w _ hx560_0)).trans hx560_0
                    replace hx560_1 := (HB.out.cell (World.block_lt_of_cell? w _ hx560_1)).trans hx560_1
                    replace hx560_2 := (HB.out.cell (World.block_lt_of_cell? w _ hx560_2)).trans hx560_2
                    replace hx560_3 := (HB.out.cell (World.block_lt_of_cell? w _ hx560_3)).trans hx560_3
                    replace p560 := eq_true p560
                    replace q560 := eq_true q560
                    have p561 : 0 ≤ (x7_2 : Int) := of_decide_eq_true (by first | (with_reducible assumption) | assumption)
                    have q561 : x7_2 < (l0.length : Int) := of_decide_eq_true (by first | (with_reducible assumption) | assumption)
                    obtain ⟨ad561, e561, hx561_0, hx561_1, hx561_2, hx561_3⟩ := at_T46 HR0.out x7_2 p561 q561
                    have hw561_3 := hx561_3
                    have hw561_2 := hx561_2
                    have hw561_1 := hx561_1
                    have hw561_0 := hx561_0
                    obtain rfl : ad555 = ad561 := (by injection e561)
                    replace hx561_0 := (HB.out.cell (World.block_lt_of_cell? w _ hx561_0)).trans hx561_0
                    replace hx561_1 := (HB.out.cell (World.block_lt_of_cell? w _ hx561_1)).trans hx561_1
                    replace hx561_2 := (HB.out.cell (World.block_lt_of_cell? w _ hx561_2)).trans hx561_2
                    replace hx561_3 := (HB.out.cell (World.block_lt_of_cell? w _ hx561_3)).trans hx561_3
                    replace p561 := eq_true p561
                    replace q561 := eq_true q561
                    refine start_ (n := 23) (S := fun w' => w'.cell? (ad555.add ((x7_2).toNat * 4)) = some (.int .i64 ((rd_T46 l0 x7_2).f0)) ∧ w'.cell? ⟨(ad555.add ((x7_2).toNat * 4)).block, (ad555.add ((x7_2).toNat * 4)).off + 1, none⟩ = some (.int .i64 ((rd_T46 l0 x7_2).f1)) ∧ w'.cell? ⟨(ad555.add ((x7_2).toNat * 4)).block, (ad555.add ((x7_2).toNat * 4)).off + 2, none⟩ = some (.int .i64 ((rd_T46 l0 x7_2).f2.f0)) ∧ w'.cell? ⟨(ad555.add ((x7_2).toNat * 4)).block, (ad555.add ((x7_2).toNat * 4)).off + 3, none⟩ = some (.int .i64 ((rd_T46 l0 x7_2).f2.f1)) ∧ w'.cell? (ad555.add ((x7_2).toNat * 4)) = some (.int .i64 ((rd_T46 l0 x7_2).f0)) ∧ w'.cell? ⟨(ad555.add ((x7_2).toNat * 4)).block, (ad555.add ((x7_2).toNat * 4)).off + 1, none⟩ = some (.int .i64 ((rd_T46 l0 x7_2).f1)) ∧ w'.cell? ⟨(ad555.add ((x7_2).toNat * 4)).block, (ad555.add ((x7_2).toNat * 4)).off + 2, none⟩ = some (.int .i64 ((rd_T46 l0 x7_2).f2.f0)) ∧ w'.cell? ⟨(ad555.add ((x7_2).toNat * 4)).block, (ad555.add ((x7_2).toNat * 4)).off + 3, none⟩ = some (.int .i64 ((rd_T46 l0 x7_2).f2.f1)) ∧ w'.cell? (ad555.add ((x7_2).toNat * 4)) = some (.int .i64 ((rd_T46 l0 x7_2).f0)) ∧ w'.cell? ⟨(ad555.add ((x7_2).toNat * 4)).block, (ad555.add ((x7_2).toNat * 4)).off + 1, none⟩ = some (.int .i64 ((rd_T46 l0 x7_2).f1)) ∧ w'.cell? ⟨(ad555.add ((x7_2).toNat * 4)).block, (ad555.add ((x7_2).toNat * 4)).off + 2, none⟩ = some (.int .i64 ((rd_T46 l0 x7_2).f2.f0)) ∧ w'.cell? ⟨(ad555.add ((x7_2).toNat * 4)).block, (ad555.add ((x7_2).toNat * 4)).off + 3, none⟩ = some (.int .i64 ((rd_T46 l0 x7_2).f2.f1))) (ds := []) #[false, false, false, false, false, false, false, false, false, false, false, false, false, false, false, false, false, false, false, false, false, false, false] (by kernel_rfl) rfl rfl ⟨((HB.out.cell (World.block_lt_of_cell? w _ hw559_0)).trans hw559_0), ((HB.out.cell (World.block_lt_of_cell? w _ hw559_1)).trans hw559_1), ((HB.out.cell (World.block_lt_of_cell? w _ hw559_2)).trans hw559_2), ((HB.out.cell (World.block_lt_of_cell? w _ hw559_3)).trans hw559_3), ((HB.out.cell (World.block_lt_of_cell? w _ hw560_0)).trans hw560_0), ((HB.out.cell (World.block_lt_of_cell? w _ hw560_1)).trans hw560_1), ((HB.out.cell (World.block_lt_of_cell? w _ hw560_2)).trans hw560_2), ((HB.out.cell (World.block_lt_of_cell? w _ hw560_3)).trans hw560_3), ((HB.out.cell (World.block_lt_of_cell? w _ hw561_0)).trans hw561_0), ((HB.out.cell (World.block_lt_of_cell? w _ hw561_1)).trans hw561_1), ((HB.out.cell (World.block_lt_of_cell? w _ hw561_2)).trans hw561_2), ((HB.out.cell (World.block_lt_of_cell? w _ hw561_3)).trans hw561_3)⟩ (fun hHeld => ?_); refine with_tabW masterdiscref33_Locate.tab9 masterdiscref33_Locate.bits9 (fun HT_ HW_ => ?_)
                    generalize wr.drew = w19 at BK551 HB hx559_0 hx559_1 hx559_2 hx559_3 hx560_0 hx560_1 hx560_2 hx560_3 hx561_0 hx561_1 hx561_2 hx561_3 hHeld ⊢
                    refine pure_ (i := 0) (N := some 40) (v := ?_) (a' := ?_) #[true, false, false, false, false, false, false, false, false, false, false, false, false, false, false, false, false, false, false, false, false, false, false] rfl rfl (any_of HT_.out (by kernel_rfl)) (fun _ _ _ h => h) (Or.inl ⟨by rfl, ?_⟩) ?_ ?_
                    rotate_left
                    · intro w'
                      go_simp
                      with_reducible rfl
                    rotate_left
                    · simp only [Act.put, List.setIfInBounds_toArray, List.set_cons_zero, List.set_cons_succ, i64_w, i32_w]
                      rfl
                    refine pure_ (i := 1) (N := some 41) (v := ?_) (a' := ?_) #[true, true, false, false, false, false, false, false, false, false, false, false, false, false, false, false, false, false, false, false, false, false, false] rfl rfl (any_of HT_.out (by kernel_rfl)) (fun _ _ _ h => h) (Or.inl ⟨by rfl, ?_⟩) ?_ ?_
                    rotate_left
                    · intro w'
                      go_simp
                      with_reducible rfl
                    rotate_left
                    · simp only [Act.put, List.setIfInBounds_toArray, List.set_cons_zero, List.set_cons_succ, i64_w, i32_w]
                      rfl
                    refine pure_ (i := 2) (N := some 42) (v := ?_) (a' := ?_) #[true, true, true, false, false, false, false, false, false, false, false, false, false, false, false, false, false, false, false, false, false, false, false] rfl rfl (any_of HT_.out (by kernel_rfl)) (fun _ _ _ h => h) (Or.inl ⟨by rfl, ?_⟩) ?_ ?_
                    rotate_left
                    · intro w'
                      go_simp
                      with_reducible rfl
                    rotate_left
                    · simp only [Act.put, List.setIfInBounds_toArray, List.set_cons_zero, List.set_cons_succ, i64_w, i32_w]
                      rfl
                    refine pure_ (i := 3) (N := some 43) (v := ?_) (a' := ?_) #[true, true, true, true, false, false, false, false, false, false, false, false, false, false, false, false, false, false, false, false, false, false, false] rfl rfl (any_of HT_.out (by kernel_rfl)) (fun _ _ _ h => h) (Or.inl ⟨by rfl, ?_⟩) ?_ ?_
                    rotate_left
                    · intro w'
                      go_simp
                      with_reducible rfl
                    rotate_left
                    · simp only [Act.put, List.setIfInBounds_toArray, List.set_cons_zero, List.set_cons_succ, i64_w, i32_w]
                      rfl
                    refine pure_ (i := 4) (N := some 44) (v := ?_) (a' := ?_) #[true, true, true, true, true, false, false, false, false, false, false, false, false, false, false, false, false, false, false, false, false, false, false] rfl rfl (any_of HT_.out (by kernel_rfl)) (fun _ _ _ h => h) (Or.inl ⟨by rfl, ?_⟩) ?_ ?_
                    rotate_left
                    · intro w'
                      go_simp
                      with_reducible rfl
                    rotate_left
                    · simp only [Act.put, List.setIfInBounds_toArray, List.set_cons_zero, List.set_cons_succ, i64_w, i32_w]
                      rfl
                    refine pure_ (i := 6) (N := some 46) (v := ?_) (a' := ?_) #[true, true, true, true, true, false, true, false, false, false, false, false, false, false, false, false, false, false, false, false, false, false, false] rfl rfl (any_of HT_.out (by kernel_rfl)) (fun _ _ _ h => h) (Or.inl ⟨by rfl, ?_⟩) ?_ ?_
                    rotate_left
                    · intro w'
                      go_simp
                      with_reducible rfl
                    rotate_left
                    · simp only [Act.put, List.setIfInBounds_toArray, List.set_cons_zero, List.set_cons_succ, i64_w, i32_w]
                      rfl
                    refine pure_ (i := 8) (N := some 48) (v := ?_) (a' := ?_) #[true, true, true, true, true, false, true, false, true, false, false, false, false, false, false, false, false, false, false, false, false, false, false] rfl rfl (any_of HT_.out (by kernel_rfl)) (fun _ _ _ h => h) (Or.inl ⟨by rfl, ?_⟩) ?_ ?_
                    rotate_left
                    · intro w'
                      go_simp
                      with_reducible rfl
                    rotate_left
                    · simp only [Act.put, List.setIfInBounds_toArray, List.set_cons_zero, List.set_cons_succ, i64_w, i32_w]
                      rfl
                    refine pure_ (i := 9) (N := some 49) (v := ?_) (a' := ?_) #[true, true, true, true, true, false, true, false, true, true, false, false, false, false, false, false, false, false, false, false, false, false, false] rfl rfl (any_of HT_.out (by kernel_rfl)) (fun _ _ _ h => h) (Or.inl ⟨by rfl, ?_⟩) ?_ ?_
                    rotate_left
                    · intro w'
                      go_simp
                      with_reducible rfl
                    rotate_left
                    · simp only [Act.put, List.setIfInBounds_toArray, List.set_cons_zero, List.set_cons_succ, i64_w, i32_w]
                      rfl
                    refine pure_ (i := 10) (N := some 50) (v := ?_) (a' := ?_) #[true, true, true, true, true, false, true, false, true, true, true, false, false, false, false, false, false, false, false, false, false, false, false] rfl rfl (any_of HT_.out (by kernel_rfl)) (fun _ _ _ h => h) (Or.inl ⟨by rfl, ?_⟩) ?_ ?_
                    rotate_left
                    · intro w'
                      go_simp
                      with_reducible rfl
                    rotate_left
                    · simp only [Act.put, List.setIfInBounds_toArray, List.set_cons_zero, List.set_cons_succ, i64_w, i32_w]
                      rfl
                    refine pure_ (i := 11) (N := some 51) (v := ?_) (a' := ?_) #[true, true, true, true, true, false, true, false, true, true, true, true, false, false, false, false, false, false, false, false, false, false, false] rfl rfl (any_of HT_.out (by kernel_rfl)) (fun _ _ _ h => h) (Or.inl ⟨by rfl, ?_⟩) ?_ ?_
                    rotate_left
                    · intro w'
                      go_simp
                      with_reducible rfl
                    rotate_left
                    · simp only [Act.put, List.setIfInBounds_toArray, List.set_cons_zero, List.set_cons_succ, i64_w, i32_w]
                      rfl
                    refine pure_ (i := 12) (N := some 52) (v := ?_) (a' := ?_) #[true, true, true, true, true, false, true, false, true, true, true, true, true, false, false, false, false, false, false, false, false, false, false] rfl rfl (any_of HT_.out (by kernel_rfl)) (fun _ _ _ h => h) (Or.inl ⟨by rfl, ?_⟩) ?_ ?_
                    rotate_left
                    · intro w'
                      go_simp
                      with_reducible rfl
                    rotate_left
                    · simp only [Act.put, List.setIfInBounds_toArray, List.set_cons_zero, List.set_cons_succ, i64_w, i32_w]
                      rfl
                    refine pure_ (i := 15) (N := some 55) (v := ?_) (a' := ?_) #[true, true, true, true, true, false, true, false, true, true, true, true, true, false, false, true, false, false, false, false, false, false, false] rfl rfl (any_of HT_.out (by kernel_rfl)) (fun _ _ _ h => h) (Or.inl ⟨by rfl, ?_⟩) ?_ ?_
                    rotate_left
                    · intro w'
                      go_simp
                      with_reducible rfl
                    rotate_left
                    · simp only [Act.put, List.setIfInBounds_toArray, List.set_cons_zero, List.set_cons_succ, i64_w, i32_w]
                      rfl
                    refine pure_ (i := 16) (N := some 56) (v := ?_) (a' := ?_) #[true, true, true, true, true, false, true, false, true, true, true, true, true, false, false, true, true, false, false, false, false, false, false] rfl rfl (any_of HT_.out (by kernel_rfl)) (fun _ _ _ h => h) (Or.inl ⟨by rfl, ?_⟩) ?_ ?_
                    rotate_left
                    · intro w'
                      go_simp
                      with_reducible rfl
                    rotate_left
                    · simp only [Act.put, List.setIfInBounds_toArray, List.set_cons_zero, List.set_cons_succ, i64_w, i32_w]
                      rfl
                    refine pure_ (i := 17) (N := some 57) (v := ?_) (a' := ?_) #[true, true, true, true, true, false, true, false, true, true, true, true, true, false, false, true, true, true, false, false, false, false, false] rfl rfl (any_of HT_.out (by kernel_rfl)) (fun _ _ _ h => h) (Or.inl ⟨by rfl, ?_⟩) ?_ ?_
                    rotate_left
                    · intro w'
                      go_simp
                      with_reducible rfl
                    rotate_left
                    · simp only [Act.put, List.setIfInBounds_toArray, List.set_cons_zero, List.set_cons_succ, i64_w, i32_w]
                      rfl
                    refine pure_ (i := 18) (N := some 58) (v := ?_) (a' := ?_) #[true, true, true, true, true, false, true, false, true, true, true, true, true, false, false, true, true, true, true, false, false, false, false] rfl rfl (any_of HT_.out (by kernel_rfl)) (fun _ _ _ h => h) (Or.inl ⟨by rfl, ?_⟩) ?_ ?_
                    rotate_left
                    · intro w'
                      go_simp
                      with_reducible rfl
                    rotate_left
                    · simp only [Act.put, List.setIfInBounds_toArray, List.set_cons_zero, List.set_cons_succ, i64_w, i32_w]
                      rfl
                    refine take_ (i := 5) (N := some 45) (v := ?_) (a' := ?_) #[true, true, true, true, true, true, true, false, true, true, true, true, true, false, false, true, true, true, true, false, false, false, false] rfl rfl (take_ofW HT_.out HW_.out (by kernel_rfl)) (fun _ _ _ h => h) (Or.inl ⟨by rfl, ?_⟩) hHeld ?_ ?_
                    rotate_left
                    · rintro w' ⟨s0, s1, s2, s3, s4, s5, s6, s7, s8, s9, s10, s11⟩
                      go_simp
                      with_reducible rfl
                    rotate_left
                    · simp only [Act.put, List.setIfInBounds_toArray, List.set_cons_zero, List.set_cons_succ, i64_w, i32_w]
                      rfl
                    refine pure_ (i := 7) (N := some 47) (v := ?_) (a' := ?_) #[true, true, true, true, true, true, true, true, true, true, true, true, true, false, false, true, true, true, true, false, false, false, false] rfl rfl (any_of HT_.out (by kernel_rfl)) (fun _ _ _ h => h) (Or.inl ⟨by rfl, ?_⟩) ?_ ?_
                    rotate_left
                    · intro w'
                      go_simp
                      with_reducible rfl
                    rotate_left
                    · simp only [Act.put, List.setIfInBounds_toArray, List.set_cons_zero, List.set_cons_succ, i64_w, i32_w]
                      rfl
                    refine take_ (i := 13) (N := some 53) (v := ?_) (a' := ?_) #[true, true, true, true, true, true, true, true, true, true, true, true, true, true, false, true, true, true, true, false, false, false, false] rfl rfl (take_ofW HT_.out HW_.out (by kernel_rfl)) (fun _ _ _ h => h) (Or.inl ⟨by rfl, ?_⟩) hHeld ?_ ?_
                    rotate_left
                    · rintro w' ⟨s0, s1, s2, s3, s4, s5, s6, s7, s8, s9, s10, s11⟩
                      go_simp
                      with_reducible rfl
                    rotate_left
                    · simp only [Act.put, List.setIfInBounds_toArray, List.set_cons_zero, List.set_cons_succ, i64_w, i32_w]
                      rfl
                    refine pure_ (i := 14) (N := some 54) (v := ?_) (a' := ?_) #[true, true, true, true, true, true, true, true, true, true, true, true, true, true, true, true, true, true, true, false, false, false, false] rfl rfl (any_of HT_.out (by kernel_rfl)) (fun _ _ _ h => h) (Or.inl ⟨by rfl, ?_⟩) ?_ ?_
                    rotate_left
                    · intro w'
                      go_simp
                      with_reducible rfl
                    rotate_left
                    · simp only [Act.put, List.setIfInBounds_toArray, List.set_cons_zero, List.set_cons_succ, i64_w, i32_w]
                      rfl
                    refine take_ (i := 19) (N := some 59) (v := ?_) (a' := ?_) #[true, true, true, true, true, true, true, true, true, true, true, true, true, true, true, true, true, true, true, true, false, false, false] rfl rfl (take_ofW HT_.out HW_.out (by kernel_rfl)) (fun _ _ _ h => h) (Or.inl ⟨by rfl, ?_⟩) hHeld ?_ ?_
                    rotate_left
                    · rintro w' ⟨s0, s1, s2, s3, s4, s5, s6, s7, s8, s9, s10, s11⟩
                      go_simp
                      with_reducible rfl
                    rotate_left
                    · simp only [Act.put, List.setIfInBounds_toArray, List.set_cons_zero, List.set_cons_succ, i64_w, i32_w]
                      rfl
                    refine one_ (i := 20) (N := none) #[true, true, true, true, true, true, true, true, true, true, true, true, true, true, true, true, true, true, true, true, true, false, false] rfl rfl (one_of HT_.out (by kernel_rfl)) (by decide) (fun K hK => ?_)
                    have hs20 : w19.cell? ⟨gb551, 0, none⟩ = some (.int .i64 0) := (blk_cell BK551.out 0).trans rfl
                    have hfs20 := blk_frozen BK551.out 0
                    have hs21 : w19.cell? ⟨gb551, 1, none⟩ = some (.int .i64 0) := (blk_cell BK551.out 1).trans rfl
                    have hfs21 := blk_frozen BK551.out 1
                    refine skip_ (w1 := ?_) (by rfl) rfl ?_ ?_
                    rotate_left
                    · go_simp
                      rfl
                    refine hK.out _ _ ⟨((cell_far (p := ⟨gb551, _, none⟩) (by first | exact Nat.ne_of_lt (Nat.lt_of_lt_of_le (by have := World.block_lt_of_cell? _ _ hw559_0; first | rwa [add_block] at this | exact this) GW551.out) | (rw [add_block]; exact Nat.ne_of_lt (Nat.lt_of_lt_of_le (by have := World.block_lt_of_cell? _ _ hw559_0; first | rwa [add_block] at this | exact this) GW551.out)) | (show (Addr.add _ _).block ≠ _; rw [add_block]; exact Nat.ne_of_lt (Nat.lt_of_lt_of_le (by have := World.block_lt_of_cell? _ _ hw559_0; first | rwa [add_block] at this | exact this) GW551.out)) | (dsimp only; exact Nat.ne_of_lt (Nat.lt_of_lt_of_le (by have := World.block_lt_of_cell? _ _ hw559_0; first | rwa [add_block] at this | exact this) GW551.out))) _).trans (((cell_far (p := ⟨gb551, _, none⟩) (by first | exact Nat.ne_of_lt (Nat.lt_of_lt_of_le (by have := World.block_lt_of_cell? _ _ hw559_0; first | rwa [add_block] at this | exact this) GW551.out) | (rw [add_block]; exact Nat.ne_of_lt (Nat.lt_of_lt_of_le (by have := World.block_lt_of_cell? _ _ hw559_0; first | rwa [add_block] at this | exact this) GW551.out)) | (show (Addr.add _ _).block ≠ _; rw [add_block]; exact Nat.ne_of_lt (Nat.lt_of_lt_of_le (by have := World.block_lt_of_cell? _ _ hw559_0; first | rwa [add_block] at this | exact this) GW551.out)) | (dsimp only; exact Nat.ne_of_lt (Nat.lt_of_lt_of_le (by have := World.block_lt_of_cell? _ _ hw559_0; first | rwa [add_block] at this | exact this) GW551.out))) _).trans (hHeld.1)))), ((cell_far (p := ⟨gb551, _, none⟩) (by first | exact Nat.ne_of_lt (Nat.lt_of_lt_of_le (by have := World.block_lt_of_cell? _ _ hw559_1; first | rwa [add_block] at this | exact this) GW551.out) | (rw [add_block]; exact Nat.ne_of_lt (Nat.lt_of_lt_of_le (by have := World.block_lt_of_cell? _ _ hw559_1; first | rwa [add_block] at this | exact this) GW551.out)) | (show (Addr.add _ _).block ≠ _; rw [add_block]; exact Nat.ne_of_lt (Nat.lt_of_lt_of_le (by have := World.block_lt_of_cell? _ _ hw559_1; first | rwa [add_block] at this | exact this) GW551.out)) | (dsimp only; exact Nat.ne_of_lt (Nat.lt_of_lt_of_le (by have := World.block_lt_of_cell? _ _ hw559_1; first | rwa [add_block] at this | exact this) GW551.out))) _).trans (((cell_far (p := ⟨gb551, _, none⟩) (by first | exact Nat.ne_of_lt (Nat.lt_of_lt_of_le (by have := World.block_lt_of_cell? _ _ hw559_1; first | rwa [add_block] at this | exact this) GW551.out) | (rw [add_block]; exact Nat.ne_of_lt (Nat.lt_of_lt_of_le (by have := World.block_lt_of_cell? _ _ hw559_1; first | rwa [add_block] at this | exact this) GW551.out)) | (show (Addr.add _ _).block ≠ _; rw [add_block]; exact Nat.ne_of_lt (Nat.lt_of_lt_of_le (by have := World.block_lt_of_cell? _ _ hw559_1; first | rwa [add_block] at this | exact this) GW551.out)) | (dsimp only; exact Nat.ne_of_lt (Nat.lt_of_lt_of_le (by have := World.block_lt_of_cell? _ _ hw559_1; first | rwa [add_block] at this | exact this) GW551.out))) _).trans (hHeld.2.1)))), ((cell_far (p := ⟨gb551, _, none⟩) (by first | exact Nat.ne_of_lt (Nat.lt_of_lt_of_le (by have := World.block_lt_of_cell? _ _ hw559_2; first | rwa [add_block] at this | exact this) GW551.out) | (rw [add_block]; exact Nat.ne_of_lt (Nat.lt_of_lt_of_le (by have := World.block_lt_of_cell? _ _ hw559_2; first | rwa [add_block] at this | exact this) GW551.out)) | (show (Addr.add _ _).block ≠ _; rw [add_block]; exact Nat.ne_of_lt (Nat.lt_of_lt_of_le (by have := World.block_lt_of_cell? _ _ hw559_2; first | rwa [add_block] at this | exact this) GW551.out)) | (dsimp only; exact Nat.ne_of_lt (Nat.lt_of_lt_of_le (by have := World.block_lt_of_cell? _ _ hw559_2; first | rwa [add_block] at this | exact this) GW551.out))) _).trans (((cell_far (p := ⟨gb551, _, none⟩) (by first | exact Nat.ne_of_lt (Nat.lt_of_lt_of_le (by have := World.block_lt_of_cell? _ _ hw559_2; first | rwa [add_block] at this | exact this) GW551.out) | (rw [add_block]; exact Nat.ne_of_lt (Nat.lt_of_lt_of_le (by have := World.block_lt_of_cell? _ _ hw559_2; first | rwa [add_block] at this | exact this) GW551.out)) | (show (Addr.add _ _).block ≠ _; rw [add_block]; exact Nat.ne_of_lt (Nat.lt_of_lt_of_le (by have := World.block_lt_of_cell? _ _ hw559_2; first | rwa [add_block] at this | exact this) GW551.out)) | (dsimp only; exact Nat.ne_of_lt (Nat.lt_of_lt_of_le (by have := World.block_lt_of_cell? _ _ hw559_2; first | rwa [add_block] at this | exact this) GW551.out))) _).trans (hHeld.2.2.1)))), ((cell_far (p := ⟨gb551, _, none⟩) (by first | exact Nat.ne_of_lt (Nat.lt_of_lt_of_le (by have := World.block_lt_of_cell? _ _ hw559_3; first | rwa [add_block] at this | exact this) GW551.out) | (rw [add_block]; exact Nat.ne_of_lt (Nat.lt_of_lt_of_le (by have := World.block_lt_of_cell? _ _ hw559_3; first | rwa [add_block] at this | exact this) GW551.out)) | (show (Addr.add _ _).block ≠ _; rw [add_block]; exact Nat.ne_of_lt (Nat.lt_of_lt_of_le (by have := World.block_lt_of_cell? _ _ hw559_3; first | rwa [add_block] at this | exact this) GW551.out)) | (dsimp only; exact Nat.ne_of_lt (Nat.lt_of_lt_of_le (by have := World.block_lt_of_cell? _ _ hw559_3; first | rwa [add_block] at this | exact this) GW551.out))) _).trans (((cell_far (p := ⟨gb551, _, none⟩) (by first | exact Nat.ne_of_lt (Nat.lt_of_lt_of_le (by have := World.block_lt_of_cell? _ _ hw559_3; first | rwa [add_block] at this | exact this) GW551.out) | (rw [add_block]; exact Nat.ne_of_lt (Nat.lt_of_lt_of_le (by have := World.block_lt_of_cell? _ _ hw559_3; first | rwa [add_block] at this | exact this) GW551.out)) | (show (Addr.add _ _).block ≠ _; rw [add_block]; exact Nat.ne_of_lt (Nat.lt_of_lt_of_le (by have := World.block_lt_of_cell? _ _ hw559_3; first | rwa [add_block] at this | exact this) GW551.out)) | (dsimp only; exact Nat.ne_of_lt (Nat.lt_of_lt_of_le (by have := World.block_lt_of_cell? _ _ hw559_3; first | rwa [add_block] at this | exact this) GW551.out))) _).trans (hHeld.2.2.2.1)))), ((cell_far (p := ⟨gb551, _, none⟩) (by first | exact Nat.ne_of_lt (Nat.lt_of_lt_of_le (by have := World.block_lt_of_cell? _ _ hw560_0; first | rwa [add_block] at this | exact this) GW551.out) | (rw [add_block]; exact Nat.ne_of_lt (Nat.lt_of_lt_of_le (by have := World.block_lt_of_cell? _ _ hw560_0; first | rwa [add_block] at this | exact this) GW551.out)) | (show (Addr.add _ _).block ≠ _; rw [add_block]; exact Nat.ne_of_lt (Nat.lt_of_lt_of_le (by have := World.block_lt_of_cell? _ _ hw560_0; first | rwa [add_block] at this | exact this) GW551.out)) | (dsimp only; exact Nat.ne_of_lt (Nat.lt_of_lt_of_le (by have := World.block_lt_of_cell? _ _ hw560_0; first | rwa [add_block] at this | exact this) GW551.out))) _).trans (((cell_far (p := ⟨gb551, _, none⟩) (by first | exact Nat.ne_of_lt (Nat.lt_of_lt_of_le (by have := World.block_lt_of_cell? _ _ hw560_0; first | rwa [add_block] at this | exact this) GW551.out) | (rw [add_block]; exact Nat.ne_of_lt (Nat.lt_of_lt_of_le (by have := World.block_lt_of_cell? _ _ hw560_0; first | rwa [add_block] at this | exact this) GW551.out)) | (show (Addr.add _ _).block ≠ _; rw [add_block]; exact Nat.ne_of_lt (Nat.lt_of_lt_of_le (by have := World.block_lt_of_cell? _ _ hw560_0; first | rwa [add_block] at this | exact this) GW551.out)) | (dsimp only; exact Nat.ne_of_lt (Nat.lt_of_lt_of_le (by have := World.block_lt_of_cell? _ _ hw560_0; first | rwa [add_block] at this | exact this) GW551.out))) _).trans (hHeld.2.2.2.2.1)))), ((cell_far (p := ⟨gb551, _, none⟩) (by first | exact Nat.ne_of_lt (Nat.lt_of_lt_of_le (by have := World.block_lt_of_cell? _ _ hw560_1; first | rwa [add_block] at this | exact this) GW551.out) | (rw [add_block]; exact Nat.ne_of_lt (Nat.lt_of_lt_of_le (by have := World.block_lt_of_cell? _ _ hw560_1; first | rwa [add_block] at this | exact this) GW551.out)) | (show (Addr.add _ _).block ≠ _; rw [add_block]; exact Nat.ne_of_lt (Nat.lt_of_lt_of_le (by have := World.block_lt_of_cell? _ _ hw560_1; first | rwa [add_block] at this | exact this) GW551.out)) | (dsimp only; exact Nat.ne_of_lt (Nat.lt_of_lt_of_le (by have := World.block_lt_of_cell? _ _ hw560_1; first | rwa [add_block] at this | exact this) GW551.out))) _).trans (((cell_far (p := ⟨gb551, _, none⟩) (by first | exact Nat.ne_of_lt (Nat.lt_of_lt_of_le (by have := World.block_lt_of_cell? _ _ hw560_1; first | rwa [add_block] at this | exact this) GW551.out) | (rw [add_block]; exact Nat.ne_of_lt (Nat.lt_of_lt_of_le (by have := World.block_lt_of_cell? _ _ hw560_1; first | rwa [add_block] at this | exact this) GW551.out)) | (show (Addr.add _ _).block ≠ _; rw [add_block]; exact Nat.ne_of_lt (Nat.lt_of_lt_of_le (by have := World.block_lt_of_cell? _ _ hw560_1; first | rwa [add_block] at this | exact this) GW551.out)) | (dsimp only; exact Nat.ne_of_lt (Nat.lt_of_lt_of_le (by have := World.block_lt_of_cell? _ _ hw560_1; first | rwa [add_block] at this | exact this) GW551.out))) _).trans (hHeld.2.2.2.2.2.1)))), ((cell_far (p := ⟨gb551, _, none⟩) (by first | exact Nat.ne_of_lt (Nat.lt_of_lt_of_le (by have := World.block_lt_of_cell? _ _ hw560_2; first | rwa [add_block] at this | exact this) GW551.out) | (rw [add_block]; exact Nat.ne_of_lt (Nat.lt_of_lt_of_le (by have := World.block_lt_of_cell? _ _ hw560_2; first | rwa [add_block] at this | exact this) GW551.out)) | (show (Addr.add _ _).block ≠ _; rw [add_block]; exact Nat.ne_of_lt (Nat.lt_of_lt_of_le (by have := World.block_lt_of_cell? _ _ hw560_2; first | rwa [add_block] at this | exact this) GW551.out)) | (dsimp only; exact Nat.ne_of_lt (Nat.lt_of_lt_of_le (by have := World.block_lt_of_cell? _ _ hw560_2; first | rwa [add_block] at this | exact this) GW551.out))) _).trans (((cell_far (p := ⟨gb551, _, none⟩) (by first | exact Nat.ne_of_lt (Nat.lt_of_lt_of_le (by have := World.block_lt_of_cell? _ _ hw560_2; first | rwa [add_block] at this | exact this) GW551.out) | (rw [add_block]; exact Nat.ne_of_lt (Nat.lt_of_lt_of_le (by have := World.block_lt_of_cell? _ _ hw560_2; first | rwa [add_block] at this | exact this) GW551.out)) | (show (Addr.add _ _).block ≠ _; rw [add_block]; exact Nat.ne_of_lt (Nat.lt_of_lt_of_le (by have := World.block_lt_of_cell? _ _ hw560_2; first | rwa [add_block] at this | exact this) GW551.out)) | (dsimp only; exact Nat.ne_of_lt (Nat.lt_of_lt_of_le (by have := World.block_lt_of_cell? _ _ hw560_2; first | rwa [add_block] at this | exact this) GW551.out))) _).trans (hHeld.2.2.2.2.2.2.1)))), ((cell_far (p := ⟨gb551, _, none⟩) (by first | exact Nat.ne_of_lt (Nat.lt_of_lt_of_le (by have := World.block_lt_of_cell? _ _ hw560_3; first | rwa [add_block] at this | exact this) GW551.out) | (rw [add_block]; exact Nat.ne_of_lt (Nat.lt_of_lt_of_le (by have := World.block_lt_of_cell? _ _ hw560_3; first | rwa [add_block] at this | exact this) GW551.out)) | (show (Addr.add _ _).block ≠ _; rw [add_block]; exact Nat.ne_of_lt (Nat.lt_of_lt_of_le (by have := World.block_lt_of_cell? _ _ hw560_3; first | rwa [add_block] at this | exact this) GW551.out)) | (dsimp only; exact Nat.ne_of_lt (Nat.lt_of_lt_of_le (by have := World.block_lt_of_cell? _ _ hw560_3; first | rwa [add_block] at this | exact this) GW551.out))) _).trans (((cell_far (p := ⟨gb551, _, none⟩) (by first | exact Nat.ne_of_lt (Nat.lt_of_lt_of_le (by have := World.block_lt_of_cell? _ _ hw560_3; first | rwa [add_block] at this | exact this) GW551.out) | (rw [add_block]; exact Nat.ne_of_lt (Nat.lt_of_lt_of_le (by have := World.block_lt_of_cell? _ _ hw560_3; first | rwa [add_block] at this | exact this) GW551.out)) | (show (Addr.add _ _).block ≠ _; rw [add_block]; exact Nat.ne_of_lt (Nat.lt_of_lt_of_le (by have := World.block_lt_of_cell? _ _ hw560_3; first | rwa [add_block] at this | exact this) GW551.out)) | (dsimp only; exact Nat.ne_of_lt (Nat.lt_of_lt_of_le (by have := World.block_lt_of_cell? _ _ hw560_3; first | rwa [add_block] at this | exact this) GW551.out))) _).trans (hHeld.2.2.2.2.2.2.2.1)))), ((cell_far (p := ⟨gb551, _, none⟩) (by first | exact Nat.ne_of_lt (Nat.lt_of_lt_of_le (by have := World.block_lt_of_cell? _ _ hw561_0; first | rwa [add_block] at this | exact this) GW551.out) | (rw [add_block]; exact Nat.ne_of_lt (Nat.lt_of_lt_of_le (by have := World.block_lt_of_cell? _ _ hw561_0; first | rwa [add_block] at this | exact this) GW551.out)) | (show (Addr.add _ _).block ≠ _; rw [add_block]; exact Nat.ne_of_lt (Nat.lt_of_lt_of_le (by have := World.block_lt_of_cell? _ _ hw561_0; first | rwa [add_block] at this | exact this) GW551.out)) | (dsimp only; exact Nat.ne_of_lt (Nat.lt_of_lt_of_le (by have := World.block_lt_of_cell? _ _ hw561_0; first | rwa [add_block] at this | exact this) GW551.out))) _).trans (((cell_far (p := ⟨gb551, _, none⟩) (by first | exact Nat.ne_of_lt (Nat.lt_of_lt_of_le (by have := World.block_lt_of_cell? _ _ hw561_0; first | rwa [add_block] at this | exact this) GW551.out) | (rw [add_block]; exact Nat.ne_of_lt (Nat.lt_of_lt_of_le (by have := World.block_lt_of_cell? _ _ hw561_0; first | rwa [add_block] at this | exact this) GW551.out)) | (show (Addr.add _ _).block ≠ _; rw [add_block]; exact Nat.ne_of_lt (Nat.lt_of_lt_of_le (by have := World.block_lt_of_cell? _ _ hw561_0; first | rwa [add_block] at this | exact this) GW551.out)) | (dsimp only; exact Nat.ne_of_lt (Nat.lt_of_lt_of_le (by have := World.block_lt_of_cell? _ _ hw561_0; first | rwa [add_block] at this | exact this) GW551.out))) _).trans (hHeld.2.2.2.2.2.2.2.2.1)))), ((cell_far (p := ⟨gb551, _, none⟩) (by first | exact Nat.ne_of_lt (Nat.lt_of_lt_of_le (by have := World.block_lt_of_cell? _ _ hw561_1; first | rwa [add_block] at this | exact this) GW551.out) | (rw [add_block]; exact Nat.ne_of_lt (Nat.lt_of_lt_of_le (by have := World.block_lt_of_cell? _ _ hw561_1; first | rwa [add_block] at this | exact this) GW551.out)) | (show (Addr.add _ _).block ≠ _; rw [add_block]; exact Nat.ne_of_lt (Nat.lt_of_lt_of_le (by have := World.block_lt_of_cell? _ _ hw561_1; first | rwa [add_block] at this | exact this) GW551.out)) | (dsimp only; exact Nat.ne_of_lt (Nat.lt_of_lt_of_le (by have := World.block_lt_of_cell? _ _ hw561_1; first | rwa [add_block] at this | exact this) GW551.out))) _).trans (((cell_far (p := ⟨gb551, _, none⟩) (by first | exact Nat.ne_of_lt (Nat.lt_of_lt_of_le (by have := World.block_lt_of_cell? _ _ hw561_1; first | rwa [add_block] at this | exact this) GW551.out) | (rw [add_block]; exact Nat.ne_of_lt (Nat.lt_of_lt_of_le (by have := World.block_lt_of_cell? _ _ hw561_1; first | rwa [add_block] at this | exact this) GW551.out)) | (show (Addr.add _ _).block ≠ _; rw [add_block]; exact Nat.ne_of_lt (Nat.lt_of_lt_of_le (by have := World.block_lt_of_cell? _ _ hw561_1; first | rwa [add_block] at this | exact this) GW551.out)) | (dsimp only; exact Nat.ne_of_lt (Nat.lt_of_lt_of_le (by have := World.block_lt_of_cell? _ _ hw561_1; first | rwa [add_block] at this | exact this) GW551.out))) _).trans (hHeld.2.2.2.2.2.2.2.2.2.1)))), ((cell_far (p := ⟨gb551, _, none⟩) (by first | exact Nat.ne_of_lt (Nat.lt_of_lt_of_le (by have := World.block_lt_of_cell? _ _ hw561_2; first | rwa [add_block] at this | exact this) GW551.out) | (rw [add_block]; exact Nat.ne_of_lt (Nat.lt_of_lt_of_le (by have := World.block_lt_of_cell? _ _ hw561_2; first | rwa [add_block] at this | exact this) GW551.out)) | (show (Addr.add _ _).block ≠ _; rw [add_block]; exact Nat.ne_of_lt (Nat.lt_of_lt_of_le (by have := World.block_lt_of_cell? _ _ hw561_2; first | rwa [add_block] at this | exact this) GW551.out)) | (dsimp only; exact Nat.ne_of_lt (Nat.lt_of_lt_of_le (by have := World.block_lt_of_cell? _ _ hw561_2; first | rwa [add_block] at this | exact this) GW551.out))) _).trans (((cell_far (p := ⟨gb551, _, none⟩) (by first | exact Nat.ne_of_lt (Nat.lt_of_lt_of_le (by have := World.block_lt_of_cell? _ _ hw561_2; first | rwa [add_block] at this | exact this) GW551.out) | (rw [add_block]; exact Nat.ne_of_lt (Nat.lt_of_lt_of_le (by have := World.block_lt_of_cell? _ _ hw561_2; first | rwa [add_block] at this | exact this) GW551.out)) | (show (Addr.add _ _).block ≠ _; rw [add_block]; exact Nat.ne_of_lt (Nat.lt_of_lt_of_le (by have := World.block_lt_of_cell? _ _ hw561_2; first | rwa [add_block] at this | exact this) GW551.out)) | (dsimp only; exact Nat.ne_of_lt (Nat.lt_of_lt_of_le (by have := World.block_lt_of_cell? _ _ hw561_2; first | rwa [add_block] at this | exact this) GW551.out))) _).trans (hHeld.2.2.2.2.2.2.2.2.2.2.1)))), ((cell_far (p := ⟨gb551, _, none⟩) (by first | exact Nat.ne_of_lt (Nat.lt_of_lt_of_le (by have := World.block_lt_of_cell? _ _ hw561_3; first | rwa [add_block] at this | exact this) GW551.out) | (rw [add_block]; exact Nat.ne_of_lt (Nat.lt_of_lt_of_le (by have := World.block_lt_of_cell? _ _ hw561_3; first | rwa [add_block] at this | exact this) GW551.out)) | (show (Addr.add _ _).block ≠ _; rw [add_block]; exact Nat.ne_of_lt (Nat.lt_of_lt_of_le (by have := World.block_lt_of_cell? _ _ hw561_3; first | rwa [add_block] at this | exact this) GW551.out)) | (dsimp only; exact Nat.ne_of_lt (Nat.lt_of_lt_of_le (by have := World.block_lt_of_cell? _ _ hw561_3; first | rwa [add_block] at this | exact this) GW551.out))) _).trans (((cell_far (p := ⟨gb551, _, none⟩) (by first | exact Nat.ne_of_lt (Nat.lt_of_lt_of_le (by have := World.block_lt_of_cell? _ _ hw561_3; first | rwa [add_block] at this | exact this) GW551.out) | (rw [add_block]; exact Nat.ne_of_lt (Nat.lt_of_lt_of_le (by have := World.block_lt_of_cell? _ _ hw561_3; first | rwa [add_block] at this | exact this) GW551.out)) | (show (Addr.add _ _).block ≠ _; rw [add_block]; exact Nat.ne_of_lt (Nat.lt_of_lt_of_le (by have := World.block_lt_of_cell? _ _ hw561_3; first | rwa [add_block] at this | exact this) GW551.out)) | (dsimp only; exact Nat.ne_of_lt (Nat.lt_of_lt_of_le (by have := World.block_lt_of_cell? _ _ hw561_3; first | rwa [add_block] at this | exact this) GW551.out))) _).trans (hHeld.2.2.2.2.2.2.2.2.2.2.2))))⟩ (fun hHeld => ?_)
                    clear hK K
                    refine pure_ (i := 21) (N := some 5) (v := ?_) (a' := ?_) #[true, true, true, true, true, true, true, true, true, true, true, true, true, true, true, true, true, true, true, true, true, true, false] rfl rfl (any_of HT_.out (by kernel_rfl)) (fun _ _ _ h => h) (Or.inl ⟨by rfl, ?_⟩) ?_ ?_
                    rotate_left
                    · intro w'
                      go_simp
                      with_reducible rfl
                    rotate_left
                    · simp only [Act.put, List.setIfInBounds_toArray, List.set_cons_zero, List.set_cons_succ, i64_w, i32_w]
                      rfl
                    refine pure_ (i := 22) (N := some 6) (v := ?_) (a' := ?_) #[true, true, true, true, true, true, true, true, true, true, true, true, true, true, true, true, true, true, true, true, true, true, true] rfl rfl (any_of HT_.out (by kernel_rfl)) (fun _ _ _ h => h) (Or.inl ⟨by rfl, ?_⟩) ?_ ?_
                    rotate_left
                    · intro w'
                      go_simp
                      with_reducible rfl
                    rotate_left
                    · simp only [Act.put, List.setIfInBounds_toArray, List.set_cons_zero, List.set_cons_succ, i64_w, i32_w]
                      rfl
                    refine done_ (done_of HT_.out (by kernel_rfl)) ?_
                    try go_wp2
                    refine bodyPost_ret (results_ctt rfl _ _ gb551 44 #[.int .i64 (wrap64 (((rd_T46 l0 x7_2).f2.f0) + x1_2)), .int .i64 ((rd_T46 l0 x7_2).f2.f1)] (0, 0) _ rfl (by (with_reducible repeat (first | refine blk_drewN ?_ _ | refine blk_drew ?_ | refine blk_alloc ?_ _)); refine blk_put (cs := #[.int .i64 (wrap64 (((rd_T46 l0 x7_2).f2.f0) + x1_2)), .int .i64 0]) ?_ 1 _ rfl; (with_reducible repeat (first | refine blk_drewN ?_ _ | refine blk_drew ?_ | refine blk_alloc ?_ _)); refine blk_put (cs := #[.int .i64 0, .int .i64 0]) ?_ 0 _ rfl; (with_reducible repeat (first | refine blk_drewN ?_ _ | refine blk_drew ?_ | refine blk_alloc ?_ _)); exact BK551.out) Try.underlying44 rfl (by kernel_rfl)) rfl ?_
                    exact ⟨by first | rfl | (simp [errW_none, errW_some] <;> rfl) | (simp [*, errW_none, errW_some] <;> rfl), by repeat (first | (with_reducible first | exact HB.out | apply below_alloc | apply pw_below_drewN | apply below_drew1 | refine below_set ?_ GE551.out) | exact HB.out)⟩
                · rw [if_neg c15] at H
                  exact absurd H (by simp)
              · rw [if_neg c14] at H
                exact absurd H (by simp)
  · replace c4 := Bool.eq_false_iff.mpr c4
    subst c4
    have H1 : (some (0, 0, 0, 1)) = some (r1, r2, r3, r4) := by rw [if_neg (show ¬ (false = true) by decide)] at H; exact H
    clear H
    have H := H1
    clear H1
    simp only [Option.some.injEq, Prod.mk.injEq] at H
    obtain ⟨rfl, rfl, rfl, rfl⟩ := H
    go_enter Try.func57, Try.ntmps57
    go_wp2_with (first | ((with_reducible refine gate_dst (N := 4) rfl ?_); refine box_event ?hg (N := 4) ?hd (cs := #[.int .i64 0, .int .i64 0]) (t := 44) ?hr ?_; (case hd => rfl); (case hg => rfl); (case hr => first | (go_simp; done) | (go_simp; rfl)); intro gb551 hg w22 hbox hb; have n0_ := Aside0.mk (below_step (by repeat (first | (with_reducible first | exact HB.out | apply below_alloc | apply pw_below_drewN | apply below_drew1) | exact HB.out)) hb); have n1_ := Aside0.mk (hbox); have n2_ := Aside0.mk ((by rw [hg]; exact (below_size (by repeat (first | (with_reducible first | exact HB.out | apply below_alloc | apply pw_below_drewN | apply below_drew1) | exact HB.out))) : w.heap.size ≤ gb551)); have n3_ := Aside0.mk ((by rw [hg]; exact (below_size (by repeat (first | (with_reducible first | exact HB.out | apply below_alloc | apply pw_below_drewN | apply below_drew1) | exact HB.out))) : w.heap.size ≤ gb551)); clear HB; have HB := n0_; have BK551 := n1_; have GW551 := n2_; have GE551 := n3_; clear n0_ n1_ n2_ n3_; clear hb hbox hg) | ((with_reducible refine gate_callee (f := 60) rfl ?_); refine goesL_ (some 9) rfl rfl Try.func60 (by kernel_rfl) rfl #[.slice A0 l0.length c0] rfl (by (try simp only [List.map_toArray, List.map_cons, List.map_nil]); first | done | rfl | (simp only [List.length_drop, List.length_take]; rfl)) ?_; (with_reducible refine (masterdiscref33_Valid.calls k _ _ l0 false _ ?side1 ?side2 A3.out).mono ?_); (case side1 => repeat (first | exact (Kd.C_below HR0.out HB.out) | (with_reducible refine Kd.C_alloc ?_ _) | (with_reducible refine Kd.C_drewN ?_ _) | (with_reducible refine Kd.C_drew ?_))); (case side2 => exact HC0.out); rintro e w23 ⟨rfl, hb⟩; refine ⟨_, rfl, ?_⟩; have n0_ := Aside0.mk (blk_below (g := gb551) (o := .cells #[.int .i64 0, .int .i64 0] 44 (0, 0)) (by (with_reducible repeat (first | refine blk_drewN ?_ _ | refine blk_drew ?_ | refine blk_alloc ?_ _)); exact BK551.out) hb); have n1_ := Aside0.mk (below_step (by repeat (first | (with_reducible first | exact HB.out | apply below_alloc | apply pw_below_drewN | apply below_drew1 | refine below_set ?_ GE551.out) | exact HB.out)) hb); clear BK551; clear HB; have BK551 := n0_; have HB := n1_; clear n0_ n1_; (try clear hb); (try clear hb2); (try clear hk); (try clear hi); have hcz24_0 : w23.cell? ⟨gb551, 0, none⟩ = some (.int .i64 0) := (blk_cell BK551.out 0).trans rfl; have hcz24_1 : w23.cell? ⟨gb551, 1, none⟩ = some (.int .i64 0) := (blk_cell BK551.out 1).trans rfl; have hfz24_0 := blk_frozen BK551.out 0; have hfz24_1 := blk_frozen BK551.out 1))
    refine bodyPost_ret (results_ctt rfl _ _ gb551 44 #[.int .i64 0, .int .i64 0] (0, 0) _ rfl (by (with_reducible repeat (first | refine blk_drewN ?_ _ | refine blk_drew ?_ | refine blk_alloc ?_ _)); refine blk_put (cs := #[.int .i64 0, .int .i64 0]) ?_ 1 _ rfl; (with_reducible repeat (first | refine blk_drewN ?_ _ | refine blk_drew ?_ | refine blk_alloc ?_ _)); refine blk_put (cs := #[.int .i64 0, .int .i64 0]) ?_ 0 _ rfl; (with_reducible repeat (first | refine blk_drewN ?_ _ | refine blk_drew ?_ | refine blk_alloc ?_ _)); exact BK551.out) Try.underlying44 rfl (by kernel_rfl)) rfl ?_
    exact ⟨by first | rfl | (simp [errW_none, errW_some] <;> rfl) | (simp [*, errW_none, errW_some] <;> rfl), by repeat (first | (with_reducible first | exact HB.out | apply below_alloc | apply pw_below_drewN | apply below_drew1 | refine below_set ?_ GE551.out) | exact HB.out)⟩

/-! ### masterdiscref33_Blocks: function 59 -/
def masterdiscref33_Blocks.l0 : Nat → List (S46) → Int → Int → Option (Int)
  | 0, _, _, _ => none
  | k + 1, x0, x3, x4 => if x4 < (x0.length : Int) then (if 0 ≤ x4 then (if ((rd_T46 x0 x4).f0) = 0 then ((masterdiscref33_Count.f ((rd_T46 x0 x4).f1)).bind fun t565 => (masterdiscref33_Blocks.l0 k x0 (wrap64 (x3 + t565)) (wrap64 (x4 + 1)))) else (masterdiscref33_Blocks.l0 k x0 x3 (wrap64 (x4 + 1)))) else (none)) else (some x3)
def masterdiscref33_Blocks.f (k : Nat) (l0 : List (S46)) : Option (Int) := (masterdiscref33_Formed.f k l0).bind fun t562 => (if t562 = true then (masterdiscref33_Blocks.l0 k l0 0 0) else (some 0))
theorem masterdiscref33_Blocks.mono_l : ∀ k, (∀ y0 y1 y2, LeO (masterdiscref33_Blocks.l0 k y0 y1 y2) (masterdiscref33_Blocks.l0 (k + 1) y0 y1 y2))
  | 0 => fun _ _ _ r h => by simp [masterdiscref33_Blocks.l0] at h
  | k + 1 => by
    have ih0 := masterdiscref33_Blocks.mono_l k
    · intro y0 y1 y2
      unfold masterdiscref33_Blocks.l0
      repeat' first
      | (with_reducible exact ih0 _ _ _)
      | (with_reducible exact masterdiscref33_Formed.mono _ _)
      | (with_reducible exact LeO.refl _)
      | (with_reducible exact LeO.none _)
      | (with_reducible refine LeO.ite ?_ ?_)
      | (with_reducible refine LeO.bind ?_ (fun _ => ?_))
      | exact ih0 _ _ _
      | exact masterdiscref33_Formed.mono _ _
      | exact LeO.none _
      | refine LeO.ite ?_ ?_
      | refine LeO.bind ?_ (fun _ => ?_)
theorem masterdiscref33_Blocks.mono : ∀ a0 k, LeO (masterdiscref33_Blocks.f k a0) (masterdiscref33_Blocks.f (k + 1) a0) := by
  intro a0 k
  have ih0 := masterdiscref33_Blocks.mono_l k
  unfold masterdiscref33_Blocks.f
  repeat' first
      | (with_reducible exact ih0 _ _ _)
      | (with_reducible exact masterdiscref33_Formed.mono _ _)
      | (with_reducible exact LeO.refl _)
      | (with_reducible exact LeO.none _)
      | (with_reducible refine LeO.ite ?_ ?_)
      | (with_reducible refine LeO.bind ?_ (fun _ => ?_))
      | exact ih0 _ _ _
      | exact masterdiscref33_Formed.mono _ _
      | exact LeO.none _
      | refine LeO.ite ?_ ?_
      | refine LeO.bind ?_ (fun _ => ?_)
set_option maxHeartbeats 8000000 in
set_option maxRecDepth 100000 in
theorem masterdiscref33_Blocks.calls (k : Nat) (A0 : Option Addr) (c0 : Nat) (l0 : List (S46)) (r : Int) (w : World) (hr0 : Kd.C k46 w A0 l0.length l0) (hc0 : l0.length ≤ c0) (h : masterdiscref33_Blocks.f k l0 = some r) :
    Calls Try.prog 59 #[.slice A0 l0.length c0] w fun e w' => e = .returned (.int .i64 r) ∧ Below w.heap.size w w' := by
  have HR0 := Aside0.mk hr0
  have HC0 := Aside0.mk hc0
  clear hr0 hc0
  have HB := Aside0.mk (Below.refl w.heap.size w)
  have H : ((masterdiscref33_Formed.f k l0).bind fun t562 => (if t562 = true then (masterdiscref33_Blocks.l0 k l0 0 0) else (some 0))) = some r := h
  clear h
  replace H := Option.bind_eq_some_iff.mp H
  obtain ⟨t562, A20, H⟩ := H
  replace H : (if t562 = true then (masterdiscref33_Blocks.l0 k l0 0 0) else (some 0)) = some r := H
  have A2 := Aside0.mk A20
  clear A20
  by_cases c3 : t562 = true
  · subst c3
    have H1 : (masterdiscref33_Blocks.l0 k l0 0 0) = some r := by rw [if_pos rfl] at H; exact H
    clear H
    have H := H1
    clear H1
    have H' := Aside0.mk H
    clear H
    go_enter Try.func59, Try.ntmps59
    go_wp2_with (first | ((with_reducible refine gate_callee (f := 104) rfl ?_); refine goesL_ (some 6) rfl rfl Try.func104 (by kernel_rfl) rfl #[.slice A0 l0.length c0] rfl (by (try simp only [List.map_toArray, List.map_cons, List.map_nil]); first | done | rfl | (simp only [List.length_drop, List.length_take]; rfl)) ?_; (with_reducible refine (masterdiscref33_Formed.calls k _ _ l0 true _ ?side1 ?side2 A2.out).mono ?_); (case side1 => repeat (first | exact HR0.out | (with_reducible refine Kd.C_alloc ?_ _) | (with_reducible refine Kd.C_drewN ?_ _) | (with_reducible refine Kd.C_drew ?_))); (case side2 => exact HC0.out); rintro e w4 ⟨rfl, hb⟩; refine ⟨_, rfl, ?_⟩; have n0_ := Aside0.mk (below_step (by repeat (first | (with_reducible first | exact HB.out | apply below_alloc | apply pw_below_drewN | apply below_drew1) | exact HB.out)) hb); clear HB; have HB := n0_; clear n0_; (try clear hb); (try clear hb2); (try clear hk); (try clear hi)))
    go_loopg [3, 4] k (fun kq v3 v4 w' => ∃ (x3_1 : Int) (x4_1 : Int), v3 = .int .i64 x3_1 ∧ v4 = .int .i64 x4_1 ∧ Aside0 (masterdiscref33_Blocks.l0 kq l0 x3_1 x4_1 = some r) ∧ Aside0 (kq ≤ k) ∧ Aside0 (Below w.heap.size w w'))
    case atStart => exact ⟨(0), (0), (by first | rfl | (simp; done) | (simp [*]; done)), (by first | rfl | (simp; done) | (simp [*]; done)), H', ⟨Nat.le_refl _⟩, ⟨by repeat (first | (with_reducible first | exact HB.out | apply below_alloc | apply pw_below_drewN | apply below_drew1) | exact HB.out)⟩⟩
    case round =>
      clear H'
      try clear c1
      try clear p2
      try clear c3
      obtain ⟨x3_1, x4_1, rfl, rfl, HA, HK1, HB⟩ := hrel
      cases gk with
      | zero => exact absurd HA.out (by simp [masterdiscref33_Blocks.l0])
      | succ k1 =>
        have H := HA.out
        clear HA
        simp only [masterdiscref33_Blocks.l0] at H
        by_cases c5 : x4_1 < (l0.length : Int)
        · rw [if_pos c5] at H
          have c5b0 : decide (x4_1 < (l0.length : Int)) = true := decide_eq_true c5
          clear c5
          by_cases c6 : 0 ≤ x4_1
          · rw [if_pos c6] at H
            have c6b0 : decide (0 ≤ x4_1) = true := decide_eq_true c6
            clear c6
            by_cases c7 : ((rd_T46 l0 x4_1).f0) = 0
            · rw [if_pos c7] at H
              have c7b0 : (((rd_T46 l0 x4_1).f0) == 0) = true := beq_iff_eq.mpr c7
              have c7b1 : (((rd_T46 l0 x4_1).f0) != 0) = false := bne_eq_false_iff_eq.mpr c7
              clear c7
              replace H := Option.bind_eq_some_iff.mp H
              obtain ⟨t565, A80, H⟩ := H
              replace H : (masterdiscref33_Blocks.l0 k1 l0 (wrap64 (x3_1 + t565)) (wrap64 (x4_1 + 1))) = some r := H
              have A8 := Aside0.mk A80
              clear A80
              have H' := Aside0.mk H
              clear H
              have p563 : 0 ≤ (x4_1 : Int) := of_decide_eq_true (by first | (with_reducible assumption) | assumption)
              have q563 : x4_1 < (l0.length : Int) := of_decide_eq_true (by first | (with_reducible assumption) | assumption)
              obtain ⟨ad563, e563, hx563_0, hx563_1, hx563_2, hx563_3⟩ := at_T46 HR0.out x4_1 p563 q563
              cases e563
              replace hx563_0 := (HB.out.cell (World.block_lt_of_cell? w _ hx563_0)).trans hx563_0
              replace hx563_1 := (HB.out.cell (World.block_lt_of_cell? w _ hx563_1)).trans hx563_1
              replace hx563_2 := (HB.out.cell (World.block_lt_of_cell? w _ hx563_2)).trans hx563_2
              replace hx563_3 := (HB.out.cell (World.block_lt_of_cell? w _ hx563_3)).trans hx563_3
              replace p563 := eq_true p563
              replace q563 := eq_true q563
              have p564 : 0 ≤ (x4_1 : Int) := of_decide_eq_true (by first | (with_reducible assumption) | assumption)
              have q564 : x4_1 < (l0.length : Int) := of_decide_eq_true (by first | (with_reducible assumption) | assumption)
              obtain ⟨ad564, e564, hx564_0, hx564_1, hx564_2, hx564_3⟩ := at_T46 HR0.out x4_1 p564 q564
              obtain rfl : ad563 = ad564 := (by injection e564)
              replace hx564_0 := (HB.out.cell (World.block_lt_of_cell? w _ hx564_0)).trans hx564_0
              replace hx564_1 := (HB.out.cell (World.block_lt_of_cell? w _ hx564_1)).trans hx564_1
              replace hx564_2 := (HB.out.cell (World.block_lt_of_cell? w _ hx564_2)).trans hx564_2
              replace hx564_3 := (HB.out.cell (World.block_lt_of_cell? w _ hx564_3)).trans hx564_3
              replace p564 := eq_true p564
              replace q564 := eq_true q564
              go_wp2_with (first | ((with_reducible refine gate_callee (f := 120) rfl ?_); refine goesL_ (some 25) rfl rfl Try.func120 (by kernel_rfl) rfl #[.int .i64 ((rd_T46 l0 x4_1).f1)] rfl (by (try simp only [List.map_toArray, List.map_cons, List.map_nil]); first | done | rfl | (simp only [List.length_drop, List.length_take]; rfl)) ?_; (with_reducible refine (masterdiscref33_Count.calls ((rd_T46 l0 x4_1).f1) t565 _ A8.out).mono ?_); rintro e w' ⟨rfl, ⟨nd, rfl⟩⟩; refine ⟨_, rfl, ?_⟩))
              go_roundg k1
              case measure => have := HK1.out; omega
              case rel => exact ⟨(wrap64 (x3_1 + t565)), (wrap64 (x4_1 + 1)), (by first | rfl | (simp; done) | (simp [*]; done)), (by first | rfl | (simp; done) | (simp [*]; done)), H', ⟨by have := HK1.out; omega⟩, ⟨by repeat (first | (with_reducible first | exact HB.out | apply below_alloc | apply pw_below_drewN | apply below_drew1) | exact HB.out)⟩⟩
            · rw [if_neg c7] at H
              have c7b0 : (((rd_T46 l0 x4_1).f0) == 0) = false := beq_eq_false_iff_ne.mpr c7
              have c7b1 : (((rd_T46 l0 x4_1).f0) != 0) = true := bne_iff_ne.mpr c7
              have H' := Aside0.mk H
              clear H
              have p563 : 0 ≤ (x4_1 : Int) := of_decide_eq_true (by first | (with_reducible assumption) | assumption)
              have q563 : x4_1 < (l0.length : Int) := of_decide_eq_true (by first | (with_reducible assumption) | assumption)
              obtain ⟨ad563, e563, hx563_0, hx563_1, hx563_2, hx563_3⟩ := at_T46 HR0.out x4_1 p563 q563
              cases e563
              replace hx563_0 := (HB.out.cell (World.block_lt_of_cell? w _ hx563_0)).trans hx563_0
              replace hx563_1 := (HB.out.cell (World.block_lt_of_cell? w _ hx563_1)).trans hx563_1
              replace hx563_2 := (HB.out.cell (World.block_lt_of_cell? w _ hx563_2)).trans hx563_2
              replace hx563_3 := (HB.out.cell (World.block_lt_of_cell? w _ hx563_3)).trans hx563_3
              replace p563 := eq_true p563
              replace q563 := eq_true q563
              go_wp2
              go_roundg k1
              case measure => have := HK1.out; omega
              case rel => exact ⟨(x3_1), (wrap64 (x4_1 + 1)), (by first | rfl | (simp; done) | (simp [*]; done)), (by first | rfl | (simp; done) | (simp [*]; done)), H', ⟨by have := HK1.out; omega⟩, ⟨by repeat (first | (with_reducible first | exact HB.out | apply below_alloc | apply pw_below_drewN | apply below_drew1) | exact HB.out)⟩⟩
          · rw [if_neg c6] at H
            exact absurd H (by simp)
        · rw [if_neg c5] at H
          have c5b0 : decide (x4_1 < (l0.length : Int)) = false := decide_eq_false c5
          clear c5
          obtain rfl := Option.some.inj H
          go_wp2
          go_ret
          exact ⟨by first | rfl | (simp [errW_none, errW_some] <;> rfl) | (simp [*, errW_none, errW_some] <;> rfl), by repeat (first | (with_reducible first | exact HB.out | apply below_alloc | apply pw_below_drewN | apply below_drew1) | exact HB.out)⟩
  · replace c3 := Bool.eq_false_iff.mpr c3
    subst c3
    have H1 : (some 0) = some r := by rw [if_neg (show ¬ (false = true) by decide)] at H; exact H
    clear H
    have H := H1
    clear H1
    obtain rfl := Option.some.inj H
    go_enter Try.func59, Try.ntmps59
    go_wp2_with (first | ((with_reducible refine gate_callee (f := 104) rfl ?_); refine goesL_ (some 6) rfl rfl Try.func104 (by kernel_rfl) rfl #[.slice A0 l0.length c0] rfl (by (try simp only [List.map_toArray, List.map_cons, List.map_nil]); first | done | rfl | (simp only [List.length_drop, List.length_take]; rfl)) ?_; (with_reducible refine (masterdiscref33_Formed.calls k _ _ l0 false _ ?side1 ?side2 A2.out).mono ?_); (case side1 => repeat (first | exact HR0.out | (with_reducible refine Kd.C_alloc ?_ _) | (with_reducible refine Kd.C_drewN ?_ _) | (with_reducible refine Kd.C_drew ?_))); (case side2 => exact HC0.out); rintro e w9 ⟨rfl, hb⟩; refine ⟨_, rfl, ?_⟩; have n0_ := Aside0.mk (below_step (by repeat (first | (with_reducible first | exact HB.out | apply below_alloc | apply pw_below_drewN | apply below_drew1) | exact HB.out)) hb); clear HB; have HB := n0_; clear n0_; (try clear hb); (try clear hb2); (try clear hk); (try clear hi)))
    go_ret
    exact ⟨by first | rfl | (simp [errW_none, errW_some] <;> rfl) | (simp [*, errW_none, errW_some] <;> rfl), by repeat (first | (with_reducible first | exact HB.out | apply below_alloc | apply pw_below_drewN | apply below_drew1) | exact HB.out)⟩

end Go.Proofs.Ytijbfebbogiiiaa.Q
