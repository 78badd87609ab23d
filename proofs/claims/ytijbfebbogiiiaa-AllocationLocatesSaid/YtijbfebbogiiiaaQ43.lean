/- Contracts of Go functions: each call returns what the Lean function of its name says. Written by wip/gen.py (a patched print) for this claim. -/
import Derived.Test.YtijbfebbogiiiaaQ0
import Derived.Test.YtijbfebbogiiiaaQ2
import Derived.Test.YtijbfebbogiiiaaQ15
import Derived.Test.YtijbfebbogiiiaaQ40
import Derived.Test.YtijbfebbogiiiaaHAwake33
namespace Go.Proofs.Ytijbfebbogiiiaa.Q
open Go.RowKit Go.Proofs.YtijbfebbogiiiaaW.PrintWords Go.Proofs.YtijbfebbogiiiaaW.PrintLast Go.Proofs.YtijbfebbogiiiaaW.PrintMore
attribute [local go_sem] max2_int min2_int max_two min_two max_three min_three max_four min_four   -- for this text's walks alone
set_option linter.unusedVariables false
set_option linter.unusedSimpArgs false

attribute [local go_sem high] eqA44
/-! ### masterdisclaw33_AllocationLocates: function 14 -/
mutual
def masterdisclaw33_AllocationLocates.j0 : Nat → List (S46) → Int → Bool → Option (Bool)
  | 0, _, _, _ => none
  | k + 1, x0, x1, x29 => if x29 = true then (some true) else ((allocation_Length.f k x0).bind fun t621 => (if t621 < 1 then (some false) else (if (wrap64 (Int.tdiv (wrap64 ((wrap64 (t621 + 2048)) - 1)) 2048)) = 0 then (none) else ((allocation_Locate.f k x0 (Int.tmod (wrap64 (x1)) (wrap64 (Int.tdiv (wrap64 ((wrap64 (t621 + 2048)) - 1)) 2048)))).bind fun bt622 => ((allocation_Pieces.f k x0 (wrap64 ((Int.tmod (wrap64 (x1)) (wrap64 (Int.tdiv (wrap64 ((wrap64 (t621 + 2048)) - 1)) 2048))) * 2048)) (mn 2048 (wrap64 (t621 - (wrap64 ((Int.tmod (wrap64 (x1)) (wrap64 (Int.tdiv (wrap64 ((wrap64 (t621 + 2048)) - 1)) 2048))) * 2048)))))).bind fun bt627 => (if bt622.2.2.2 = 0 then (if bt627.2 = 0 then ((api_Extent_42.f k bt627.1 (([(⟨bt622.2.2.1, mn 2048 (wrap64 (t621 - (wrap64 ((Int.tmod (wrap64 (x1)) (wrap64 (Int.tdiv (wrap64 ((wrap64 (t621 + 2048)) - 1)) 2048))) * 2048)))), (⟨bt622.1, bt622.2.1⟩ : S44)⟩ : S46)] : List (S46)))).bind fun t634 => (masterdisclaw33_AllocationLocates.j1 k x0 (Int.tmod (wrap64 (x1)) (wrap64 (Int.tdiv (wrap64 ((wrap64 (t621 + 2048)) - 1)) 2048))) bt622.2.2.1 (!t634) bt622.1 bt622.2.1)) else (masterdisclaw33_AllocationLocates.j1 k x0 (Int.tmod (wrap64 (x1)) (wrap64 (Int.tdiv (wrap64 ((wrap64 (t621 + 2048)) - 1)) 2048))) bt622.2.2.1 true bt622.1 bt622.2.1)) else (masterdisclaw33_AllocationLocates.j1 k x0 (Int.tmod (wrap64 (x1)) (wrap64 (Int.tdiv (wrap64 ((wrap64 (t621 + 2048)) - 1)) 2048))) bt622.2.2.1 true bt622.1 bt622.2.1)))))))
def masterdisclaw33_AllocationLocates.j1 : Nat → List (S46) → Int → Int → Bool → Int → Int → Option (Bool)
  | 0, _, _, _, _, _, _ => none
  | k + 1, x0, x6, x8, x76, x627000, x627001 => if x76 = true then (some false) else ((allocation_Join.f k x0).bind fun t635 => ((allocation_Locate.f k t635 x6).bind fun bt638 => (if bt638.2.2.2 = 0 then (if (bt638.1 == x627000 && (bt638.2.1 == x627001)) = true then (some (bt638.2.2.1 == x8)) else (some false)) else (some false))))
end
def masterdisclaw33_AllocationLocates.f (k : Nat) (l0 : List (S46)) (a1 : Int) : Option (Bool) := (masterdisclaw33_awake.f).bind fun t619 => (if t619 = true then (if (l0.length : Int) > 70 then (masterdisclaw33_AllocationLocates.j0 k l0 a1 true) else ((allocation_Valid.f k l0).bind fun t620 => (if t620 = true then (masterdisclaw33_AllocationLocates.j0 k l0 a1 ((l0.length : Int) == 0)) else (masterdisclaw33_AllocationLocates.j0 k l0 a1 true)))) else (some false))
theorem masterdisclaw33_AllocationLocates.mono_l : ∀ k, (∀ y0 y1 y2, LeO (masterdisclaw33_AllocationLocates.j0 k y0 y1 y2) (masterdisclaw33_AllocationLocates.j0 (k + 1) y0 y1 y2)) ∧ (∀ y0 y1 y2 y3 y4 y5, LeO (masterdisclaw33_AllocationLocates.j1 k y0 y1 y2 y3 y4 y5) (masterdisclaw33_AllocationLocates.j1 (k + 1) y0 y1 y2 y3 y4 y5))
  | 0 => ⟨fun _ _ _ r h => by simp [masterdisclaw33_AllocationLocates.j0] at h, fun _ _ _ _ _ _ r h => by simp [masterdisclaw33_AllocationLocates.j1] at h⟩
  | k + 1 => by
    obtain ⟨ih0, ih1⟩ := masterdisclaw33_AllocationLocates.mono_l k
    refine ⟨?_, ?_⟩
    · intro y0 y1 y2
      unfold masterdisclaw33_AllocationLocates.j0
      repeat' first
      | (with_reducible exact ih0 _ _ _)
      | (with_reducible exact ih1 _ _ _ _ _ _)
      | (with_reducible exact allocation_Join.mono _ _)
      | (with_reducible exact allocation_Length.mono _ _)
      | (with_reducible exact allocation_Locate.mono _ _ _)
      | (with_reducible exact allocation_Pieces.mono _ _ _ _)
      | (with_reducible exact allocation_Valid.mono _ _)
      | (with_reducible exact api_Extent_42.mono _ _ _)
      | (with_reducible exact LeO.refl _)
      | (with_reducible exact LeO.none _)
      | (with_reducible refine LeO.ite ?_ ?_)
      | (with_reducible refine LeO.bind ?_ (fun _ => ?_))
      | exact ih0 _ _ _
      | exact ih1 _ _ _ _ _ _
      | exact allocation_Join.mono _ _
      | exact allocation_Length.mono _ _
      | exact allocation_Locate.mono _ _ _
      | exact allocation_Pieces.mono _ _ _ _
      | exact allocation_Valid.mono _ _
      | exact api_Extent_42.mono _ _ _
      | exact LeO.none _
      | refine LeO.ite ?_ ?_
      | refine LeO.bind ?_ (fun _ => ?_)
    · intro y0 y1 y2 y3 y4 y5
      unfold masterdisclaw33_AllocationLocates.j1
      repeat' first
      | (with_reducible exact ih0 _ _ _)
      | (with_reducible exact ih1 _ _ _ _ _ _)
      | (with_reducible exact allocation_Join.mono _ _)
      | (with_reducible exact allocation_Length.mono _ _)
      | (with_reducible exact allocation_Locate.mono _ _ _)
      | (with_reducible exact allocation_Pieces.mono _ _ _ _)
      | (with_reducible exact allocation_Valid.mono _ _)
      | (with_reducible exact api_Extent_42.mono _ _ _)
      | (with_reducible exact LeO.refl _)
      | (with_reducible exact LeO.none _)
      | (with_reducible refine LeO.ite ?_ ?_)
      | (with_reducible refine LeO.bind ?_ (fun _ => ?_))
      | exact ih0 _ _ _
      | exact ih1 _ _ _ _ _ _
      | exact allocation_Join.mono _ _
      | exact allocation_Length.mono _ _
      | exact allocation_Locate.mono _ _ _
      | exact allocation_Pieces.mono _ _ _ _
      | exact allocation_Valid.mono _ _
      | exact api_Extent_42.mono _ _ _
      | exact LeO.none _
      | refine LeO.ite ?_ ?_
      | refine LeO.bind ?_ (fun _ => ?_)
theorem masterdisclaw33_AllocationLocates.mono : ∀ a0 a1 k, LeO (masterdisclaw33_AllocationLocates.f k a0 a1) (masterdisclaw33_AllocationLocates.f (k + 1) a0 a1) := by
  intro a0 a1 k
  obtain ⟨ih0, ih1⟩ := masterdisclaw33_AllocationLocates.mono_l k
  unfold masterdisclaw33_AllocationLocates.f
  repeat' first
      | (with_reducible exact ih0 _ _ _)
      | (with_reducible exact ih1 _ _ _ _ _ _)
      | (with_reducible exact allocation_Join.mono _ _)
      | (with_reducible exact allocation_Length.mono _ _)
      | (with_reducible exact allocation_Locate.mono _ _ _)
      | (with_reducible exact allocation_Pieces.mono _ _ _ _)
      | (with_reducible exact allocation_Valid.mono _ _)
      | (with_reducible exact api_Extent_42.mono _ _ _)
      | (with_reducible exact LeO.refl _)
      | (with_reducible exact LeO.none _)
      | (with_reducible refine LeO.ite ?_ ?_)
      | (with_reducible refine LeO.bind ?_ (fun _ => ?_))
      | exact ih0 _ _ _
      | exact ih1 _ _ _ _ _ _
      | exact allocation_Join.mono _ _
      | exact allocation_Length.mono _ _
      | exact allocation_Locate.mono _ _ _
      | exact allocation_Pieces.mono _ _ _ _
      | exact allocation_Valid.mono _ _
      | exact api_Extent_42.mono _ _ _
      | exact LeO.none _
      | refine LeO.ite ?_ ?_
      | refine LeO.bind ?_ (fun _ => ?_)
set_option maxHeartbeats 8000000 in
set_option maxRecDepth 100000 in
theorem masterdisclaw33_AllocationLocates.calls (k : Nat) (A0 : Option Addr) (c0 : Nat) (l0 : List (S46)) (a1 : Int) (r : Bool) (w : World) (hr0 : Kd.C k46 w A0 l0.length l0) (hc0 : l0.length ≤ c0) (h : masterdisclaw33_AllocationLocates.f k l0 a1 = some r) :
    Calls Try.prog 14 #[.slice A0 l0.length c0, .int .u32 a1] w fun e w' => e = .returned (.bool r) ∧ Below w.heap.size w w' := by
  have hu44 := Try.underlying44
  have hu46 := Try.underlying46
  have HR0 := Aside0.mk hr0
  have HC0 := Aside0.mk hc0
  clear hr0 hc0
  have HB := Aside0.mk (Below.refl w.heap.size w)
  have H : ((masterdisclaw33_awake.f).bind fun t619 => (if t619 = true then (if (l0.length : Int) > 70 then (masterdisclaw33_AllocationLocates.j0 k l0 a1 true) else ((allocation_Valid.f k l0).bind fun t620 => (if t620 = true then (masterdisclaw33_AllocationLocates.j0 k l0 a1 ((l0.length : Int) == 0)) else (masterdisclaw33_AllocationLocates.j0 k l0 a1 true)))) else (some false))) = some r := h
  clear h
  replace H := Option.bind_eq_some_iff.mp H
  obtain ⟨t619, A30, H⟩ := H
  replace H : (if t619 = true then (if (l0.length : Int) > 70 then (masterdisclaw33_AllocationLocates.j0 k l0 a1 true) else ((allocation_Valid.f k l0).bind fun t620 => (if t620 = true then (masterdisclaw33_AllocationLocates.j0 k l0 a1 ((l0.length : Int) == 0)) else (masterdisclaw33_AllocationLocates.j0 k l0 a1 true)))) else (some false)) = some r := H
  have A3 := Aside0.mk A30
  clear A30
  by_cases c4 : t619 = true
  · subst c4
    have H1 : (if (l0.length : Int) > 70 then (masterdisclaw33_AllocationLocates.j0 k l0 a1 true) else ((allocation_Valid.f k l0).bind fun t620 => (if t620 = true then (masterdisclaw33_AllocationLocates.j0 k l0 a1 ((l0.length : Int) == 0)) else (masterdisclaw33_AllocationLocates.j0 k l0 a1 true)))) = some r := by rw [if_pos rfl] at H; exact H
    clear H
    have H := H1
    clear H1
    have HC5 := Aside0.mk H
    clear H
    go_enter Try.func14, Try.ntmps14
    go_upto_region 3 with (first | ((with_reducible refine gate_callee (f := 33) rfl ?_); refine goesL_ (some 15) rfl rfl Try.func33 (by kernel_rfl) rfl #[] rfl (by (try simp only [List.map_toArray, List.map_cons, List.map_nil]); first | done | rfl | (simp only [List.length_drop, List.length_take]; rfl)) ?_; (with_reducible refine (masterdisclaw33_awake.calls  true _ A3.out).mono ?_); rintro e w6 ⟨rfl, hb⟩; refine ⟨_, rfl, ?_⟩; have n0_ := Aside0.mk (below_step (by repeat (first | (with_reducible first | exact HB.out | apply below_alloc | apply pw_below_drewN | apply below_drew1) | exact HB.out)) hb); clear HB; have HB := n0_; clear n0_; (try clear hb); (try clear hb2); (try clear hk); (try clear hi)))
    (try simp only [Act.put, List.setIfInBounds_toArray, List.set_cons_zero, List.set_cons_succ])
    go_cut [29] (fun v29 wc => ∃ (kq : Nat) (x29_4 : Bool), v29 = .bool x29_4 ∧ Aside0 (masterdisclaw33_AllocationLocates.j0 kq l0 a1 x29_4 = some r) ∧ Aside0 (kq ≤ k) ∧ Aside0 (Below w.heap.size w wc))
    case first =>
      have H := HC5.out
      clear HC5
      by_cases c7 : (l0.length : Int) > 70
      · rw [if_pos c7] at H
        have c7b0 : decide (70 < (l0.length : Int)) = true := decide_eq_true c7
        have c7b1 : decide (70 < l0.length) = true := decide_eq_true (by omega)
        clear c7
        (first | rw [c7b0] | (simp only [i64_w, i32_w]; rw [c7b0]) | skip)
        have H' := Aside0.mk H
        clear H
        go_wp2
        go_meet
        case rel => exact ⟨_, (true), (by first | rfl | (simp; done) | (simp [*]; done)), H', ⟨by first | omega | exact Nat.le_refl _⟩, ⟨by repeat (first | (with_reducible first | exact HB.out | apply below_alloc | apply pw_below_drewN | apply below_drew1) | exact HB.out)⟩⟩
      · rw [if_neg c7] at H
        have c7b0 : decide (70 < (l0.length : Int)) = false := decide_eq_false c7
        have c7b1 : decide (70 < l0.length) = false := decide_eq_false (by omega)
        clear c7
        (first | rw [c7b0] | (simp only [i64_w, i32_w]; rw [c7b0]) | skip)
        replace H := Option.bind_eq_some_iff.mp H
        obtain ⟨t620, A80, H⟩ := H
        replace H : (if t620 = true then (masterdisclaw33_AllocationLocates.j0 k l0 a1 ((l0.length : Int) == 0)) else (masterdisclaw33_AllocationLocates.j0 k l0 a1 true)) = some r := H
        have A8 := Aside0.mk A80
        clear A80
        by_cases c9 : t620 = true
        · subst c9
          have H1 : (masterdisclaw33_AllocationLocates.j0 k l0 a1 ((l0.length : Int) == 0)) = some r := by rw [if_pos rfl] at H; exact H
          clear H
          have H := H1
          clear H1
          have H' := Aside0.mk H
          clear H
          go_wp2_with (first | (go_at_call 38; (with_reducible refine (allocation_Valid.calls k _ _ l0 true _ ?side1 ?side2 A8.out).mono ?_); (case side1 => repeat (first | exact (Kd.C_below HR0.out HB.out) | (with_reducible refine Kd.C_alloc ?_ _) | (with_reducible refine Kd.C_drewN ?_ _) | (with_reducible refine Kd.C_drew ?_))); (case side2 => exact HC0.out); rintro e w10 ⟨rfl, hb⟩; have n0_ := Aside0.mk (below_step (by repeat (first | (with_reducible first | exact HB.out | apply below_alloc | apply pw_below_drewN | apply below_drew1) | exact HB.out)) hb); clear HB; have HB := n0_; clear n0_; (try clear hb); (try clear hb2); (try clear hk); (try clear hi)))
          go_meet
          case rel => exact ⟨_, (((l0.length : Int) == 0)), (by first | rfl | (simp; done) | (simp [*]; done)), H', ⟨by first | omega | exact Nat.le_refl _⟩, ⟨by repeat (first | (with_reducible first | exact HB.out | apply below_alloc | apply pw_below_drewN | apply below_drew1) | exact HB.out)⟩⟩
        · replace c9 := Bool.eq_false_iff.mpr c9
          subst c9
          have H1 : (masterdisclaw33_AllocationLocates.j0 k l0 a1 true) = some r := by rw [if_neg (show ¬ (false = true) by decide)] at H; exact H
          clear H
          have H := H1
          clear H1
          have H' := Aside0.mk H
          clear H
          go_wp2_with (first | (go_at_call 38; (with_reducible refine (allocation_Valid.calls k _ _ l0 false _ ?side1 ?side2 A8.out).mono ?_); (case side1 => repeat (first | exact (Kd.C_below HR0.out HB.out) | (with_reducible refine Kd.C_alloc ?_ _) | (with_reducible refine Kd.C_drewN ?_ _) | (with_reducible refine Kd.C_drew ?_))); (case side2 => exact HC0.out); rintro e w11 ⟨rfl, hb⟩; have n0_ := Aside0.mk (below_step (by repeat (first | (with_reducible first | exact HB.out | apply below_alloc | apply pw_below_drewN | apply below_drew1) | exact HB.out)) hb); clear HB; have HB := n0_; clear n0_; (try clear hb); (try clear hb2); (try clear hk); (try clear hi)))
          go_meet
          case rel => exact ⟨_, (true), (by first | rfl | (simp; done) | (simp [*]; done)), H', ⟨by first | omega | exact Nat.le_refl _⟩, ⟨by repeat (first | (with_reducible first | exact HB.out | apply below_alloc | apply pw_below_drewN | apply below_drew1) | exact HB.out)⟩⟩
    case rest =>
      clear HC5
      try clear c1
      try clear p2
      try clear c3
      try clear c4
      try clear c7
      try clear c7b0
      try clear c7b1
      try clear c9
      obtain ⟨kq, x29_4, rfl, HA, HJ4, HB⟩ := hcut
      cases kq with
      | zero => exact absurd HA.out (by simp [masterdisclaw33_AllocationLocates.j0])
      | succ kj4 =>
        have H := HA.out
        clear HA
        simp only [masterdisclaw33_AllocationLocates.j0] at H
        by_cases c12 : x29_4 = true
        · subst c12
          have H1 : (some true) = some r := by rw [if_pos rfl] at H; exact H
          clear H
          have H := H1
          clear H1
          obtain rfl := Option.some.inj H
          go_wp2
          go_ret
          exact ⟨by first | rfl | (simp [errW_none, errW_some] <;> rfl) | (simp [*, errW_none, errW_some] <;> rfl), by repeat (first | (with_reducible first | exact HB.out | apply below_alloc | apply pw_below_drewN | apply below_drew1) | exact HB.out)⟩
        · replace c12 := Bool.eq_false_iff.mpr c12
          subst c12
          have H1 : ((allocation_Length.f kj4 l0).bind fun t621 => (if t621 < 1 then (some false) else (if (wrap64 (Int.tdiv (wrap64 ((wrap64 (t621 + 2048)) - 1)) 2048)) = 0 then (none) else ((allocation_Locate.f kj4 l0 (Int.tmod (wrap64 (a1)) (wrap64 (Int.tdiv (wrap64 ((wrap64 (t621 + 2048)) - 1)) 2048)))).bind fun bt622 => ((allocation_Pieces.f kj4 l0 (wrap64 ((Int.tmod (wrap64 (a1)) (wrap64 (Int.tdiv (wrap64 ((wrap64 (t621 + 2048)) - 1)) 2048))) * 2048)) (mn 2048 (wrap64 (t621 - (wrap64 ((Int.tmod (wrap64 (a1)) (wrap64 (Int.tdiv (wrap64 ((wrap64 (t621 + 2048)) - 1)) 2048))) * 2048)))))).bind fun bt627 => (if bt622.2.2.2 = 0 then (if bt627.2 = 0 then ((api_Extent_42.f kj4 bt627.1 (([(⟨bt622.2.2.1, mn 2048 (wrap64 (t621 - (wrap64 ((Int.tmod (wrap64 (a1)) (wrap64 (Int.tdiv (wrap64 ((wrap64 (t621 + 2048)) - 1)) 2048))) * 2048)))), (⟨bt622.1, bt622.2.1⟩ : S44)⟩ : S46)] : List (S46)))).bind fun t634 => (masterdisclaw33_AllocationLocates.j1 kj4 l0 (Int.tmod (wrap64 (a1)) (wrap64 (Int.tdiv (wrap64 ((wrap64 (t621 + 2048)) - 1)) 2048))) bt622.2.2.1 (!t634) bt622.1 bt622.2.1)) else (masterdisclaw33_AllocationLocates.j1 kj4 l0 (Int.tmod (wrap64 (a1)) (wrap64 (Int.tdiv (wrap64 ((wrap64 (t621 + 2048)) - 1)) 2048))) bt622.2.2.1 true bt622.1 bt622.2.1)) else (masterdisclaw33_AllocationLocates.j1 kj4 l0 (Int.tmod (wrap64 (a1)) (wrap64 (Int.tdiv (wrap64 ((wrap64 (t621 + 2048)) - 1)) 2048))) bt622.2.2.1 true bt622.1 bt622.2.1))))))) = some r := by rw [if_neg (show ¬ (false = true) by decide)] at H; exact H
          clear H
          have H := H1
          clear H1
          replace H := Option.bind_eq_some_iff.mp H
          obtain ⟨t621, A130, H⟩ := H
          replace H : (if t621 < 1 then (some false) else (if (wrap64 (Int.tdiv (wrap64 ((wrap64 (t621 + 2048)) - 1)) 2048)) = 0 then (none) else ((allocation_Locate.f kj4 l0 (Int.tmod (wrap64 (a1)) (wrap64 (Int.tdiv (wrap64 ((wrap64 (t621 + 2048)) - 1)) 2048)))).bind fun bt622 => ((allocation_Pieces.f kj4 l0 (wrap64 ((Int.tmod (wrap64 (a1)) (wrap64 (Int.tdiv (wrap64 ((wrap64 (t621 + 2048)) - 1)) 2048))) * 2048)) (mn 2048 (wrap64 (t621 - (wrap64 ((Int.tmod (wrap64 (a1)) (wrap64 (Int.tdiv (wrap64 ((wrap64 (t621 + 2048)) - 1)) 2048))) * 2048)))))).bind fun bt627 => (if bt622.2.2.2 = 0 then (if bt627.2 = 0 then ((api_Extent_42.f kj4 bt627.1 (([(⟨bt622.2.2.1, mn 2048 (wrap64 (t621 - (wrap64 ((Int.tmod (wrap64 (a1)) (wrap64 (Int.tdiv (wrap64 ((wrap64 (t621 + 2048)) - 1)) 2048))) * 2048)))), (⟨bt622.1, bt622.2.1⟩ : S44)⟩ : S46)] : List (S46)))).bind fun t634 => (masterdisclaw33_AllocationLocates.j1 kj4 l0 (Int.tmod (wrap64 (a1)) (wrap64 (Int.tdiv (wrap64 ((wrap64 (t621 + 2048)) - 1)) 2048))) bt622.2.2.1 (!t634) bt622.1 bt622.2.1)) else (masterdisclaw33_AllocationLocates.j1 kj4 l0 (Int.tmod (wrap64 (a1)) (wrap64 (Int.tdiv (wrap64 ((wrap64 (t621 + 2048)) - 1)) 2048))) bt622.2.2.1 true bt622.1 bt622.2.1)) else (masterdisclaw33_AllocationLocates.j1 kj4 l0 (Int.tmod (wrap64 (a1)) (wrap64 (Int.tdiv (wrap64 ((wrap64 (t621 + 2048)) - 1)) 2048))) bt622.2.2.1 true bt622.1 bt622.2.1)))))) = some r := H
          have A13 := Aside0.mk A130
          clear A130
          by_cases c14 : t621 < 1
          · rw [if_pos c14] at H
            have c14b0 : decide (t621 < 1) = true := decide_eq_true c14
            clear c14
            obtain rfl := Option.some.inj H
            go_wp2_with (first | ((with_reducible refine gate_callee (f := 40) rfl ?_); refine goesL_ (some 31) rfl rfl Try.func40 (by kernel_rfl) rfl #[.slice A0 l0.length c0] rfl (by (try simp only [List.map_toArray, List.map_cons, List.map_nil]); first | done | rfl | (simp only [List.length_drop, List.length_take]; rfl)) ?_; (with_reducible refine (allocation_Length.calls kj4 _ _ l0 t621 _ ?side1 ?side2 A13.out).mono ?_); (case side1 => repeat (first | exact (Kd.C_below HR0.out HB.out) | (with_reducible refine Kd.C_alloc ?_ _) | (with_reducible refine Kd.C_drewN ?_ _) | (with_reducible refine Kd.C_drew ?_))); (case side2 => exact HC0.out); rintro e w15 ⟨rfl, hb⟩; refine ⟨_, rfl, ?_⟩; have n0_ := Aside0.mk (below_step (by repeat (first | (with_reducible first | exact HB.out | apply below_alloc | apply pw_below_drewN | apply below_drew1) | exact HB.out)) hb); clear HB; have HB := n0_; clear n0_; (try clear hb); (try clear hb2); (try clear hk); (try clear hi)))
            go_ret
            exact ⟨by first | rfl | (simp [errW_none, errW_some] <;> rfl) | (simp [*, errW_none, errW_some] <;> rfl), by repeat (first | (with_reducible first | exact HB.out | apply below_alloc | apply pw_below_drewN | apply below_drew1) | exact HB.out)⟩
          · rw [if_neg c14] at H
            have c14b0 : decide (t621 < 1) = false := decide_eq_false c14
            clear c14
            by_cases c16 : (wrap64 (Int.tdiv (wrap64 ((wrap64 (t621 + 2048)) - 1)) 2048)) = 0
            · rw [if_pos c16] at H
              exact absurd H (by simp)
            · rw [if_neg c16] at H
              have c16b0 : ((wrap64 (Int.tdiv (wrap64 ((wrap64 (t621 + 2048)) - 1)) 2048)) == 0) = false := beq_eq_false_iff_ne.mpr c16
              have c16b1 : ((wrap64 (Int.tdiv (wrap64 ((wrap64 (t621 + 2048)) - 1)) 2048)) != 0) = true := bne_iff_ne.mpr c16
              replace H := Option.bind_eq_some_iff.mp H
              obtain ⟨⟨t622, t623, t624, t625⟩, A170, H⟩ := H
              replace H : ((allocation_Pieces.f kj4 l0 (wrap64 ((Int.tmod (wrap64 (a1)) (wrap64 (Int.tdiv (wrap64 ((wrap64 (t621 + 2048)) - 1)) 2048))) * 2048)) (mn 2048 (wrap64 (t621 - (wrap64 ((Int.tmod (wrap64 (a1)) (wrap64 (Int.tdiv (wrap64 ((wrap64 (t621 + 2048)) - 1)) 2048))) * 2048)))))).bind fun bt627 => (if t625 = 0 then (if bt627.2 = 0 then ((api_Extent_42.f kj4 bt627.1 (([(⟨t624, mn 2048 (wrap64 (t621 - (wrap64 ((Int.tmod (wrap64 (a1)) (wrap64 (Int.tdiv (wrap64 ((wrap64 (t621 + 2048)) - 1)) 2048))) * 2048)))), (⟨t622, t623⟩ : S44)⟩ : S46)] : List (S46)))).bind fun t634 => (masterdisclaw33_AllocationLocates.j1 kj4 l0 (Int.tmod (wrap64 (a1)) (wrap64 (Int.tdiv (wrap64 ((wrap64 (t621 + 2048)) - 1)) 2048))) t624 (!t634) t622 t623)) else (masterdisclaw33_AllocationLocates.j1 kj4 l0 (Int.tmod (wrap64 (a1)) (wrap64 (Int.tdiv (wrap64 ((wrap64 (t621 + 2048)) - 1)) 2048))) t624 true t622 t623)) else (masterdisclaw33_AllocationLocates.j1 kj4 l0 (Int.tmod (wrap64 (a1)) (wrap64 (Int.tdiv (wrap64 ((wrap64 (t621 + 2048)) - 1)) 2048))) t624 true t622 t623))) = some r := H
              have A17 := Aside0.mk A170
              clear A170
              obtain ⟨ji18, hji18⟩ : ∃ j_ : Int, (mn 2048 (wrap64 (t621 - (wrap64 ((Int.tmod (wrap64 (a1)) (wrap64 (Int.tdiv (wrap64 ((wrap64 (t621 + 2048)) - 1)) 2048))) * 2048))))) = j_ := ⟨_, rfl⟩
              replace H : ((allocation_Pieces.f kj4 l0 (wrap64 ((Int.tmod (wrap64 (a1)) (wrap64 (Int.tdiv (wrap64 ((wrap64 (t621 + 2048)) - 1)) 2048))) * 2048)) (ji18)).bind fun bt627 => (if t625 = 0 then (if bt627.2 = 0 then ((api_Extent_42.f kj4 bt627.1 (([(⟨t624, ji18, (⟨t622, t623⟩ : S44)⟩ : S46)] : List (S46)))).bind fun t634 => (masterdisclaw33_AllocationLocates.j1 kj4 l0 (Int.tmod (wrap64 (a1)) (wrap64 (Int.tdiv (wrap64 ((wrap64 (t621 + 2048)) - 1)) 2048))) t624 (!t634) t622 t623)) else (masterdisclaw33_AllocationLocates.j1 kj4 l0 (Int.tmod (wrap64 (a1)) (wrap64 (Int.tdiv (wrap64 ((wrap64 (t621 + 2048)) - 1)) 2048))) t624 true t622 t623)) else (masterdisclaw33_AllocationLocates.j1 kj4 l0 (Int.tmod (wrap64 (a1)) (wrap64 (Int.tdiv (wrap64 ((wrap64 (t621 + 2048)) - 1)) 2048))) t624 true t622 t623))) = some r := by first | (rw [hji18] at H; exact H) | (simp only [hji18] at H ⊢; exact H)
              (try rw [hji18] at A13)
              (try rw [hji18] at A17)
              have hji18_ : (if (wrap64 (t621 - (wrap64 ((Int.tmod (wrap64 (a1)) (wrap64 (Int.tdiv (wrap64 ((wrap64 (t621 + 2048)) - 1)) 2048))) * 2048)))) < 2048 then (wrap64 (t621 - (wrap64 ((Int.tmod (wrap64 (a1)) (wrap64 (Int.tdiv (wrap64 ((wrap64 (t621 + 2048)) - 1)) 2048))) * 2048)))) else 2048) = ji18 := hji18
              replace H := Option.bind_eq_some_iff.mp H
              obtain ⟨⟨t627, t628⟩, A190, H⟩ := H
              replace H : (if t625 = 0 then (if t628 = 0 then ((api_Extent_42.f kj4 t627 (([(⟨t624, ji18, (⟨t622, t623⟩ : S44)⟩ : S46)] : List (S46)))).bind fun t634 => (masterdisclaw33_AllocationLocates.j1 kj4 l0 (Int.tmod (wrap64 (a1)) (wrap64 (Int.tdiv (wrap64 ((wrap64 (t621 + 2048)) - 1)) 2048))) t624 (!t634) t622 t623)) else (masterdisclaw33_AllocationLocates.j1 kj4 l0 (Int.tmod (wrap64 (a1)) (wrap64 (Int.tdiv (wrap64 ((wrap64 (t621 + 2048)) - 1)) 2048))) t624 true t622 t623)) else (masterdisclaw33_AllocationLocates.j1 kj4 l0 (Int.tmod (wrap64 (a1)) (wrap64 (Int.tdiv (wrap64 ((wrap64 (t621 + 2048)) - 1)) 2048))) t624 true t622 t623)) = some r := H
              have A19 := Aside0.mk A190
              clear A190
              have HC20 := Aside0.mk H
              clear H
              go_upto_region 12 with (first | ((with_reducible refine gate_callee (f := 40) rfl ?_); refine goesL_ (some 31) rfl rfl Try.func40 (by kernel_rfl) rfl #[.slice A0 l0.length c0] rfl (by (try simp only [List.map_toArray, List.map_cons, List.map_nil]); first | done | rfl | (simp only [List.length_drop, List.length_take]; rfl)) ?_; (with_reducible refine (allocation_Length.calls kj4 _ _ l0 t621 _ ?side1 ?side2 A13.out).mono ?_); (case side1 => repeat (first | exact (Kd.C_below HR0.out HB.out) | (with_reducible refine Kd.C_alloc ?_ _) | (with_reducible refine Kd.C_drewN ?_ _) | (with_reducible refine Kd.C_drew ?_))); (case side2 => exact HC0.out); rintro e w21 ⟨rfl, hb⟩; refine ⟨_, rfl, ?_⟩; have n0_ := Aside0.mk (below_step (by repeat (first | (with_reducible first | exact HB.out | apply below_alloc | apply pw_below_drewN | apply below_drew1) | exact HB.out)) hb); clear HB; have HB := n0_; clear n0_; (try clear hb); (try clear hb2); (try clear hk); (try clear hi)) | ((with_reducible refine gate_callee (f := 56) rfl ?_); refine goesL_ (some 44) rfl rfl Try.func56 (by kernel_rfl) rfl #[.slice A0 l0.length c0, .int .i64 (Int.tmod (wrap64 (a1)) (wrap64 (Int.tdiv (wrap64 ((wrap64 (t621 + 2048)) - 1)) 2048)))] rfl (by (try simp only [List.map_toArray, List.map_cons, List.map_nil]); first | done | rfl | (simp only [List.length_drop, List.length_take]; rfl)) ?_; (with_reducible refine (allocation_Locate.calls kj4 _ _ l0 (Int.tmod (wrap64 (a1)) (wrap64 (Int.tdiv (wrap64 ((wrap64 (t621 + 2048)) - 1)) 2048))) t622 t623 t624 t625 _ ?side1 ?side2 A17.out).mono ?_); (case side1 => repeat (first | exact (Kd.C_below HR0.out HB.out) | (with_reducible refine Kd.C_alloc ?_ _) | (with_reducible refine Kd.C_drewN ?_ _) | (with_reducible refine Kd.C_drew ?_))); (case side2 => exact HC0.out); rintro e w22 ⟨rfl, hb⟩; refine ⟨_, rfl, ?_⟩; have n0_ := Aside0.mk (below_step (by repeat (first | (with_reducible first | exact HB.out | apply below_alloc | apply pw_below_drewN | apply below_drew1) | exact HB.out)) hb); clear HB; have HB := n0_; clear n0_; (try clear hb); (try clear hb2); (try clear hk); (try clear hi)) | ((with_reducible refine gate_dst (N := 7) rfl ?_); (try (refine gate_guard (by rfl) ?_; dsimp only)); refine box_event ?hg (N := 7) ?hd (cs := #[.int .i64 0, .int .i64 0]) (t := 44) ?hr ?_; (case hd => rfl); (case hg => rfl); (case hr => first | (go_simp; done) | (go_simp; rfl)); intro gb626 hg w23 hbox hb; have n0_ := Aside0.mk (below_step (by repeat (first | (with_reducible first | exact HB.out | apply below_alloc | apply pw_below_drewN | apply below_drew1) | exact HB.out)) hb); have n1_ := Aside0.mk (hbox); have n2_ := Aside0.mk ((by rw [hg]; exact (below_size (by repeat (first | (with_reducible first | exact HB.out | apply below_alloc | apply pw_below_drewN | apply below_drew1) | exact HB.out))) : w.heap.size ≤ gb626)); have n3_ := Aside0.mk ((by rw [hg]; exact (below_size (by repeat (first | (with_reducible first | exact HB.out | apply below_alloc | apply pw_below_drewN | apply below_drew1) | exact HB.out))) : w.heap.size ≤ gb626)); clear HB; have HB := n0_; have BK626 := n1_; have GW626 := n2_; have GE626 := n3_; clear n0_ n1_ n2_ n3_; clear hb hbox hg; have hcz24_0 : w23.cell? ⟨gb626, 0, none⟩ = some (.int .i64 0) := (blk_cell BK626.out 0).trans rfl; have hcz24_1 : w23.cell? ⟨gb626, 1, none⟩ = some (.int .i64 0) := (blk_cell BK626.out 1).trans rfl; have hfz24_0 := blk_frozen BK626.out 0; have hfz24_1 := blk_frozen BK626.out 1) | ((with_reducible refine gate_callee (f := 53) rfl ?_); refine goesL_ (some 58) rfl rfl Try.func53 (by kernel_rfl) rfl #[.slice A0 l0.length c0, .int .i64 (wrap64 ((Int.tmod (wrap64 (a1)) (wrap64 (Int.tdiv (wrap64 ((wrap64 (t621 + 2048)) - 1)) 2048))) * 2048)), .int .i64 ji18] rfl (by (try simp only [List.map_toArray, List.map_cons, List.map_nil]); first | done | (simp only [hji18]; rfl) | rfl | (simp only [List.length_drop, List.length_take]; rfl)) ?_; (with_reducible refine (allocation_Pieces.calls kj4 _ _ l0 (wrap64 ((Int.tmod (wrap64 (a1)) (wrap64 (Int.tdiv (wrap64 ((wrap64 (t621 + 2048)) - 1)) 2048))) * 2048)) ji18 t627 t628 _ ?side1 ?side2 A19.out).mono ?_); (case side1 => exact Kd.C_below HR0.out (by repeat (first | (with_reducible first | exact HB.out | apply below_alloc | apply pw_below_drewN | apply below_drew1 | refine below_set ?_ GE626.out) | exact HB.out))); (case side2 => exact HC0.out); rintro e w25 ⟨v629, rfl, ho0, hb⟩; refine ⟨_, rfl, ?_⟩; have n0_ := Aside0.mk (Kd.R_lower ho0 (below_size (by repeat (first | (with_reducible first | exact HB.out | apply below_alloc | apply pw_below_drewN | apply below_drew1 | refine below_set ?_ GE626.out) | exact HB.out)))); have n1_ := Aside0.mk (blk_below (g := gb626) (o := .cells #[.int .i64 t622, .int .i64 t623] 44 (0, 0)) (by (with_reducible repeat (first | refine blk_drewN ?_ _ | refine blk_drew ?_ | refine blk_alloc ?_ _)); refine blk_put (cs := #[.int .i64 t622, .int .i64 0]) ?_ 1 _ rfl; (with_reducible repeat (first | refine blk_drewN ?_ _ | refine blk_drew ?_ | refine blk_alloc ?_ _)); refine blk_put (cs := #[.int .i64 0, .int .i64 0]) ?_ 0 _ rfl; (with_reducible repeat (first | refine blk_drewN ?_ _ | refine blk_drew ?_ | refine blk_alloc ?_ _)); exact BK626.out) hb); have n2_ := Aside0.mk (below_step (by repeat (first | (with_reducible first | exact HB.out | apply below_alloc | apply pw_below_drewN | apply below_drew1 | refine below_set ?_ GE626.out) | exact HB.out)) hb); clear BK626; clear HB; have HO630 := n0_; have BK626 := n1_; have HB := n2_; clear n0_ n1_ n2_; (try clear hb); (try clear hb2); (try clear hk); (try clear hi); (try clear ho0)))
              (try simp only [Act.put, List.setIfInBounds_toArray, List.set_cons_zero, List.set_cons_succ])
              go_cut [76] (fun v76 wc => ∃ (kq : Nat) (x76_19 : Bool), v76 = .bool x76_19 ∧ Aside0 (masterdisclaw33_AllocationLocates.j1 kq l0 (Int.tmod (wrap64 (a1)) (wrap64 (Int.tdiv (wrap64 ((wrap64 (t621 + 2048)) - 1)) 2048))) t624 x76_19 t622 t623 = some r) ∧ Aside0 (kq ≤ kj4) ∧ Aside0 (wc.heap[gb626]? = some (.cells #[.int .i64 t622, .int .i64 t623] 44 (0, 0))) ∧ Aside0 (Below w.heap.size w wc))
              case first =>
                have H := HC20.out
                clear HC20
                by_cases c26 : t625 = 0
                · rw [if_pos c26] at H
                  have c26b0 : (t625 == 0) = true := beq_iff_eq.mpr c26
                  have c26b1 : (t625 != 0) = false := bne_eq_false_iff_eq.mpr c26
                  clear c26
                  (first | rw [c26b0] | (simp only [i64_w, i32_w]; rw [c26b0]) | skip)
                  by_cases c27 : t628 = 0
                  · rw [if_pos c27] at H
                    have c27b0 : (t628 == 0) = true := beq_iff_eq.mpr c27
                    have c27b1 : (t628 != 0) = false := bne_eq_false_iff_eq.mpr c27
                    clear c27
                    obtain ⟨y631, hy631⟩ : ∃ y_ : List (S46), y_ = (([(⟨t624, ji18, (⟨t622, t623⟩ : S44)⟩ : S46)] : List (S46))) := ⟨_, rfl⟩
                    replace H : ((api_Extent_42.f kj4 t627 y631).bind fun t634 => (masterdisclaw33_AllocationLocates.j1 kj4 l0 (Int.tmod (wrap64 (a1)) (wrap64 (Int.tdiv (wrap64 ((wrap64 (t621 + 2048)) - 1)) 2048))) t624 (!t634) t622 t623)) = some r := by first | (rw [hy631]; with_reducible exact H) | (have H2_ := (Option.bind_some _ _).symm.trans H; rw [hy631]; with_reducible exact H2_) | (have H2_ := (Option.bind_some _ _).symm.trans H; with_reducible exact H2_) | with_reducible exact H | (rw [hy631]; exact H) | exact H
                    have Ny631 := Aside0.mk hy631
                    clear hy631
                    replace H := Option.bind_eq_some_iff.mp H
                    obtain ⟨t634, A280, H⟩ := H
                    replace H : (masterdisclaw33_AllocationLocates.j1 kj4 l0 (Int.tmod (wrap64 (a1)) (wrap64 (Int.tdiv (wrap64 ((wrap64 (t621 + 2048)) - 1)) 2048))) t624 (!t634) t622 t623) = some r := H
                    have A28 := Aside0.mk A280
                    clear A280
                    have H' := Aside0.mk H
                    clear H
                    have hcz29_0 : w25.cell? ⟨gb626, 0, none⟩ = some (.int .i64 t622) := (blk_cell BK626.out 0).trans rfl
                    have hcz29_1 : w25.cell? ⟨gb626, 1, none⟩ = some (.int .i64 t623) := (blk_cell BK626.out 1).trans rfl
                    have hfz29_0 := blk_frozen BK626.out 0
                    have hfz29_1 := blk_frozen BK626.out 1
                    go_wp2_with (first | ((with_reducible refine gate_dst (N := 73) rfl ?_); (try (refine gate_guard (by rfl) ?_; dsimp only)); refine Kd.R_lit k46 _ 46 ?hg (N := 73) ?hd (xs := ([(⟨t624, ji18, (⟨t622, t623⟩ : S44)⟩ : S46)] : List (S46))) (inner := [.int .i64 t624, .int .i64 ji18, .int .i64 t622, .int .i64 t623]) (ok := fun _ => True) (okp := fun _ => True) ?hr ?hp (fun _ hk => hk) trivial (Below.refl _ _) (Nat.le_refl _) (by simp) ?_; (case hd => rfl); (case hg => rfl); (case hr => first | (go_simp; done) | (go_simp; rfl)); (case hp => exact (Reps.c4 (show Kd.M k46 _ _ _ (⟨t624, ji18, (⟨t622, t623⟩ : S44)⟩ : S46) [.int .i64 t624, .int .i64 ji18, .int .i64 t622, .int .i64 t623] from (k46_mkM _ _ _ (⟨t624, ji18, (⟨t622, t623⟩ : S44)⟩ : S46) )) (Reps.none _ _))); intro v632 w30 ho31 hb hg_ hnew_; clear hg_ hnew_; (first | rw [← Ny631.out] at ho31 | (simp only [Int.reduceToNat] at ho31; rw [← Ny631.out] at ho31)); have n0_ := Aside0.mk (Kd.R_elder' (by (with_reducible repeat (first | apply Kd.R_alloc | apply Kd.R_drewN | apply Kd.R_drew)); exact HO630.out) (Kd.R_base ho31) hb); have n1_ := Aside0.mk (Kd.R_lower (Kd.R_new' ho31 (Kd.R_lt (by (with_reducible repeat (first | apply Kd.R_alloc | apply Kd.R_drewN | apply Kd.R_drew)); exact HO630.out))) (below_size (by repeat (first | (with_reducible first | exact HB.out | apply below_alloc | apply pw_below_drewN | apply below_drew1 | refine below_set ?_ GE626.out) | exact HB.out)))); have n2_ := Aside0.mk (blk_below (g := gb626) (o := .cells #[.int .i64 t622, .int .i64 t623] 44 (0, 0)) (by (with_reducible repeat (first | refine blk_drewN ?_ _ | refine blk_drew ?_ | refine blk_alloc ?_ _)); exact BK626.out) hb); have n3_ := Aside0.mk (below_step (by repeat (first | (with_reducible first | exact HB.out | apply below_alloc | apply pw_below_drewN | apply below_drew1 | refine below_set ?_ GE626.out) | exact HB.out)) hb); clear HO630; clear BK626; clear HB; have HO630 := n0_; have HO633 := n1_; have BK626 := n2_; have HB := n3_; clear n0_ n1_ n2_ n3_; clear hb ho31; obtain ⟨Ao32, co32, eo32⟩ := Kd.R_slice HO630.out; subst eo32; obtain ⟨Ao33, co33, eo33⟩ := Kd.R_slice HO633.out; subst eo33) | (go_at_call 42; (with_reducible refine (api_Extent_42.calls kj4 _ _ t627 _ _ y631 t634 _ ?side1 ?side2 ?side3 ?side4 A28.out).mono ?_); (case side1 => repeat (first | exact (Kd.R_reads' HO630.out).2.2 | (with_reducible refine Kd.C_alloc ?_ _) | (with_reducible refine Kd.C_drewN ?_ _) | (with_reducible refine Kd.C_drew ?_))); (case side2 => exact (Kd.R_reads' HO630.out).2.1); (case side3 => repeat (first | exact (Kd.R_reads' HO633.out).2.2 | (with_reducible refine Kd.C_alloc ?_ _) | (with_reducible refine Kd.C_drewN ?_ _) | (with_reducible refine Kd.C_drew ?_))); (case side4 => exact (Kd.R_reads' HO633.out).2.1); rintro e w' ⟨rfl, ⟨nd, rfl⟩⟩))
                    go_meet
                    case rel => exact ⟨_, (!t634), (by first | rfl | (simp; done) | (simp [*]; done)), H', ⟨by have := HJ4.out; first | omega | exact Nat.le_refl _⟩, ⟨by (with_reducible repeat (first | refine blk_drewN ?_ _ | refine blk_drew ?_ | refine blk_alloc ?_ _)); exact BK626.out⟩, ⟨by repeat (first | (with_reducible first | exact HB.out | apply below_alloc | apply pw_below_drewN | apply below_drew1 | refine below_set ?_ GE626.out) | exact HB.out)⟩⟩
                  · rw [if_neg c27] at H
                    have c27b0 : (t628 == 0) = false := beq_eq_false_iff_ne.mpr c27
                    have c27b1 : (t628 != 0) = true := bne_iff_ne.mpr c27
                    have H' := Aside0.mk H
                    clear H
                    go_wp2
                    go_meet
                    case rel => exact ⟨_, (true), (by first | rfl | (simp; done) | (simp [*]; done)), H', ⟨by have := HJ4.out; first | omega | exact Nat.le_refl _⟩, ⟨by (with_reducible repeat (first | refine blk_drewN ?_ _ | refine blk_drew ?_ | refine blk_alloc ?_ _)); exact BK626.out⟩, ⟨by repeat (first | (with_reducible first | exact HB.out | apply below_alloc | apply pw_below_drewN | apply below_drew1 | refine below_set ?_ GE626.out) | exact HB.out)⟩⟩
                · rw [if_neg c26] at H
                  have c26b0 : (t625 == 0) = false := beq_eq_false_iff_ne.mpr c26
                  have c26b1 : (t625 != 0) = true := bne_iff_ne.mpr c26
                  (first | rw [c26b0] | (simp only [i64_w, i32_w]; rw [c26b0]) | skip)
                  have H' := Aside0.mk H
                  clear H
                  go_wp2
                  go_meet
                  case rel => exact ⟨_, (true), (by first | rfl | (simp; done) | (simp [*]; done)), H', ⟨by have := HJ4.out; first | omega | exact Nat.le_refl _⟩, ⟨by (with_reducible repeat (first | refine blk_drewN ?_ _ | refine blk_drew ?_ | refine blk_alloc ?_ _)); exact BK626.out⟩, ⟨by repeat (first | (with_reducible first | exact HB.out | apply below_alloc | apply pw_below_drewN | apply below_drew1 | refine below_set ?_ GE626.out) | exact HB.out)⟩⟩
              case rest =>
                clear HC20
                try clear c1
                try clear c2
                try clear p2
                try clear c3
                try clear c4
                try clear c5
                try clear p6
                try clear c7
                try clear c7b0
                try clear c7b1
                try clear c9
                try clear c12
                try clear c14
                try clear c14b0
                try clear c16
                try clear c16b0
                try clear c16b1
                try clear c26
                try clear c26b0
                try clear c26b1
                try clear c27
                try clear c27b0
                try clear c27b1
                try clear c33
                try clear hcz24_0
                try clear hcz24_1
                try clear hcz29_0
                try clear hcz29_1
                try clear hfz24_0
                try clear hfz24_1
                try clear hfz29_0
                try clear hfz29_1
                try clear p2
                obtain ⟨kq, x76_19, rfl, HA, HJ19, BK626, HB⟩ := hcut
                cases kq with
                | zero => exact absurd HA.out (by simp [masterdisclaw33_AllocationLocates.j1])
                | succ kj19 =>
                  have H := HA.out
                  clear HA
                  simp only [masterdisclaw33_AllocationLocates.j1] at H
                  by_cases c34 : x76_19 = true
                  · subst c34
                    have H1 : (some false) = some r := by rw [if_pos rfl] at H; exact H
                    clear H
                    have H := H1
                    clear H1
                    obtain rfl := Option.some.inj H
                    go_wp2
                    go_ret
                    exact ⟨by first | rfl | (simp [errW_none, errW_some] <;> rfl) | (simp only [← hji18]; first | rfl | (simp [errW_none, errW_some] <;> rfl)) | (simp [*, errW_none, errW_some] <;> rfl), by repeat (first | (with_reducible first | exact HB.out | apply below_alloc | apply pw_below_drewN | apply below_drew1 | refine below_set ?_ GE626.out) | exact HB.out)⟩
                  · replace c34 := Bool.eq_false_iff.mpr c34
                    subst c34
                    have H1 : ((allocation_Join.f kj19 l0).bind fun t635 => ((allocation_Locate.f kj19 t635 (Int.tmod (wrap64 (a1)) (wrap64 (Int.tdiv (wrap64 ((wrap64 (t621 + 2048)) - 1)) 2048)))).bind fun bt638 => (if bt638.2.2.2 = 0 then (if (bt638.1 == t622 && (bt638.2.1 == t623)) = true then (some (bt638.2.2.1 == t624)) else (some false)) else (some false)))) = some r := by rw [if_neg (show ¬ (false = true) by decide)] at H; exact H
                    clear H
                    have H := H1
                    clear H1
                    replace H := Option.bind_eq_some_iff.mp H
                    obtain ⟨t635, A350, H⟩ := H
                    replace H : ((allocation_Locate.f kj19 t635 (Int.tmod (wrap64 (a1)) (wrap64 (Int.tdiv (wrap64 ((wrap64 (t621 + 2048)) - 1)) 2048)))).bind fun bt638 => (if bt638.2.2.2 = 0 then (if (bt638.1 == t622 && (bt638.2.1 == t623)) = true then (some (bt638.2.2.1 == t624)) else (some false)) else (some false))) = some r := H
                    have A35 := Aside0.mk A350
                    clear A350
                    replace H := Option.bind_eq_some_iff.mp H
                    obtain ⟨⟨t638, t639, t640, t641⟩, A360, H⟩ := H
                    replace H : (if t641 = 0 then (if (t638 == t622 && (t639 == t623)) = true then (some (t640 == t624)) else (some false)) else (some false)) = some r := H
                    have A36 := Aside0.mk A360
                    clear A360
                    by_cases c37 : t641 = 0
                    · rw [if_pos c37] at H
                      have c37b0 : (t641 == 0) = true := beq_iff_eq.mpr c37
                      have c37b1 : (t641 != 0) = false := bne_eq_false_iff_eq.mpr c37
                      clear c37
                      by_cases c38 : (t638 == t622 && (t639 == t623)) = true
                      · rw [if_pos c38] at H
                        have c38b0 : (t638 == t622 && (t639 == t623)) = true := c38
                        (try (have c38b1 : decide (t638 = t622 && (t639 == t623)) = true := by simpa using c38))
                        (try (have c38b2 : (t638 == t622 && (t639 == t623)) = true := by simpa using c38))
                        clear c38
                        obtain rfl := Option.some.inj H
                        go_wp2_with (first | ((with_reducible refine gate_callee (f := 39) rfl ?_); refine goesL_ (some 79) rfl rfl Try.func39 (by kernel_rfl) rfl #[.slice A0 l0.length c0] rfl (by (try simp only [List.map_toArray, List.map_cons, List.map_nil]); first | done | rfl | (simp only [List.length_drop, List.length_take]; rfl)) ?_; (with_reducible refine (allocation_Join.calls kj19 _ _ l0 t635 _ ?side1 ?side2 A35.out).mono ?_); (case side1 => repeat (first | exact (Kd.C_below HR0.out HB.out) | (with_reducible refine Kd.C_alloc ?_ _) | (with_reducible refine Kd.C_drewN ?_ _) | (with_reducible refine Kd.C_drew ?_))); (case side2 => exact HC0.out); rintro e w39 ⟨v636, rfl, ho0, hb⟩; refine ⟨_, rfl, ?_⟩; have n0_ := Aside0.mk (Kd.R_lower ho0 (below_size (by repeat (first | (with_reducible first | exact HB.out | apply below_alloc | apply pw_below_drewN | apply below_drew1 | refine below_set ?_ GE626.out) | exact HB.out)))); have n1_ := Aside0.mk (blk_below (g := gb626) (o := .cells #[.int .i64 t622, .int .i64 t623] 44 (0, 0)) (by (with_reducible repeat (first | refine blk_drewN ?_ _ | refine blk_drew ?_ | refine blk_alloc ?_ _)); exact BK626.out) hb); have n2_ := Aside0.mk (below_step (by repeat (first | (with_reducible first | exact HB.out | apply below_alloc | apply pw_below_drewN | apply below_drew1 | refine below_set ?_ GE626.out) | exact HB.out)) hb); clear BK626; clear HB; have HO637 := n0_; have BK626 := n1_; have HB := n2_; clear n0_ n1_ n2_; (try clear hb); (try clear hb2); (try clear hk); (try clear hi); (try clear ho0); obtain ⟨Ao40, co40, eo40⟩ := Kd.R_slice HO637.out; subst eo40) | ((with_reducible refine gate_callee (f := 56) rfl ?_); refine goesL_ (some 81) rfl rfl Try.func56 (by kernel_rfl) rfl #[.slice Ao40 t635.length co40, .int .i64 (Int.tmod (wrap64 (a1)) (wrap64 (Int.tdiv (wrap64 ((wrap64 (t621 + 2048)) - 1)) 2048)))] rfl (by (try simp only [List.map_toArray, List.map_cons, List.map_nil]); first | done | rfl | (simp only [List.length_drop, List.length_take]; rfl)) ?_; (with_reducible refine (allocation_Locate.calls kj19 _ _ t635 (Int.tmod (wrap64 (a1)) (wrap64 (Int.tdiv (wrap64 ((wrap64 (t621 + 2048)) - 1)) 2048))) t638 t639 t640 t641 _ ?side1 ?side2 A36.out).mono ?_); (case side1 => repeat (first | exact (Kd.R_reads' HO637.out).2.2 | (with_reducible refine Kd.C_alloc ?_ _) | (with_reducible refine Kd.C_drewN ?_ _) | (with_reducible refine Kd.C_drew ?_))); (case side2 => exact (Kd.R_reads' HO637.out).2.1); rintro e w41 ⟨rfl, hb⟩; refine ⟨_, rfl, ?_⟩; have n0_ := Aside0.mk (Kd.R_below (by (with_reducible repeat (first | apply Kd.R_alloc | apply Kd.R_drewN | apply Kd.R_drew)); exact HO637.out) hb); have n1_ := Aside0.mk (blk_below (g := gb626) (o := .cells #[.int .i64 t622, .int .i64 t623] 44 (0, 0)) (by (with_reducible repeat (first | refine blk_drewN ?_ _ | refine blk_drew ?_ | refine blk_alloc ?_ _)); exact BK626.out) hb); have n2_ := Aside0.mk (below_step (by repeat (first | (with_reducible first | exact HB.out | apply below_alloc | apply pw_below_drewN | apply below_drew1 | refine below_set ?_ GE626.out) | exact HB.out)) hb); clear HO637; clear BK626; clear HB; have HO637 := n0_; have BK626 := n1_; have HB := n2_; clear n0_ n1_ n2_; (try clear hb); (try clear hb2); (try clear hk); (try clear hi)) | ((with_reducible refine gate_dst (N := 13) rfl ?_); (try (refine gate_guard (by rfl) ?_; dsimp only)); refine box_event ?hg (N := 13) ?hd (cs := #[.int .i64 0, .int .i64 0]) (t := 44) ?hr ?_; (case hd => rfl); (case hg => rfl); (case hr => first | (go_simp; done) | (go_simp; rfl)); intro gb642 hg w42 hbox hb; have n0_ := Aside0.mk (Kd.R_below (by (with_reducible repeat (first | apply Kd.R_alloc | apply Kd.R_drewN | apply Kd.R_drew)); exact HO637.out) hb); have n1_ := Aside0.mk (blk_below (g := gb626) (o := .cells #[.int .i64 t622, .int .i64 t623] 44 (0, 0)) (by (with_reducible repeat (first | refine blk_drewN ?_ _ | refine blk_drew ?_ | refine blk_alloc ?_ _)); exact BK626.out) hb); have n2_ := Aside0.mk (below_step (by repeat (first | (with_reducible first | exact HB.out | apply below_alloc | apply pw_below_drewN | apply below_drew1 | refine below_set ?_ GE626.out) | exact HB.out)) hb); have n3_ := Aside0.mk (hbox); have n4_ := Aside0.mk ((by rw [hg]; exact (below_size (by repeat (first | (with_reducible first | exact HB.out | apply below_alloc | apply pw_below_drewN | apply below_drew1 | refine below_set ?_ GE626.out) | exact HB.out))) : w.heap.size ≤ gb642)); have n5_ := Aside0.mk ((by rw [hg]; exact (below_size (by repeat (first | (with_reducible first | exact HB.out | apply below_alloc | apply pw_below_drewN | apply below_drew1 | refine below_set ?_ GE626.out) | exact HB.out))) : w.heap.size ≤ gb642)); have n6_ := Aside0.mk ((by rw [hg]; exact Nat.ne_of_lt (blk_lt (g := gb626) (o := .cells #[.int .i64 t622, .int .i64 t623] 44 (0, 0)) (by (with_reducible repeat (first | refine blk_drewN ?_ _ | refine blk_drew ?_ | refine blk_alloc ?_ _)); exact BK626.out)) : gb626 ≠ gb642)); have n7_ := Aside0.mk ((by rw [hg]; exact Nat.ne_of_gt (blk_lt (g := gb626) (o := .cells #[.int .i64 t622, .int .i64 t623] 44 (0, 0)) (by (with_reducible repeat (first | refine blk_drewN ?_ _ | refine blk_drew ?_ | refine blk_alloc ?_ _)); exact BK626.out)) : gb642 ≠ gb626)); clear HO637; clear BK626; clear HB; have HO637 := n0_; have BK626 := n1_; have HB := n2_; have BK642 := n3_; have GW642 := n4_; have GE642 := n5_; have NB626_642 := n6_; have NB642_626 := n7_; clear n0_ n1_ n2_ n3_ n4_ n5_ n6_ n7_; clear hb hbox hg; have hnb43 := NB642_626.out; have hnc43 := NB626_642.out; have hcz44_0 : w42.cell? ⟨gb642, 0, none⟩ = some (.int .i64 0) := (blk_cell BK642.out 0).trans rfl; have hcz44_1 : w42.cell? ⟨gb642, 1, none⟩ = some (.int .i64 0) := (blk_cell BK642.out 1).trans rfl; have hfz44_0 := blk_frozen BK642.out 0; have hfz44_1 := blk_frozen BK642.out 1; have hcz45_0 : w42.cell? ⟨gb626, 0, none⟩ = some (.int .i64 t622) := (blk_cell BK626.out 0).trans rfl; have hcz45_1 : w42.cell? ⟨gb626, 1, none⟩ = some (.int .i64 t623) := (blk_cell BK626.out 1).trans rfl; have hfz45_0 := blk_frozen BK626.out 0; have hfz45_1 := blk_frozen BK626.out 1))
                        go_ret
                        exact ⟨by first | rfl | (simp [errW_none, errW_some] <;> rfl) | (simp only [← hji18]; first | rfl | (simp [errW_none, errW_some] <;> rfl)) | (simp [*, errW_none, errW_some] <;> rfl), by repeat (first | (with_reducible first | exact HB.out | apply below_alloc | apply pw_below_drewN | apply below_drew1 | refine below_set ?_ GE626.out | refine below_set ?_ GE642.out) | exact HB.out)⟩
                      · rw [if_neg c38] at H
                        have c38b0 : (t638 == t622 && (t639 == t623)) = false := by simpa using c38
                        (try (have c38b1 : decide (t638 = t622 && (t639 == t623)) = false := by simpa using c38))
                        (try (have c38b2 : (t638 == t622 && (t639 == t623)) = false := by simpa using c38))
                        (try (have c38b3 : ¬ (t638 = t622 && (t639 == t623)) := by simpa using c38))
                        clear c38
                        obtain rfl := Option.some.inj H
                        go_wp2_with (first | ((with_reducible refine gate_callee (f := 39) rfl ?_); refine goesL_ (some 79) rfl rfl Try.func39 (by kernel_rfl) rfl #[.slice A0 l0.length c0] rfl (by (try simp only [List.map_toArray, List.map_cons, List.map_nil]); first | done | rfl | (simp only [List.length_drop, List.length_take]; rfl)) ?_; (with_reducible refine (allocation_Join.calls kj19 _ _ l0 t635 _ ?side1 ?side2 A35.out).mono ?_); (case side1 => repeat (first | exact (Kd.C_below HR0.out HB.out) | (with_reducible refine Kd.C_alloc ?_ _) | (with_reducible refine Kd.C_drewN ?_ _) | (with_reducible refine Kd.C_drew ?_))); (case side2 => exact HC0.out); rintro e w46 ⟨v636, rfl, ho0, hb⟩; refine ⟨_, rfl, ?_⟩; have n0_ := Aside0.mk (Kd.R_lower ho0 (below_size (by repeat (first | (with_reducible first | exact HB.out | apply below_alloc | apply pw_below_drewN | apply below_drew1 | refine below_set ?_ GE626.out) | exact HB.out)))); have n1_ := Aside0.mk (blk_below (g := gb626) (o := .cells #[.int .i64 t622, .int .i64 t623] 44 (0, 0)) (by (with_reducible repeat (first | refine blk_drewN ?_ _ | refine blk_drew ?_ | refine blk_alloc ?_ _)); exact BK626.out) hb); have n2_ := Aside0.mk (below_step (by repeat (first | (with_reducible first | exact HB.out | apply below_alloc | apply pw_below_drewN | apply below_drew1 | refine below_set ?_ GE626.out) | exact HB.out)) hb); clear BK626; clear HB; have HO637 := n0_; have BK626 := n1_; have HB := n2_; clear n0_ n1_ n2_; (try clear hb); (try clear hb2); (try clear hk); (try clear hi); (try clear ho0); obtain ⟨Ao47, co47, eo47⟩ := Kd.R_slice HO637.out; subst eo47) | ((with_reducible refine gate_callee (f := 56) rfl ?_); refine goesL_ (some 81) rfl rfl Try.func56 (by kernel_rfl) rfl #[.slice Ao47 t635.length co47, .int .i64 (Int.tmod (wrap64 (a1)) (wrap64 (Int.tdiv (wrap64 ((wrap64 (t621 + 2048)) - 1)) 2048)))] rfl (by (try simp only [List.map_toArray, List.map_cons, List.map_nil]); first | done | rfl | (simp only [List.length_drop, List.length_take]; rfl)) ?_; (with_reducible refine (allocation_Locate.calls kj19 _ _ t635 (Int.tmod (wrap64 (a1)) (wrap64 (Int.tdiv (wrap64 ((wrap64 (t621 + 2048)) - 1)) 2048))) t638 t639 t640 t641 _ ?side1 ?side2 A36.out).mono ?_); (case side1 => repeat (first | exact (Kd.R_reads' HO637.out).2.2 | (with_reducible refine Kd.C_alloc ?_ _) | (with_reducible refine Kd.C_drewN ?_ _) | (with_reducible refine Kd.C_drew ?_))); (case side2 => exact (Kd.R_reads' HO637.out).2.1); rintro e w48 ⟨rfl, hb⟩; refine ⟨_, rfl, ?_⟩; have n0_ := Aside0.mk (Kd.R_below (by (with_reducible repeat (first | apply Kd.R_alloc | apply Kd.R_drewN | apply Kd.R_drew)); exact HO637.out) hb); have n1_ := Aside0.mk (blk_below (g := gb626) (o := .cells #[.int .i64 t622, .int .i64 t623] 44 (0, 0)) (by (with_reducible repeat (first | refine blk_drewN ?_ _ | refine blk_drew ?_ | refine blk_alloc ?_ _)); exact BK626.out) hb); have n2_ := Aside0.mk (below_step (by repeat (first | (with_reducible first | exact HB.out | apply below_alloc | apply pw_below_drewN | apply below_drew1 | refine below_set ?_ GE626.out) | exact HB.out)) hb); clear HO637; clear BK626; clear HB; have HO637 := n0_; have BK626 := n1_; have HB := n2_; clear n0_ n1_ n2_; (try clear hb); (try clear hb2); (try clear hk); (try clear hi)) | ((with_reducible refine gate_dst (N := 13) rfl ?_); (try (refine gate_guard (by rfl) ?_; dsimp only)); refine box_event ?hg (N := 13) ?hd (cs := #[.int .i64 0, .int .i64 0]) (t := 44) ?hr ?_; (case hd => rfl); (case hg => rfl); (case hr => first | (go_simp; done) | (go_simp; rfl)); intro gb642 hg w49 hbox hb; have n0_ := Aside0.mk (Kd.R_below (by (with_reducible repeat (first | apply Kd.R_alloc | apply Kd.R_drewN | apply Kd.R_drew)); exact HO637.out) hb); have n1_ := Aside0.mk (blk_below (g := gb626) (o := .cells #[.int .i64 t622, .int .i64 t623] 44 (0, 0)) (by (with_reducible repeat (first | refine blk_drewN ?_ _ | refine blk_drew ?_ | refine blk_alloc ?_ _)); exact BK626.out) hb); have n2_ := Aside0.mk (below_step (by repeat (first | (with_reducible first | exact HB.out | apply below_alloc | apply pw_below_drewN | apply below_drew1 | refine below_set ?_ GE626.out) | exact HB.out)) hb); have n3_ := Aside0.mk (hbox); have n4_ := Aside0.mk ((by rw [hg]; exact (below_size (by repeat (first | (with_reducible first | exact HB.out | apply below_alloc | apply pw_below_drewN | apply below_drew1 | refine below_set ?_ GE626.out) | exact HB.out))) : w.heap.size ≤ gb642)); have n5_ := Aside0.mk ((by rw [hg]; exact (below_size (by repeat (first | (with_reducible first | exact HB.out | apply below_alloc | apply pw_below_drewN | apply below_drew1 | refine below_set ?_ GE626.out) | exact HB.out))) : w.heap.size ≤ gb642)); have n6_ := Aside0.mk ((by rw [hg]; exact Nat.ne_of_lt (blk_lt (g := gb626) (o := .cells #[.int .i64 t622, .int .i64 t623] 44 (0, 0)) (by (with_reducible repeat (first | refine blk_drewN ?_ _ | refine blk_drew ?_ | refine blk_alloc ?_ _)); exact BK626.out)) : gb626 ≠ gb642)); have n7_ := Aside0.mk ((by rw [hg]; exact Nat.ne_of_gt (blk_lt (g := gb626) (o := .cells #[.int .i64 t622, .int .i64 t623] 44 (0, 0)) (by (with_reducible repeat (first | refine blk_drewN ?_ _ | refine blk_drew ?_ | refine blk_alloc ?_ _)); exact BK626.out)) : gb642 ≠ gb626)); clear HO637; clear BK626; clear HB; have HO637 := n0_; have BK626 := n1_; have HB := n2_; have BK642 := n3_; have GW642 := n4_; have GE642 := n5_; have NB626_642 := n6_; have NB642_626 := n7_; clear n0_ n1_ n2_ n3_ n4_ n5_ n6_ n7_; clear hb hbox hg; have hnb50 := NB642_626.out; have hnc50 := NB626_642.out; have hcz51_0 : w49.cell? ⟨gb642, 0, none⟩ = some (.int .i64 0) := (blk_cell BK642.out 0).trans rfl; have hcz51_1 : w49.cell? ⟨gb642, 1, none⟩ = some (.int .i64 0) := (blk_cell BK642.out 1).trans rfl; have hfz51_0 := blk_frozen BK642.out 0; have hfz51_1 := blk_frozen BK642.out 1; have hcz52_0 : w49.cell? ⟨gb626, 0, none⟩ = some (.int .i64 t622) := (blk_cell BK626.out 0).trans rfl; have hcz52_1 : w49.cell? ⟨gb626, 1, none⟩ = some (.int .i64 t623) := (blk_cell BK626.out 1).trans rfl; have hfz52_0 := blk_frozen BK626.out 0; have hfz52_1 := blk_frozen BK626.out 1))
                        go_ret
                        exact ⟨by first | rfl | (simp [errW_none, errW_some] <;> rfl) | (simp only [← hji18]; first | rfl | (simp [errW_none, errW_some] <;> rfl)) | (simp [*, errW_none, errW_some] <;> rfl), by repeat (first | (with_reducible first | exact HB.out | apply below_alloc | apply pw_below_drewN | apply below_drew1 | refine below_set ?_ GE626.out | refine below_set ?_ GE642.out) | exact HB.out)⟩
                    · rw [if_neg c37] at H
                      have c37b0 : (t641 == 0) = false := beq_eq_false_iff_ne.mpr c37
                      have c37b1 : (t641 != 0) = true := bne_iff_ne.mpr c37
                      obtain rfl := Option.some.inj H
                      go_wp2_with (first | ((with_reducible refine gate_callee (f := 39) rfl ?_); refine goesL_ (some 79) rfl rfl Try.func39 (by kernel_rfl) rfl #[.slice A0 l0.length c0] rfl (by (try simp only [List.map_toArray, List.map_cons, List.map_nil]); first | done | rfl | (simp only [List.length_drop, List.length_take]; rfl)) ?_; (with_reducible refine (allocation_Join.calls kj19 _ _ l0 t635 _ ?side1 ?side2 A35.out).mono ?_); (case side1 => repeat (first | exact (Kd.C_below HR0.out HB.out) | (with_reducible refine Kd.C_alloc ?_ _) | (with_reducible refine Kd.C_drewN ?_ _) | (with_reducible refine Kd.C_drew ?_))); (case side2 => exact HC0.out); rintro e w53 ⟨v636, rfl, ho0, hb⟩; refine ⟨_, rfl, ?_⟩; have n0_ := Aside0.mk (Kd.R_lower ho0 (below_size (by repeat (first | (with_reducible first | exact HB.out | apply below_alloc | apply pw_below_drewN | apply below_drew1 | refine below_set ?_ GE626.out) | exact HB.out)))); have n1_ := Aside0.mk (blk_below (g := gb626) (o := .cells #[.int .i64 t622, .int .i64 t623] 44 (0, 0)) (by (with_reducible repeat (first | refine blk_drewN ?_ _ | refine blk_drew ?_ | refine blk_alloc ?_ _)); exact BK626.out) hb); have n2_ := Aside0.mk (below_step (by repeat (first | (with_reducible first | exact HB.out | apply below_alloc | apply pw_below_drewN | apply below_drew1 | refine below_set ?_ GE626.out) | exact HB.out)) hb); clear BK626; clear HB; have HO637 := n0_; have BK626 := n1_; have HB := n2_; clear n0_ n1_ n2_; (try clear hb); (try clear hb2); (try clear hk); (try clear hi); (try clear ho0); obtain ⟨Ao54, co54, eo54⟩ := Kd.R_slice HO637.out; subst eo54) | ((with_reducible refine gate_callee (f := 56) rfl ?_); refine goesL_ (some 81) rfl rfl Try.func56 (by kernel_rfl) rfl #[.slice Ao54 t635.length co54, .int .i64 (Int.tmod (wrap64 (a1)) (wrap64 (Int.tdiv (wrap64 ((wrap64 (t621 + 2048)) - 1)) 2048)))] rfl (by (try simp only [List.map_toArray, List.map_cons, List.map_nil]); first | done | rfl | (simp only [List.length_drop, List.length_take]; rfl)) ?_; (with_reducible refine (allocation_Locate.calls kj19 _ _ t635 (Int.tmod (wrap64 (a1)) (wrap64 (Int.tdiv (wrap64 ((wrap64 (t621 + 2048)) - 1)) 2048))) t638 t639 t640 t641 _ ?side1 ?side2 A36.out).mono ?_); (case side1 => repeat (first | exact (Kd.R_reads' HO637.out).2.2 | (with_reducible refine Kd.C_alloc ?_ _) | (with_reducible refine Kd.C_drewN ?_ _) | (with_reducible refine Kd.C_drew ?_))); (case side2 => exact (Kd.R_reads' HO637.out).2.1); rintro e w55 ⟨rfl, hb⟩; refine ⟨_, rfl, ?_⟩; have n0_ := Aside0.mk (Kd.R_below (by (with_reducible repeat (first | apply Kd.R_alloc | apply Kd.R_drewN | apply Kd.R_drew)); exact HO637.out) hb); have n1_ := Aside0.mk (blk_below (g := gb626) (o := .cells #[.int .i64 t622, .int .i64 t623] 44 (0, 0)) (by (with_reducible repeat (first | refine blk_drewN ?_ _ | refine blk_drew ?_ | refine blk_alloc ?_ _)); exact BK626.out) hb); have n2_ := Aside0.mk (below_step (by repeat (first | (with_reducible first | exact HB.out | apply below_alloc | apply pw_below_drewN | apply below_drew1 | refine below_set ?_ GE626.out) | exact HB.out)) hb); clear HO637; clear BK626; clear HB; have HO637 := n0_; have BK626 := n1_; have HB := n2_; clear n0_ n1_ n2_; (try clear hb); (try clear hb2); (try clear hk); (try clear hi)) | ((with_reducible refine gate_dst (N := 13) rfl ?_); (try (refine gate_guard (by rfl) ?_; dsimp only)); refine box_event ?hg (N := 13) ?hd (cs := #[.int .i64 0, .int .i64 0]) (t := 44) ?hr ?_; (case hd => rfl); (case hg => rfl); (case hr => first | (go_simp; done) | (go_simp; rfl)); intro gb642 hg w56 hbox hb; have n0_ := Aside0.mk (Kd.R_below (by (with_reducible repeat (first | apply Kd.R_alloc | apply Kd.R_drewN | apply Kd.R_drew)); exact HO637.out) hb); have n1_ := Aside0.mk (blk_below (g := gb626) (o := .cells #[.int .i64 t622, .int .i64 t623] 44 (0, 0)) (by (with_reducible repeat (first | refine blk_drewN ?_ _ | refine blk_drew ?_ | refine blk_alloc ?_ _)); exact BK626.out) hb); have n2_ := Aside0.mk (below_step (by repeat (first | (with_reducible first | exact HB.out | apply below_alloc | apply pw_below_drewN | apply below_drew1 | refine below_set ?_ GE626.out) | exact HB.out)) hb); have n3_ := Aside0.mk (hbox); have n4_ := Aside0.mk ((by rw [hg]; exact (below_size (by repeat (first | (with_reducible first | exact HB.out | apply below_alloc | apply pw_below_drewN | apply below_drew1 | refine below_set ?_ GE626.out) | exact HB.out))) : w.heap.size ≤ gb642)); have n5_ := Aside0.mk ((by rw [hg]; exact (below_size (by repeat (first | (with_reducible first | exact HB.out | apply below_alloc | apply pw_below_drewN | apply below_drew1 | refine below_set ?_ GE626.out) | exact HB.out))) : w.heap.size ≤ gb642)); have n6_ := Aside0.mk ((by rw [hg]; exact Nat.ne_of_lt (blk_lt (g := gb626) (o := .cells #[.int .i64 t622, .int .i64 t623] 44 (0, 0)) (by (with_reducible repeat (first | refine blk_drewN ?_ _ | refine blk_drew ?_ | refine blk_alloc ?_ _)); exact BK626.out)) : gb626 ≠ gb642)); have n7_ := Aside0.mk ((by rw [hg]; exact Nat.ne_of_gt (blk_lt (g := gb626) (o := .cells #[.int .i64 t622, .int .i64 t623] 44 (0, 0)) (by (with_reducible repeat (first | refine blk_drewN ?_ _ | refine blk_drew ?_ | refine blk_alloc ?_ _)); exact BK626.out)) : gb642 ≠ gb626)); clear HO637; clear BK626; clear HB; have HO637 := n0_; have BK626 := n1_; have HB := n2_; have BK642 := n3_; have GW642 := n4_; have GE642 := n5_; have NB626_642 := n6_; have NB642_626 := n7_; clear n0_ n1_ n2_ n3_ n4_ n5_ n6_ n7_; clear hb hbox hg; have hnb57 := NB642_626.out; have hnc57 := NB626_642.out; have hcz58_0 : w56.cell? ⟨gb642, 0, none⟩ = some (.int .i64 0) := (blk_cell BK642.out 0).trans rfl; have hcz58_1 : w56.cell? ⟨gb642, 1, none⟩ = some (.int .i64 0) := (blk_cell BK642.out 1).trans rfl; have hfz58_0 := blk_frozen BK642.out 0; have hfz58_1 := blk_frozen BK642.out 1))
                      go_ret
                      exact ⟨by first | rfl | (simp [errW_none, errW_some] <;> rfl) | (simp only [← hji18]; first | rfl | (simp [errW_none, errW_some] <;> rfl)) | (simp [*, errW_none, errW_some] <;> rfl), by repeat (first | (with_reducible first | exact HB.out | apply below_alloc | apply pw_below_drewN | apply below_drew1 | refine below_set ?_ GE626.out | refine below_set ?_ GE642.out) | exact HB.out)⟩
  · replace c4 := Bool.eq_false_iff.mpr c4
    subst c4
    have H1 : (some false) = some r := by rw [if_neg (show ¬ (false = true) by decide)] at H; exact H
    clear H
    have H := H1
    clear H1
    obtain rfl := Option.some.inj H
    go_enter Try.func14, Try.ntmps14
    go_wp2_with (first | ((with_reducible refine gate_callee (f := 33) rfl ?_); refine goesL_ (some 15) rfl rfl Try.func33 (by kernel_rfl) rfl #[] rfl (by (try simp only [List.map_toArray, List.map_cons, List.map_nil]); first | done | rfl | (simp only [List.length_drop, List.length_take]; rfl)) ?_; (with_reducible refine (masterdisclaw33_awake.calls  false _ A3.out).mono ?_); rintro e w59 ⟨rfl, hb⟩; refine ⟨_, rfl, ?_⟩; have n0_ := Aside0.mk (below_step (by repeat (first | (with_reducible first | exact HB.out | apply below_alloc | apply pw_below_drewN | apply below_drew1) | exact HB.out)) hb); clear HB; have HB := n0_; clear n0_; (try clear hb); (try clear hb2); (try clear hk); (try clear hi)))
    go_ret
    exact ⟨by first | rfl | (simp [errW_none, errW_some] <;> rfl) | (simp [*, errW_none, errW_some] <;> rfl), by repeat (first | (with_reducible first | exact HB.out | apply below_alloc | apply pw_below_drewN | apply below_drew1) | exact HB.out)⟩

end Go.Proofs.Ytijbfebbogiiiaa.Q
