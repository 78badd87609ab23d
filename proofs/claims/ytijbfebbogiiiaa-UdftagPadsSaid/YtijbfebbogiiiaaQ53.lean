/- Contracts of Go functions: each call returns what the Lean function of its name says. Written by wip/gen.py (a patched print) for this claim. -/
import Derived.Test.YtijbfebbogiiiaaQ0
import Derived.Test.YtijbfebbogiiiaaQ7
import Derived.Test.YtijbfebbogiiiaaQ9
import Derived.Test.YtijbfebbogiiiaaQ29
namespace Go.Proofs.Ytijbfebbogiiiaa.Q
open Go.RowKit Go.Proofs.YtijbfebbogiiiaaW.PrintWords Go.Proofs.YtijbfebbogiiiaaW.PrintLast Go.Proofs.YtijbfebbogiiiaaW.PrintMore
attribute [local go_sem] max2_int min2_int max_two min_two max_three min_three max_four min_four   -- for this text's walks alone
set_option linter.unusedVariables false
set_option linter.unusedSimpArgs false

/-! ### masterdisclaw31_UdftagPads: function 19 -/
mutual
def masterdisclaw31_UdftagPads.j0 : Nat → ByteArray → Int → ByteArray → Int → Bool → Option (Bool)
  | 0, _, _, _, _, _ => none
  | k + 1, x9, x10, x11, x12, x49 => if x49 = true then (if x10 = x12 then (some (x11.toList == ([] : List UInt8))) else (some false)) else (if (x11.size : Int) = 2048 then (if (x9.size : Int) > (x11.size : Int) then (masterdisclaw31_UdftagPads.j1 k x9 x11 true) else (if 0 ≤ (x9.size : Int) then (if (x9.size : Int) ≤ (x11.size : Int) then (masterdisclaw31_UdftagPads.j1 k x9 x11 ((x11.extract 0 ((x9.size : Int) : Int).toNat).toList != x9.toList)) else (none)) else (none))) else (masterdisclaw31_UdftagPads.j1 k x9 x11 true))
def masterdisclaw31_UdftagPads.j1 : Nat → ByteArray → ByteArray → Bool → Option (Bool)
  | 0, _, _, _ => none
  | k + 1, x9, x11, x74 => if x74 = true then (some false) else (masterdisclaw31_UdftagPads.l0 k x11 (x9.size : Int))
def masterdisclaw31_UdftagPads.l0 : Nat → ByteArray → Int → Option (Bool)
  | 0, _, _ => none
  | k + 1, x11, x13 => if x13 < (x11.size : Int) then (if 0 ≤ x13 then (if (bt x11 x13) = 0 then (masterdisclaw31_UdftagPads.l0 k x11 (wrap64 (x13 + 1))) else (some false)) else (none)) else (some true)
end
def masterdisclaw31_UdftagPads.f (k : Nat) (a0 : Int) (a1 : Int) (a2 : Int) (a3 : ByteArray) : Option (Bool) := (masterdisclaw31_awake.f k).bind fun t762 => (if t762 = true then (if (a3.size : Int) > 2100 then (some true) else ((udftag_Seal.f k a0 a1 a2 a3).bind fun bt763 => ((udftag_Block.f k a0 a1 a2 a3).bind fun bt765 => (if (a3.size : Int) > 2032 then (if bt765.1.toList = ([] : List UInt8) then (some (bt765.2 != 0)) else (some false)) else (if bt763.2 = 0 then (masterdisclaw31_UdftagPads.j0 k bt763.1 bt763.2 bt765.1 bt765.2 (bt765.2 != 0)) else (masterdisclaw31_UdftagPads.j0 k bt763.1 bt763.2 bt765.1 bt765.2 true)))))) else (some false))
theorem masterdisclaw31_UdftagPads.mono_l : ∀ k, (∀ y0 y1 y2 y3 y4, LeO (masterdisclaw31_UdftagPads.j0 k y0 y1 y2 y3 y4) (masterdisclaw31_UdftagPads.j0 (k + 1) y0 y1 y2 y3 y4)) ∧ (∀ y0 y1 y2, LeO (masterdisclaw31_UdftagPads.j1 k y0 y1 y2) (masterdisclaw31_UdftagPads.j1 (k + 1) y0 y1 y2)) ∧ (∀ y0 y1, LeO (masterdisclaw31_UdftagPads.l0 k y0 y1) (masterdisclaw31_UdftagPads.l0 (k + 1) y0 y1))
  | 0 => ⟨fun _ _ _ _ _ r h => by simp [masterdisclaw31_UdftagPads.j0] at h, fun _ _ _ r h => by simp [masterdisclaw31_UdftagPads.j1] at h, fun _ _ r h => by simp [masterdisclaw31_UdftagPads.l0] at h⟩
  | k + 1 => by
    obtain ⟨ih0, ih1, ih2⟩ := masterdisclaw31_UdftagPads.mono_l k
    refine ⟨?_, ?_, ?_⟩
    · intro y0 y1 y2 y3 y4
      unfold masterdisclaw31_UdftagPads.j0
      repeat' first
      | (with_reducible exact ih0 _ _ _ _ _)
      | (with_reducible exact ih1 _ _ _)
      | (with_reducible exact ih2 _ _)
      | (with_reducible exact masterdisclaw31_awake.mono _)
      | (with_reducible exact udftag_Block.mono _ _ _ _ _)
      | (with_reducible exact udftag_Seal.mono _ _ _ _ _)
      | (with_reducible exact LeO.refl _)
      | (with_reducible exact LeO.none _)
      | (with_reducible refine LeO.ite ?_ ?_)
      | (with_reducible refine LeO.bind ?_ (fun _ => ?_))
      | exact ih0 _ _ _ _ _
      | exact ih1 _ _ _
      | exact ih2 _ _
      | exact masterdisclaw31_awake.mono _
      | exact udftag_Block.mono _ _ _ _ _
      | exact udftag_Seal.mono _ _ _ _ _
      | exact LeO.none _
      | refine LeO.ite ?_ ?_
      | refine LeO.bind ?_ (fun _ => ?_)
    · intro y0 y1 y2
      unfold masterdisclaw31_UdftagPads.j1
      repeat' first
      | (with_reducible exact ih0 _ _ _ _ _)
      | (with_reducible exact ih1 _ _ _)
      | (with_reducible exact ih2 _ _)
      | (with_reducible exact masterdisclaw31_awake.mono _)
      | (with_reducible exact udftag_Block.mono _ _ _ _ _)
      | (with_reducible exact udftag_Seal.mono _ _ _ _ _)
      | (with_reducible exact LeO.refl _)
      | (with_reducible exact LeO.none _)
      | (with_reducible refine LeO.ite ?_ ?_)
      | (with_reducible refine LeO.bind ?_ (fun _ => ?_))
      | exact ih0 _ _ _ _ _
      | exact ih1 _ _ _
      | exact ih2 _ _
      | exact masterdisclaw31_awake.mono _
      | exact udftag_Block.mono _ _ _ _ _
      | exact udftag_Seal.mono _ _ _ _ _
      | exact LeO.none _
      | refine LeO.ite ?_ ?_
      | refine LeO.bind ?_ (fun _ => ?_)
    · intro y0 y1
      unfold masterdisclaw31_UdftagPads.l0
      repeat' first
      | (with_reducible exact ih0 _ _ _ _ _)
      | (with_reducible exact ih1 _ _ _)
      | (with_reducible exact ih2 _ _)
      | (with_reducible exact masterdisclaw31_awake.mono _)
      | (with_reducible exact udftag_Block.mono _ _ _ _ _)
      | (with_reducible exact udftag_Seal.mono _ _ _ _ _)
      | (with_reducible exact LeO.refl _)
      | (with_reducible exact LeO.none _)
      | (with_reducible refine LeO.ite ?_ ?_)
      | (with_reducible refine LeO.bind ?_ (fun _ => ?_))
      | exact ih0 _ _ _ _ _
      | exact ih1 _ _ _
      | exact ih2 _ _
      | exact masterdisclaw31_awake.mono _
      | exact udftag_Block.mono _ _ _ _ _
      | exact udftag_Seal.mono _ _ _ _ _
      | exact LeO.none _
      | refine LeO.ite ?_ ?_
      | refine LeO.bind ?_ (fun _ => ?_)
theorem masterdisclaw31_UdftagPads.mono : ∀ a0 a1 a2 a3 k, LeO (masterdisclaw31_UdftagPads.f k a0 a1 a2 a3) (masterdisclaw31_UdftagPads.f (k + 1) a0 a1 a2 a3) := by
  intro a0 a1 a2 a3 k
  obtain ⟨ih0, ih1, ih2⟩ := masterdisclaw31_UdftagPads.mono_l k
  unfold masterdisclaw31_UdftagPads.f
  repeat' first
      | (with_reducible exact ih0 _ _ _ _ _)
      | (with_reducible exact ih1 _ _ _)
      | (with_reducible exact ih2 _ _)
      | (with_reducible exact masterdisclaw31_awake.mono _)
      | (with_reducible exact udftag_Block.mono _ _ _ _ _)
      | (with_reducible exact udftag_Seal.mono _ _ _ _ _)
      | (with_reducible exact LeO.refl _)
      | (with_reducible exact LeO.none _)
      | (with_reducible refine LeO.ite ?_ ?_)
      | (with_reducible refine LeO.bind ?_ (fun _ => ?_))
      | exact ih0 _ _ _ _ _
      | exact ih1 _ _ _
      | exact ih2 _ _
      | exact masterdisclaw31_awake.mono _
      | exact udftag_Block.mono _ _ _ _ _
      | exact udftag_Seal.mono _ _ _ _ _
      | exact LeO.none _
      | refine LeO.ite ?_ ?_
      | refine LeO.bind ?_ (fun _ => ?_)
set_option maxHeartbeats 8000000 in
set_option maxRecDepth 100000 in
theorem masterdisclaw31_UdftagPads.calls (k : Nat) (a0 : Int) (a1 : Int) (a2 : Int) (a3 : ByteArray) (r : Bool) (w : World) (h : masterdisclaw31_UdftagPads.f k a0 a1 a2 a3 = some r) :
    Calls Try.prog 19 #[.int .i64 a0, .int .i64 a1, .int .i64 a2, .string a3] w fun e w' => e = .returned (.bool r) ∧ Below w.heap.size w w' := by
  have HB := Aside0.mk (Below.refl w.heap.size w)
  have H : ((masterdisclaw31_awake.f k).bind fun t762 => (if t762 = true then (if (a3.size : Int) > 2100 then (some true) else ((udftag_Seal.f k a0 a1 a2 a3).bind fun bt763 => ((udftag_Block.f k a0 a1 a2 a3).bind fun bt765 => (if (a3.size : Int) > 2032 then (if bt765.1.toList = ([] : List UInt8) then (some (bt765.2 != 0)) else (some false)) else (if bt763.2 = 0 then (masterdisclaw31_UdftagPads.j0 k bt763.1 bt763.2 bt765.1 bt765.2 (bt765.2 != 0)) else (masterdisclaw31_UdftagPads.j0 k bt763.1 bt763.2 bt765.1 bt765.2 true)))))) else (some false))) = some r := h
  clear h
  replace H := Option.bind_eq_some_iff.mp H
  obtain ⟨t762, A50, H⟩ := H
  replace H : (if t762 = true then (if (a3.size : Int) > 2100 then (some true) else ((udftag_Seal.f k a0 a1 a2 a3).bind fun bt763 => ((udftag_Block.f k a0 a1 a2 a3).bind fun bt765 => (if (a3.size : Int) > 2032 then (if bt765.1.toList = ([] : List UInt8) then (some (bt765.2 != 0)) else (some false)) else (if bt763.2 = 0 then (masterdisclaw31_UdftagPads.j0 k bt763.1 bt763.2 bt765.1 bt765.2 (bt765.2 != 0)) else (masterdisclaw31_UdftagPads.j0 k bt763.1 bt763.2 bt765.1 bt765.2 true)))))) else (some false)) = some r := H
  have A5 := Aside0.mk A50
  clear A50
  by_cases c6 : t762 = true
  · subst c6
    have H1 : (if (a3.size : Int) > 2100 then (some true) else ((udftag_Seal.f k a0 a1 a2 a3).bind fun bt763 => ((udftag_Block.f k a0 a1 a2 a3).bind fun bt765 => (if (a3.size : Int) > 2032 then (if bt765.1.toList = ([] : List UInt8) then (some (bt765.2 != 0)) else (some false)) else (if bt763.2 = 0 then (masterdisclaw31_UdftagPads.j0 k bt763.1 bt763.2 bt765.1 bt765.2 (bt765.2 != 0)) else (masterdisclaw31_UdftagPads.j0 k bt763.1 bt763.2 bt765.1 bt765.2 true)))))) = some r := by rw [if_pos rfl] at H; exact H
    clear H
    have H := H1
    clear H1
    by_cases c7 : (a3.size : Int) > 2100
    · rw [if_pos c7] at H
      have c7b0 : decide (2100 < (a3.size : Int)) = true := decide_eq_true c7
      have c7b1 : decide (2100 < a3.size) = true := decide_eq_true (by omega)
      clear c7
      obtain rfl := Option.some.inj H
      go_enter Try.func19, Try.ntmps19
      go_wp2_with (first | ((with_reducible refine gate_callee (f := 26) rfl ?_); refine goesL_ (some 14) rfl rfl Try.func26 (by kernel_rfl) rfl #[] rfl (by (try simp only [List.map_toArray, List.map_cons, List.map_nil]); first | done | rfl | (simp only [List.length_drop, List.length_take]; rfl)) ?_; (with_reducible refine (masterdisclaw31_awake.calls k  true _ A5.out).mono ?_); rintro e w8 ⟨rfl, hb⟩; refine ⟨_, rfl, ?_⟩; have n0_ := Aside0.mk (below_step (by repeat (first | (with_reducible first | exact HB.out | apply below_alloc | apply pw_below_drewN | apply below_drew1) | exact HB.out)) hb); clear HB; have HB := n0_; clear n0_; (try clear hb); (try clear hb2); (try clear hk); (try clear hi)))
      go_ret
      exact ⟨by first | rfl | (simp [errW_none, errW_some] <;> rfl) | (simp [*, errW_none, errW_some] <;> rfl), by repeat (first | (with_reducible first | exact HB.out | apply below_alloc | apply pw_below_drewN | apply below_drew1) | exact HB.out)⟩
    · rw [if_neg c7] at H
      have c7b0 : decide (2100 < (a3.size : Int)) = false := decide_eq_false c7
      have c7b1 : decide (2100 < a3.size) = false := decide_eq_false (by omega)
      clear c7
      replace H := Option.bind_eq_some_iff.mp H
      obtain ⟨⟨t763, t764⟩, A90, H⟩ := H
      replace H : ((udftag_Block.f k a0 a1 a2 a3).bind fun bt765 => (if (a3.size : Int) > 2032 then (if bt765.1.toList = ([] : List UInt8) then (some (bt765.2 != 0)) else (some false)) else (if t764 = 0 then (masterdisclaw31_UdftagPads.j0 k t763 t764 bt765.1 bt765.2 (bt765.2 != 0)) else (masterdisclaw31_UdftagPads.j0 k t763 t764 bt765.1 bt765.2 true)))) = some r := H
      have A9 := Aside0.mk A90
      clear A90
      replace H := Option.bind_eq_some_iff.mp H
      obtain ⟨⟨t765, t766⟩, A100, H⟩ := H
      replace H : (if (a3.size : Int) > 2032 then (if t765.toList = ([] : List UInt8) then (some (t766 != 0)) else (some false)) else (if t764 = 0 then (masterdisclaw31_UdftagPads.j0 k t763 t764 t765 t766 (t766 != 0)) else (masterdisclaw31_UdftagPads.j0 k t763 t764 t765 t766 true))) = some r := H
      have A10 := Aside0.mk A100
      clear A100
      by_cases c11 : (a3.size : Int) > 2032
      · rw [if_pos c11] at H
        have c11b0 : decide (2032 < (a3.size : Int)) = true := decide_eq_true c11
        have c11b1 : decide (2032 < a3.size) = true := decide_eq_true (by omega)
        clear c11
        by_cases c12 : t765.toList = ([] : List UInt8)
        · rw [if_pos c12] at H
          have c12b0 : (t765.toList == ([] : List UInt8)) = true := beq_iff_eq.mpr c12
          have c12b1 : (t765.toList != ([] : List UInt8)) = false := bne_eq_false_iff_eq.mpr c12
          clear c12
          obtain rfl := Option.some.inj H
          go_enter Try.func19, Try.ntmps19
          go_wp2_with (first | ((with_reducible refine gate_callee (f := 26) rfl ?_); refine goesL_ (some 14) rfl rfl Try.func26 (by kernel_rfl) rfl #[] rfl (by (try simp only [List.map_toArray, List.map_cons, List.map_nil]); first | done | rfl | (simp only [List.length_drop, List.length_take]; rfl)) ?_; (with_reducible refine (masterdisclaw31_awake.calls k  true _ A5.out).mono ?_); rintro e w13 ⟨rfl, hb⟩; refine ⟨_, rfl, ?_⟩; have n0_ := Aside0.mk (below_step (by repeat (first | (with_reducible first | exact HB.out | apply below_alloc | apply pw_below_drewN | apply below_drew1) | exact HB.out)) hb); clear HB; have HB := n0_; clear n0_; (try clear hb); (try clear hb2); (try clear hk); (try clear hi)) | ((with_reducible refine gate_callee (f := 27) rfl ?_); refine goesL_ (some 24) rfl rfl Try.func27 (by kernel_rfl) rfl #[.int .i64 a0, .int .i64 a1, .int .i64 a2, .string a3] rfl (by (try simp only [List.map_toArray, List.map_cons, List.map_nil]); first | done | rfl | (simp only [List.length_drop, List.length_take]; rfl)) ?_; (with_reducible refine (udftag_Seal.calls k a0 a1 a2 a3 t763 t764 _ A9.out).mono ?_); rintro e w14 ⟨rfl, hb⟩; refine ⟨_, rfl, ?_⟩; have n0_ := Aside0.mk (below_step (by repeat (first | (with_reducible first | exact HB.out | apply below_alloc | apply pw_below_drewN | apply below_drew1) | exact HB.out)) hb); clear HB; have HB := n0_; clear n0_; (try clear hb); (try clear hb2); (try clear hk); (try clear hi)) | ((with_reducible refine gate_callee (f := 73) rfl ?_); refine goesL_ (some 32) rfl rfl Try.func73 (by kernel_rfl) rfl #[.int .i64 a0, .int .i64 a1, .int .i64 a2, .string a3] rfl (by (try simp only [List.map_toArray, List.map_cons, List.map_nil]); first | done | rfl | (simp only [List.length_drop, List.length_take]; rfl)) ?_; (with_reducible refine (udftag_Block.calls k a0 a1 a2 a3 t765 t766 _ A10.out).mono ?_); rintro e w15 ⟨rfl, hb⟩; refine ⟨_, rfl, ?_⟩; have n0_ := Aside0.mk (below_step (by repeat (first | (with_reducible first | exact HB.out | apply below_alloc | apply pw_below_drewN | apply below_drew1) | exact HB.out)) hb); clear HB; have HB := n0_; clear n0_; (try clear hb); (try clear hb2); (try clear hk); (try clear hi)))
          go_ret
          exact ⟨by first | rfl | (simp [errW_none, errW_some] <;> rfl) | (simp [*, errW_none, errW_some] <;> rfl), by repeat (first | (with_reducible first | exact HB.out | apply below_alloc | apply pw_below_drewN | apply below_drew1) | exact HB.out)⟩
        · rw [if_neg c12] at H
          have c12b0 : (t765.toList == ([] : List UInt8)) = false := beq_eq_false_iff_ne.mpr c12
          have c12b1 : (t765.toList != ([] : List UInt8)) = true := bne_iff_ne.mpr c12
          obtain rfl := Option.some.inj H
          go_enter Try.func19, Try.ntmps19
          go_wp2_with (first | ((with_reducible refine gate_callee (f := 26) rfl ?_); refine goesL_ (some 14) rfl rfl Try.func26 (by kernel_rfl) rfl #[] rfl (by (try simp only [List.map_toArray, List.map_cons, List.map_nil]); first | done | rfl | (simp only [List.length_drop, List.length_take]; rfl)) ?_; (with_reducible refine (masterdisclaw31_awake.calls k  true _ A5.out).mono ?_); rintro e w16 ⟨rfl, hb⟩; refine ⟨_, rfl, ?_⟩; have n0_ := Aside0.mk (below_step (by repeat (first | (with_reducible first | exact HB.out | apply below_alloc | apply pw_below_drewN | apply below_drew1) | exact HB.out)) hb); clear HB; have HB := n0_; clear n0_; (try clear hb); (try clear hb2); (try clear hk); (try clear hi)) | ((with_reducible refine gate_callee (f := 27) rfl ?_); refine goesL_ (some 24) rfl rfl Try.func27 (by kernel_rfl) rfl #[.int .i64 a0, .int .i64 a1, .int .i64 a2, .string a3] rfl (by (try simp only [List.map_toArray, List.map_cons, List.map_nil]); first | done | rfl | (simp only [List.length_drop, List.length_take]; rfl)) ?_; (with_reducible refine (udftag_Seal.calls k a0 a1 a2 a3 t763 t764 _ A9.out).mono ?_); rintro e w17 ⟨rfl, hb⟩; refine ⟨_, rfl, ?_⟩; have n0_ := Aside0.mk (below_step (by repeat (first | (with_reducible first | exact HB.out | apply below_alloc | apply pw_below_drewN | apply below_drew1) | exact HB.out)) hb); clear HB; have HB := n0_; clear n0_; (try clear hb); (try clear hb2); (try clear hk); (try clear hi)) | ((with_reducible refine gate_callee (f := 73) rfl ?_); refine goesL_ (some 32) rfl rfl Try.func73 (by kernel_rfl) rfl #[.int .i64 a0, .int .i64 a1, .int .i64 a2, .string a3] rfl (by (try simp only [List.map_toArray, List.map_cons, List.map_nil]); first | done | rfl | (simp only [List.length_drop, List.length_take]; rfl)) ?_; (with_reducible refine (udftag_Block.calls k a0 a1 a2 a3 t765 t766 _ A10.out).mono ?_); rintro e w18 ⟨rfl, hb⟩; refine ⟨_, rfl, ?_⟩; have n0_ := Aside0.mk (below_step (by repeat (first | (with_reducible first | exact HB.out | apply below_alloc | apply pw_below_drewN | apply below_drew1) | exact HB.out)) hb); clear HB; have HB := n0_; clear n0_; (try clear hb); (try clear hb2); (try clear hk); (try clear hi)))
          go_ret
          exact ⟨by first | rfl | (simp [errW_none, errW_some] <;> rfl) | (simp [*, errW_none, errW_some] <;> rfl), by repeat (first | (with_reducible first | exact HB.out | apply below_alloc | apply pw_below_drewN | apply below_drew1) | exact HB.out)⟩
      · rw [if_neg c11] at H
        have c11b0 : decide (2032 < (a3.size : Int)) = false := decide_eq_false c11
        have c11b1 : decide (2032 < a3.size) = false := decide_eq_false (by omega)
        clear c11
        have HC19 := Aside0.mk H
        clear H
        go_enter Try.func19, Try.ntmps19
        go_upto_region 9 with (first | ((with_reducible refine gate_callee (f := 26) rfl ?_); refine goesL_ (some 14) rfl rfl Try.func26 (by kernel_rfl) rfl #[] rfl (by (try simp only [List.map_toArray, List.map_cons, List.map_nil]); first | done | rfl | (simp only [List.length_drop, List.length_take]; rfl)) ?_; (with_reducible refine (masterdisclaw31_awake.calls k  true _ A5.out).mono ?_); rintro e w20 ⟨rfl, hb⟩; refine ⟨_, rfl, ?_⟩; have n0_ := Aside0.mk (below_step (by repeat (first | (with_reducible first | exact HB.out | apply below_alloc | apply pw_below_drewN | apply below_drew1) | exact HB.out)) hb); clear HB; have HB := n0_; clear n0_; (try clear hb); (try clear hb2); (try clear hk); (try clear hi)) | ((with_reducible refine gate_callee (f := 27) rfl ?_); refine goesL_ (some 24) rfl rfl Try.func27 (by kernel_rfl) rfl #[.int .i64 a0, .int .i64 a1, .int .i64 a2, .string a3] rfl (by (try simp only [List.map_toArray, List.map_cons, List.map_nil]); first | done | rfl | (simp only [List.length_drop, List.length_take]; rfl)) ?_; (with_reducible refine (udftag_Seal.calls k a0 a1 a2 a3 t763 t764 _ A9.out).mono ?_); rintro e w21 ⟨rfl, hb⟩; refine ⟨_, rfl, ?_⟩; have n0_ := Aside0.mk (below_step (by repeat (first | (with_reducible first | exact HB.out | apply below_alloc | apply pw_below_drewN | apply below_drew1) | exact HB.out)) hb); clear HB; have HB := n0_; clear n0_; (try clear hb); (try clear hb2); (try clear hk); (try clear hi)) | ((with_reducible refine gate_callee (f := 73) rfl ?_); refine goesL_ (some 32) rfl rfl Try.func73 (by kernel_rfl) rfl #[.int .i64 a0, .int .i64 a1, .int .i64 a2, .string a3] rfl (by (try simp only [List.map_toArray, List.map_cons, List.map_nil]); first | done | rfl | (simp only [List.length_drop, List.length_take]; rfl)) ?_; (with_reducible refine (udftag_Block.calls k a0 a1 a2 a3 t765 t766 _ A10.out).mono ?_); rintro e w22 ⟨rfl, hb⟩; refine ⟨_, rfl, ?_⟩; have n0_ := Aside0.mk (below_step (by repeat (first | (with_reducible first | exact HB.out | apply below_alloc | apply pw_below_drewN | apply below_drew1) | exact HB.out)) hb); clear HB; have HB := n0_; clear n0_; (try clear hb); (try clear hb2); (try clear hk); (try clear hi)))
        (try simp only [Act.put, List.setIfInBounds_toArray, List.set_cons_zero, List.set_cons_succ])
        go_cut [49] (fun v49 wc => ∃ (kq : Nat) (x49_18 : Bool), v49 = .bool x49_18 ∧ Aside0 (masterdisclaw31_UdftagPads.j0 kq t763 t764 t765 t766 x49_18 = some r) ∧ Aside0 (kq ≤ k) ∧ Aside0 (Below w.heap.size w wc))
        case first =>
          have H := HC19.out
          clear HC19
          by_cases c23 : t764 = 0
          · rw [if_pos c23] at H
            have c23b0 : (t764 == 0) = true := beq_iff_eq.mpr c23
            have c23b1 : (t764 != 0) = false := bne_eq_false_iff_eq.mpr c23
            clear c23
            (first | rw [c23b0] | (simp only [i64_w, i32_w]; rw [c23b0]) | skip)
            have H' := Aside0.mk H
            clear H
            go_wp2
            go_meet
            case rel => exact ⟨_, ((t766 != 0)), (by first | rfl | (simp; done) | (simp [*]; done)), H', ⟨by first | omega | exact Nat.le_refl _⟩, ⟨by repeat (first | (with_reducible first | exact HB.out | apply below_alloc | apply pw_below_drewN | apply below_drew1) | exact HB.out)⟩⟩
          · rw [if_neg c23] at H
            have c23b0 : (t764 == 0) = false := beq_eq_false_iff_ne.mpr c23
            have c23b1 : (t764 != 0) = true := bne_iff_ne.mpr c23
            (first | rw [c23b0] | (simp only [i64_w, i32_w]; rw [c23b0]) | skip)
            have H' := Aside0.mk H
            clear H
            go_wp2
            go_meet
            case rel => exact ⟨_, (true), (by first | rfl | (simp; done) | (simp [*]; done)), H', ⟨by first | omega | exact Nat.le_refl _⟩, ⟨by repeat (first | (with_reducible first | exact HB.out | apply below_alloc | apply pw_below_drewN | apply below_drew1) | exact HB.out)⟩⟩
        case rest =>
          clear HC19
          try clear c1
          try clear c2
          try clear p2
          try clear c6
          try clear c7
          try clear c7b0
          try clear c7b1
          try clear c11
          try clear c11b0
          try clear c11b1
          try clear c12
          try clear c12b0
          try clear c12b1
          try clear c19
          try clear c23
          try clear c23b0
          try clear c23b1
          obtain ⟨kq, x49_18, rfl, HA, HJ18, HB⟩ := hcut
          cases kq with
          | zero => exact absurd HA.out (by simp [masterdisclaw31_UdftagPads.j0])
          | succ kj18 =>
            have H := HA.out
            clear HA
            simp only [masterdisclaw31_UdftagPads.j0] at H
            by_cases c24 : x49_18 = true
            · subst c24
              have H1 : (if t764 = t766 then (some (t765.toList == ([] : List UInt8))) else (some false)) = some r := by rw [if_pos rfl] at H; exact H
              clear H
              have H := H1
              clear H1
              by_cases c25 : t764 = t766
              · rw [if_pos c25] at H
                have c25b0 : (t764 == t766) = true := beq_iff_eq.mpr c25
                have c25b1 : (t764 != t766) = false := bne_eq_false_iff_eq.mpr c25
                clear c25
                obtain rfl := Option.some.inj H
                go_wp2
                go_ret
                exact ⟨by first | rfl | (simp [errW_none, errW_some] <;> rfl) | (simp [*, errW_none, errW_some] <;> rfl), by repeat (first | (with_reducible first | exact HB.out | apply below_alloc | apply pw_below_drewN | apply below_drew1) | exact HB.out)⟩
              · rw [if_neg c25] at H
                have c25b0 : (t764 == t766) = false := beq_eq_false_iff_ne.mpr c25
                have c25b1 : (t764 != t766) = true := bne_iff_ne.mpr c25
                obtain rfl := Option.some.inj H
                go_wp2
                go_ret
                exact ⟨by first | rfl | (simp [errW_none, errW_some] <;> rfl) | (simp [*, errW_none, errW_some] <;> rfl), by repeat (first | (with_reducible first | exact HB.out | apply below_alloc | apply pw_below_drewN | apply below_drew1) | exact HB.out)⟩
            · replace c24 := Bool.eq_false_iff.mpr c24
              subst c24
              have H1 : (if (t765.size : Int) = 2048 then (if (t763.size : Int) > (t765.size : Int) then (masterdisclaw31_UdftagPads.j1 kj18 t763 t765 true) else (if 0 ≤ (t763.size : Int) then (if (t763.size : Int) ≤ (t765.size : Int) then (masterdisclaw31_UdftagPads.j1 kj18 t763 t765 ((t765.extract 0 ((t763.size : Int) : Int).toNat).toList != t763.toList)) else (none)) else (none))) else (masterdisclaw31_UdftagPads.j1 kj18 t763 t765 true)) = some r := by rw [if_neg (show ¬ (false = true) by decide)] at H; exact H
              clear H
              have H := H1
              clear H1
              have HC26 := Aside0.mk H
              clear H
              go_upto_region 11 with (fail)
              go_cut [74] (fun v74 wc => ∃ (kq : Nat) (x74_25 : Bool), v74 = .bool x74_25 ∧ Aside0 (masterdisclaw31_UdftagPads.j1 kq t763 t765 x74_25 = some r) ∧ Aside0 (kq ≤ kj18) ∧ Aside0 (Below w.heap.size w wc))
              case first =>
                have H := HC26.out
                clear HC26
                by_cases c27 : (t765.size : Int) = 2048
                · rw [if_pos c27] at H
                  have c27b0 : ((t765.size : Int) == 2048) = true := beq_iff_eq.mpr c27
                  have c27b1 : ((t765.size : Int) != 2048) = false := bne_eq_false_iff_eq.mpr c27
                  clear c27
                  (first | rw [c27b0] | (simp only [i64_w, i32_w]; rw [c27b0]) | skip)
                  by_cases c28 : (t763.size : Int) > (t765.size : Int)
                  · rw [if_pos c28] at H
                    have c28b0 : decide ((t765.size : Int) < (t763.size : Int)) = true := decide_eq_true c28
                    have c28b1 : decide (t765.size < t763.size) = true := decide_eq_true (Int.ofNat_lt.mp c28)
                    clear c28
                    have H' := Aside0.mk H
                    clear H
                    go_wp2
                    go_meet
                    case rel => exact ⟨_, (true), (by first | rfl | (simp; done) | (simp [*]; done)), H', ⟨by have := HJ18.out; first | omega | exact Nat.le_refl _⟩, ⟨by repeat (first | (with_reducible first | exact HB.out | apply below_alloc | apply pw_below_drewN | apply below_drew1) | exact HB.out)⟩⟩
                  · rw [if_neg c28] at H
                    have c28b0 : decide ((t765.size : Int) < (t763.size : Int)) = false := decide_eq_false c28
                    have c28b1 : decide (t765.size < t763.size) = false := decide_eq_false (fun h => c28 (Int.ofNat_lt.mpr h))
                    clear c28
                    by_cases c29 : 0 ≤ (t763.size : Int)
                    · rw [if_pos c29] at H
                      have c29b0 := eq_true c29
                      have c29b1 : decide (0 ≤ (t763.size : Int)) = true := decide_eq_true c29
                      clear c29
                      by_cases c30 : (t763.size : Int) ≤ (t765.size : Int)
                      · rw [if_pos c30] at H
                        have c30b0 := eq_true c30
                        have c30b1 : decide ((t763.size : Int) ≤ (t765.size : Int)) = true := decide_eq_true c30
                        clear c30
                        have H' := Aside0.mk H
                        clear H
                        go_wp2
                        go_meet
                        case rel => exact ⟨_, (((t765.extract 0 ((t763.size : Int) : Int).toNat).toList != t763.toList)), (by first | rfl | (simp; done) | (simp [*]; done)), H', ⟨by have := HJ18.out; first | omega | exact Nat.le_refl _⟩, ⟨by repeat (first | (with_reducible first | exact HB.out | apply below_alloc | apply pw_below_drewN | apply below_drew1) | exact HB.out)⟩⟩
                      · rw [if_neg c30] at H
                        exact absurd H (by simp)
                    · rw [if_neg c29] at H
                      exact absurd H (by simp)
                · rw [if_neg c27] at H
                  have c27b0 : ((t765.size : Int) == 2048) = false := beq_eq_false_iff_ne.mpr c27
                  have c27b1 : ((t765.size : Int) != 2048) = true := bne_iff_ne.mpr c27
                  (first | rw [c27b0] | (simp only [i64_w, i32_w]; rw [c27b0]) | skip)
                  have H' := Aside0.mk H
                  clear H
                  go_wp2
                  go_meet
                  case rel => exact ⟨_, (true), (by first | rfl | (simp; done) | (simp [*]; done)), H', ⟨by have := HJ18.out; first | omega | exact Nat.le_refl _⟩, ⟨by repeat (first | (with_reducible first | exact HB.out | apply below_alloc | apply pw_below_drewN | apply below_drew1) | exact HB.out)⟩⟩
              case rest =>
                clear HC26
                try clear c1
                try clear c2
                try clear p2
                try clear c3
                try clear c6
                try clear c7
                try clear c7b0
                try clear c7b1
                try clear c11
                try clear c11b0
                try clear c11b1
                try clear c12
                try clear c12b0
                try clear c12b1
                try clear c19
                try clear c23
                try clear c23b0
                try clear c23b1
                try clear c24
                try clear c25
                try clear c25b0
                try clear c25b1
                try clear c26
                try clear c27
                try clear c27b0
                try clear c27b1
                try clear c28
                try clear c28b0
                try clear c28b1
                try clear c29
                try clear c29b0
                try clear c29b1
                try clear c30
                try clear c30b0
                try clear c30b1
                try clear p2
                obtain ⟨kq, x74_25, rfl, HA, HJ25, HB⟩ := hcut
                cases kq with
                | zero => exact absurd HA.out (by simp [masterdisclaw31_UdftagPads.j1])
                | succ kj25 =>
                  have H := HA.out
                  clear HA
                  simp only [masterdisclaw31_UdftagPads.j1] at H
                  by_cases c31 : x74_25 = true
                  · subst c31
                    have H1 : (some false) = some r := by rw [if_pos rfl] at H; exact H
                    clear H
                    have H := H1
                    clear H1
                    obtain rfl := Option.some.inj H
                    go_wp2
                    go_ret
                    exact ⟨by first | rfl | (simp [errW_none, errW_some] <;> rfl) | (simp [*, errW_none, errW_some] <;> rfl), by repeat (first | (with_reducible first | exact HB.out | apply below_alloc | apply pw_below_drewN | apply below_drew1) | exact HB.out)⟩
                  · replace c31 := Bool.eq_false_iff.mpr c31
                    subst c31
                    have H1 : (masterdisclaw31_UdftagPads.l0 kj25 t765 (t763.size : Int)) = some r := by rw [if_neg (show ¬ (false = true) by decide)] at H; exact H
                    clear H
                    have H := H1
                    clear H1
                    have H' := Aside0.mk H
                    clear H
                    go_wp2
                    go_loopg [13] kj25 (fun kq v13 w' => ∃ (x13_3 : Int), v13 = .int .i64 x13_3 ∧ Aside0 (masterdisclaw31_UdftagPads.l0 kq t765 x13_3 = some r) ∧ Aside0 (kq ≤ kj25) ∧ Aside0 (Below w.heap.size w w'))
                    case atStart => exact ⟨((t763.size : Int)), (by first | rfl | (simp; done) | (simp [*]; done)), H', ⟨Nat.le_refl _⟩, ⟨by repeat (first | (with_reducible first | exact HB.out | apply below_alloc | apply pw_below_drewN | apply below_drew1) | exact HB.out)⟩⟩
                    case round =>
                      clear H'
                      try clear c1
                      try clear c2
                      try clear p2
                      try clear c3
                      try clear c6
                      try clear c7
                      try clear c7b0
                      try clear c7b1
                      try clear c11
                      try clear c11b0
                      try clear c11b1
                      try clear c12
                      try clear c12b0
                      try clear c12b1
                      try clear c19
                      try clear c23
                      try clear c23b0
                      try clear c23b1
                      try clear c24
                      try clear c25
                      try clear c25b0
                      try clear c25b1
                      try clear c26
                      try clear c27
                      try clear c27b0
                      try clear c27b1
                      try clear c28
                      try clear c28b0
                      try clear c28b1
                      try clear c29
                      try clear c29b0
                      try clear c29b1
                      try clear c30
                      try clear c30b0
                      try clear c30b1
                      try clear c31
                      try clear p2
                      obtain ⟨x13_3, rfl, HA, HK3, HB⟩ := hrel
                      cases gk with
                      | zero => exact absurd HA.out (by simp [masterdisclaw31_UdftagPads.l0])
                      | succ k3 =>
                        have H := HA.out
                        clear HA
                        simp only [masterdisclaw31_UdftagPads.l0] at H
                        by_cases c32 : x13_3 < (t765.size : Int)
                        · rw [if_pos c32] at H
                          have c32b0 : decide (x13_3 < (t765.size : Int)) = true := decide_eq_true c32
                          clear c32
                          by_cases c33 : 0 ≤ x13_3
                          · rw [if_pos c33] at H
                            have c33b0 : decide (0 ≤ x13_3) = true := decide_eq_true c33
                            clear c33
                            by_cases c35 : (bt t765 x13_3) = 0
                            · rw [if_pos c35] at H
                              have c35b0 : ((bt t765 x13_3) == 0) = true := beq_iff_eq.mpr c35
                              have c35b1 : ((bt t765 x13_3) != 0) = false := bne_eq_false_iff_eq.mpr c35
                              clear c35
                              have H' := Aside0.mk H
                              clear H
                              have p34 : 0 ≤ (x13_3 : Int) := of_decide_eq_true (by first | (with_reducible assumption) | assumption)
                              have q34 : x13_3 < (t765.size : Int) := of_decide_eq_true (by first | (with_reducible assumption) | assumption)
                              have hx34 := bt_at t765 x13_3
                              replace p34 := eq_true p34
                              replace q34 := eq_true q34
                              go_wp2
                              go_roundg k3
                              case measure => have := HJ18.out; have := HJ25.out; have := HK3.out; omega
                              case rel => exact ⟨(wrap64 (x13_3 + 1)), (by first | rfl | (simp; done) | (simp [*]; done)), H', ⟨by have := HJ18.out; have := HJ25.out; have := HK3.out; omega⟩, ⟨by repeat (first | (with_reducible first | exact HB.out | apply below_alloc | apply pw_below_drewN | apply below_drew1) | exact HB.out)⟩⟩
                            · rw [if_neg c35] at H
                              have c35b0 : ((bt t765 x13_3) == 0) = false := beq_eq_false_iff_ne.mpr c35
                              have c35b1 : ((bt t765 x13_3) != 0) = true := bne_iff_ne.mpr c35
                              obtain rfl := Option.some.inj H
                              have p34 : 0 ≤ (x13_3 : Int) := of_decide_eq_true (by first | (with_reducible assumption) | assumption)
                              have q34 : x13_3 < (t765.size : Int) := of_decide_eq_true (by first | (with_reducible assumption) | assumption)
                              have hx34 := bt_at t765 x13_3
                              replace p34 := eq_true p34
                              replace q34 := eq_true q34
                              go_wp2
                              go_ret
                              exact ⟨by first | rfl | (simp [errW_none, errW_some] <;> rfl) | (simp [*, errW_none, errW_some] <;> rfl), by repeat (first | (with_reducible first | exact HB.out | apply below_alloc | apply pw_below_drewN | apply below_drew1) | exact HB.out)⟩
                          · rw [if_neg c33] at H
                            exact absurd H (by simp)
                        · rw [if_neg c32] at H
                          have c32b0 : decide (x13_3 < (t765.size : Int)) = false := decide_eq_false c32
                          clear c32
                          obtain rfl := Option.some.inj H
                          go_wp2
                          go_ret
                          exact ⟨by first | rfl | (simp [errW_none, errW_some] <;> rfl) | (simp [*, errW_none, errW_some] <;> rfl), by repeat (first | (with_reducible first | exact HB.out | apply below_alloc | apply pw_below_drewN | apply below_drew1) | exact HB.out)⟩
  · replace c6 := Bool.eq_false_iff.mpr c6
    subst c6
    have H1 : (some false) = some r := by rw [if_neg (show ¬ (false = true) by decide)] at H; exact H
    clear H
    have H := H1
    clear H1
    obtain rfl := Option.some.inj H
    go_enter Try.func19, Try.ntmps19
    go_wp2_with (first | ((with_reducible refine gate_callee (f := 26) rfl ?_); refine goesL_ (some 14) rfl rfl Try.func26 (by kernel_rfl) rfl #[] rfl (by (try simp only [List.map_toArray, List.map_cons, List.map_nil]); first | done | rfl | (simp only [List.length_drop, List.length_take]; rfl)) ?_; (with_reducible refine (masterdisclaw31_awake.calls k  false _ A5.out).mono ?_); rintro e w36 ⟨rfl, hb⟩; refine ⟨_, rfl, ?_⟩; have n0_ := Aside0.mk (below_step (by repeat (first | (with_reducible first | exact HB.out | apply below_alloc | apply pw_below_drewN | apply below_drew1) | exact HB.out)) hb); clear HB; have HB := n0_; clear n0_; (try clear hb); (try clear hb2); (try clear hk); (try clear hi)))
    go_ret
    exact ⟨by first | rfl | (simp [errW_none, errW_some] <;> rfl) | (simp [*, errW_none, errW_some] <;> rfl), by repeat (first | (with_reducible first | exact HB.out | apply below_alloc | apply pw_below_drewN | apply below_drew1) | exact HB.out)⟩

/-- THE ONE PURE STATEMENT of masterdisclaw31_UdftagPads: yours. -/
def masterdisclaw31_UdftagPads.Pure : Prop := ∀ (a0 : Int) (a1 : Int) (a2 : Int) (a3 : ByteArray), (Lit.int .i64 a0).wf = true → (Lit.int .i64 a1).wf = true → (Lit.int .i64 a2).wf = true → a3.size ≤ 140737488351232 → ∃ k, masterdisclaw31_UdftagPads.f k a0 a1 a2 a3 = some true
theorem masterdisclaw31_UdftagPads.walk (P : masterdisclaw31_UdftagPads.Pure) (a0 : Int) (a1 : Int) (a2 : Int) (a3 : ByteArray) (w : World) (w0 : (Lit.int .i64 a0).wf = true) (w1 : (Lit.int .i64 a1).wf = true) (w2 : (Lit.int .i64 a2).wf = true) (w3 : a3.size ≤ 140737488351232) :
    Calls Try.prog 19 #[.int .i64 a0, .int .i64 a1, .int .i64 a2, .string a3] w fun e w' => e = .returned (.bool true) ∧ Below w.heap.size w w' := by
  obtain ⟨k, h⟩ := P a0 a1 a2 a3 w0 w1 w2 w3
  refine (masterdisclaw31_UdftagPads.calls k a0 a1 a2 a3 true w h).mono ?_
  rintro e w' ⟨rfl, hd⟩
  exact ⟨rfl, hd⟩

end Go.Proofs.Ytijbfebbogiiiaa.Q
