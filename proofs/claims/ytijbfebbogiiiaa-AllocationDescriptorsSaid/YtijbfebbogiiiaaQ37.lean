/- Contracts of Go functions: each call returns what the Lean function of its name says. Written by wip/gen.py (a patched print) for this claim. -/
import Derived.Test.YtijbfebbogiiiaaHAwake33
import Derived.Test.YtijbfebbogiiiaaQ0
import Derived.Test.YtijbfebbogiiiaaQ34
import Derived.Test.YtijbfebbogiiiaaQ36
namespace Go.Proofs.Ytijbfebbogiiiaa.Q
open Go.RowKit Go.Proofs.YtijbfebbogiiiaaW.PrintWords Go.Proofs.YtijbfebbogiiiaaW.PrintLast Go.Proofs.YtijbfebbogiiiaaW.PrintMore
attribute [local go_sem] max2_int min2_int max_two min_two max_three min_three max_four min_four   -- for this text's walks alone
set_option linter.unusedVariables false
set_option linter.unusedSimpArgs false

/-! ### masterdisclaw33_AllocationDescriptors: function 10 -/
mutual
def masterdisclaw33_AllocationDescriptors.j0 : Nat → Int → Int → ByteArray → ByteArray → Int → Bool → Option (Bool)
  | 0, _, _, _, _, _, _ => none
  | k + 1, x0, x1, x2, x3, x4, x32 => if x32 = true then (some true) else ((allocation_Descriptor.f k x0 x1 x2).bind fun bt469 => ((masterdiscref33_Descriptor.f k x0 x1 x2).bind fun bt471 => ((allocation_ParseDescriptor.f k x3 x4).bind fun bt473 => ((masterdiscref33_ParseDescriptor.f k x3 x4).bind fun bt476 => (if bt469.1.toList = bt471.1.toList then (if bt469.2 = bt471.2 then (if bt473.1 = bt476.1 then (if bt473.2.1.toList = bt476.2.1.toList then (masterdisclaw33_AllocationDescriptors.j1 k x0 x1 x2 bt469.1 bt469.2 (bt473.2.2 != bt476.2.2)) else (masterdisclaw33_AllocationDescriptors.j1 k x0 x1 x2 bt469.1 bt469.2 true)) else (masterdisclaw33_AllocationDescriptors.j1 k x0 x1 x2 bt469.1 bt469.2 true)) else (masterdisclaw33_AllocationDescriptors.j1 k x0 x1 x2 bt469.1 bt469.2 true)) else (masterdisclaw33_AllocationDescriptors.j1 k x0 x1 x2 bt469.1 bt469.2 true))))))
def masterdisclaw33_AllocationDescriptors.j1 : Nat → Int → Int → ByteArray → ByteArray → Int → Bool → Option (Bool)
  | 0, _, _, _, _, _, _ => none
  | k + 1, x0, x1, x2, x11, x12, x83 => if x83 = true then (some false) else (if x12 = 0 then ((allocation_ParseDescriptor.f k x11 x1).bind fun bt479 => (if bt479.2.2 = 0 then (if bt479.1 = x0 then (some (bt479.2.1.toList == x2.toList)) else (some false)) else (some false))) else (some true))
end
def masterdisclaw33_AllocationDescriptors.f (k : Nat) (a0 : Int) (a1 : Int) (a2 : ByteArray) (a3 : ByteArray) (a4 : Int) : Option (Bool) := (masterdisclaw33_awake.f).bind fun t468 => (if t468 = true then (if (a2.size : Int) > 2100 then (masterdisclaw33_AllocationDescriptors.j0 k a0 a1 a2 a3 a4 true) else (masterdisclaw33_AllocationDescriptors.j0 k a0 a1 a2 a3 a4 (decide ((a3.size : Int) > 2100)))) else (some false))
theorem masterdisclaw33_AllocationDescriptors.mono_l : ∀ k, (∀ y0 y1 y2 y3 y4 y5, LeO (masterdisclaw33_AllocationDescriptors.j0 k y0 y1 y2 y3 y4 y5) (masterdisclaw33_AllocationDescriptors.j0 (k + 1) y0 y1 y2 y3 y4 y5)) ∧ (∀ y0 y1 y2 y3 y4 y5, LeO (masterdisclaw33_AllocationDescriptors.j1 k y0 y1 y2 y3 y4 y5) (masterdisclaw33_AllocationDescriptors.j1 (k + 1) y0 y1 y2 y3 y4 y5))
  | 0 => ⟨fun _ _ _ _ _ _ r h => by simp [masterdisclaw33_AllocationDescriptors.j0] at h, fun _ _ _ _ _ _ r h => by simp [masterdisclaw33_AllocationDescriptors.j1] at h⟩
  | k + 1 => by
    obtain ⟨ih0, ih1⟩ := masterdisclaw33_AllocationDescriptors.mono_l k
    refine ⟨?_, ?_⟩
    · intro y0 y1 y2 y3 y4 y5
      unfold masterdisclaw33_AllocationDescriptors.j0
      repeat' first
      | (with_reducible exact ih0 _ _ _ _ _ _)
      | (with_reducible exact ih1 _ _ _ _ _ _)
      | (with_reducible exact allocation_Descriptor.mono _ _ _ _)
      | (with_reducible exact allocation_ParseDescriptor.mono _ _ _)
      | (with_reducible exact masterdiscref33_Descriptor.mono _ _ _ _)
      | (with_reducible exact masterdiscref33_ParseDescriptor.mono _ _ _)
      | (with_reducible exact LeO.refl _)
      | (with_reducible exact LeO.none _)
      | (with_reducible refine LeO.ite ?_ ?_)
      | (with_reducible refine LeO.bind ?_ (fun _ => ?_))
      | exact ih0 _ _ _ _ _ _
      | exact ih1 _ _ _ _ _ _
      | exact allocation_Descriptor.mono _ _ _ _
      | exact allocation_ParseDescriptor.mono _ _ _
      | exact masterdiscref33_Descriptor.mono _ _ _ _
      | exact masterdiscref33_ParseDescriptor.mono _ _ _
      | exact LeO.none _
      | refine LeO.ite ?_ ?_
      | refine LeO.bind ?_ (fun _ => ?_)
    · intro y0 y1 y2 y3 y4 y5
      unfold masterdisclaw33_AllocationDescriptors.j1
      repeat' first
      | (with_reducible exact ih0 _ _ _ _ _ _)
      | (with_reducible exact ih1 _ _ _ _ _ _)
      | (with_reducible exact allocation_Descriptor.mono _ _ _ _)
      | (with_reducible exact allocation_ParseDescriptor.mono _ _ _)
      | (with_reducible exact masterdiscref33_Descriptor.mono _ _ _ _)
      | (with_reducible exact masterdiscref33_ParseDescriptor.mono _ _ _)
      | (with_reducible exact LeO.refl _)
      | (with_reducible exact LeO.none _)
      | (with_reducible refine LeO.ite ?_ ?_)
      | (with_reducible refine LeO.bind ?_ (fun _ => ?_))
      | exact ih0 _ _ _ _ _ _
      | exact ih1 _ _ _ _ _ _
      | exact allocation_Descriptor.mono _ _ _ _
      | exact allocation_ParseDescriptor.mono _ _ _
      | exact masterdiscref33_Descriptor.mono _ _ _ _
      | exact masterdiscref33_ParseDescriptor.mono _ _ _
      | exact LeO.none _
      | refine LeO.ite ?_ ?_
      | refine LeO.bind ?_ (fun _ => ?_)
theorem masterdisclaw33_AllocationDescriptors.mono : ∀ a0 a1 a2 a3 a4 k, LeO (masterdisclaw33_AllocationDescriptors.f k a0 a1 a2 a3 a4) (masterdisclaw33_AllocationDescriptors.f (k + 1) a0 a1 a2 a3 a4) := by
  intro a0 a1 a2 a3 a4 k
  obtain ⟨ih0, ih1⟩ := masterdisclaw33_AllocationDescriptors.mono_l k
  unfold masterdisclaw33_AllocationDescriptors.f
  repeat' first
      | (with_reducible exact ih0 _ _ _ _ _ _)
      | (with_reducible exact ih1 _ _ _ _ _ _)
      | (with_reducible exact allocation_Descriptor.mono _ _ _ _)
      | (with_reducible exact allocation_ParseDescriptor.mono _ _ _)
      | (with_reducible exact masterdiscref33_Descriptor.mono _ _ _ _)
      | (with_reducible exact masterdiscref33_ParseDescriptor.mono _ _ _)
      | (with_reducible exact LeO.refl _)
      | (with_reducible exact LeO.none _)
      | (with_reducible refine LeO.ite ?_ ?_)
      | (with_reducible refine LeO.bind ?_ (fun _ => ?_))
      | exact ih0 _ _ _ _ _ _
      | exact ih1 _ _ _ _ _ _
      | exact allocation_Descriptor.mono _ _ _ _
      | exact allocation_ParseDescriptor.mono _ _ _
      | exact masterdiscref33_Descriptor.mono _ _ _ _
      | exact masterdiscref33_ParseDescriptor.mono _ _ _
      | exact LeO.none _
      | refine LeO.ite ?_ ?_
      | refine LeO.bind ?_ (fun _ => ?_)
set_option maxHeartbeats 8000000 in
set_option maxRecDepth 100000 in
theorem masterdisclaw33_AllocationDescriptors.calls (k : Nat) (a0 : Int) (a1 : Int) (a2 : ByteArray) (a3 : ByteArray) (a4 : Int) (r : Bool) (w : World) (h : masterdisclaw33_AllocationDescriptors.f k a0 a1 a2 a3 a4 = some r) :
    Calls Try.prog 10 #[.int .i64 a0, .int .i64 a1, .string a2, .string a3, .int .i64 a4] w fun e w' => e = .returned (.bool r) ∧ Below w.heap.size w w' := by
  have HB := Aside0.mk (Below.refl w.heap.size w)
  have H : ((masterdisclaw33_awake.f).bind fun t468 => (if t468 = true then (if (a2.size : Int) > 2100 then (masterdisclaw33_AllocationDescriptors.j0 k a0 a1 a2 a3 a4 true) else (masterdisclaw33_AllocationDescriptors.j0 k a0 a1 a2 a3 a4 (decide ((a3.size : Int) > 2100)))) else (some false))) = some r := h
  clear h
  replace H := Option.bind_eq_some_iff.mp H
  obtain ⟨t468, A60, H⟩ := H
  replace H : (if t468 = true then (if (a2.size : Int) > 2100 then (masterdisclaw33_AllocationDescriptors.j0 k a0 a1 a2 a3 a4 true) else (masterdisclaw33_AllocationDescriptors.j0 k a0 a1 a2 a3 a4 (decide ((a3.size : Int) > 2100)))) else (some false)) = some r := H
  have A6 := Aside0.mk A60
  clear A60
  by_cases c7 : t468 = true
  · subst c7
    have H1 : (if (a2.size : Int) > 2100 then (masterdisclaw33_AllocationDescriptors.j0 k a0 a1 a2 a3 a4 true) else (masterdisclaw33_AllocationDescriptors.j0 k a0 a1 a2 a3 a4 (decide ((a3.size : Int) > 2100)))) = some r := by rw [if_pos rfl] at H; exact H
    clear H
    have H := H1
    clear H1
    have HC8 := Aside0.mk H
    clear H
    go_enter Try.func10, Try.ntmps10
    go_upto_region 3 with (first | ((with_reducible refine gate_callee (f := 33) rfl ?_); refine goesL_ (some 23) rfl rfl Try.func33 (by kernel_rfl) rfl #[] rfl (by (try simp only [List.map_toArray, List.map_cons, List.map_nil]); first | done | rfl | (simp only [List.length_drop, List.length_take]; rfl)) ?_; (with_reducible refine (masterdisclaw33_awake.calls  true _ A6.out).mono ?_); rintro e w9 ⟨rfl, hb⟩; refine ⟨_, rfl, ?_⟩; have n0_ := Aside0.mk (below_step (by repeat (first | (with_reducible first | exact HB.out | apply below_alloc | apply pw_below_drewN | apply below_drew1) | exact HB.out)) hb); clear HB; have HB := n0_; clear n0_; (try clear hb); (try clear hb2); (try clear hk); (try clear hi)))
    (try simp only [Act.put, List.setIfInBounds_toArray, List.set_cons_zero, List.set_cons_succ])
    go_cut [32] (fun v32 wc => ∃ (kq : Nat) (x32_7 : Bool), v32 = .bool x32_7 ∧ Aside0 (masterdisclaw33_AllocationDescriptors.j0 kq a0 a1 a2 a3 a4 x32_7 = some r) ∧ Aside0 (kq ≤ k) ∧ Aside0 (Below w.heap.size w wc))
    case first =>
      have H := HC8.out
      clear HC8
      by_cases c10 : (a2.size : Int) > 2100
      · rw [if_pos c10] at H
        have c10b0 : decide (2100 < (a2.size : Int)) = true := decide_eq_true c10
        have c10b1 : decide (2100 < a2.size) = true := decide_eq_true (by omega)
        clear c10
        (first | rw [c10b0] | (simp only [i64_w, i32_w]; rw [c10b0]) | skip)
        have H' := Aside0.mk H
        clear H
        go_wp2
        go_meet
        case rel => exact ⟨_, (true), (by first | rfl | (simp; done) | (simp [*]; done)), H', ⟨by first | omega | exact Nat.le_refl _⟩, ⟨by repeat (first | (with_reducible first | exact HB.out | apply below_alloc | apply pw_below_drewN | apply below_drew1) | exact HB.out)⟩⟩
      · rw [if_neg c10] at H
        have c10b0 : decide (2100 < (a2.size : Int)) = false := decide_eq_false c10
        have c10b1 : decide (2100 < a2.size) = false := decide_eq_false (by omega)
        clear c10
        (first | rw [c10b0] | (simp only [i64_w, i32_w]; rw [c10b0]) | skip)
        have H' := Aside0.mk H
        clear H
        go_wp2
        go_meet
        case rel => exact ⟨_, (decide ((a3.size : Int) > 2100)), (by first | rfl | (simp; done) | (simp [*]; done)), H', ⟨by first | omega | exact Nat.le_refl _⟩, ⟨by repeat (first | (with_reducible first | exact HB.out | apply below_alloc | apply pw_below_drewN | apply below_drew1) | exact HB.out)⟩⟩
    case rest =>
      clear HC8
      try clear c1
      try clear p2
      try clear c3
      try clear c7
      try clear c10
      try clear c10b0
      try clear c10b1
      obtain ⟨kq, x32_7, rfl, HA, HJ7, HB⟩ := hcut
      cases kq with
      | zero => exact absurd HA.out (by simp [masterdisclaw33_AllocationDescriptors.j0])
      | succ kj7 =>
        have H := HA.out
        clear HA
        simp only [masterdisclaw33_AllocationDescriptors.j0] at H
        by_cases c11 : x32_7 = true
        · subst c11
          have H1 : (some true) = some r := by rw [if_pos rfl] at H; exact H
          clear H
          have H := H1
          clear H1
          obtain rfl := Option.some.inj H
          go_wp2
          go_ret
          exact ⟨by first | rfl | (simp [errW_none, errW_some] <;> rfl) | (simp [*, errW_none, errW_some] <;> rfl), by repeat (first | (with_reducible first | exact HB.out | apply below_alloc | apply pw_below_drewN | apply below_drew1) | exact HB.out)⟩
        · replace c11 := Bool.eq_false_iff.mpr c11
          subst c11
          have H1 : ((allocation_Descriptor.f kj7 a0 a1 a2).bind fun bt469 => ((masterdiscref33_Descriptor.f kj7 a0 a1 a2).bind fun bt471 => ((allocation_ParseDescriptor.f kj7 a3 a4).bind fun bt473 => ((masterdiscref33_ParseDescriptor.f kj7 a3 a4).bind fun bt476 => (if bt469.1.toList = bt471.1.toList then (if bt469.2 = bt471.2 then (if bt473.1 = bt476.1 then (if bt473.2.1.toList = bt476.2.1.toList then (masterdisclaw33_AllocationDescriptors.j1 kj7 a0 a1 a2 bt469.1 bt469.2 (bt473.2.2 != bt476.2.2)) else (masterdisclaw33_AllocationDescriptors.j1 kj7 a0 a1 a2 bt469.1 bt469.2 true)) else (masterdisclaw33_AllocationDescriptors.j1 kj7 a0 a1 a2 bt469.1 bt469.2 true)) else (masterdisclaw33_AllocationDescriptors.j1 kj7 a0 a1 a2 bt469.1 bt469.2 true)) else (masterdisclaw33_AllocationDescriptors.j1 kj7 a0 a1 a2 bt469.1 bt469.2 true)))))) = some r := by rw [if_neg (show ¬ (false = true) by decide)] at H; exact H
          clear H
          have H := H1
          clear H1
          replace H := Option.bind_eq_some_iff.mp H
          obtain ⟨⟨t469, t470⟩, A120, H⟩ := H
          replace H : ((masterdiscref33_Descriptor.f kj7 a0 a1 a2).bind fun bt471 => ((allocation_ParseDescriptor.f kj7 a3 a4).bind fun bt473 => ((masterdiscref33_ParseDescriptor.f kj7 a3 a4).bind fun bt476 => (if t469.toList = bt471.1.toList then (if t470 = bt471.2 then (if bt473.1 = bt476.1 then (if bt473.2.1.toList = bt476.2.1.toList then (masterdisclaw33_AllocationDescriptors.j1 kj7 a0 a1 a2 t469 t470 (bt473.2.2 != bt476.2.2)) else (masterdisclaw33_AllocationDescriptors.j1 kj7 a0 a1 a2 t469 t470 true)) else (masterdisclaw33_AllocationDescriptors.j1 kj7 a0 a1 a2 t469 t470 true)) else (masterdisclaw33_AllocationDescriptors.j1 kj7 a0 a1 a2 t469 t470 true)) else (masterdisclaw33_AllocationDescriptors.j1 kj7 a0 a1 a2 t469 t470 true))))) = some r := H
          have A12 := Aside0.mk A120
          clear A120
          replace H := Option.bind_eq_some_iff.mp H
          obtain ⟨⟨t471, t472⟩, A130, H⟩ := H
          replace H : ((allocation_ParseDescriptor.f kj7 a3 a4).bind fun bt473 => ((masterdiscref33_ParseDescriptor.f kj7 a3 a4).bind fun bt476 => (if t469.toList = t471.toList then (if t470 = t472 then (if bt473.1 = bt476.1 then (if bt473.2.1.toList = bt476.2.1.toList then (masterdisclaw33_AllocationDescriptors.j1 kj7 a0 a1 a2 t469 t470 (bt473.2.2 != bt476.2.2)) else (masterdisclaw33_AllocationDescriptors.j1 kj7 a0 a1 a2 t469 t470 true)) else (masterdisclaw33_AllocationDescriptors.j1 kj7 a0 a1 a2 t469 t470 true)) else (masterdisclaw33_AllocationDescriptors.j1 kj7 a0 a1 a2 t469 t470 true)) else (masterdisclaw33_AllocationDescriptors.j1 kj7 a0 a1 a2 t469 t470 true)))) = some r := H
          have A13 := Aside0.mk A130
          clear A130
          replace H := Option.bind_eq_some_iff.mp H
          obtain ⟨⟨t473, t474, t475⟩, A140, H⟩ := H
          replace H : ((masterdiscref33_ParseDescriptor.f kj7 a3 a4).bind fun bt476 => (if t469.toList = t471.toList then (if t470 = t472 then (if t473 = bt476.1 then (if t474.toList = bt476.2.1.toList then (masterdisclaw33_AllocationDescriptors.j1 kj7 a0 a1 a2 t469 t470 (t475 != bt476.2.2)) else (masterdisclaw33_AllocationDescriptors.j1 kj7 a0 a1 a2 t469 t470 true)) else (masterdisclaw33_AllocationDescriptors.j1 kj7 a0 a1 a2 t469 t470 true)) else (masterdisclaw33_AllocationDescriptors.j1 kj7 a0 a1 a2 t469 t470 true)) else (masterdisclaw33_AllocationDescriptors.j1 kj7 a0 a1 a2 t469 t470 true))) = some r := H
          have A14 := Aside0.mk A140
          clear A140
          replace H := Option.bind_eq_some_iff.mp H
          obtain ⟨⟨t476, t477, t478⟩, A150, H⟩ := H
          replace H : (if t469.toList = t471.toList then (if t470 = t472 then (if t473 = t476 then (if t474.toList = t477.toList then (masterdisclaw33_AllocationDescriptors.j1 kj7 a0 a1 a2 t469 t470 (t475 != t478)) else (masterdisclaw33_AllocationDescriptors.j1 kj7 a0 a1 a2 t469 t470 true)) else (masterdisclaw33_AllocationDescriptors.j1 kj7 a0 a1 a2 t469 t470 true)) else (masterdisclaw33_AllocationDescriptors.j1 kj7 a0 a1 a2 t469 t470 true)) else (masterdisclaw33_AllocationDescriptors.j1 kj7 a0 a1 a2 t469 t470 true)) = some r := H
          have A15 := Aside0.mk A150
          clear A150
          have HC16 := Aside0.mk H
          clear H
          go_upto_region 9 with (first | ((with_reducible refine gate_callee (f := 49) rfl ?_); refine goesL_ (some 37) rfl rfl Try.func49 (by kernel_rfl) rfl #[.int .i64 a0, .int .i64 a1, .string a2] rfl (by (try simp only [List.map_toArray, List.map_cons, List.map_nil]); first | done | rfl | (simp only [List.length_drop, List.length_take]; rfl)) ?_; (with_reducible refine (allocation_Descriptor.calls kj7 a0 a1 a2 t469 t470 _ A12.out).mono ?_); rintro e w17 ⟨rfl, hb⟩; refine ⟨_, rfl, ?_⟩; have n0_ := Aside0.mk (below_step (by repeat (first | (with_reducible first | exact HB.out | apply below_alloc | apply pw_below_drewN | apply below_drew1) | exact HB.out)) hb); clear HB; have HB := n0_; clear n0_; (try clear hb); (try clear hb2); (try clear hk); (try clear hi)) | ((with_reducible refine gate_callee (f := 50) rfl ?_); refine goesL_ (some 44) rfl rfl Try.func50 (by kernel_rfl) rfl #[.int .i64 a0, .int .i64 a1, .string a2] rfl (by (try simp only [List.map_toArray, List.map_cons, List.map_nil]); first | done | rfl | (simp only [List.length_drop, List.length_take]; rfl)) ?_; (with_reducible refine (masterdiscref33_Descriptor.calls kj7 a0 a1 a2 t471 t472 _ A13.out).mono ?_); rintro e w18 ⟨rfl, hb⟩; refine ⟨_, rfl, ?_⟩; have n0_ := Aside0.mk (below_step (by repeat (first | (with_reducible first | exact HB.out | apply below_alloc | apply pw_below_drewN | apply below_drew1) | exact HB.out)) hb); clear HB; have HB := n0_; clear n0_; (try clear hb); (try clear hb2); (try clear hk); (try clear hi)) | ((with_reducible refine gate_callee (f := 51) rfl ?_); refine goesL_ (some 50) rfl rfl Try.func51 (by kernel_rfl) rfl #[.string a3, .int .i64 a4] rfl (by (try simp only [List.map_toArray, List.map_cons, List.map_nil]); first | done | rfl | (simp only [List.length_drop, List.length_take]; rfl)) ?_; (with_reducible refine (allocation_ParseDescriptor.calls kj7 a3 a4 t473 t474 t475 _ A14.out).mono ?_); rintro e w19 ⟨rfl, hb⟩; refine ⟨_, rfl, ?_⟩; have n0_ := Aside0.mk (below_step (by repeat (first | (with_reducible first | exact HB.out | apply below_alloc | apply pw_below_drewN | apply below_drew1) | exact HB.out)) hb); clear HB; have HB := n0_; clear n0_; (try clear hb); (try clear hb2); (try clear hk); (try clear hi)) | ((with_reducible refine gate_callee (f := 52) rfl ?_); refine goesL_ (some 57) rfl rfl Try.func52 (by kernel_rfl) rfl #[.string a3, .int .i64 a4] rfl (by (try simp only [List.map_toArray, List.map_cons, List.map_nil]); first | done | rfl | (simp only [List.length_drop, List.length_take]; rfl)) ?_; (with_reducible refine (masterdiscref33_ParseDescriptor.calls kj7 a3 a4 t476 t477 t478 _ A15.out).mono ?_); rintro e w20 ⟨rfl, hb⟩; refine ⟨_, rfl, ?_⟩; have n0_ := Aside0.mk (below_step (by repeat (first | (with_reducible first | exact HB.out | apply below_alloc | apply pw_below_drewN | apply below_drew1) | exact HB.out)) hb); clear HB; have HB := n0_; clear n0_; (try clear hb); (try clear hb2); (try clear hk); (try clear hi)))
          (try simp only [Act.put, List.setIfInBounds_toArray, List.set_cons_zero, List.set_cons_succ])
          go_cut [83] (fun v83 wc => ∃ (kq : Nat) (x83_15 : Bool), v83 = .bool x83_15 ∧ Aside0 (masterdisclaw33_AllocationDescriptors.j1 kq a0 a1 a2 t469 t470 x83_15 = some r) ∧ Aside0 (kq ≤ kj7) ∧ Aside0 (Below w.heap.size w wc))
          case first =>
            have H := HC16.out
            clear HC16
            by_cases c21 : t469.toList = t471.toList
            · rw [if_pos c21] at H
              have c21b0 : (t469.toList == t471.toList) = true := beq_iff_eq.mpr c21
              have c21b1 : (t469.toList != t471.toList) = false := bne_eq_false_iff_eq.mpr c21
              clear c21
              (first | rw [c21b0] | (simp only [i64_w, i32_w]; rw [c21b0]) | skip)
              by_cases c22 : t470 = t472
              · rw [if_pos c22] at H
                have c22b0 : (t470 == t472) = true := beq_iff_eq.mpr c22
                have c22b1 : (t470 != t472) = false := bne_eq_false_iff_eq.mpr c22
                clear c22
                by_cases c23 : t473 = t476
                · rw [if_pos c23] at H
                  have c23b0 : (t473 == t476) = true := beq_iff_eq.mpr c23
                  have c23b1 : (t473 != t476) = false := bne_eq_false_iff_eq.mpr c23
                  clear c23
                  by_cases c24 : t474.toList = t477.toList
                  · rw [if_pos c24] at H
                    have c24b0 : (t474.toList == t477.toList) = true := beq_iff_eq.mpr c24
                    have c24b1 : (t474.toList != t477.toList) = false := bne_eq_false_iff_eq.mpr c24
                    clear c24
                    have H' := Aside0.mk H
                    clear H
                    go_wp2
                    go_meet
                    case rel => exact ⟨_, ((t475 != t478)), (by first | rfl | (simp; done) | (simp [*]; done)), H', ⟨by have := HJ7.out; first | omega | exact Nat.le_refl _⟩, ⟨by repeat (first | (with_reducible first | exact HB.out | apply below_alloc | apply pw_below_drewN | apply below_drew1) | exact HB.out)⟩⟩
                  · rw [if_neg c24] at H
                    have c24b0 : (t474.toList == t477.toList) = false := beq_eq_false_iff_ne.mpr c24
                    have c24b1 : (t474.toList != t477.toList) = true := bne_iff_ne.mpr c24
                    have H' := Aside0.mk H
                    clear H
                    go_wp2
                    go_meet
                    case rel => exact ⟨_, (true), (by first | rfl | (simp; done) | (simp [*]; done)), H', ⟨by have := HJ7.out; first | omega | exact Nat.le_refl _⟩, ⟨by repeat (first | (with_reducible first | exact HB.out | apply below_alloc | apply pw_below_drewN | apply below_drew1) | exact HB.out)⟩⟩
                · rw [if_neg c23] at H
                  have c23b0 : (t473 == t476) = false := beq_eq_false_iff_ne.mpr c23
                  have c23b1 : (t473 != t476) = true := bne_iff_ne.mpr c23
                  have H' := Aside0.mk H
                  clear H
                  go_wp2
                  go_meet
                  case rel => exact ⟨_, (true), (by first | rfl | (simp; done) | (simp [*]; done)), H', ⟨by have := HJ7.out; first | omega | exact Nat.le_refl _⟩, ⟨by repeat (first | (with_reducible first | exact HB.out | apply below_alloc | apply pw_below_drewN | apply below_drew1) | exact HB.out)⟩⟩
              · rw [if_neg c22] at H
                have c22b0 : (t470 == t472) = false := beq_eq_false_iff_ne.mpr c22
                have c22b1 : (t470 != t472) = true := bne_iff_ne.mpr c22
                have H' := Aside0.mk H
                clear H
                go_wp2
                go_meet
                case rel => exact ⟨_, (true), (by first | rfl | (simp; done) | (simp [*]; done)), H', ⟨by have := HJ7.out; first | omega | exact Nat.le_refl _⟩, ⟨by repeat (first | (with_reducible first | exact HB.out | apply below_alloc | apply pw_below_drewN | apply below_drew1) | exact HB.out)⟩⟩
            · rw [if_neg c21] at H
              have c21b0 : (t469.toList == t471.toList) = false := beq_eq_false_iff_ne.mpr c21
              have c21b1 : (t469.toList != t471.toList) = true := bne_iff_ne.mpr c21
              (first | rw [c21b0] | (simp only [i64_w, i32_w]; rw [c21b0]) | skip)
              have H' := Aside0.mk H
              clear H
              go_wp2
              go_meet
              case rel => exact ⟨_, (true), (by first | rfl | (simp; done) | (simp [*]; done)), H', ⟨by have := HJ7.out; first | omega | exact Nat.le_refl _⟩, ⟨by repeat (first | (with_reducible first | exact HB.out | apply below_alloc | apply pw_below_drewN | apply below_drew1) | exact HB.out)⟩⟩
          case rest =>
            clear HC16
            try clear c1
            try clear c2
            try clear p2
            try clear c3
            try clear c4
            try clear c5
            try clear c7
            try clear c10
            try clear c10b0
            try clear c10b1
            try clear c11
            try clear c21
            try clear c21b0
            try clear c21b1
            try clear c22
            try clear c22b0
            try clear c22b1
            try clear c23
            try clear c23b0
            try clear c23b1
            try clear c24
            try clear c24b0
            try clear c24b1
            try clear p2
            obtain ⟨kq, x83_15, rfl, HA, HJ15, HB⟩ := hcut
            cases kq with
            | zero => exact absurd HA.out (by simp [masterdisclaw33_AllocationDescriptors.j1])
            | succ kj15 =>
              have H := HA.out
              clear HA
              simp only [masterdisclaw33_AllocationDescriptors.j1] at H
              by_cases c25 : x83_15 = true
              · subst c25
                have H1 : (some false) = some r := by rw [if_pos rfl] at H; exact H
                clear H
                have H := H1
                clear H1
                obtain rfl := Option.some.inj H
                go_wp2
                go_ret
                exact ⟨by first | rfl | (simp [errW_none, errW_some] <;> rfl) | (simp [*, errW_none, errW_some] <;> rfl), by repeat (first | (with_reducible first | exact HB.out | apply below_alloc | apply pw_below_drewN | apply below_drew1) | exact HB.out)⟩
              · replace c25 := Bool.eq_false_iff.mpr c25
                subst c25
                have H1 : (if t470 = 0 then ((allocation_ParseDescriptor.f kj15 t469 a1).bind fun bt479 => (if bt479.2.2 = 0 then (if bt479.1 = a0 then (some (bt479.2.1.toList == a2.toList)) else (some false)) else (some false))) else (some true)) = some r := by rw [if_neg (show ¬ (false = true) by decide)] at H; exact H
                clear H
                have H := H1
                clear H1
                by_cases c26 : t470 = 0
                · rw [if_pos c26] at H
                  have c26b0 : (t470 == 0) = true := beq_iff_eq.mpr c26
                  have c26b1 : (t470 != 0) = false := bne_eq_false_iff_eq.mpr c26
                  clear c26
                  replace H := Option.bind_eq_some_iff.mp H
                  obtain ⟨⟨t479, t480, t481⟩, A270, H⟩ := H
                  replace H : (if t481 = 0 then (if t479 = a0 then (some (t480.toList == a2.toList)) else (some false)) else (some false)) = some r := H
                  have A27 := Aside0.mk A270
                  clear A270
                  by_cases c28 : t481 = 0
                  · rw [if_pos c28] at H
                    have c28b0 : (t481 == 0) = true := beq_iff_eq.mpr c28
                    have c28b1 : (t481 != 0) = false := bne_eq_false_iff_eq.mpr c28
                    clear c28
                    by_cases c29 : t479 = a0
                    · rw [if_pos c29] at H
                      have c29b0 : (t479 == a0) = true := beq_iff_eq.mpr c29
                      have c29b1 : (t479 != a0) = false := bne_eq_false_iff_eq.mpr c29
                      clear c29
                      obtain rfl := Option.some.inj H
                      go_wp2_with (first | ((with_reducible refine gate_callee (f := 51) rfl ?_); refine goesL_ (some 89) rfl rfl Try.func51 (by kernel_rfl) rfl #[.string t469, .int .i64 a1] rfl (by (try simp only [List.map_toArray, List.map_cons, List.map_nil]); first | done | rfl | (simp only [List.length_drop, List.length_take]; rfl)) ?_; (with_reducible refine (allocation_ParseDescriptor.calls kj15 t469 a1 t479 t480 t481 _ A27.out).mono ?_); rintro e w30 ⟨rfl, hb⟩; refine ⟨_, rfl, ?_⟩; have n0_ := Aside0.mk (below_step (by repeat (first | (with_reducible first | exact HB.out | apply below_alloc | apply pw_below_drewN | apply below_drew1) | exact HB.out)) hb); clear HB; have HB := n0_; clear n0_; (try clear hb); (try clear hb2); (try clear hk); (try clear hi)))
                      go_ret
                      exact ⟨by first | rfl | (simp [errW_none, errW_some] <;> rfl) | (simp [*, errW_none, errW_some] <;> rfl), by repeat (first | (with_reducible first | exact HB.out | apply below_alloc | apply pw_below_drewN | apply below_drew1) | exact HB.out)⟩
                    · rw [if_neg c29] at H
                      have c29b0 : (t479 == a0) = false := beq_eq_false_iff_ne.mpr c29
                      have c29b1 : (t479 != a0) = true := bne_iff_ne.mpr c29
                      obtain rfl := Option.some.inj H
                      go_wp2_with (first | ((with_reducible refine gate_callee (f := 51) rfl ?_); refine goesL_ (some 89) rfl rfl Try.func51 (by kernel_rfl) rfl #[.string t469, .int .i64 a1] rfl (by (try simp only [List.map_toArray, List.map_cons, List.map_nil]); first | done | rfl | (simp only [List.length_drop, List.length_take]; rfl)) ?_; (with_reducible refine (allocation_ParseDescriptor.calls kj15 t469 a1 t479 t480 t481 _ A27.out).mono ?_); rintro e w31 ⟨rfl, hb⟩; refine ⟨_, rfl, ?_⟩; have n0_ := Aside0.mk (below_step (by repeat (first | (with_reducible first | exact HB.out | apply below_alloc | apply pw_below_drewN | apply below_drew1) | exact HB.out)) hb); clear HB; have HB := n0_; clear n0_; (try clear hb); (try clear hb2); (try clear hk); (try clear hi)))
                      go_ret
                      exact ⟨by first | rfl | (simp [errW_none, errW_some] <;> rfl) | (simp [*, errW_none, errW_some] <;> rfl), by repeat (first | (with_reducible first | exact HB.out | apply below_alloc | apply pw_below_drewN | apply below_drew1) | exact HB.out)⟩
                  · rw [if_neg c28] at H
                    have c28b0 : (t481 == 0) = false := beq_eq_false_iff_ne.mpr c28
                    have c28b1 : (t481 != 0) = true := bne_iff_ne.mpr c28
                    obtain rfl := Option.some.inj H
                    go_wp2_with (first | ((with_reducible refine gate_callee (f := 51) rfl ?_); refine goesL_ (some 89) rfl rfl Try.func51 (by kernel_rfl) rfl #[.string t469, .int .i64 a1] rfl (by (try simp only [List.map_toArray, List.map_cons, List.map_nil]); first | done | rfl | (simp only [List.length_drop, List.length_take]; rfl)) ?_; (with_reducible refine (allocation_ParseDescriptor.calls kj15 t469 a1 t479 t480 t481 _ A27.out).mono ?_); rintro e w32 ⟨rfl, hb⟩; refine ⟨_, rfl, ?_⟩; have n0_ := Aside0.mk (below_step (by repeat (first | (with_reducible first | exact HB.out | apply below_alloc | apply pw_below_drewN | apply below_drew1) | exact HB.out)) hb); clear HB; have HB := n0_; clear n0_; (try clear hb); (try clear hb2); (try clear hk); (try clear hi)))
                    go_ret
                    exact ⟨by first | rfl | (simp [errW_none, errW_some] <;> rfl) | (simp [*, errW_none, errW_some] <;> rfl), by repeat (first | (with_reducible first | exact HB.out | apply below_alloc | apply pw_below_drewN | apply below_drew1) | exact HB.out)⟩
                · rw [if_neg c26] at H
                  have c26b0 : (t470 == 0) = false := beq_eq_false_iff_ne.mpr c26
                  have c26b1 : (t470 != 0) = true := bne_iff_ne.mpr c26
                  obtain rfl := Option.some.inj H
                  go_wp2
                  go_ret
                  exact ⟨by first | rfl | (simp [errW_none, errW_some] <;> rfl) | (simp [*, errW_none, errW_some] <;> rfl), by repeat (first | (with_reducible first | exact HB.out | apply below_alloc | apply pw_below_drewN | apply below_drew1) | exact HB.out)⟩
  · replace c7 := Bool.eq_false_iff.mpr c7
    subst c7
    have H1 : (some false) = some r := by rw [if_neg (show ¬ (false = true) by decide)] at H; exact H
    clear H
    have H := H1
    clear H1
    obtain rfl := Option.some.inj H
    go_enter Try.func10, Try.ntmps10
    go_wp2_with (first | ((with_reducible refine gate_callee (f := 33) rfl ?_); refine goesL_ (some 23) rfl rfl Try.func33 (by kernel_rfl) rfl #[] rfl (by (try simp only [List.map_toArray, List.map_cons, List.map_nil]); first | done | rfl | (simp only [List.length_drop, List.length_take]; rfl)) ?_; (with_reducible refine (masterdisclaw33_awake.calls  false _ A6.out).mono ?_); rintro e w33 ⟨rfl, hb⟩; refine ⟨_, rfl, ?_⟩; have n0_ := Aside0.mk (below_step (by repeat (first | (with_reducible first | exact HB.out | apply below_alloc | apply pw_below_drewN | apply below_drew1) | exact HB.out)) hb); clear HB; have HB := n0_; clear n0_; (try clear hb); (try clear hb2); (try clear hk); (try clear hi)))
    go_ret
    exact ⟨by first | rfl | (simp [errW_none, errW_some] <;> rfl) | (simp [*, errW_none, errW_some] <;> rfl), by repeat (first | (with_reducible first | exact HB.out | apply below_alloc | apply pw_below_drewN | apply below_drew1) | exact HB.out)⟩

/-- THE ONE PURE STATEMENT of masterdisclaw33_AllocationDescriptors: yours. -/
def masterdisclaw33_AllocationDescriptors.Pure : Prop := ∀ (a0 : Int) (a1 : Int) (a2 : ByteArray) (a3 : ByteArray) (a4 : Int), (Lit.int .i64 a0).wf = true → (Lit.int .i64 a1).wf = true → a2.size ≤ 140737488351232 → a3.size ≤ 140737488351232 → (Lit.int .i64 a4).wf = true → ∃ k, masterdisclaw33_AllocationDescriptors.f k a0 a1 a2 a3 a4 = some true
theorem masterdisclaw33_AllocationDescriptors.walk (P : masterdisclaw33_AllocationDescriptors.Pure) (a0 : Int) (a1 : Int) (a2 : ByteArray) (a3 : ByteArray) (a4 : Int) (w : World) (w0 : (Lit.int .i64 a0).wf = true) (w1 : (Lit.int .i64 a1).wf = true) (w2 : a2.size ≤ 140737488351232) (w3 : a3.size ≤ 140737488351232) (w4 : (Lit.int .i64 a4).wf = true) :
    Calls Try.prog 10 #[.int .i64 a0, .int .i64 a1, .string a2, .string a3, .int .i64 a4] w fun e w' => e = .returned (.bool true) ∧ Below w.heap.size w w' := by
  obtain ⟨k, h⟩ := P a0 a1 a2 a3 a4 w0 w1 w2 w3 w4
  refine (masterdisclaw33_AllocationDescriptors.calls k a0 a1 a2 a3 a4 true w h).mono ?_
  rintro e w' ⟨rfl, hd⟩
  exact ⟨rfl, hd⟩

end Go.Proofs.Ytijbfebbogiiiaa.Q
