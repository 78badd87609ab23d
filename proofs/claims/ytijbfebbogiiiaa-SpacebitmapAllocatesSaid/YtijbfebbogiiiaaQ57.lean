/- Contracts of Go functions: each call returns what the Lean function of its name says. Written by wip/gen.py (a patched print) for this claim. -/
import Derived.Test.YtijbfebbogiiiaaQ0
import Derived.Test.YtijbfebbogiiiaaQ31
import Derived.Test.YtijbfebbogiiiaaQ55
import Derived.Test.YtijbfebbogiiiaaQKept
namespace Go.Proofs.Ytijbfebbogiiiaa.Q
open Go.RowKit Go.Proofs.YtijbfebbogiiiaaW.PrintWords Go.Proofs.YtijbfebbogiiiaaW.PrintLast Go.Proofs.YtijbfebbogiiiaaW.PrintMore
attribute [local go_sem] max2_int min2_int max_two min_two max_three min_three max_four min_four   -- for this text's walks alone
set_option linter.unusedVariables false
set_option linter.unusedSimpArgs false

/-! ### masterdiscref41_Allocate: function 85 -/
mutual
def masterdiscref41_Allocate.l0 : Nat → Int → Int → List (S76) → List Bool → Int → Option ((List (S76)) × ByteArray × Int)
  | 0, _, _, _, _, _ => none
  | k + 1, x1, x2, x9, x10, x11 => if x11 < x1 then (masterdiscref41_Allocate.j1 k x1 x2 x9 x10 x11 (decide (x2 > 0))) else (masterdiscref41_Allocate.j1 k x1 x2 x9 x10 x11 false)
def masterdiscref41_Allocate.j1 : Nat → Int → Int → List (S76) → List Bool → Int → Bool → Option ((List (S76)) × ByteArray × Int)
  | 0, _, _, _, _, _, _ => none
  | k + 1, x1, x2, x9, x10, x11, x34 => if x34 = true then (if 0 ≤ x11 then (if x11 < (x10.length : Int) then (if rdOf false x10 x11 = true then ((masterdiscref41_add.f x9 x11).bind fun t787 => (masterdiscref41_Allocate.l0 k x1 (wrap64 (x2 - 1)) t787 (x10.set (x11 : Int).toNat false) (wrap64 (x11 + 1)))) else (masterdiscref41_Allocate.l0 k x1 x2 x9 x10 (wrap64 (x11 + 1)))) else (none)) else (none)) else ((masterdiscref41_pack.f k x10).bind fun t791 => (some (x9, t791, 0)))
end
def masterdiscref41_Allocate.f (k : Nat) (a0 : ByteArray) (a1 : Int) (a2 : Int) : Option ((List (S76)) × ByteArray × Int) := (masterdiscref41_Valid.f k a0 a1).bind fun t775 => (if t775 = true then (if a2 < 0 then (some (([] : List (S76)), (⟨#[]⟩ : ByteArray), 2)) else ((masterdiscref41_Free.f k a0 a1).bind fun t776 => (if a2 > t776 then (some (([] : List (S76)), (⟨#[]⟩ : ByteArray), 12)) else ((masterdiscref41_bits.f k a0).bind fun t780 => (if 0 ≤ a1 then (if a1 ≤ (t780.length : Int) then (masterdiscref41_Allocate.l0 k a1 a2 (([] : List (S76))) (t780.take (a1 : Int).toNat) 0) else (none)) else (none)))))) else (some (([] : List (S76)), (⟨#[]⟩ : ByteArray), 1)))
theorem masterdiscref41_Allocate.mono_l : ∀ k, (∀ y0 y1 y2 y3 y4, LeO (masterdiscref41_Allocate.l0 k y0 y1 y2 y3 y4) (masterdiscref41_Allocate.l0 (k + 1) y0 y1 y2 y3 y4)) ∧ (∀ y0 y1 y2 y3 y4 y5, LeO (masterdiscref41_Allocate.j1 k y0 y1 y2 y3 y4 y5) (masterdiscref41_Allocate.j1 (k + 1) y0 y1 y2 y3 y4 y5))
  | 0 => ⟨fun _ _ _ _ _ r h => by simp [masterdiscref41_Allocate.l0] at h, fun _ _ _ _ _ _ r h => by simp [masterdiscref41_Allocate.j1] at h⟩
  | k + 1 => by
    obtain ⟨ih0, ih1⟩ := masterdiscref41_Allocate.mono_l k
    refine ⟨?_, ?_⟩
    · intro y0 y1 y2 y3 y4
      unfold masterdiscref41_Allocate.l0
      repeat' first
      | (with_reducible exact ih0 _ _ _ _ _)
      | (with_reducible exact ih1 _ _ _ _ _ _)
      | (with_reducible exact masterdiscref41_Free.mono _ _ _)
      | (with_reducible exact masterdiscref41_Valid.mono _ _ _)
      | (with_reducible exact masterdiscref41_bits.mono _ _)
      | (with_reducible exact masterdiscref41_pack.mono _ _)
      | (with_reducible exact LeO.refl _)
      | (with_reducible exact LeO.none _)
      | (with_reducible refine LeO.ite ?_ ?_)
      | (with_reducible refine LeO.bind ?_ (fun _ => ?_))
      | exact ih0 _ _ _ _ _
      | exact ih1 _ _ _ _ _ _
      | exact masterdiscref41_Free.mono _ _ _
      | exact masterdiscref41_Valid.mono _ _ _
      | exact masterdiscref41_bits.mono _ _
      | exact masterdiscref41_pack.mono _ _
      | exact LeO.none _
      | refine LeO.ite ?_ ?_
      | refine LeO.bind ?_ (fun _ => ?_)
    · intro y0 y1 y2 y3 y4 y5
      unfold masterdiscref41_Allocate.j1
      repeat' first
      | (with_reducible exact ih0 _ _ _ _ _)
      | (with_reducible exact ih1 _ _ _ _ _ _)
      | (with_reducible exact masterdiscref41_Free.mono _ _ _)
      | (with_reducible exact masterdiscref41_Valid.mono _ _ _)
      | (with_reducible exact masterdiscref41_bits.mono _ _)
      | (with_reducible exact masterdiscref41_pack.mono _ _)
      | (with_reducible exact LeO.refl _)
      | (with_reducible exact LeO.none _)
      | (with_reducible refine LeO.ite ?_ ?_)
      | (with_reducible refine LeO.bind ?_ (fun _ => ?_))
      | exact ih0 _ _ _ _ _
      | exact ih1 _ _ _ _ _ _
      | exact masterdiscref41_Free.mono _ _ _
      | exact masterdiscref41_Valid.mono _ _ _
      | exact masterdiscref41_bits.mono _ _
      | exact masterdiscref41_pack.mono _ _
      | exact LeO.none _
      | refine LeO.ite ?_ ?_
      | refine LeO.bind ?_ (fun _ => ?_)
theorem masterdiscref41_Allocate.mono : ∀ a0 a1 a2 k, LeO (masterdiscref41_Allocate.f k a0 a1 a2) (masterdiscref41_Allocate.f (k + 1) a0 a1 a2) := by
  intro a0 a1 a2 k
  obtain ⟨ih0, ih1⟩ := masterdiscref41_Allocate.mono_l k
  unfold masterdiscref41_Allocate.f
  repeat' first
      | (with_reducible exact ih0 _ _ _ _ _)
      | (with_reducible exact ih1 _ _ _ _ _ _)
      | (with_reducible exact masterdiscref41_Free.mono _ _ _)
      | (with_reducible exact masterdiscref41_Valid.mono _ _ _)
      | (with_reducible exact masterdiscref41_bits.mono _ _)
      | (with_reducible exact masterdiscref41_pack.mono _ _)
      | (with_reducible exact LeO.refl _)
      | (with_reducible exact LeO.none _)
      | (with_reducible refine LeO.ite ?_ ?_)
      | (with_reducible refine LeO.bind ?_ (fun _ => ?_))
      | exact ih0 _ _ _ _ _
      | exact ih1 _ _ _ _ _ _
      | exact masterdiscref41_Free.mono _ _ _
      | exact masterdiscref41_Valid.mono _ _ _
      | exact masterdiscref41_bits.mono _ _
      | exact masterdiscref41_pack.mono _ _
      | exact LeO.none _
      | refine LeO.ite ?_ ?_
      | refine LeO.bind ?_ (fun _ => ?_)
set_option maxHeartbeats 8000000 in
set_option maxRecDepth 100000 in
theorem masterdiscref41_Allocate.calls (k : Nat) (a0 : ByteArray) (a1 : Int) (a2 : Int) (r1 : List (S76)) (r2 : ByteArray) (r3 : Int) (w : World) (h : masterdiscref41_Allocate.f k a0 a1 a2 = some (r1, r2, r3)) :
    Calls Try.prog 85 #[.string a0, .int .i64 a1, .int .i64 a2] w fun e w' => ∃ v0_ : Value, e = .returned (.tuple #[v0_, .string r2, .int .i64 r3]) ∧ Kd.R k76 76 w' w.heap.size (fun _ => True) v0_ r1 ∧ Below w.heap.size w w' := by
  have HB := Aside0.mk (Below.refl w.heap.size w)
  have H : ((masterdiscref41_Valid.f k a0 a1).bind fun t775 => (if t775 = true then (if a2 < 0 then (some (([] : List (S76)), (⟨#[]⟩ : ByteArray), 2)) else ((masterdiscref41_Free.f k a0 a1).bind fun t776 => (if a2 > t776 then (some (([] : List (S76)), (⟨#[]⟩ : ByteArray), 12)) else ((masterdiscref41_bits.f k a0).bind fun t780 => (if 0 ≤ a1 then (if a1 ≤ (t780.length : Int) then (masterdiscref41_Allocate.l0 k a1 a2 (([] : List (S76))) (t780.take (a1 : Int).toNat) 0) else (none)) else (none)))))) else (some (([] : List (S76)), (⟨#[]⟩ : ByteArray), 1)))) = some (r1, r2, r3) := h
  clear h
  replace H := Option.bind_eq_some_iff.mp H
  obtain ⟨t775, A40, H⟩ := H
  replace H : (if t775 = true then (if a2 < 0 then (some (([] : List (S76)), (⟨#[]⟩ : ByteArray), 2)) else ((masterdiscref41_Free.f k a0 a1).bind fun t776 => (if a2 > t776 then (some (([] : List (S76)), (⟨#[]⟩ : ByteArray), 12)) else ((masterdiscref41_bits.f k a0).bind fun t780 => (if 0 ≤ a1 then (if a1 ≤ (t780.length : Int) then (masterdiscref41_Allocate.l0 k a1 a2 (([] : List (S76))) (t780.take (a1 : Int).toNat) 0) else (none)) else (none)))))) else (some (([] : List (S76)), (⟨#[]⟩ : ByteArray), 1))) = some (r1, r2, r3) := H
  have A4 := Aside0.mk A40
  clear A40
  by_cases c5 : t775 = true
  · subst c5
    have H1 : (if a2 < 0 then (some (([] : List (S76)), (⟨#[]⟩ : ByteArray), 2)) else ((masterdiscref41_Free.f k a0 a1).bind fun t776 => (if a2 > t776 then (some (([] : List (S76)), (⟨#[]⟩ : ByteArray), 12)) else ((masterdiscref41_bits.f k a0).bind fun t780 => (if 0 ≤ a1 then (if a1 ≤ (t780.length : Int) then (masterdiscref41_Allocate.l0 k a1 a2 (([] : List (S76))) (t780.take (a1 : Int).toNat) 0) else (none)) else (none)))))) = some (r1, r2, r3) := by rw [if_pos rfl] at H; exact H
    clear H
    have H := H1
    clear H1
    by_cases c6 : a2 < 0
    · rw [if_pos c6] at H
      have c6b0 : decide (a2 < 0) = true := decide_eq_true c6
      clear c6
      simp only [Option.some.injEq, Prod.mk.injEq] at H
      obtain ⟨rfl, rfl, rfl⟩ := H
      go_enter Try.func85, Try.ntmps85
      go_wp2_with (first | ((with_reducible refine gate_callee (f := 44) rfl ?_); refine goesL_ (some 14) rfl rfl Try.func44 (by kernel_rfl) rfl #[.string a0, .int .i64 a1] rfl (by (try simp only [List.map_toArray, List.map_cons, List.map_nil]); first | done | rfl | (simp only [List.length_drop, List.length_take]; rfl)) ?_; (with_reducible refine (masterdiscref41_Valid.calls k a0 a1 true _ A4.out).mono ?_); rintro e w7 ⟨rfl, hb⟩; refine ⟨_, rfl, ?_⟩; have n0_ := Aside0.mk (below_step (by repeat (first | (with_reducible first | exact HB.out | apply below_alloc | apply pw_below_drewN | apply below_drew1) | exact HB.out)) hb); clear HB; have HB := n0_; clear n0_; (try clear hb); (try clear hb2); (try clear hk); (try clear hi)))
      go_ret3
      exact ⟨_, by first | rfl | (simp [errW_none, errW_some] <;> rfl) | (simp [*, errW_none, errW_some] <;> rfl), by first | exact Kd.R_nil _ _ _ _ _ | exact Kd.N_nil _ _ _ _ _ | exact Kd.V_nil _ _ _ _ _ | exact Kd.Q_nil _ _ _ _ _ | exact Kd.S_nil _ _ _ _ _, by repeat (first | (with_reducible first | exact HB.out | apply below_alloc | apply pw_below_drewN | apply below_drew1) | exact HB.out)⟩
    · rw [if_neg c6] at H
      have c6b0 : decide (a2 < 0) = false := decide_eq_false c6
      clear c6
      replace H := Option.bind_eq_some_iff.mp H
      obtain ⟨t776, A80, H⟩ := H
      replace H : (if a2 > t776 then (some (([] : List (S76)), (⟨#[]⟩ : ByteArray), 12)) else ((masterdiscref41_bits.f k a0).bind fun t780 => (if 0 ≤ a1 then (if a1 ≤ (t780.length : Int) then (masterdiscref41_Allocate.l0 k a1 a2 (([] : List (S76))) (t780.take (a1 : Int).toNat) 0) else (none)) else (none)))) = some (r1, r2, r3) := H
      have A8 := Aside0.mk A80
      clear A80
      by_cases c9 : a2 > t776
      · rw [if_pos c9] at H
        have c9b0 : decide (t776 < a2) = true := decide_eq_true c9
        clear c9
        simp only [Option.some.injEq, Prod.mk.injEq] at H
        obtain ⟨rfl, rfl, rfl⟩ := H
        go_enter Try.func85, Try.ntmps85
        go_wp2_with (first | ((with_reducible refine gate_callee (f := 44) rfl ?_); refine goesL_ (some 14) rfl rfl Try.func44 (by kernel_rfl) rfl #[.string a0, .int .i64 a1] rfl (by (try simp only [List.map_toArray, List.map_cons, List.map_nil]); first | done | rfl | (simp only [List.length_drop, List.length_take]; rfl)) ?_; (with_reducible refine (masterdiscref41_Valid.calls k a0 a1 true _ A4.out).mono ?_); rintro e w10 ⟨rfl, hb⟩; refine ⟨_, rfl, ?_⟩; have n0_ := Aside0.mk (below_step (by repeat (first | (with_reducible first | exact HB.out | apply below_alloc | apply pw_below_drewN | apply below_drew1) | exact HB.out)) hb); clear HB; have HB := n0_; clear n0_; (try clear hb); (try clear hb2); (try clear hk); (try clear hi)) | ((with_reducible refine gate_callee (f := 80) rfl ?_); refine goesL_ (some 21) rfl rfl Try.func80 (by kernel_rfl) rfl #[.string a0, .int .i64 a1] rfl (by (try simp only [List.map_toArray, List.map_cons, List.map_nil]); first | done | rfl | (simp only [List.length_drop, List.length_take]; rfl)) ?_; (with_reducible refine (masterdiscref41_Free.calls k a0 a1 t776 _ A8.out).mono ?_); rintro e w11 ⟨rfl, hb⟩; refine ⟨_, rfl, ?_⟩; have n0_ := Aside0.mk (below_step (by repeat (first | (with_reducible first | exact HB.out | apply below_alloc | apply pw_below_drewN | apply below_drew1) | exact HB.out)) hb); clear HB; have HB := n0_; clear n0_; (try clear hb); (try clear hb2); (try clear hk); (try clear hi)))
        go_ret3
        exact ⟨_, by first | rfl | (simp [errW_none, errW_some] <;> rfl) | (simp [*, errW_none, errW_some] <;> rfl), by first | exact Kd.R_nil _ _ _ _ _ | exact Kd.N_nil _ _ _ _ _ | exact Kd.V_nil _ _ _ _ _ | exact Kd.Q_nil _ _ _ _ _ | exact Kd.S_nil _ _ _ _ _, by repeat (first | (with_reducible first | exact HB.out | apply below_alloc | apply pw_below_drewN | apply below_drew1) | exact HB.out)⟩
      · rw [if_neg c9] at H
        have c9b0 : decide (t776 < a2) = false := decide_eq_false c9
        clear c9
        obtain ⟨y777, hy777⟩ : ∃ y_ : List (S76), y_ = (([] : List (S76))) := ⟨_, rfl⟩
        replace H : ((masterdiscref41_bits.f k a0).bind fun t780 => (if 0 ≤ a1 then (if a1 ≤ (t780.length : Int) then (masterdiscref41_Allocate.l0 k a1 a2 y777 (t780.take (a1 : Int).toNat) 0) else (none)) else (none))) = some (r1, r2, r3) := by first | (rw [hy777]; with_reducible exact H) | (have H2_ := (Option.bind_some _ _).symm.trans H; rw [hy777]; with_reducible exact H2_) | (have H2_ := (Option.bind_some _ _).symm.trans H; with_reducible exact H2_) | with_reducible exact H | (rw [hy777]; exact H) | exact H
        have Ny777 := Aside0.mk hy777
        clear hy777
        replace H := Option.bind_eq_some_iff.mp H
        obtain ⟨t780, A120, H⟩ := H
        replace H : (if 0 ≤ a1 then (if a1 ≤ (t780.length : Int) then (masterdiscref41_Allocate.l0 k a1 a2 y777 (t780.take (a1 : Int).toNat) 0) else (none)) else (none)) = some (r1, r2, r3) := H
        have A12 := Aside0.mk A120
        clear A120
        by_cases c13 : 0 ≤ a1
        · rw [if_pos c13] at H
          have c13b0 := eq_true c13
          have c13b1 : decide (0 ≤ a1) = true := decide_eq_true c13
          clear c13
          by_cases c14 : a1 ≤ (t780.length : Int)
          · rw [if_pos c14] at H
            have c14b0 := eq_true c14
            have c14b1 : decide (a1 ≤ (t780.length : Int)) = true := decide_eq_true c14
            clear c14
            obtain ⟨y783, hy783⟩ : ∃ y_ : List Bool, y_ = (t780.take (a1 : Int).toNat) := ⟨_, rfl⟩
            replace H : (masterdiscref41_Allocate.l0 k a1 a2 y777 y783 0) = some (r1, r2, r3) := by first | (rw [hy783]; with_reducible exact H) | (have H2_ := (Option.bind_some _ _).symm.trans H; rw [hy783]; with_reducible exact H2_) | (have H2_ := (Option.bind_some _ _).symm.trans H; with_reducible exact H2_) | with_reducible exact H | (rw [hy783]; exact H) | exact H
            have Ny783 := Aside0.mk hy783
            clear hy783
            have H' := Aside0.mk H
            clear H
            go_enter Try.func85, Try.ntmps85
            go_wp2_with (first | ((with_reducible refine gate_callee (f := 44) rfl ?_); refine goesL_ (some 14) rfl rfl Try.func44 (by kernel_rfl) rfl #[.string a0, .int .i64 a1] rfl (by (try simp only [List.map_toArray, List.map_cons, List.map_nil]); first | done | rfl | (simp only [List.length_drop, List.length_take]; rfl)) ?_; (with_reducible refine (masterdiscref41_Valid.calls k a0 a1 true _ A4.out).mono ?_); rintro e w15 ⟨rfl, hb⟩; refine ⟨_, rfl, ?_⟩; have n0_ := Aside0.mk (below_step (by repeat (first | (with_reducible first | exact HB.out | apply below_alloc | apply pw_below_drewN | apply below_drew1) | exact HB.out)) hb); clear HB; have HB := n0_; clear n0_; (try clear hb); (try clear hb2); (try clear hk); (try clear hi)) | ((with_reducible refine gate_callee (f := 80) rfl ?_); refine goesL_ (some 21) rfl rfl Try.func80 (by kernel_rfl) rfl #[.string a0, .int .i64 a1] rfl (by (try simp only [List.map_toArray, List.map_cons, List.map_nil]); first | done | rfl | (simp only [List.length_drop, List.length_take]; rfl)) ?_; (with_reducible refine (masterdiscref41_Free.calls k a0 a1 t776 _ A8.out).mono ?_); rintro e w16 ⟨rfl, hb⟩; refine ⟨_, rfl, ?_⟩; have n0_ := Aside0.mk (below_step (by repeat (first | (with_reducible first | exact HB.out | apply below_alloc | apply pw_below_drewN | apply below_drew1) | exact HB.out)) hb); clear HB; have HB := n0_; clear n0_; (try clear hb); (try clear hb2); (try clear hk); (try clear hi)) | ((with_reducible refine gate_dst (N := 23) rfl ?_); refine Kd.R_lit k76 _ 76 ?hg (N := 23) ?hd (xs := ([] : List (S76))) (inner := []) (ok := fun _ => True) (okp := fun _ => True) ?hr ?hp (fun _ hk => hk) trivial (Below.refl _ _) (Nat.le_refl _) (by simp) ?_; (case hd => rfl); (case hg => rfl); (case hr => first | (go_simp; done) | (go_simp; rfl)); (case hp => exact (Reps.none _ _)); intro v778 w17 ho18 hb hg_ hnew_; clear hg_ hnew_; (first | rw [← Ny777.out] at ho18 | (simp only [Int.reduceToNat] at ho18; rw [← Ny777.out] at ho18)); have n0_ := Aside0.mk (Kd.R_lower ho18 (below_size (by repeat (first | (with_reducible first | exact HB.out | apply below_alloc | apply pw_below_drewN | apply below_drew1) | exact HB.out)))); have n1_ := Aside0.mk (below_step (by repeat (first | (with_reducible first | exact HB.out | apply below_alloc | apply pw_below_drewN | apply below_drew1) | exact HB.out)) hb); clear HB; have HO779 := n0_; have HB := n1_; clear n0_ n1_; clear hb ho18) | ((with_reducible refine gate_callee (f := 112) rfl ?_); refine goesL_ (some 25) rfl rfl Try.func112 (by kernel_rfl) rfl #[.string a0] rfl (by (try simp only [List.map_toArray, List.map_cons, List.map_nil]); first | done | rfl | (simp only [List.length_drop, List.length_take]; rfl)) ?_; (with_reducible refine (masterdiscref41_bits.calls k a0 t780 _ A12.out).mono ?_); rintro e w19 ⟨v781, rfl, ho0, hb⟩; refine ⟨_, rfl, ?_⟩; have n0_ := Aside0.mk (Kd.R_below (by (with_reducible repeat (first | apply Kd.R_alloc | apply Kd.R_drewN | apply Kd.R_drew)); exact HO779.out) hb); have n1_ := Aside0.mk (Kd.R_lower ho0 (below_size (by repeat (first | (with_reducible first | exact HB.out | apply below_alloc | apply pw_below_drewN | apply below_drew1) | exact HB.out)))); have n2_ := Aside0.mk (below_step (by repeat (first | (with_reducible first | exact HB.out | apply below_alloc | apply pw_below_drewN | apply below_drew1) | exact HB.out)) hb); clear HO779; clear HB; have HO779 := n0_; have HO782 := n1_; have HB := n2_; clear n0_ n1_ n2_; (try clear hb); (try clear hb2); (try clear hk); (try clear hi); (try clear ho0); obtain ⟨Ao20, co20, eo20⟩ := Kd.R_slice HO782.out; subst eo20; have q21 : (a1 : Int) ≤ ((t780.length : Int) : Int) := of_decide_eq_true (by first | (with_reducible assumption) | assumption); obtain ⟨i021, hi021, _, hsz21, _⟩ := info_parts info4; have hcut21 := cut_to (P := Try.prog) 85 4 .i64 Try.underlying85 hi021 Ao20 t780.length co20 a1 (of_decide_eq_true (by first | (with_reducible assumption) | assumption)) q21 (Kd.R_reads' HO782.out).2.1; have hr21 := Kd.R_take (m := (a1 : Int).toNat) HO782.out (by omega); have hy21 : y783.length = (a1 : Int).toNat := (by rw [Ny783.out, List.length_take]; omega); rw [← Ny783.out] at hr21; rw [← hy21] at hr21 hcut21; clear hy21 hi021 hsz21 HO782; have HO785 := Aside0.mk hr21; clear hr21; replace q21 := eq_true q21))
            go_loopg [2, 9, 11] k (fun kq v2 v9 v11 w' => ∃ (x2_1 : Int) (x9_1 : List (S76)) (x10_1 : List Bool) (x11_1 : Int), v2 = .int .i64 x2_1 ∧ v11 = .int .i64 x11_1 ∧ Aside0 (masterdiscref41_Allocate.l0 kq a1 x2_1 x9_1 x10_1 x11_1 = some (r1, r2, r3)) ∧ Aside0 (kq ≤ k) ∧ Aside0 (Kd.R k76 76 w' w.heap.size (fun _ => True) v9 x9_1) ∧ Aside0 (Kd.R Kd.bool 4 w' w.heap.size (fun _ => True) (.slice Ao20 y783.length co20) x10_1) ∧ Aside0 (Below w.heap.size w w'))
            case atStart => exact ⟨(a2), (y777), (y783), (0), (by first | rfl | (simp; done) | (simp [*]; done)), (by first | rfl | (simp; done) | (simp [*]; done)), H', ⟨Nat.le_refl _⟩, ⟨by (with_reducible repeat (first | apply Kd.R_alloc | apply Kd.R_drewN | apply Kd.R_drew)); exact HO779.out⟩, ⟨by (with_reducible repeat (first | apply Kd.R_alloc | apply Kd.R_drewN | apply Kd.R_drew)); exact HO785.out⟩, ⟨by repeat (first | (with_reducible first | exact HB.out | apply below_alloc | apply pw_below_drewN | apply below_drew1) | exact HB.out)⟩⟩
            case round =>
              clear H'
              try clear c1
              try clear p2
              try clear q2
              try clear c4
              try clear c5
              try clear c6
              try clear c6b0
              try clear c8
              try clear c9
              try clear c9b0
              try clear c11
              try clear c13
              try clear c13b0
              try clear c13b1
              try clear c14
              try clear c14b0
              try clear c14b1
              try clear q21
              try clear q21
              obtain ⟨x2_1, x9_1, x10_1, x11_1, rfl, rfl, HA, HK1, HO_9, HO_10, HB⟩ := hrel
              have hl10_1 := (Kd.R_reads' HO_10.out).1
              rw [hl10_1] at HO_10
              (try simp only [hl10_1])
              (try simp only [hl10_1] at HO_9)
              cases gk with
              | zero => exact absurd HA.out (by simp [masterdiscref41_Allocate.l0])
              | succ k1 =>
                have H := HA.out
                clear HA
                simp only [masterdiscref41_Allocate.l0] at H
                have HC22 := Aside0.mk H
                clear H
                go_upto_region 10 with (fail)
                go_cut [34] (fun v34 wc => ∃ (kq : Nat) (x34_21 : Bool), v34 = .bool x34_21 ∧ Aside0 (masterdiscref41_Allocate.j1 kq a1 x2_1 x9_1 x10_1 x11_1 x34_21 = some (r1, r2, r3)) ∧ Aside0 (kq ≤ k1) ∧ Aside0 (Kd.R k76 76 wc w.heap.size (fun _ => True) u9 x9_1) ∧ Aside0 (Kd.R Kd.bool 4 wc w.heap.size (fun _ => True) (.slice Ao20 x10_1.length co20) x10_1) ∧ Aside0 (Below w.heap.size w wc))
                case first =>
                  have H := HC22.out
                  clear HC22
                  by_cases c23 : x11_1 < a1
                  · rw [if_pos c23] at H
                    have c23b0 : decide (x11_1 < a1) = true := decide_eq_true c23
                    clear c23
                    (first | rw [c23b0] | (simp only [i64_w, i32_w]; rw [c23b0]) | skip)
                    have H' := Aside0.mk H
                    clear H
                    go_wp2
                    go_meet
                    case rel => exact ⟨_, (decide (x2_1 > 0)), (by first | rfl | (simp; done) | (simp [*]; done)), H', ⟨by have := HK1.out; first | omega | exact Nat.le_refl _⟩, ⟨by (try simp only [hl10_1]); (with_reducible repeat (first | apply Kd.R_alloc | apply Kd.R_drewN | apply Kd.R_drew)); exact HO_9.out⟩, ⟨by (try simp only [hl10_1]); (with_reducible repeat (first | apply Kd.R_alloc | apply Kd.R_drewN | apply Kd.R_drew)); exact HO_10.out⟩, ⟨by repeat (first | (with_reducible first | exact HB.out | apply below_alloc | apply pw_below_drewN | apply below_drew1) | exact HB.out)⟩⟩
                  · rw [if_neg c23] at H
                    have c23b0 : decide (x11_1 < a1) = false := decide_eq_false c23
                    clear c23
                    (first | rw [c23b0] | (simp only [i64_w, i32_w]; rw [c23b0]) | skip)
                    have H' := Aside0.mk H
                    clear H
                    go_wp2
                    go_meet
                    case rel => exact ⟨_, (false), (by first | rfl | (simp; done) | (simp [*]; done)), H', ⟨by have := HK1.out; first | omega | exact Nat.le_refl _⟩, ⟨by (try simp only [hl10_1]); (with_reducible repeat (first | apply Kd.R_alloc | apply Kd.R_drewN | apply Kd.R_drew)); exact HO_9.out⟩, ⟨by (try simp only [hl10_1]); (with_reducible repeat (first | apply Kd.R_alloc | apply Kd.R_drewN | apply Kd.R_drew)); exact HO_10.out⟩, ⟨by repeat (first | (with_reducible first | exact HB.out | apply below_alloc | apply pw_below_drewN | apply below_drew1) | exact HB.out)⟩⟩
                case rest =>
                  clear HC22
                  try clear c1
                  try clear c2
                  try clear p2
                  try clear q2
                  try clear c4
                  try clear c5
                  try clear c6
                  try clear c6b0
                  try clear c8
                  try clear c9
                  try clear c9b0
                  try clear c11
                  try clear c13
                  try clear c13b0
                  try clear c13b1
                  try clear c14
                  try clear c14b0
                  try clear c14b1
                  try clear q21
                  try clear c23
                  try clear c23b0
                  try clear p2
                  try clear q2
                  try clear q21
                  obtain ⟨kq, x34_21, rfl, HA, HJ21, HO_9, HO_10, HB⟩ := hcut
                  cases kq with
                  | zero => exact absurd HA.out (by simp [masterdiscref41_Allocate.j1])
                  | succ kj21 =>
                    have H := HA.out
                    clear HA
                    simp only [masterdiscref41_Allocate.j1] at H
                    by_cases c24 : x34_21 = true
                    · subst c24
                      have H1 : (if 0 ≤ x11_1 then (if x11_1 < (x10_1.length : Int) then (if rdOf false x10_1 x11_1 = true then ((masterdiscref41_add.f x9_1 x11_1).bind fun t787 => (masterdiscref41_Allocate.l0 kj21 a1 (wrap64 (x2_1 - 1)) t787 (x10_1.set (x11_1 : Int).toNat false) (wrap64 (x11_1 + 1)))) else (masterdiscref41_Allocate.l0 kj21 a1 x2_1 x9_1 x10_1 (wrap64 (x11_1 + 1)))) else (none)) else (none)) = some (r1, r2, r3) := by rw [if_pos rfl] at H; exact H
                      clear H
                      have H := H1
                      clear H1
                      by_cases c25 : 0 ≤ x11_1
                      · rw [if_pos c25] at H
                        have c25b0 : decide (0 ≤ x11_1) = true := decide_eq_true c25
                        clear c25
                        by_cases c26 : x11_1 < (x10_1.length : Int)
                        · rw [if_pos c26] at H
                          have c26b0 : decide (x11_1 < (x10_1.length : Int)) = true := decide_eq_true c26
                          clear c26
                          obtain ⟨bq27, hbq27⟩ : ∃ b_ : Bool, b_ = (rdOf false x10_1 x11_1) := ⟨_, rfl⟩
                          replace H : (if bq27 = true then ((masterdiscref41_add.f x9_1 x11_1).bind fun t787 => (masterdiscref41_Allocate.l0 kj21 a1 (wrap64 (x2_1 - 1)) t787 (x10_1.set (x11_1 : Int).toNat false) (wrap64 (x11_1 + 1)))) else (masterdiscref41_Allocate.l0 kj21 a1 x2_1 x9_1 x10_1 (wrap64 (x11_1 + 1)))) = some (r1, r2, r3) := by rw [← hbq27] at H; exact H
                          have Nbq27 := Aside0.mk hbq27
                          clear hbq27
                          by_cases c28 : bq27 = true
                          · subst c28
                            have H1 : ((masterdiscref41_add.f x9_1 x11_1).bind fun t787 => (masterdiscref41_Allocate.l0 kj21 a1 (wrap64 (x2_1 - 1)) t787 (x10_1.set (x11_1 : Int).toNat false) (wrap64 (x11_1 + 1)))) = some (r1, r2, r3) := by rw [if_pos rfl] at H; exact H
                            clear H
                            have H := H1
                            clear H1
                            replace H := Option.bind_eq_some_iff.mp H
                            obtain ⟨t787, A290, H⟩ := H
                            replace H : (masterdiscref41_Allocate.l0 kj21 a1 (wrap64 (x2_1 - 1)) t787 (x10_1.set (x11_1 : Int).toNat false) (wrap64 (x11_1 + 1))) = some (r1, r2, r3) := H
                            have A29 := Aside0.mk A290
                            clear A290
                            obtain ⟨y790, hy790⟩ : ∃ y_ : List Bool, y_ = (x10_1.set (x11_1 : Int).toNat false) := ⟨_, rfl⟩
                            replace H : (masterdiscref41_Allocate.l0 kj21 a1 (wrap64 (x2_1 - 1)) t787 y790 (wrap64 (x11_1 + 1))) = some (r1, r2, r3) := by first | (rw [hy790]; with_reducible exact H) | (have H2_ := (Option.bind_some _ _).symm.trans H; rw [hy790]; with_reducible exact H2_) | (have H2_ := (Option.bind_some _ _).symm.trans H; with_reducible exact H2_) | with_reducible exact H | (rw [hy790]; exact H) | exact H
                            have Ny790 := Aside0.mk hy790
                            clear hy790
                            have H' := Aside0.mk H
                            clear H
                            have p786 : 0 ≤ (x11_1 : Int) := of_decide_eq_true (by first | (with_reducible assumption) | assumption)
                            have q786 : x11_1 < (x10_1.length : Int) := of_decide_eq_true (by first | (with_reducible assumption) | assumption)
                            obtain ⟨ad786, e786, hx786_0⟩ := Kd.at_bool (Kd.R_reads' HO_10.out).2.2 x11_1 p786 q786
                            (try rw [← Nbq27.out] at hx786_0)
                            cases e786
                            replace p786 := eq_true p786
                            replace q786 := eq_true q786
                            obtain ⟨Ao31, co31, eo31⟩ := Kd.R_slice HO_9.out
                            subst eo31
                            go_wp2_with (first | ((with_reducible refine gate_callee (f := 139) rfl ?_); refine goesL_ (some 43) rfl rfl Try.func139 (by kernel_rfl) rfl #[.slice Ao31 x9_1.length co31, .int .i64 x11_1] rfl (by (try simp only [List.map_toArray, List.map_cons, List.map_nil]); first | done | rfl | (simp only [List.length_drop, List.length_take]; rfl)) ?_; (with_reducible refine (masterdiscref41_add.calls (fun k_ => some k_ = (.slice Ao31 x9_1.length co31 : Value).ownBlock) (.slice Ao31 x9_1.length co31) x9_1 x11_1 t787 w _ ?side1 ?side2 A29.out).mono ?_); (case side1 => repeat (first | (with_reducible first | exact HB.out | apply below_alloc | apply pw_below_drewN | apply below_drew1) | exact HB.out)); (case side2 => exact Kd.R_tight rfl HO_9.out); rintro e w32 ⟨v788, rfl, ho0, hb, hkp⟩; refine ⟨_, rfl, ?_⟩; have n0_ := Aside0.mk (Kd.R_mono (ok' := fun k_ => True) (Kd.R_keptB ((Kd.R_apart' HO_10.out (Kd.R_typed HO_9.out) (by decide))) hkp (fun k_ hk_ hs_ => (hk_.2) hs_)) (fun k_ hk_ => trivial)); have n1_ := Aside0.mk (Kd.R_mono (ok' := fun k_ => True) ho0 (fun k_ hk_ => trivial)); have n2_ := Aside0.mk (hb); clear HO_10; clear HB; clear HO_9; have HO_10 := n0_; have HO789 := n1_; have HB := n2_; clear n0_ n1_ n2_; (try clear hb); (try clear hkp); (try clear ho0); have p30 : 0 ≤ (x11_1 : Int) := of_decide_eq_true (by first | (with_reducible assumption) | assumption); have q30 : (x11_1 : Int) < ((x10_1.length : Int) : Int) := of_decide_eq_true (by first | (with_reducible assumption) | assumption); obtain ⟨go30, co30, eo30, gb30, gl30, cl30, HG30⟩ := Kd.R_form HO_10.out (by omega); (first | cases eo30 | (injection eo30 with ea_ en_ ec_; (first | subst ea_ | (injection ea_ with ea_; subst ea_)); subst ec_; clear en_)); have GB30 := Aside0.mk gb30; have GG30 := Aside0.mk HG30; clear gb30 gl30 HG30; (first | simp only [add_plain] at hx786_0 | skip); obtain ⟨hx30_0, hf30_0⟩ := Kd.R_celln false HO_10.out (x11_1 : Int) p30 q30; replace p30 := eq_true p30; replace q30 := eq_true q30; obtain ⟨hy33_, hz33_⟩ := Kd.R_celln false HO_10.out (x11_1 : Int) (of_decide_eq_true (by first | (with_reducible assumption) | assumption)) (of_decide_eq_true (by first | (with_reducible assumption) | assumption)); have HP33 := Kd.R_putg HO_10.out (x11_1 : Int) false) | ((with_reducible refine gate_store (t := 4) (p := 46) rfl ?_); refine store_event (t := 4) (p := 46) (v := ?vo_w34) (w1 := (w32.setCell ⟨go30, (x11_1 : Int).toNat, none⟩ (.bool false))) ?hg ?ho ?hn ?hr ?_; (case ho => rfl); (case hg => rfl); (case hn => rfl); (case hr => first | (go_simp; done) | (go_simp; rfl)); intro w34 hw; have hg : w32.grownBy w34 (some go30) := (by rw [hw]; exact HP33.2); have hp_ : Kd.R Kd.bool 4 w34 w.heap.size (fun _ => True) (.slice (some ⟨go30, 0, none⟩) x10_1.length co20) y790 := (by rw [hw, Ny790.out]; exact HP33.1); clear HP33; have n0_ := Aside0.mk (hp_); have n1_ := Aside0.mk (Kd.R_over' (v := (.slice (some ⟨go30, 0, none⟩) x10_1.length co20)) (by (with_reducible repeat (first | apply Kd.R_alloc | apply Kd.R_drewN | apply Kd.R_drew)); exact HO789.out) (Kd.R_typed HO_10.out) (by decide) hg); have n2_ := Aside0.mk ((by rw [hw]; exact below_set (HB.out) GB30.out : Below w.heap.size w w34)); clear HO_10; clear HO789; clear HB; have HO_10 := n0_; have HO789 := n1_; have HB := n2_; clear n0_ n1_ n2_; clear hg hw hp_))
                            (try simp only [← hl10_1])
                            go_roundg kj21
                            case measure => have := HK1.out; have := HJ21.out; omega
                            case rel => exact ⟨(wrap64 (x2_1 - 1)), (t787), (y790), (wrap64 (x11_1 + 1)), (by first | rfl | (simp; done) | (simp [*]; done)), (by first | rfl | (simp; done) | (simp [*]; done)), H', ⟨by have := HK1.out; have := HJ21.out; omega⟩, ⟨by (try simp only [hl10_1]); (with_reducible repeat (first | apply Kd.R_alloc | apply Kd.R_drewN | apply Kd.R_drew)); exact HO789.out⟩, ⟨by (try simp only [hl10_1]); (with_reducible repeat (first | apply Kd.R_alloc | apply Kd.R_drewN | apply Kd.R_drew)); exact HO_10.out⟩, ⟨by repeat (first | (with_reducible first | exact HB.out | apply below_alloc | apply pw_below_drewN | apply below_drew1) | exact HB.out)⟩⟩
                          · replace c28 := Bool.eq_false_iff.mpr c28
                            subst c28
                            have H1 : (masterdiscref41_Allocate.l0 kj21 a1 x2_1 x9_1 x10_1 (wrap64 (x11_1 + 1))) = some (r1, r2, r3) := by rw [if_neg (show ¬ (false = true) by decide)] at H; exact H
                            clear H
                            have H := H1
                            clear H1
                            have H' := Aside0.mk H
                            clear H
                            have p786 : 0 ≤ (x11_1 : Int) := of_decide_eq_true (by first | (with_reducible assumption) | assumption)
                            have q786 : x11_1 < (x10_1.length : Int) := of_decide_eq_true (by first | (with_reducible assumption) | assumption)
                            obtain ⟨ad786, e786, hx786_0⟩ := Kd.at_bool (Kd.R_reads' HO_10.out).2.2 x11_1 p786 q786
                            (try rw [← Nbq27.out] at hx786_0)
                            cases e786
                            replace p786 := eq_true p786
                            replace q786 := eq_true q786
                            go_wp2
                            (try simp only [← hl10_1])
                            go_roundg kj21
                            case measure => have := HK1.out; have := HJ21.out; omega
                            case rel => exact ⟨(x2_1), (x9_1), (x10_1), (wrap64 (x11_1 + 1)), (by first | rfl | (simp; done) | (simp [*]; done)), (by first | rfl | (simp; done) | (simp [*]; done)), H', ⟨by have := HK1.out; have := HJ21.out; omega⟩, ⟨by (try simp only [hl10_1]); (with_reducible repeat (first | apply Kd.R_alloc | apply Kd.R_drewN | apply Kd.R_drew)); exact HO_9.out⟩, ⟨by (try simp only [hl10_1]); (with_reducible repeat (first | apply Kd.R_alloc | apply Kd.R_drewN | apply Kd.R_drew)); exact HO_10.out⟩, ⟨by repeat (first | (with_reducible first | exact HB.out | apply below_alloc | apply pw_below_drewN | apply below_drew1) | exact HB.out)⟩⟩
                        · rw [if_neg c26] at H
                          exact absurd H (by simp)
                      · rw [if_neg c25] at H
                        exact absurd H (by simp)
                    · replace c24 := Bool.eq_false_iff.mpr c24
                      subst c24
                      have H1 : ((masterdiscref41_pack.f kj21 x10_1).bind fun t791 => (some (x9_1, t791, 0))) = some (r1, r2, r3) := by rw [if_neg (show ¬ (false = true) by decide)] at H; exact H
                      clear H
                      have H := H1
                      clear H1
                      replace H := Option.bind_eq_some_iff.mp H
                      obtain ⟨t791, A350, H⟩ := H
                      replace H : (some (x9_1, t791, 0)) = some (r1, r2, r3) := H
                      have A35 := Aside0.mk A350
                      clear A350
                      simp only [Option.some.injEq, Prod.mk.injEq] at H
                      obtain ⟨rfl, rfl, rfl⟩ := H
                      go_wp2_with (first | ((with_reducible refine gate_callee (f := 136) rfl ?_); refine goesL_ (some 51) rfl rfl Try.func136 (by kernel_rfl) rfl #[.slice Ao20 x10_1.length co20] rfl (by (try simp only [List.map_toArray, List.map_cons, List.map_nil]); first | done | rfl | (simp only [List.length_drop, List.length_take]; rfl)) ?_; (with_reducible refine (masterdiscref41_pack.calls kj21 _ _ x10_1 t791 _ ?side1 ?side2 A35.out).mono ?_); (case side1 => repeat (first | exact (Kd.R_reads' HO_10.out).2.2 | (with_reducible refine Kd.C_alloc ?_ _) | (with_reducible refine Kd.C_drewN ?_ _) | (with_reducible refine Kd.C_drew ?_))); (case side2 => exact (Kd.R_reads' HO_10.out).2.1); rintro e w36 ⟨rfl, hb⟩; refine ⟨_, rfl, ?_⟩; have n0_ := Aside0.mk (Kd.R_below (by (with_reducible repeat (first | apply Kd.R_alloc | apply Kd.R_drewN | apply Kd.R_drew)); exact HO_9.out) hb); have n1_ := Aside0.mk (Kd.R_below (by (with_reducible repeat (first | apply Kd.R_alloc | apply Kd.R_drewN | apply Kd.R_drew)); exact HO_10.out) hb); have n2_ := Aside0.mk (below_step (by repeat (first | (with_reducible first | exact HB.out | apply below_alloc | apply pw_below_drewN | apply below_drew1) | exact HB.out)) hb); clear HO_9; clear HO_10; clear HB; have HO_9 := n0_; have HO_10 := n1_; have HB := n2_; clear n0_ n1_ n2_; (try clear hb); (try clear hb2); (try clear hk); (try clear hi)))
                      go_ret3
                      exact ⟨_, by first | rfl | (simp [errW_none, errW_some] <;> rfl) | (simp [*, errW_none, errW_some] <;> rfl), by (with_reducible repeat (first | apply Kd.R_alloc | apply Kd.R_drewN | apply Kd.R_drew)); exact HO_9.out, by repeat (first | (with_reducible first | exact HB.out | apply below_alloc | apply pw_below_drewN | apply below_drew1) | exact HB.out)⟩
          · rw [if_neg c14] at H
            exact absurd H (by simp)
        · rw [if_neg c13] at H
          exact absurd H (by simp)
  · replace c5 := Bool.eq_false_iff.mpr c5
    subst c5
    have H1 : (some (([] : List (S76)), (⟨#[]⟩ : ByteArray), 1)) = some (r1, r2, r3) := by rw [if_neg (show ¬ (false = true) by decide)] at H; exact H
    clear H
    have H := H1
    clear H1
    simp only [Option.some.injEq, Prod.mk.injEq] at H
    obtain ⟨rfl, rfl, rfl⟩ := H
    go_enter Try.func85, Try.ntmps85
    go_wp2_with (first | ((with_reducible refine gate_callee (f := 44) rfl ?_); refine goesL_ (some 14) rfl rfl Try.func44 (by kernel_rfl) rfl #[.string a0, .int .i64 a1] rfl (by (try simp only [List.map_toArray, List.map_cons, List.map_nil]); first | done | rfl | (simp only [List.length_drop, List.length_take]; rfl)) ?_; (with_reducible refine (masterdiscref41_Valid.calls k a0 a1 false _ A4.out).mono ?_); rintro e w37 ⟨rfl, hb⟩; refine ⟨_, rfl, ?_⟩; have n0_ := Aside0.mk (below_step (by repeat (first | (with_reducible first | exact HB.out | apply below_alloc | apply pw_below_drewN | apply below_drew1) | exact HB.out)) hb); clear HB; have HB := n0_; clear n0_; (try clear hb); (try clear hb2); (try clear hk); (try clear hi)))
    go_ret3
    exact ⟨_, by first | rfl | (simp [errW_none, errW_some] <;> rfl) | (simp [*, errW_none, errW_some] <;> rfl), by first | exact Kd.R_nil _ _ _ _ _ | exact Kd.N_nil _ _ _ _ _ | exact Kd.V_nil _ _ _ _ _ | exact Kd.Q_nil _ _ _ _ _ | exact Kd.S_nil _ _ _ _ _, by repeat (first | (with_reducible first | exact HB.out | apply below_alloc | apply pw_below_drewN | apply below_drew1) | exact HB.out)⟩

/-! ### masterdiscref41_FirstFit: function 86 -/
def masterdiscref41_FirstFit.l0 : Nat → Int → List (S76) → Int → Option (Int)
  | 0, _, _, _ => none
  | k + 1, x2, x7, x8 => if x8 < (x7.length : Int) then (if x2 ≥ 1 then (if 0 ≤ x8 then (if ((rd_T76 x7 x8).f1) ≥ x2 then (some ((rd_T76 x7 x8).f0)) else (masterdiscref41_FirstFit.l0 k x2 x7 (wrap64 (x8 + 1)))) else (none)) else (masterdiscref41_FirstFit.l0 k x2 x7 (wrap64 (x8 + 1)))) else (some (-1))
def masterdiscref41_FirstFit.f (k : Nat) (a0 : ByteArray) (a1 : Int) (a2 : Int) : Option (Int) := (masterdiscref41_Spans.f k a0 a1).bind fun t792 => (masterdiscref41_FirstFit.l0 k a2 t792 0)
theorem masterdiscref41_FirstFit.mono_l : ∀ k, (∀ y0 y1 y2, LeO (masterdiscref41_FirstFit.l0 k y0 y1 y2) (masterdiscref41_FirstFit.l0 (k + 1) y0 y1 y2))
  | 0 => fun _ _ _ r h => by simp [masterdiscref41_FirstFit.l0] at h
  | k + 1 => by
    have ih0 := masterdiscref41_FirstFit.mono_l k
    · intro y0 y1 y2
      unfold masterdiscref41_FirstFit.l0
      repeat' first
      | (with_reducible exact ih0 _ _ _)
      | (with_reducible exact masterdiscref41_Spans.mono _ _ _)
      | (with_reducible exact LeO.refl _)
      | (with_reducible exact LeO.none _)
      | (with_reducible refine LeO.ite ?_ ?_)
      | (with_reducible refine LeO.bind ?_ (fun _ => ?_))
      | exact ih0 _ _ _
      | exact masterdiscref41_Spans.mono _ _ _
      | exact LeO.none _
      | refine LeO.ite ?_ ?_
      | refine LeO.bind ?_ (fun _ => ?_)
theorem masterdiscref41_FirstFit.mono : ∀ a0 a1 a2 k, LeO (masterdiscref41_FirstFit.f k a0 a1 a2) (masterdiscref41_FirstFit.f (k + 1) a0 a1 a2) := by
  intro a0 a1 a2 k
  have ih0 := masterdiscref41_FirstFit.mono_l k
  unfold masterdiscref41_FirstFit.f
  repeat' first
      | (with_reducible exact ih0 _ _ _)
      | (with_reducible exact masterdiscref41_Spans.mono _ _ _)
      | (with_reducible exact LeO.refl _)
      | (with_reducible exact LeO.none _)
      | (with_reducible refine LeO.ite ?_ ?_)
      | (with_reducible refine LeO.bind ?_ (fun _ => ?_))
      | exact ih0 _ _ _
      | exact masterdiscref41_Spans.mono _ _ _
      | exact LeO.none _
      | refine LeO.ite ?_ ?_
      | refine LeO.bind ?_ (fun _ => ?_)
set_option maxHeartbeats 8000000 in
set_option maxRecDepth 100000 in
theorem masterdiscref41_FirstFit.calls (k : Nat) (a0 : ByteArray) (a1 : Int) (a2 : Int) (r : Int) (w : World) (h : masterdiscref41_FirstFit.f k a0 a1 a2 = some r) :
    Calls Try.prog 86 #[.string a0, .int .i64 a1, .int .i64 a2] w fun e w' => e = .returned (.int .i64 r) ∧ Below w.heap.size w w' := by
  have HB := Aside0.mk (Below.refl w.heap.size w)
  have H : ((masterdiscref41_Spans.f k a0 a1).bind fun t792 => (masterdiscref41_FirstFit.l0 k a2 t792 0)) = some r := h
  clear h
  replace H := Option.bind_eq_some_iff.mp H
  obtain ⟨t792, A40, H⟩ := H
  replace H : (masterdiscref41_FirstFit.l0 k a2 t792 0) = some r := H
  have A4 := Aside0.mk A40
  clear A40
  have H' := Aside0.mk H
  clear H
  go_enter Try.func86, Try.ntmps86
  go_wp2_with (first | ((with_reducible refine gate_callee (f := 83) rfl ?_); refine goesL_ (some 11) rfl rfl Try.func83 (by kernel_rfl) rfl #[.string a0, .int .i64 a1] rfl (by (try simp only [List.map_toArray, List.map_cons, List.map_nil]); first | done | rfl | (simp only [List.length_drop, List.length_take]; rfl)) ?_; (with_reducible refine (masterdiscref41_Spans.calls k a0 a1 t792 _ A4.out).mono ?_); rintro e w5 ⟨v793, rfl, ho0, hb⟩; refine ⟨_, rfl, ?_⟩; have n0_ := Aside0.mk (Kd.R_lower ho0 (below_size (by repeat (first | (with_reducible first | exact HB.out | apply below_alloc | apply pw_below_drewN | apply below_drew1) | exact HB.out)))); have n1_ := Aside0.mk (below_step (by repeat (first | (with_reducible first | exact HB.out | apply below_alloc | apply pw_below_drewN | apply below_drew1) | exact HB.out)) hb); clear HB; have HO794 := n0_; have HB := n1_; clear n0_ n1_; (try clear hb); (try clear hb2); (try clear hk); (try clear hi); (try clear ho0)))
  go_loopg [8] k (fun kq v8 w' => ∃ (x8_1 : Int), v8 = .int .i64 x8_1 ∧ Aside0 (masterdiscref41_FirstFit.l0 kq a2 t792 x8_1 = some r) ∧ Aside0 (kq ≤ k) ∧ Aside0 (Kd.R k76 76 w' w.heap.size (fun _ => True) v793 t792) ∧ Aside0 (Below w.heap.size w w'))
  case atStart => exact ⟨(0), (by first | rfl | (simp; done) | (simp [*]; done)), H', ⟨Nat.le_refl _⟩, ⟨by (with_reducible repeat (first | apply Kd.R_alloc | apply Kd.R_drewN | apply Kd.R_drew)); exact HO794.out⟩, ⟨by repeat (first | (with_reducible first | exact HB.out | apply below_alloc | apply pw_below_drewN | apply below_drew1) | exact HB.out)⟩⟩
  case round =>
    clear H'
    try clear p2
    obtain ⟨x8_1, rfl, HA, HK1, HO_7, HB⟩ := hrel
    cases gk with
    | zero => exact absurd HA.out (by simp [masterdiscref41_FirstFit.l0])
    | succ k1 =>
      have H := HA.out
      clear HA
      simp only [masterdiscref41_FirstFit.l0] at H
      by_cases c6 : x8_1 < (t792.length : Int)
      · rw [if_pos c6] at H
        have c6b0 : decide (x8_1 < (t792.length : Int)) = true := decide_eq_true c6
        clear c6
        by_cases c7 : a2 ≥ 1
        · rw [if_pos c7] at H
          have c7b0 : decide (1 ≤ a2) = true := decide_eq_true c7
          clear c7
          by_cases c8 : 0 ≤ x8_1
          · rw [if_pos c8] at H
            have c8b0 : decide (0 ≤ x8_1) = true := decide_eq_true c8
            clear c8
            by_cases c9 : ((rd_T76 t792 x8_1).f1) ≥ a2
            · rw [if_pos c9] at H
              have c9b0 : decide (a2 ≤ ((rd_T76 t792 x8_1).f1)) = true := decide_eq_true c9
              clear c9
              obtain rfl := Option.some.inj H
              obtain ⟨Ao10, co10, eo10⟩ := Kd.R_slice HO_7.out
              subst eo10
              have p795 : 0 ≤ (x8_1 : Int) := of_decide_eq_true (by first | (with_reducible assumption) | assumption)
              have q795 : x8_1 < (t792.length : Int) := of_decide_eq_true (by first | (with_reducible assumption) | assumption)
              obtain ⟨ad795, e795, hx795_0, hx795_1⟩ := at_T76 (Kd.R_reads' HO_7.out).2.2 x8_1 p795 q795
              cases e795
              replace p795 := eq_true p795
              replace q795 := eq_true q795
              have p796 : 0 ≤ (x8_1 : Int) := of_decide_eq_true (by first | (with_reducible assumption) | assumption)
              have q796 : x8_1 < (t792.length : Int) := of_decide_eq_true (by first | (with_reducible assumption) | assumption)
              obtain ⟨ad796, e796, hx796_0, hx796_1⟩ := at_T76 (Kd.R_reads' HO_7.out).2.2 x8_1 p796 q796
              obtain rfl : ad795 = ad796 := (by injection e796)
              replace p796 := eq_true p796
              replace q796 := eq_true q796
              go_wp2
              go_ret
              exact ⟨by first | rfl | (simp [errW_none, errW_some] <;> rfl) | (simp [*, errW_none, errW_some] <;> rfl), by repeat (first | (with_reducible first | exact HB.out | apply below_alloc | apply pw_below_drewN | apply below_drew1) | exact HB.out)⟩
            · rw [if_neg c9] at H
              have c9b0 : decide (a2 ≤ ((rd_T76 t792 x8_1).f1)) = false := decide_eq_false c9
              clear c9
              have H' := Aside0.mk H
              clear H
              obtain ⟨Ao11, co11, eo11⟩ := Kd.R_slice HO_7.out
              subst eo11
              have p795 : 0 ≤ (x8_1 : Int) := of_decide_eq_true (by first | (with_reducible assumption) | assumption)
              have q795 : x8_1 < (t792.length : Int) := of_decide_eq_true (by first | (with_reducible assumption) | assumption)
              obtain ⟨ad795, e795, hx795_0, hx795_1⟩ := at_T76 (Kd.R_reads' HO_7.out).2.2 x8_1 p795 q795
              cases e795
              replace p795 := eq_true p795
              replace q795 := eq_true q795
              go_wp2
              go_roundg k1
              case measure => have := HK1.out; omega
              case rel => exact ⟨(wrap64 (x8_1 + 1)), (by first | rfl | (simp; done) | (simp [*]; done)), H', ⟨by have := HK1.out; omega⟩, ⟨by (with_reducible repeat (first | apply Kd.R_alloc | apply Kd.R_drewN | apply Kd.R_drew)); exact HO_7.out⟩, ⟨by repeat (first | (with_reducible first | exact HB.out | apply below_alloc | apply pw_below_drewN | apply below_drew1) | exact HB.out)⟩⟩
          · rw [if_neg c8] at H
            exact absurd H (by simp)
        · rw [if_neg c7] at H
          have c7b0 : decide (1 ≤ a2) = false := decide_eq_false c7
          clear c7
          have H' := Aside0.mk H
          clear H
          obtain ⟨Ao12, co12, eo12⟩ := Kd.R_slice HO_7.out
          subst eo12
          go_wp2
          go_roundg k1
          case measure => have := HK1.out; omega
          case rel => exact ⟨(wrap64 (x8_1 + 1)), (by first | rfl | (simp; done) | (simp [*]; done)), H', ⟨by have := HK1.out; omega⟩, ⟨by (with_reducible repeat (first | apply Kd.R_alloc | apply Kd.R_drewN | apply Kd.R_drew)); exact HO_7.out⟩, ⟨by repeat (first | (with_reducible first | exact HB.out | apply below_alloc | apply pw_below_drewN | apply below_drew1) | exact HB.out)⟩⟩
      · rw [if_neg c6] at H
        have c6b0 : decide (x8_1 < (t792.length : Int)) = false := decide_eq_false c6
        clear c6
        obtain rfl := Option.some.inj H
        obtain ⟨Ao13, co13, eo13⟩ := Kd.R_slice HO_7.out
        subst eo13
        go_wp2
        go_ret
        exact ⟨by first | rfl | (simp [errW_none, errW_some] <;> rfl) | (simp [*, errW_none, errW_some] <;> rfl), by repeat (first | (with_reducible first | exact HB.out | apply below_alloc | apply pw_below_drewN | apply below_drew1) | exact HB.out)⟩

end Go.Proofs.Ytijbfebbogiiiaa.Q
