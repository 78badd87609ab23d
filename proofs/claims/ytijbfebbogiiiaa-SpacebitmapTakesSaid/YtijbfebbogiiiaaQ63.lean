/- Contracts of Go functions: each call returns what the Lean function of its name says. Written by wip/gen.py (a patched print) for this claim. -/
import Derived.Test.YtijbfebbogiiiaaHAwake41
import Derived.Test.YtijbfebbogiiiaaHSpace1
import Derived.Test.YtijbfebbogiiiaaHSpace5
import Derived.Test.YtijbfebbogiiiaaQ0
import Derived.Test.YtijbfebbogiiiaaQ25
import Derived.Test.YtijbfebbogiiiaaQ31
namespace Go.Proofs.Ytijbfebbogiiiaa.Q
open Go.RowKit Go.Proofs.YtijbfebbogiiiaaW.PrintWords Go.Proofs.YtijbfebbogiiiaaW.PrintLast Go.Proofs.YtijbfebbogiiiaaW.PrintMore
attribute [local go_sem] max2_int min2_int max_two min_two max_three min_three max_four min_four   -- for this text's walks alone
set_option linter.unusedVariables false
set_option linter.unusedSimpArgs false

/-! ### masterdisclaw41_SpacebitmapTakes: function 25 -/
mutual
def masterdisclaw41_SpacebitmapTakes.j0 : Nat → ByteArray → Int → Int → Bool → Option (Bool)
  | 0, _, _, _, _ => none
  | k + 1, x0, x1, x2, x25 => if x25 = true then (some true) else ((spacebitmap_Free.f x0 x1).bind fun t853 => ((spacebitmap_Allocate.f x0 x1 (wrap64 (x2))).bind fun bt854 => (if (wrap64 (x2)) > t853 then (if bt854.2.2 = 12 then (if (bt854.1.length : Int) = 0 then (some (bt854.2.1.toList == ([] : List UInt8))) else (some false)) else (some false)) else ((spacebitmap_Mark.f k bt854.2.1 x1 bt854.1 true).bind fun bt859 => (if bt854.2.2 = 0 then (if bt859.2 = 0 then (if bt859.1.toList = x0.toList then ((spacebitmap_Free.f bt854.2.1 x1).bind fun t861 => (masterdisclaw41_SpacebitmapTakes.j1 k x0 x1 x2 bt854.2.1 (t861 != (wrap64 (t853 - (wrap64 (x2))))))) else (masterdisclaw41_SpacebitmapTakes.j1 k x0 x1 x2 bt854.2.1 true)) else (masterdisclaw41_SpacebitmapTakes.j1 k x0 x1 x2 bt854.2.1 true)) else (masterdisclaw41_SpacebitmapTakes.j1 k x0 x1 x2 bt854.2.1 true))))))
def masterdisclaw41_SpacebitmapTakes.j1 : Nat → ByteArray → Int → Int → ByteArray → Bool → Option (Bool)
  | 0, _, _, _, _, _ => none
  | k + 1, x0, x1, x2, x9, x80 => if x80 = true then (some false) else (masterdisclaw41_SpacebitmapTakes.l0 k x0 x2 x9 0 x1 0)
def masterdisclaw41_SpacebitmapTakes.l0 : Nat → ByteArray → Int → ByteArray → Int → Int → Int → Option (Bool)
  | 0, _, _, _, _, _, _ => none
  | k + 1, x0, x2, x9, x13, x81, x82 => if x82 < x81 then ((masterdisclaw41_free.f x0 x82).bind fun t862 => ((masterdisclaw41_free.f x9 x82).bind fun t863 => (if (t862 == t863) = true then ((masterdisclaw41_free.f x9 x82).bind fun t864 => (if t864 = true then (masterdisclaw41_SpacebitmapTakes.j3 k x0 x2 x9 x13 x81 x82 (decide (x13 < (wrap64 (x2))))) else (masterdisclaw41_SpacebitmapTakes.j3 k x0 x2 x9 x13 x81 x82 false))) else ((masterdisclaw41_free.f x0 x82).bind fun t865 => (if t865 = true then (masterdisclaw41_SpacebitmapTakes.l0 k x0 x2 x9 (wrap64 (x13 + 1)) x81 (wrap64 (x82 + 1))) else (some false)))))) else (some (x13 == (wrap64 (x2))))
def masterdisclaw41_SpacebitmapTakes.j3 : Nat → ByteArray → Int → ByteArray → Int → Int → Int → Bool → Option (Bool)
  | 0, _, _, _, _, _, _, _ => none
  | k + 1, x0, x2, x9, x13, x81, x82, x100 => if x100 = true then (some false) else (masterdisclaw41_SpacebitmapTakes.l0 k x0 x2 x9 x13 x81 (wrap64 (x82 + 1)))
end
def masterdisclaw41_SpacebitmapTakes.f (k : Nat) (a0 : ByteArray) (a1 : Int) (a2 : Int) : Option (Bool) := (masterdisclaw41_awake.f).bind fun t851 => (if t851 = true then (if (a0.size : Int) > 60 then (masterdisclaw41_SpacebitmapTakes.j0 k a0 a1 a2 true) else ((masterdiscref41_Valid.f k a0 a1).bind fun t852 => (masterdisclaw41_SpacebitmapTakes.j0 k a0 a1 a2 (!t852)))) else (some false))
theorem masterdisclaw41_SpacebitmapTakes.mono_l : ∀ k, (∀ y0 y1 y2 y3, LeO (masterdisclaw41_SpacebitmapTakes.j0 k y0 y1 y2 y3) (masterdisclaw41_SpacebitmapTakes.j0 (k + 1) y0 y1 y2 y3)) ∧ (∀ y0 y1 y2 y3 y4, LeO (masterdisclaw41_SpacebitmapTakes.j1 k y0 y1 y2 y3 y4) (masterdisclaw41_SpacebitmapTakes.j1 (k + 1) y0 y1 y2 y3 y4)) ∧ (∀ y0 y1 y2 y3 y4 y5, LeO (masterdisclaw41_SpacebitmapTakes.l0 k y0 y1 y2 y3 y4 y5) (masterdisclaw41_SpacebitmapTakes.l0 (k + 1) y0 y1 y2 y3 y4 y5)) ∧ (∀ y0 y1 y2 y3 y4 y5 y6, LeO (masterdisclaw41_SpacebitmapTakes.j3 k y0 y1 y2 y3 y4 y5 y6) (masterdisclaw41_SpacebitmapTakes.j3 (k + 1) y0 y1 y2 y3 y4 y5 y6))
  | 0 => ⟨fun _ _ _ _ r h => by simp [masterdisclaw41_SpacebitmapTakes.j0] at h, fun _ _ _ _ _ r h => by simp [masterdisclaw41_SpacebitmapTakes.j1] at h, fun _ _ _ _ _ _ r h => by simp [masterdisclaw41_SpacebitmapTakes.l0] at h, fun _ _ _ _ _ _ _ r h => by simp [masterdisclaw41_SpacebitmapTakes.j3] at h⟩
  | k + 1 => by
    obtain ⟨ih0, ih1, ih2, ih3⟩ := masterdisclaw41_SpacebitmapTakes.mono_l k
    refine ⟨?_, ?_, ?_, ?_⟩
    · intro y0 y1 y2 y3
      unfold masterdisclaw41_SpacebitmapTakes.j0
      repeat' first
      | (with_reducible exact ih0 _ _ _ _)
      | (with_reducible exact ih1 _ _ _ _ _)
      | (with_reducible exact ih2 _ _ _ _ _ _)
      | (with_reducible exact ih3 _ _ _ _ _ _ _)
      | (with_reducible exact masterdiscref41_Valid.mono _ _ _)
      | (with_reducible exact spacebitmap_Mark.mono _ _ _ _ _)
      | (with_reducible exact LeO.refl _)
      | (with_reducible exact LeO.none _)
      | (with_reducible refine LeO.ite ?_ ?_)
      | (with_reducible refine LeO.bind ?_ (fun _ => ?_))
      | exact ih0 _ _ _ _
      | exact ih1 _ _ _ _ _
      | exact ih2 _ _ _ _ _ _
      | exact ih3 _ _ _ _ _ _ _
      | exact masterdiscref41_Valid.mono _ _ _
      | exact spacebitmap_Mark.mono _ _ _ _ _
      | exact LeO.none _
      | refine LeO.ite ?_ ?_
      | refine LeO.bind ?_ (fun _ => ?_)
    · intro y0 y1 y2 y3 y4
      unfold masterdisclaw41_SpacebitmapTakes.j1
      repeat' first
      | (with_reducible exact ih0 _ _ _ _)
      | (with_reducible exact ih1 _ _ _ _ _)
      | (with_reducible exact ih2 _ _ _ _ _ _)
      | (with_reducible exact ih3 _ _ _ _ _ _ _)
      | (with_reducible exact masterdiscref41_Valid.mono _ _ _)
      | (with_reducible exact spacebitmap_Mark.mono _ _ _ _ _)
      | (with_reducible exact LeO.refl _)
      | (with_reducible exact LeO.none _)
      | (with_reducible refine LeO.ite ?_ ?_)
      | (with_reducible refine LeO.bind ?_ (fun _ => ?_))
      | exact ih0 _ _ _ _
      | exact ih1 _ _ _ _ _
      | exact ih2 _ _ _ _ _ _
      | exact ih3 _ _ _ _ _ _ _
      | exact masterdiscref41_Valid.mono _ _ _
      | exact spacebitmap_Mark.mono _ _ _ _ _
      | exact LeO.none _
      | refine LeO.ite ?_ ?_
      | refine LeO.bind ?_ (fun _ => ?_)
    · intro y0 y1 y2 y3 y4 y5
      unfold masterdisclaw41_SpacebitmapTakes.l0
      repeat' first
      | (with_reducible exact ih0 _ _ _ _)
      | (with_reducible exact ih1 _ _ _ _ _)
      | (with_reducible exact ih2 _ _ _ _ _ _)
      | (with_reducible exact ih3 _ _ _ _ _ _ _)
      | (with_reducible exact masterdiscref41_Valid.mono _ _ _)
      | (with_reducible exact spacebitmap_Mark.mono _ _ _ _ _)
      | (with_reducible exact LeO.refl _)
      | (with_reducible exact LeO.none _)
      | (with_reducible refine LeO.ite ?_ ?_)
      | (with_reducible refine LeO.bind ?_ (fun _ => ?_))
      | exact ih0 _ _ _ _
      | exact ih1 _ _ _ _ _
      | exact ih2 _ _ _ _ _ _
      | exact ih3 _ _ _ _ _ _ _
      | exact masterdiscref41_Valid.mono _ _ _
      | exact spacebitmap_Mark.mono _ _ _ _ _
      | exact LeO.none _
      | refine LeO.ite ?_ ?_
      | refine LeO.bind ?_ (fun _ => ?_)
    · intro y0 y1 y2 y3 y4 y5 y6
      unfold masterdisclaw41_SpacebitmapTakes.j3
      repeat' first
      | (with_reducible exact ih0 _ _ _ _)
      | (with_reducible exact ih1 _ _ _ _ _)
      | (with_reducible exact ih2 _ _ _ _ _ _)
      | (with_reducible exact ih3 _ _ _ _ _ _ _)
      | (with_reducible exact masterdiscref41_Valid.mono _ _ _)
      | (with_reducible exact spacebitmap_Mark.mono _ _ _ _ _)
      | (with_reducible exact LeO.refl _)
      | (with_reducible exact LeO.none _)
      | (with_reducible refine LeO.ite ?_ ?_)
      | (with_reducible refine LeO.bind ?_ (fun _ => ?_))
      | exact ih0 _ _ _ _
      | exact ih1 _ _ _ _ _
      | exact ih2 _ _ _ _ _ _
      | exact ih3 _ _ _ _ _ _ _
      | exact masterdiscref41_Valid.mono _ _ _
      | exact spacebitmap_Mark.mono _ _ _ _ _
      | exact LeO.none _
      | refine LeO.ite ?_ ?_
      | refine LeO.bind ?_ (fun _ => ?_)
theorem masterdisclaw41_SpacebitmapTakes.mono : ∀ a0 a1 a2 k, LeO (masterdisclaw41_SpacebitmapTakes.f k a0 a1 a2) (masterdisclaw41_SpacebitmapTakes.f (k + 1) a0 a1 a2) := by
  intro a0 a1 a2 k
  obtain ⟨ih0, ih1, ih2, ih3⟩ := masterdisclaw41_SpacebitmapTakes.mono_l k
  unfold masterdisclaw41_SpacebitmapTakes.f
  repeat' first
      | (with_reducible exact ih0 _ _ _ _)
      | (with_reducible exact ih1 _ _ _ _ _)
      | (with_reducible exact ih2 _ _ _ _ _ _)
      | (with_reducible exact ih3 _ _ _ _ _ _ _)
      | (with_reducible exact masterdiscref41_Valid.mono _ _ _)
      | (with_reducible exact spacebitmap_Mark.mono _ _ _ _ _)
      | (with_reducible exact LeO.refl _)
      | (with_reducible exact LeO.none _)
      | (with_reducible refine LeO.ite ?_ ?_)
      | (with_reducible refine LeO.bind ?_ (fun _ => ?_))
      | exact ih0 _ _ _ _
      | exact ih1 _ _ _ _ _
      | exact ih2 _ _ _ _ _ _
      | exact ih3 _ _ _ _ _ _ _
      | exact masterdiscref41_Valid.mono _ _ _
      | exact spacebitmap_Mark.mono _ _ _ _ _
      | exact LeO.none _
      | refine LeO.ite ?_ ?_
      | refine LeO.bind ?_ (fun _ => ?_)
set_option maxHeartbeats 8000000 in
set_option maxRecDepth 100000 in
theorem masterdisclaw41_SpacebitmapTakes.calls (k : Nat) (a0 : ByteArray) (a1 : Int) (a2 : Int) (r : Bool) (w : World) (h : masterdisclaw41_SpacebitmapTakes.f k a0 a1 a2 = some r) :
    Calls Try.prog 25 #[.string a0, .int .i64 a1, .int .u16 a2] w fun e w' => e = .returned (.bool r) ∧ Below w.heap.size w w' := by
  have HB := Aside0.mk (Below.refl w.heap.size w)
  have H : ((masterdisclaw41_awake.f).bind fun t851 => (if t851 = true then (if (a0.size : Int) > 60 then (masterdisclaw41_SpacebitmapTakes.j0 k a0 a1 a2 true) else ((masterdiscref41_Valid.f k a0 a1).bind fun t852 => (masterdisclaw41_SpacebitmapTakes.j0 k a0 a1 a2 (!t852)))) else (some false))) = some r := h
  clear h
  replace H := Option.bind_eq_some_iff.mp H
  obtain ⟨t851, A40, H⟩ := H
  replace H : (if t851 = true then (if (a0.size : Int) > 60 then (masterdisclaw41_SpacebitmapTakes.j0 k a0 a1 a2 true) else ((masterdiscref41_Valid.f k a0 a1).bind fun t852 => (masterdisclaw41_SpacebitmapTakes.j0 k a0 a1 a2 (!t852)))) else (some false)) = some r := H
  have A4 := Aside0.mk A40
  clear A40
  by_cases c5 : t851 = true
  · subst c5
    have H1 : (if (a0.size : Int) > 60 then (masterdisclaw41_SpacebitmapTakes.j0 k a0 a1 a2 true) else ((masterdiscref41_Valid.f k a0 a1).bind fun t852 => (masterdisclaw41_SpacebitmapTakes.j0 k a0 a1 a2 (!t852)))) = some r := by rw [if_pos rfl] at H; exact H
    clear H
    have H := H1
    clear H1
    have HC6 := Aside0.mk H
    clear H
    go_enter Try.func25, Try.ntmps25
    go_upto_region 3 with (first | ((with_reducible refine gate_callee (f := 43) rfl ?_); refine goesL_ (some 15) rfl rfl Try.func43 (by kernel_rfl) rfl #[] rfl (by (try simp only [List.map_toArray, List.map_cons, List.map_nil]); first | done | rfl | (simp only [List.length_drop, List.length_take]; rfl)) ?_; (with_reducible refine (masterdisclaw41_awake.calls  true _ A4.out).mono ?_); rintro e w7 ⟨rfl, hb⟩; refine ⟨_, rfl, ?_⟩; have n0_ := Aside0.mk (below_step (by repeat (first | (with_reducible first | exact HB.out | apply below_alloc | apply pw_below_drewN | apply below_drew1) | exact HB.out)) hb); clear HB; have HB := n0_; clear n0_; (try clear hb); (try clear hb2); (try clear hk); (try clear hi)))
    (try simp only [Act.put, List.setIfInBounds_toArray, List.set_cons_zero, List.set_cons_succ])
    go_cut [25] (fun v25 wc => ∃ (kq : Nat) (x25_5 : Bool), v25 = .bool x25_5 ∧ Aside0 (masterdisclaw41_SpacebitmapTakes.j0 kq a0 a1 a2 x25_5 = some r) ∧ Aside0 (kq ≤ k) ∧ Aside0 (Below w.heap.size w wc))
    case first =>
      have H := HC6.out
      clear HC6
      by_cases c8 : (a0.size : Int) > 60
      · rw [if_pos c8] at H
        have c8b0 : decide (60 < (a0.size : Int)) = true := decide_eq_true c8
        have c8b1 : decide (60 < a0.size) = true := decide_eq_true (by omega)
        clear c8
        (first | rw [c8b0] | (simp only [i64_w, i32_w]; rw [c8b0]) | skip)
        have H' := Aside0.mk H
        clear H
        go_wp2
        go_meet
        case rel => exact ⟨_, (true), (by first | rfl | (simp; done) | (simp [*]; done)), H', ⟨by first | omega | exact Nat.le_refl _⟩, ⟨by repeat (first | (with_reducible first | exact HB.out | apply below_alloc | apply pw_below_drewN | apply below_drew1) | exact HB.out)⟩⟩
      · rw [if_neg c8] at H
        have c8b0 : decide (60 < (a0.size : Int)) = false := decide_eq_false c8
        have c8b1 : decide (60 < a0.size) = false := decide_eq_false (by omega)
        clear c8
        (first | rw [c8b0] | (simp only [i64_w, i32_w]; rw [c8b0]) | skip)
        replace H := Option.bind_eq_some_iff.mp H
        obtain ⟨t852, A90, H⟩ := H
        replace H : (masterdisclaw41_SpacebitmapTakes.j0 k a0 a1 a2 (!t852)) = some r := H
        have A9 := Aside0.mk A90
        clear A90
        have H' := Aside0.mk H
        clear H
        go_wp2_with (first | (go_at_call 44; (with_reducible refine (masterdiscref41_Valid.calls k a0 a1 t852 _ A9.out).mono ?_); rintro e w10 ⟨rfl, hb⟩; have n0_ := Aside0.mk (below_step (by repeat (first | (with_reducible first | exact HB.out | apply below_alloc | apply pw_below_drewN | apply below_drew1) | exact HB.out)) hb); clear HB; have HB := n0_; clear n0_; (try clear hb); (try clear hb2); (try clear hk); (try clear hi)))
        go_meet
        case rel => exact ⟨_, (!t852), (by first | rfl | (simp; done) | (simp [*]; done)), H', ⟨by first | omega | exact Nat.le_refl _⟩, ⟨by repeat (first | (with_reducible first | exact HB.out | apply below_alloc | apply pw_below_drewN | apply below_drew1) | exact HB.out)⟩⟩
    case rest =>
      clear HC6
      try clear c2
      try clear p2
      try clear c4
      try clear c5
      try clear c8
      try clear c8b0
      try clear c8b1
      obtain ⟨kq, x25_5, rfl, HA, HJ5, HB⟩ := hcut
      cases kq with
      | zero => exact absurd HA.out (by simp [masterdisclaw41_SpacebitmapTakes.j0])
      | succ kj5 =>
        have H := HA.out
        clear HA
        simp only [masterdisclaw41_SpacebitmapTakes.j0] at H
        by_cases c11 : x25_5 = true
        · subst c11
          have H1 : (some true) = some r := by rw [if_pos rfl] at H; exact H
          clear H
          have H := H1
          clear H1
          obtain rfl := Option.some.inj H
          go_wp2
          go_ret
          exact ⟨by first | rfl | (simp [errW_none, errW_some] <;> rfl) | (simp [*, errW_none, errW_some] <;> rfl), by repeat (first | (with_reducible first | exact HB.out | apply below_alloc | apply pw_below_drewN | apply below_drew1) | exact HB.out)⟩
        · replace c11 := Bool.eq_false_iff.mpr c11
          subst c11
          have H1 : ((spacebitmap_Free.f a0 a1).bind fun t853 => ((spacebitmap_Allocate.f a0 a1 (wrap64 (a2))).bind fun bt854 => (if (wrap64 (a2)) > t853 then (if bt854.2.2 = 12 then (if (bt854.1.length : Int) = 0 then (some (bt854.2.1.toList == ([] : List UInt8))) else (some false)) else (some false)) else ((spacebitmap_Mark.f kj5 bt854.2.1 a1 bt854.1 true).bind fun bt859 => (if bt854.2.2 = 0 then (if bt859.2 = 0 then (if bt859.1.toList = a0.toList then ((spacebitmap_Free.f bt854.2.1 a1).bind fun t861 => (masterdisclaw41_SpacebitmapTakes.j1 kj5 a0 a1 a2 bt854.2.1 (t861 != (wrap64 (t853 - (wrap64 (a2))))))) else (masterdisclaw41_SpacebitmapTakes.j1 kj5 a0 a1 a2 bt854.2.1 true)) else (masterdisclaw41_SpacebitmapTakes.j1 kj5 a0 a1 a2 bt854.2.1 true)) else (masterdisclaw41_SpacebitmapTakes.j1 kj5 a0 a1 a2 bt854.2.1 true)))))) = some r := by rw [if_neg (show ¬ (false = true) by decide)] at H; exact H
          clear H
          have H := H1
          clear H1
          replace H := Option.bind_eq_some_iff.mp H
          obtain ⟨t853, A120, H⟩ := H
          replace H : ((spacebitmap_Allocate.f a0 a1 (wrap64 (a2))).bind fun bt854 => (if (wrap64 (a2)) > t853 then (if bt854.2.2 = 12 then (if (bt854.1.length : Int) = 0 then (some (bt854.2.1.toList == ([] : List UInt8))) else (some false)) else (some false)) else ((spacebitmap_Mark.f kj5 bt854.2.1 a1 bt854.1 true).bind fun bt859 => (if bt854.2.2 = 0 then (if bt859.2 = 0 then (if bt859.1.toList = a0.toList then ((spacebitmap_Free.f bt854.2.1 a1).bind fun t861 => (masterdisclaw41_SpacebitmapTakes.j1 kj5 a0 a1 a2 bt854.2.1 (t861 != (wrap64 (t853 - (wrap64 (a2))))))) else (masterdisclaw41_SpacebitmapTakes.j1 kj5 a0 a1 a2 bt854.2.1 true)) else (masterdisclaw41_SpacebitmapTakes.j1 kj5 a0 a1 a2 bt854.2.1 true)) else (masterdisclaw41_SpacebitmapTakes.j1 kj5 a0 a1 a2 bt854.2.1 true))))) = some r := H
          have A12 := Aside0.mk A120
          clear A120
          replace H := Option.bind_eq_some_iff.mp H
          obtain ⟨⟨t854, t855, t856⟩, A130, H⟩ := H
          replace H : (if (wrap64 (a2)) > t853 then (if t856 = 12 then (if (t854.length : Int) = 0 then (some (t855.toList == ([] : List UInt8))) else (some false)) else (some false)) else ((spacebitmap_Mark.f kj5 t855 a1 t854 true).bind fun bt859 => (if t856 = 0 then (if bt859.2 = 0 then (if bt859.1.toList = a0.toList then ((spacebitmap_Free.f t855 a1).bind fun t861 => (masterdisclaw41_SpacebitmapTakes.j1 kj5 a0 a1 a2 t855 (t861 != (wrap64 (t853 - (wrap64 (a2))))))) else (masterdisclaw41_SpacebitmapTakes.j1 kj5 a0 a1 a2 t855 true)) else (masterdisclaw41_SpacebitmapTakes.j1 kj5 a0 a1 a2 t855 true)) else (masterdisclaw41_SpacebitmapTakes.j1 kj5 a0 a1 a2 t855 true)))) = some r := H
          have A13 := Aside0.mk A130
          clear A130
          by_cases c14 : (wrap64 (a2)) > t853
          · rw [if_pos c14] at H
            have c14b0 : decide (t853 < (wrap64 (a2))) = true := decide_eq_true c14
            clear c14
            by_cases c15 : t856 = 12
            · rw [if_pos c15] at H
              have c15b0 : (t856 == 12) = true := beq_iff_eq.mpr c15
              have c15b1 : (t856 != 12) = false := bne_eq_false_iff_eq.mpr c15
              clear c15
              by_cases c16 : (t854.length : Int) = 0
              · rw [if_pos c16] at H
                have c16b0 : ((t854.length : Int) == 0) = true := beq_iff_eq.mpr c16
                have c16b1 : ((t854.length : Int) != 0) = false := bne_eq_false_iff_eq.mpr c16
                clear c16
                obtain rfl := Option.some.inj H
                go_wp2_with (first | ((with_reducible refine gate_callee (f := 79) rfl ?_); refine goesL_ (some 28) rfl rfl Try.func79 (by kernel_rfl) rfl #[.string a0, .int .i64 a1] rfl (by (try simp only [List.map_toArray, List.map_cons, List.map_nil]); first | done | rfl | (simp only [List.length_drop, List.length_take]; rfl)) ?_; (with_reducible refine (spacebitmap_Free.calls a0 a1 t853 _ A12.out).mono ?_); rintro e w17 ⟨rfl, hb⟩; refine ⟨_, rfl, ?_⟩; have n0_ := Aside0.mk (below_step (by repeat (first | (with_reducible first | exact HB.out | apply below_alloc | apply pw_below_drewN | apply below_drew1) | exact HB.out)) hb); clear HB; have HB := n0_; clear n0_; (try clear hb); (try clear hb2); (try clear hk); (try clear hi)) | ((with_reducible refine gate_callee (f := 84) rfl ?_); refine goesL_ (some 34) rfl rfl Try.func84 (by kernel_rfl) rfl #[.string a0, .int .i64 a1, .int .i64 (wrap64 (a2))] rfl (by (try simp only [List.map_toArray, List.map_cons, List.map_nil]); first | done | rfl | (simp only [List.length_drop, List.length_take]; rfl)) ?_; (with_reducible refine (spacebitmap_Allocate.calls a0 a1 (wrap64 (a2)) t854 t855 t856 _ A13.out).mono ?_); rintro e w18 ⟨v857, rfl, ho0, hb⟩; refine ⟨_, rfl, ?_⟩; have n0_ := Aside0.mk (Kd.R_lower ho0 (below_size (by repeat (first | (with_reducible first | exact HB.out | apply below_alloc | apply pw_below_drewN | apply below_drew1) | exact HB.out)))); have n1_ := Aside0.mk (below_step (by repeat (first | (with_reducible first | exact HB.out | apply below_alloc | apply pw_below_drewN | apply below_drew1) | exact HB.out)) hb); clear HB; have HO858 := n0_; have HB := n1_; clear n0_ n1_; (try clear hb); (try clear hb2); (try clear hk); (try clear hi); (try clear ho0); obtain ⟨Ao19, co19, eo19⟩ := Kd.R_slice HO858.out; subst eo19))
                go_ret
                exact ⟨by first | rfl | (simp [errW_none, errW_some] <;> rfl) | (simp [*, errW_none, errW_some] <;> rfl), by repeat (first | (with_reducible first | exact HB.out | apply below_alloc | apply pw_below_drewN | apply below_drew1) | exact HB.out)⟩
              · rw [if_neg c16] at H
                have c16b0 : ((t854.length : Int) == 0) = false := beq_eq_false_iff_ne.mpr c16
                have c16b1 : ((t854.length : Int) != 0) = true := bne_iff_ne.mpr c16
                have c16b2 : ¬ (t854 = []) := fun h_ => c16 (by rw [h_]; rfl)
                obtain rfl := Option.some.inj H
                go_wp2_with (first | ((with_reducible refine gate_callee (f := 79) rfl ?_); refine goesL_ (some 28) rfl rfl Try.func79 (by kernel_rfl) rfl #[.string a0, .int .i64 a1] rfl (by (try simp only [List.map_toArray, List.map_cons, List.map_nil]); first | done | rfl | (simp only [List.length_drop, List.length_take]; rfl)) ?_; (with_reducible refine (spacebitmap_Free.calls a0 a1 t853 _ A12.out).mono ?_); rintro e w20 ⟨rfl, hb⟩; refine ⟨_, rfl, ?_⟩; have n0_ := Aside0.mk (below_step (by repeat (first | (with_reducible first | exact HB.out | apply below_alloc | apply pw_below_drewN | apply below_drew1) | exact HB.out)) hb); clear HB; have HB := n0_; clear n0_; (try clear hb); (try clear hb2); (try clear hk); (try clear hi)) | ((with_reducible refine gate_callee (f := 84) rfl ?_); refine goesL_ (some 34) rfl rfl Try.func84 (by kernel_rfl) rfl #[.string a0, .int .i64 a1, .int .i64 (wrap64 (a2))] rfl (by (try simp only [List.map_toArray, List.map_cons, List.map_nil]); first | done | rfl | (simp only [List.length_drop, List.length_take]; rfl)) ?_; (with_reducible refine (spacebitmap_Allocate.calls a0 a1 (wrap64 (a2)) t854 t855 t856 _ A13.out).mono ?_); rintro e w21 ⟨v857, rfl, ho0, hb⟩; refine ⟨_, rfl, ?_⟩; have n0_ := Aside0.mk (Kd.R_lower ho0 (below_size (by repeat (first | (with_reducible first | exact HB.out | apply below_alloc | apply pw_below_drewN | apply below_drew1) | exact HB.out)))); have n1_ := Aside0.mk (below_step (by repeat (first | (with_reducible first | exact HB.out | apply below_alloc | apply pw_below_drewN | apply below_drew1) | exact HB.out)) hb); clear HB; have HO858 := n0_; have HB := n1_; clear n0_ n1_; (try clear hb); (try clear hb2); (try clear hk); (try clear hi); (try clear ho0); obtain ⟨Ao22, co22, eo22⟩ := Kd.R_slice HO858.out; subst eo22))
                go_ret
                exact ⟨by first | rfl | (simp [errW_none, errW_some] <;> rfl) | (simp [*, errW_none, errW_some] <;> rfl), by repeat (first | (with_reducible first | exact HB.out | apply below_alloc | apply pw_below_drewN | apply below_drew1) | exact HB.out)⟩
            · rw [if_neg c15] at H
              have c15b0 : (t856 == 12) = false := beq_eq_false_iff_ne.mpr c15
              have c15b1 : (t856 != 12) = true := bne_iff_ne.mpr c15
              obtain rfl := Option.some.inj H
              go_wp2_with (first | ((with_reducible refine gate_callee (f := 79) rfl ?_); refine goesL_ (some 28) rfl rfl Try.func79 (by kernel_rfl) rfl #[.string a0, .int .i64 a1] rfl (by (try simp only [List.map_toArray, List.map_cons, List.map_nil]); first | done | rfl | (simp only [List.length_drop, List.length_take]; rfl)) ?_; (with_reducible refine (spacebitmap_Free.calls a0 a1 t853 _ A12.out).mono ?_); rintro e w23 ⟨rfl, hb⟩; refine ⟨_, rfl, ?_⟩; have n0_ := Aside0.mk (below_step (by repeat (first | (with_reducible first | exact HB.out | apply below_alloc | apply pw_below_drewN | apply below_drew1) | exact HB.out)) hb); clear HB; have HB := n0_; clear n0_; (try clear hb); (try clear hb2); (try clear hk); (try clear hi)) | ((with_reducible refine gate_callee (f := 84) rfl ?_); refine goesL_ (some 34) rfl rfl Try.func84 (by kernel_rfl) rfl #[.string a0, .int .i64 a1, .int .i64 (wrap64 (a2))] rfl (by (try simp only [List.map_toArray, List.map_cons, List.map_nil]); first | done | rfl | (simp only [List.length_drop, List.length_take]; rfl)) ?_; (with_reducible refine (spacebitmap_Allocate.calls a0 a1 (wrap64 (a2)) t854 t855 t856 _ A13.out).mono ?_); rintro e w24 ⟨v857, rfl, ho0, hb⟩; refine ⟨_, rfl, ?_⟩; have n0_ := Aside0.mk (Kd.R_lower ho0 (below_size (by repeat (first | (with_reducible first | exact HB.out | apply below_alloc | apply pw_below_drewN | apply below_drew1) | exact HB.out)))); have n1_ := Aside0.mk (below_step (by repeat (first | (with_reducible first | exact HB.out | apply below_alloc | apply pw_below_drewN | apply below_drew1) | exact HB.out)) hb); clear HB; have HO858 := n0_; have HB := n1_; clear n0_ n1_; (try clear hb); (try clear hb2); (try clear hk); (try clear hi); (try clear ho0)))
              go_ret
              exact ⟨by first | rfl | (simp [errW_none, errW_some] <;> rfl) | (simp [*, errW_none, errW_some] <;> rfl), by repeat (first | (with_reducible first | exact HB.out | apply below_alloc | apply pw_below_drewN | apply below_drew1) | exact HB.out)⟩
          · rw [if_neg c14] at H
            have c14b0 : decide (t853 < (wrap64 (a2))) = false := decide_eq_false c14
            clear c14
            replace H := Option.bind_eq_some_iff.mp H
            obtain ⟨⟨t859, t860⟩, A250, H⟩ := H
            replace H : (if t856 = 0 then (if t860 = 0 then (if t859.toList = a0.toList then ((spacebitmap_Free.f t855 a1).bind fun t861 => (masterdisclaw41_SpacebitmapTakes.j1 kj5 a0 a1 a2 t855 (t861 != (wrap64 (t853 - (wrap64 (a2))))))) else (masterdisclaw41_SpacebitmapTakes.j1 kj5 a0 a1 a2 t855 true)) else (masterdisclaw41_SpacebitmapTakes.j1 kj5 a0 a1 a2 t855 true)) else (masterdisclaw41_SpacebitmapTakes.j1 kj5 a0 a1 a2 t855 true)) = some r := H
            have A25 := Aside0.mk A250
            clear A250
            have HC26 := Aside0.mk H
            clear H
            go_upto_region 10 with (first | ((with_reducible refine gate_callee (f := 79) rfl ?_); refine goesL_ (some 28) rfl rfl Try.func79 (by kernel_rfl) rfl #[.string a0, .int .i64 a1] rfl (by (try simp only [List.map_toArray, List.map_cons, List.map_nil]); first | done | rfl | (simp only [List.length_drop, List.length_take]; rfl)) ?_; (with_reducible refine (spacebitmap_Free.calls a0 a1 t853 _ A12.out).mono ?_); rintro e w27 ⟨rfl, hb⟩; refine ⟨_, rfl, ?_⟩; have n0_ := Aside0.mk (below_step (by repeat (first | (with_reducible first | exact HB.out | apply below_alloc | apply pw_below_drewN | apply below_drew1) | exact HB.out)) hb); clear HB; have HB := n0_; clear n0_; (try clear hb); (try clear hb2); (try clear hk); (try clear hi)) | ((with_reducible refine gate_callee (f := 84) rfl ?_); refine goesL_ (some 34) rfl rfl Try.func84 (by kernel_rfl) rfl #[.string a0, .int .i64 a1, .int .i64 (wrap64 (a2))] rfl (by (try simp only [List.map_toArray, List.map_cons, List.map_nil]); first | done | rfl | (simp only [List.length_drop, List.length_take]; rfl)) ?_; (with_reducible refine (spacebitmap_Allocate.calls a0 a1 (wrap64 (a2)) t854 t855 t856 _ A13.out).mono ?_); rintro e w28 ⟨v857, rfl, ho0, hb⟩; refine ⟨_, rfl, ?_⟩; have n0_ := Aside0.mk (Kd.R_lower ho0 (below_size (by repeat (first | (with_reducible first | exact HB.out | apply below_alloc | apply pw_below_drewN | apply below_drew1) | exact HB.out)))); have n1_ := Aside0.mk (below_step (by repeat (first | (with_reducible first | exact HB.out | apply below_alloc | apply pw_below_drewN | apply below_drew1) | exact HB.out)) hb); clear HB; have HO858 := n0_; have HB := n1_; clear n0_ n1_; (try clear hb); (try clear hb2); (try clear hk); (try clear hi); (try clear ho0); obtain ⟨Ao29, co29, eo29⟩ := Kd.R_slice HO858.out; subst eo29) | ((with_reducible refine gate_callee (f := 75) rfl ?_); refine goesL_ (some 57) rfl rfl Try.func75 (by kernel_rfl) rfl #[.string t855, .int .i64 a1, .slice Ao29 t854.length co29, .bool true] rfl (by (try simp only [List.map_toArray, List.map_cons, List.map_nil]); first | done | rfl | (simp only [List.length_drop, List.length_take]; rfl)) ?_; (with_reducible refine (spacebitmap_Mark.calls kj5 t855 a1 _ _ t854 true t859 t860 _ ?side1 ?side2 A25.out).mono ?_); (case side1 => repeat (first | exact (Kd.R_reads' HO858.out).2.2 | (with_reducible refine Kd.C_alloc ?_ _) | (with_reducible refine Kd.C_drewN ?_ _) | (with_reducible refine Kd.C_drew ?_))); (case side2 => exact (Kd.R_reads' HO858.out).2.1); rintro e w30 ⟨rfl, hb⟩; refine ⟨_, rfl, ?_⟩; have n0_ := Aside0.mk (Kd.R_below (by (with_reducible repeat (first | apply Kd.R_alloc | apply Kd.R_drewN | apply Kd.R_drew)); exact HO858.out) hb); have n1_ := Aside0.mk (below_step (by repeat (first | (with_reducible first | exact HB.out | apply below_alloc | apply pw_below_drewN | apply below_drew1) | exact HB.out)) hb); clear HO858; clear HB; have HO858 := n0_; have HB := n1_; clear n0_ n1_; (try clear hb); (try clear hb2); (try clear hk); (try clear hi)))
            (try simp only [Act.put, List.setIfInBounds_toArray, List.set_cons_zero, List.set_cons_succ])
            go_cut [80] (fun v80 wc => ∃ (kq : Nat) (x80_25 : Bool), v80 = .bool x80_25 ∧ Aside0 (masterdisclaw41_SpacebitmapTakes.j1 kq a0 a1 a2 t855 x80_25 = some r) ∧ Aside0 (kq ≤ kj5) ∧ Aside0 (Below w.heap.size w wc))
            case first =>
              have H := HC26.out
              clear HC26
              by_cases c31 : t856 = 0
              · rw [if_pos c31] at H
                have c31b0 : (t856 == 0) = true := beq_iff_eq.mpr c31
                have c31b1 : (t856 != 0) = false := bne_eq_false_iff_eq.mpr c31
                clear c31
                (first | rw [c31b0] | (simp only [i64_w, i32_w]; rw [c31b0]) | skip)
                by_cases c32 : t860 = 0
                · rw [if_pos c32] at H
                  have c32b0 : (t860 == 0) = true := beq_iff_eq.mpr c32
                  have c32b1 : (t860 != 0) = false := bne_eq_false_iff_eq.mpr c32
                  clear c32
                  by_cases c33 : t859.toList = a0.toList
                  · rw [if_pos c33] at H
                    have c33b0 : (t859.toList == a0.toList) = true := beq_iff_eq.mpr c33
                    have c33b1 : (t859.toList != a0.toList) = false := bne_eq_false_iff_eq.mpr c33
                    clear c33
                    replace H := Option.bind_eq_some_iff.mp H
                    obtain ⟨t861, A340, H⟩ := H
                    replace H : (masterdisclaw41_SpacebitmapTakes.j1 kj5 a0 a1 a2 t855 (t861 != (wrap64 (t853 - (wrap64 (a2)))))) = some r := H
                    have A34 := Aside0.mk A340
                    clear A340
                    have H' := Aside0.mk H
                    clear H
                    go_wp2_with (first | (go_at_call 79; (with_reducible refine (spacebitmap_Free.calls t855 a1 t861 _ A34.out).mono ?_); rintro e w35 ⟨rfl, hb⟩; have n0_ := Aside0.mk (Kd.R_below (by (with_reducible repeat (first | apply Kd.R_alloc | apply Kd.R_drewN | apply Kd.R_drew)); exact HO858.out) hb); have n1_ := Aside0.mk (below_step (by repeat (first | (with_reducible first | exact HB.out | apply below_alloc | apply pw_below_drewN | apply below_drew1) | exact HB.out)) hb); clear HO858; clear HB; have HO858 := n0_; have HB := n1_; clear n0_ n1_; (try clear hb); (try clear hb2); (try clear hk); (try clear hi)))
                    go_meet
                    case rel => exact ⟨_, ((t861 != (wrap64 (t853 - (wrap64 (a2)))))), (by first | rfl | (simp; done) | (simp [*]; done)), H', ⟨by have := HJ5.out; first | omega | exact Nat.le_refl _⟩, ⟨by repeat (first | (with_reducible first | exact HB.out | apply below_alloc | apply pw_below_drewN | apply below_drew1) | exact HB.out)⟩⟩
                  · rw [if_neg c33] at H
                    have c33b0 : (t859.toList == a0.toList) = false := beq_eq_false_iff_ne.mpr c33
                    have c33b1 : (t859.toList != a0.toList) = true := bne_iff_ne.mpr c33
                    have H' := Aside0.mk H
                    clear H
                    go_wp2
                    go_meet
                    case rel => exact ⟨_, (true), (by first | rfl | (simp; done) | (simp [*]; done)), H', ⟨by have := HJ5.out; first | omega | exact Nat.le_refl _⟩, ⟨by repeat (first | (with_reducible first | exact HB.out | apply below_alloc | apply pw_below_drewN | apply below_drew1) | exact HB.out)⟩⟩
                · rw [if_neg c32] at H
                  have c32b0 : (t860 == 0) = false := beq_eq_false_iff_ne.mpr c32
                  have c32b1 : (t860 != 0) = true := bne_iff_ne.mpr c32
                  have H' := Aside0.mk H
                  clear H
                  go_wp2
                  go_meet
                  case rel => exact ⟨_, (true), (by first | rfl | (simp; done) | (simp [*]; done)), H', ⟨by have := HJ5.out; first | omega | exact Nat.le_refl _⟩, ⟨by repeat (first | (with_reducible first | exact HB.out | apply below_alloc | apply pw_below_drewN | apply below_drew1) | exact HB.out)⟩⟩
              · rw [if_neg c31] at H
                have c31b0 : (t856 == 0) = false := beq_eq_false_iff_ne.mpr c31
                have c31b1 : (t856 != 0) = true := bne_iff_ne.mpr c31
                (first | rw [c31b0] | (simp only [i64_w, i32_w]; rw [c31b0]) | skip)
                have H' := Aside0.mk H
                clear H
                go_wp2
                go_meet
                case rel => exact ⟨_, (true), (by first | rfl | (simp; done) | (simp [*]; done)), H', ⟨by have := HJ5.out; first | omega | exact Nat.le_refl _⟩, ⟨by repeat (first | (with_reducible first | exact HB.out | apply below_alloc | apply pw_below_drewN | apply below_drew1) | exact HB.out)⟩⟩
            case rest =>
              clear HC26
              try clear c1
              try clear c2
              try clear p2
              try clear c3
              try clear c4
              try clear c5
              try clear p6
              try clear c7
              try clear c8
              try clear c8b0
              try clear c8b1
              try clear c11
              try clear c14
              try clear c14b0
              try clear c15
              try clear c15b0
              try clear c15b1
              try clear c16
              try clear c16b0
              try clear c16b1
              try clear c16b2
              try clear c25
              try clear c31
              try clear c31b0
              try clear c31b1
              try clear c32
              try clear c32b0
              try clear c32b1
              try clear c33
              try clear c33b0
              try clear c33b1
              try clear p2
              obtain ⟨kq, x80_25, rfl, HA, HJ25, HB⟩ := hcut
              cases kq with
              | zero => exact absurd HA.out (by simp [masterdisclaw41_SpacebitmapTakes.j1])
              | succ kj25 =>
                have H := HA.out
                clear HA
                simp only [masterdisclaw41_SpacebitmapTakes.j1] at H
                by_cases c36 : x80_25 = true
                · subst c36
                  have H1 : (some false) = some r := by rw [if_pos rfl] at H; exact H
                  clear H
                  have H := H1
                  clear H1
                  obtain rfl := Option.some.inj H
                  go_wp2
                  go_ret
                  exact ⟨by first | rfl | (simp [errW_none, errW_some] <;> rfl) | (simp [*, errW_none, errW_some] <;> rfl), by repeat (first | (with_reducible first | exact HB.out | apply below_alloc | apply pw_below_drewN | apply below_drew1) | exact HB.out)⟩
                · replace c36 := Bool.eq_false_iff.mpr c36
                  subst c36
                  have H1 : (masterdisclaw41_SpacebitmapTakes.l0 kj25 a0 a2 t855 0 a1 0) = some r := by rw [if_neg (show ¬ (false = true) by decide)] at H; exact H
                  clear H
                  have H := H1
                  clear H1
                  have H' := Aside0.mk H
                  clear H
                  go_wp2
                  go_loopg [13, 82] kj25 (fun kq v13 v82 w' => ∃ (x13_3 : Int) (x82_3 : Int), v13 = .int .i64 x13_3 ∧ v82 = .int .i64 x82_3 ∧ Aside0 (masterdisclaw41_SpacebitmapTakes.l0 kq a0 a2 t855 x13_3 a1 x82_3 = some r) ∧ Aside0 (kq ≤ kj25) ∧ Aside0 (Below w.heap.size w w'))
                  case atStart => exact ⟨(0), (0), (by first | rfl | (simp; done) | (simp [*]; done)), (by first | rfl | (simp; done) | (simp [*]; done)), H', ⟨Nat.le_refl _⟩, ⟨by repeat (first | (with_reducible first | exact HB.out | apply below_alloc | apply pw_below_drewN | apply below_drew1) | exact HB.out)⟩⟩
                  case round =>
                    clear H'
                    try clear c1
                    try clear c2
                    try clear p2
                    try clear c3
                    try clear c4
                    try clear c5
                    try clear p6
                    try clear c7
                    try clear c8
                    try clear c8b0
                    try clear c8b1
                    try clear c11
                    try clear c14
                    try clear c14b0
                    try clear c15
                    try clear c15b0
                    try clear c15b1
                    try clear c16
                    try clear c16b0
                    try clear c16b1
                    try clear c16b2
                    try clear c25
                    try clear c31
                    try clear c31b0
                    try clear c31b1
                    try clear c32
                    try clear c32b0
                    try clear c32b1
                    try clear c33
                    try clear c33b0
                    try clear c33b1
                    try clear c36
                    try clear p2
                    try clear p6
                    obtain ⟨x13_3, x82_3, rfl, rfl, HA, HK3, HB⟩ := hrel
                    cases gk with
                    | zero => exact absurd HA.out (by simp [masterdisclaw41_SpacebitmapTakes.l0])
                    | succ k3 =>
                      have H := HA.out
                      clear HA
                      simp only [masterdisclaw41_SpacebitmapTakes.l0] at H
                      by_cases c37 : x82_3 < a1
                      · rw [if_pos c37] at H
                        have c37b0 : decide (x82_3 < a1) = true := decide_eq_true c37
                        clear c37
                        replace H := Option.bind_eq_some_iff.mp H
                        obtain ⟨t862, A380, H⟩ := H
                        replace H : ((masterdisclaw41_free.f t855 x82_3).bind fun t863 => (if (t862 == t863) = true then ((masterdisclaw41_free.f t855 x82_3).bind fun t864 => (if t864 = true then (masterdisclaw41_SpacebitmapTakes.j3 k3 a0 a2 t855 x13_3 a1 x82_3 (decide (x13_3 < (wrap64 (a2))))) else (masterdisclaw41_SpacebitmapTakes.j3 k3 a0 a2 t855 x13_3 a1 x82_3 false))) else ((masterdisclaw41_free.f a0 x82_3).bind fun t865 => (if t865 = true then (masterdisclaw41_SpacebitmapTakes.l0 k3 a0 a2 t855 (wrap64 (x13_3 + 1)) a1 (wrap64 (x82_3 + 1))) else (some false))))) = some r := H
                        have A38 := Aside0.mk A380
                        clear A380
                        replace H := Option.bind_eq_some_iff.mp H
                        obtain ⟨t863, A390, H⟩ := H
                        replace H : (if (t862 == t863) = true then ((masterdisclaw41_free.f t855 x82_3).bind fun t864 => (if t864 = true then (masterdisclaw41_SpacebitmapTakes.j3 k3 a0 a2 t855 x13_3 a1 x82_3 (decide (x13_3 < (wrap64 (a2))))) else (masterdisclaw41_SpacebitmapTakes.j3 k3 a0 a2 t855 x13_3 a1 x82_3 false))) else ((masterdisclaw41_free.f a0 x82_3).bind fun t865 => (if t865 = true then (masterdisclaw41_SpacebitmapTakes.l0 k3 a0 a2 t855 (wrap64 (x13_3 + 1)) a1 (wrap64 (x82_3 + 1))) else (some false)))) = some r := H
                        have A39 := Aside0.mk A390
                        clear A390
                        by_cases c40 : (t862 == t863) = true
                        · rw [if_pos c40] at H
                          have c40b0 : (t862 == t863) = true := c40
                          (try (have c40b1 : decide (t862 = t863) = true := by simpa using c40))
                          (try (have c40b2 : (t862 == t863) = true := by simpa using c40))
                          clear c40
                          have HC41 := Aside0.mk H
                          clear H
                          go_upto_region 17 with (first | ((with_reducible refine gate_callee (f := 45) rfl ?_); refine goesL_ (some 87) rfl rfl Try.func45 (by kernel_rfl) rfl #[.string a0, .int .i64 x82_3] rfl (by (try simp only [List.map_toArray, List.map_cons, List.map_nil]); first | done | rfl | (simp only [List.length_drop, List.length_take]; rfl)) ?_; (with_reducible refine (masterdisclaw41_free.calls a0 x82_3 t862 _ A38.out).mono ?_); rintro e w' ⟨rfl, ⟨nd, rfl⟩⟩; refine ⟨_, rfl, ?_⟩) | ((with_reducible refine gate_callee (f := 45) rfl ?_); refine goesL_ (some 90) rfl rfl Try.func45 (by kernel_rfl) rfl #[.string t855, .int .i64 x82_3] rfl (by (try simp only [List.map_toArray, List.map_cons, List.map_nil]); first | done | rfl | (simp only [List.length_drop, List.length_take]; rfl)) ?_; (with_reducible refine (masterdisclaw41_free.calls t855 x82_3 t863 _ A39.out).mono ?_); rintro e w' ⟨rfl, ⟨nd, rfl⟩⟩; refine ⟨_, rfl, ?_⟩))
                          (try simp only [Act.put, List.setIfInBounds_toArray, List.set_cons_zero, List.set_cons_succ])
                          go_cut [100] (fun v100 wc => ∃ (kq : Nat) (x100_40 : Bool), v100 = .bool x100_40 ∧ Aside0 (masterdisclaw41_SpacebitmapTakes.j3 kq a0 a2 t855 x13_3 a1 x82_3 x100_40 = some r) ∧ Aside0 (kq ≤ k3) ∧ Aside0 (Below w.heap.size w wc))
                          case first =>
                            have H := HC41.out
                            clear HC41
                            replace H := Option.bind_eq_some_iff.mp H
                            obtain ⟨t864, A420, H⟩ := H
                            replace H : (if t864 = true then (masterdisclaw41_SpacebitmapTakes.j3 k3 a0 a2 t855 x13_3 a1 x82_3 (decide (x13_3 < (wrap64 (a2))))) else (masterdisclaw41_SpacebitmapTakes.j3 k3 a0 a2 t855 x13_3 a1 x82_3 false)) = some r := H
                            have A42 := Aside0.mk A420
                            clear A420
                            by_cases c43 : t864 = true
                            · subst c43
                              have H1 : (masterdisclaw41_SpacebitmapTakes.j3 k3 a0 a2 t855 x13_3 a1 x82_3 (decide (x13_3 < (wrap64 (a2))))) = some r := by rw [if_pos rfl] at H; exact H
                              clear H
                              have H := H1
                              clear H1
                              have H' := Aside0.mk H
                              clear H
                              go_wp2_with (first | ((with_reducible refine gate_callee (f := 45) rfl ?_); refine goesL_ (some 94) rfl rfl Try.func45 (by kernel_rfl) rfl #[.string t855, .int .i64 x82_3] rfl (by (try simp only [List.map_toArray, List.map_cons, List.map_nil]); first | done | rfl | (simp only [List.length_drop, List.length_take]; rfl)) ?_; (with_reducible refine (masterdisclaw41_free.calls t855 x82_3 true _ A42.out).mono ?_); rintro e w' ⟨rfl, ⟨nd, rfl⟩⟩; refine ⟨_, rfl, ?_⟩))
                              go_meet
                              case rel => exact ⟨_, (decide (x13_3 < (wrap64 (a2)))), (by first | rfl | (simp; done) | (simp [*]; done)), H', ⟨by have := HJ5.out; have := HJ25.out; have := HK3.out; first | omega | exact Nat.le_refl _⟩, ⟨by repeat (first | (with_reducible first | exact HB.out | apply below_alloc | apply pw_below_drewN | apply below_drew1) | exact HB.out)⟩⟩
                            · replace c43 := Bool.eq_false_iff.mpr c43
                              subst c43
                              have H1 : (masterdisclaw41_SpacebitmapTakes.j3 k3 a0 a2 t855 x13_3 a1 x82_3 false) = some r := by rw [if_neg (show ¬ (false = true) by decide)] at H; exact H
                              clear H
                              have H := H1
                              clear H1
                              have H' := Aside0.mk H
                              clear H
                              go_wp2_with (first | ((with_reducible refine gate_callee (f := 45) rfl ?_); refine goesL_ (some 94) rfl rfl Try.func45 (by kernel_rfl) rfl #[.string t855, .int .i64 x82_3] rfl (by (try simp only [List.map_toArray, List.map_cons, List.map_nil]); first | done | rfl | (simp only [List.length_drop, List.length_take]; rfl)) ?_; (with_reducible refine (masterdisclaw41_free.calls t855 x82_3 false _ A42.out).mono ?_); rintro e w' ⟨rfl, ⟨nd, rfl⟩⟩; refine ⟨_, rfl, ?_⟩))
                              go_meet
                              case rel => exact ⟨_, (false), (by first | rfl | (simp; done) | (simp [*]; done)), H', ⟨by have := HJ5.out; have := HJ25.out; have := HK3.out; first | omega | exact Nat.le_refl _⟩, ⟨by repeat (first | (with_reducible first | exact HB.out | apply below_alloc | apply pw_below_drewN | apply below_drew1) | exact HB.out)⟩⟩
                          case rest =>
                            clear HC41
                            try clear c1
                            try clear c2
                            try clear p2
                            try clear c3
                            try clear c4
                            try clear c5
                            try clear p6
                            try clear c7
                            try clear c8
                            try clear c8b0
                            try clear c8b1
                            try clear c11
                            try clear c14
                            try clear c14b0
                            try clear c15
                            try clear c15b0
                            try clear c15b1
                            try clear c16
                            try clear c16b0
                            try clear c16b1
                            try clear c16b2
                            try clear c25
                            try clear c31
                            try clear c31b0
                            try clear c31b1
                            try clear c32
                            try clear c32b0
                            try clear c32b1
                            try clear c33
                            try clear c33b0
                            try clear c33b1
                            try clear c36
                            try clear c37
                            try clear c37b0
                            try clear c40
                            try clear c40b0
                            try clear c40b1
                            try clear c40b2
                            try clear c43
                            try clear p2
                            try clear p6
                            obtain ⟨kq, x100_40, rfl, HA, HJ40, HB⟩ := hcut
                            cases kq with
                            | zero => exact absurd HA.out (by simp [masterdisclaw41_SpacebitmapTakes.j3])
                            | succ kj40 =>
                              have H := HA.out
                              clear HA
                              simp only [masterdisclaw41_SpacebitmapTakes.j3] at H
                              by_cases c44 : x100_40 = true
                              · subst c44
                                have H1 : (some false) = some r := by rw [if_pos rfl] at H; exact H
                                clear H
                                have H := H1
                                clear H1
                                obtain rfl := Option.some.inj H
                                go_wp2
                                go_ret
                                exact ⟨by first | rfl | (simp [errW_none, errW_some] <;> rfl) | (simp [*, errW_none, errW_some] <;> rfl), by repeat (first | (with_reducible first | exact HB.out | apply below_alloc | apply pw_below_drewN | apply below_drew1) | exact HB.out)⟩
                              · replace c44 := Bool.eq_false_iff.mpr c44
                                subst c44
                                have H1 : (masterdisclaw41_SpacebitmapTakes.l0 kj40 a0 a2 t855 x13_3 a1 (wrap64 (x82_3 + 1))) = some r := by rw [if_neg (show ¬ (false = true) by decide)] at H; exact H
                                clear H
                                have H := H1
                                clear H1
                                have H' := Aside0.mk H
                                clear H
                                go_wp2
                                go_roundg kj40
                                case measure => have := HJ5.out; have := HJ25.out; have := HK3.out; have := HJ40.out; omega
                                case rel => exact ⟨(x13_3), (wrap64 (x82_3 + 1)), (by first | rfl | (simp; done) | (simp [*]; done)), (by first | rfl | (simp; done) | (simp [*]; done)), H', ⟨by have := HJ5.out; have := HJ25.out; have := HK3.out; have := HJ40.out; omega⟩, ⟨by repeat (first | (with_reducible first | exact HB.out | apply below_alloc | apply pw_below_drewN | apply below_drew1) | exact HB.out)⟩⟩
                        · rw [if_neg c40] at H
                          have c40b0 : (t862 == t863) = false := by simpa using c40
                          (try (have c40b1 : decide (t862 = t863) = false := by simpa using c40))
                          (try (have c40b2 : (t862 == t863) = false := by simpa using c40))
                          (try (have c40b3 : ¬ (t862 = t863) := by simpa using c40))
                          clear c40
                          replace H := Option.bind_eq_some_iff.mp H
                          obtain ⟨t865, A450, H⟩ := H
                          replace H : (if t865 = true then (masterdisclaw41_SpacebitmapTakes.l0 k3 a0 a2 t855 (wrap64 (x13_3 + 1)) a1 (wrap64 (x82_3 + 1))) else (some false)) = some r := H
                          have A45 := Aside0.mk A450
                          clear A450
                          by_cases c46 : t865 = true
                          · subst c46
                            have H1 : (masterdisclaw41_SpacebitmapTakes.l0 k3 a0 a2 t855 (wrap64 (x13_3 + 1)) a1 (wrap64 (x82_3 + 1))) = some r := by rw [if_pos rfl] at H; exact H
                            clear H
                            have H := H1
                            clear H1
                            have H' := Aside0.mk H
                            clear H
                            go_wp2_with (first | ((with_reducible refine gate_callee (f := 45) rfl ?_); refine goesL_ (some 87) rfl rfl Try.func45 (by kernel_rfl) rfl #[.string a0, .int .i64 x82_3] rfl (by (try simp only [List.map_toArray, List.map_cons, List.map_nil]); first | done | rfl | (simp only [List.length_drop, List.length_take]; rfl)) ?_; (with_reducible refine (masterdisclaw41_free.calls a0 x82_3 t862 _ A38.out).mono ?_); rintro e w' ⟨rfl, ⟨nd, rfl⟩⟩; refine ⟨_, rfl, ?_⟩) | ((with_reducible refine gate_callee (f := 45) rfl ?_); refine goesL_ (some 90) rfl rfl Try.func45 (by kernel_rfl) rfl #[.string t855, .int .i64 x82_3] rfl (by (try simp only [List.map_toArray, List.map_cons, List.map_nil]); first | done | rfl | (simp only [List.length_drop, List.length_take]; rfl)) ?_; (with_reducible refine (masterdisclaw41_free.calls t855 x82_3 t863 _ A39.out).mono ?_); rintro e w' ⟨rfl, ⟨nd, rfl⟩⟩; refine ⟨_, rfl, ?_⟩) | ((with_reducible refine gate_callee (f := 45) rfl ?_); refine goesL_ (some 103) rfl rfl Try.func45 (by kernel_rfl) rfl #[.string a0, .int .i64 x82_3] rfl (by (try simp only [List.map_toArray, List.map_cons, List.map_nil]); first | done | rfl | (simp only [List.length_drop, List.length_take]; rfl)) ?_; (with_reducible refine (masterdisclaw41_free.calls a0 x82_3 true _ A45.out).mono ?_); rintro e w' ⟨rfl, ⟨nd, rfl⟩⟩; refine ⟨_, rfl, ?_⟩))
                            go_roundg k3
                            case measure => have := HJ5.out; have := HJ25.out; have := HK3.out; omega
                            case rel => exact ⟨(wrap64 (x13_3 + 1)), (wrap64 (x82_3 + 1)), (by first | rfl | (simp; done) | (simp [*]; done)), (by first | rfl | (simp; done) | (simp [*]; done)), H', ⟨by have := HJ5.out; have := HJ25.out; have := HK3.out; omega⟩, ⟨by repeat (first | (with_reducible first | exact HB.out | apply below_alloc | apply pw_below_drewN | apply below_drew1) | exact HB.out)⟩⟩
                          · replace c46 := Bool.eq_false_iff.mpr c46
                            subst c46
                            have H1 : (some false) = some r := by rw [if_neg (show ¬ (false = true) by decide)] at H; exact H
                            clear H
                            have H := H1
                            clear H1
                            obtain rfl := Option.some.inj H
                            go_wp2_with (first | ((with_reducible refine gate_callee (f := 45) rfl ?_); refine goesL_ (some 87) rfl rfl Try.func45 (by kernel_rfl) rfl #[.string a0, .int .i64 x82_3] rfl (by (try simp only [List.map_toArray, List.map_cons, List.map_nil]); first | done | rfl | (simp only [List.length_drop, List.length_take]; rfl)) ?_; (with_reducible refine (masterdisclaw41_free.calls a0 x82_3 t862 _ A38.out).mono ?_); rintro e w' ⟨rfl, ⟨nd, rfl⟩⟩; refine ⟨_, rfl, ?_⟩) | ((with_reducible refine gate_callee (f := 45) rfl ?_); refine goesL_ (some 90) rfl rfl Try.func45 (by kernel_rfl) rfl #[.string t855, .int .i64 x82_3] rfl (by (try simp only [List.map_toArray, List.map_cons, List.map_nil]); first | done | rfl | (simp only [List.length_drop, List.length_take]; rfl)) ?_; (with_reducible refine (masterdisclaw41_free.calls t855 x82_3 t863 _ A39.out).mono ?_); rintro e w' ⟨rfl, ⟨nd, rfl⟩⟩; refine ⟨_, rfl, ?_⟩) | ((with_reducible refine gate_callee (f := 45) rfl ?_); refine goesL_ (some 103) rfl rfl Try.func45 (by kernel_rfl) rfl #[.string a0, .int .i64 x82_3] rfl (by (try simp only [List.map_toArray, List.map_cons, List.map_nil]); first | done | rfl | (simp only [List.length_drop, List.length_take]; rfl)) ?_; (with_reducible refine (masterdisclaw41_free.calls a0 x82_3 false _ A45.out).mono ?_); rintro e w' ⟨rfl, ⟨nd, rfl⟩⟩; refine ⟨_, rfl, ?_⟩))
                            go_ret
                            exact ⟨by first | rfl | (simp [errW_none, errW_some] <;> rfl) | (simp [*, errW_none, errW_some] <;> rfl), by repeat (first | (with_reducible first | exact HB.out | apply below_alloc | apply pw_below_drewN | apply below_drew1) | exact HB.out)⟩
                      · rw [if_neg c37] at H
                        have c37b0 : decide (x82_3 < a1) = false := decide_eq_false c37
                        clear c37
                        obtain rfl := Option.some.inj H
                        go_wp2
                        go_ret
                        exact ⟨by first | rfl | (simp [errW_none, errW_some] <;> rfl) | (simp [*, errW_none, errW_some] <;> rfl), by repeat (first | (with_reducible first | exact HB.out | apply below_alloc | apply pw_below_drewN | apply below_drew1) | exact HB.out)⟩
  · replace c5 := Bool.eq_false_iff.mpr c5
    subst c5
    have H1 : (some false) = some r := by rw [if_neg (show ¬ (false = true) by decide)] at H; exact H
    clear H
    have H := H1
    clear H1
    obtain rfl := Option.some.inj H
    go_enter Try.func25, Try.ntmps25
    go_wp2_with (first | ((with_reducible refine gate_callee (f := 43) rfl ?_); refine goesL_ (some 15) rfl rfl Try.func43 (by kernel_rfl) rfl #[] rfl (by (try simp only [List.map_toArray, List.map_cons, List.map_nil]); first | done | rfl | (simp only [List.length_drop, List.length_take]; rfl)) ?_; (with_reducible refine (masterdisclaw41_awake.calls  false _ A4.out).mono ?_); rintro e w47 ⟨rfl, hb⟩; refine ⟨_, rfl, ?_⟩; have n0_ := Aside0.mk (below_step (by repeat (first | (with_reducible first | exact HB.out | apply below_alloc | apply pw_below_drewN | apply below_drew1) | exact HB.out)) hb); clear HB; have HB := n0_; clear n0_; (try clear hb); (try clear hb2); (try clear hk); (try clear hi)))
    go_ret
    exact ⟨by first | rfl | (simp [errW_none, errW_some] <;> rfl) | (simp [*, errW_none, errW_some] <;> rfl), by repeat (first | (with_reducible first | exact HB.out | apply below_alloc | apply pw_below_drewN | apply below_drew1) | exact HB.out)⟩

/-- THE ONE PURE STATEMENT of masterdisclaw41_SpacebitmapTakes: yours. -/
def masterdisclaw41_SpacebitmapTakes.Pure : Prop := ∀ (a0 : ByteArray) (a1 : Int) (a2 : Int), a0.size ≤ 140737488351232 → (Lit.int .i64 a1).wf = true → (Lit.int .u16 a2).wf = true → ∃ k, masterdisclaw41_SpacebitmapTakes.f k a0 a1 a2 = some true
theorem masterdisclaw41_SpacebitmapTakes.walk (P : masterdisclaw41_SpacebitmapTakes.Pure) (a0 : ByteArray) (a1 : Int) (a2 : Int) (w : World) (w0 : a0.size ≤ 140737488351232) (w1 : (Lit.int .i64 a1).wf = true) (w2 : (Lit.int .u16 a2).wf = true) :
    Calls Try.prog 25 #[.string a0, .int .i64 a1, .int .u16 a2] w fun e w' => e = .returned (.bool true) ∧ Below w.heap.size w w' := by
  obtain ⟨k, h⟩ := P a0 a1 a2 w0 w1 w2
  refine (masterdisclaw41_SpacebitmapTakes.calls k a0 a1 a2 true w h).mono ?_
  rintro e w' ⟨rfl, hd⟩
  exact ⟨rfl, hd⟩

end Go.Proofs.Ytijbfebbogiiiaa.Q
