/- Contracts of Go functions: each call returns what the Lean function of its name says. Written by wip/gen.py (a patched print) for this claim. -/
import Derived.Test.YtijbfebbogiiiaaHAwake41
import Derived.Test.YtijbfebbogiiiaaHSpace1
import Derived.Test.YtijbfebbogiiiaaHSpace3
import Derived.Test.YtijbfebbogiiiaaQ0
import Derived.Test.YtijbfebbogiiiaaQ31
namespace Go.Proofs.Ytijbfebbogiiiaa.Q
open Go.RowKit Go.Proofs.YtijbfebbogiiiaaW.PrintWords Go.Proofs.YtijbfebbogiiiaaW.PrintLast Go.Proofs.YtijbfebbogiiiaaW.PrintMore
attribute [local go_sem] max2_int min2_int max_two min_two max_three min_three max_four min_four   -- for this text's walks alone
set_option linter.unusedVariables false
set_option linter.unusedSimpArgs false

/-! ### masterdisclaw41_SpacebitmapRuns: function 24 -/
mutual
def masterdisclaw41_SpacebitmapRuns.j0 : Nat → ByteArray → Int → Bool → Option (Bool)
  | 0, _, _, _ => none
  | k + 1, x0, x1, x22 => if x22 = true then (some true) else (if 0 ≤ x1 then (if (x1 : Int).toNat ≤ 281474976710656 then ((spacebitmap_Spans.f x0 x1).bind fun t842 => (masterdisclaw41_SpacebitmapRuns.l0 k x0 x1 (List.replicate (x1 : Int).toNat false) (-2) 0 t842 (t842.length : Int) 0)) else (none)) else (none))
def masterdisclaw41_SpacebitmapRuns.l0 : Nat → ByteArray → Int → List Bool → Int → Int → List (S76) → Int → Int → Option (Bool)
  | 0, _, _, _, _, _, _, _, _ => none
  | k + 1, x0, x1, x5, x6, x7, x27, x28, x29 => if x29 < x28 then (if 0 ≤ x29 then (if x29 < (x27.length : Int) then (if ((rd_T76 x27 x29).f1) < 1 then (masterdisclaw41_SpacebitmapRuns.j2 k x0 x1 x5 x7 x27 x28 x29 true ((rd_T76 x27 x29).f0) ((rd_T76 x27 x29).f1)) else (if ((rd_T76 x27 x29).f0) ≤ (wrap64 (x6 + 1)) then (if x6 ≥ 0 then (masterdisclaw41_SpacebitmapRuns.j2 k x0 x1 x5 x7 x27 x28 x29 true ((rd_T76 x27 x29).f0) ((rd_T76 x27 x29).f1)) else (if ((rd_T76 x27 x29).f0) < 0 then (masterdisclaw41_SpacebitmapRuns.j2 k x0 x1 x5 x7 x27 x28 x29 true ((rd_T76 x27 x29).f0) ((rd_T76 x27 x29).f1)) else (if ((rd_T76 x27 x29).f0) > x1 then (masterdisclaw41_SpacebitmapRuns.j2 k x0 x1 x5 x7 x27 x28 x29 true ((rd_T76 x27 x29).f0) ((rd_T76 x27 x29).f1)) else (masterdisclaw41_SpacebitmapRuns.j2 k x0 x1 x5 x7 x27 x28 x29 (decide (((rd_T76 x27 x29).f1) > (wrap64 (x1 - ((rd_T76 x27 x29).f0))))) ((rd_T76 x27 x29).f0) ((rd_T76 x27 x29).f1))))) else (if ((rd_T76 x27 x29).f0) < 0 then (masterdisclaw41_SpacebitmapRuns.j2 k x0 x1 x5 x7 x27 x28 x29 true ((rd_T76 x27 x29).f0) ((rd_T76 x27 x29).f1)) else (if ((rd_T76 x27 x29).f0) > x1 then (masterdisclaw41_SpacebitmapRuns.j2 k x0 x1 x5 x7 x27 x28 x29 true ((rd_T76 x27 x29).f0) ((rd_T76 x27 x29).f1)) else (masterdisclaw41_SpacebitmapRuns.j2 k x0 x1 x5 x7 x27 x28 x29 (decide (((rd_T76 x27 x29).f1) > (wrap64 (x1 - ((rd_T76 x27 x29).f0))))) ((rd_T76 x27 x29).f0) ((rd_T76 x27 x29).f1)))))) else (none)) else (none)) else (masterdisclaw41_SpacebitmapRuns.l2 k x0 x1 x5 x7 x1 0)
def masterdisclaw41_SpacebitmapRuns.j2 : Nat → ByteArray → Int → List Bool → Int → List (S76) → Int → Int → Bool → Int → Int → Option (Bool)
  | 0, _, _, _, _, _, _, _, _, _, _ => none
  | k + 1, x0, x1, x5, x7, x27, x28, x29, x66, x847000, x847001 => if x66 = true then (some false) else (masterdisclaw41_SpacebitmapRuns.l1 k x0 x1 x5 x7 x27 x28 x29 x847001 0 x847000 x847001)
def masterdisclaw41_SpacebitmapRuns.l1 : Nat → ByteArray → Int → List Bool → Int → List (S76) → Int → Int → Int → Int → Int → Int → Option (Bool)
  | 0, _, _, _, _, _, _, _, _, _, _, _ => none
  | k + 1, x0, x1, x5, x7, x27, x28, x29, x68, x69, x847000, x847001 => if x69 < x68 then (if 0 ≤ (wrap64 (x847000 + x69)) then (if (wrap64 (x847000 + x69)) < (x5.length : Int) then (masterdisclaw41_SpacebitmapRuns.l1 k x0 x1 (x5.set ((wrap64 (x847000 + x69)) : Int).toNat true) x7 x27 x28 x29 x68 (wrap64 (x69 + 1)) x847000 x847001) else (none)) else (none)) else (masterdisclaw41_SpacebitmapRuns.l0 k x0 x1 x5 (wrap64 ((wrap64 (x847000 + x847001)) - 1)) (wrap64 (x7 + x847001)) x27 x28 (wrap64 (x29 + 1)))
def masterdisclaw41_SpacebitmapRuns.l2 : Nat → ByteArray → Int → List Bool → Int → Int → Int → Option (Bool)
  | 0, _, _, _, _, _, _ => none
  | k + 1, x0, x1, x5, x7, x90, x91 => if x91 < x90 then (if 0 ≤ x91 then (if x91 < (x5.length : Int) then ((masterdisclaw41_free.f x0 x91).bind fun t849 => (if ((rdOf false x5 x91) != t849) = true then (some false) else (masterdisclaw41_SpacebitmapRuns.l2 k x0 x1 x5 x7 x90 (wrap64 (x91 + 1))))) else (none)) else (none)) else ((spacebitmap_Free.f x0 x1).bind fun t850 => (some (x7 == t850)))
end
def masterdisclaw41_SpacebitmapRuns.f (k : Nat) (a0 : ByteArray) (a1 : Int) : Option (Bool) := (masterdisclaw41_awake.f).bind fun t837 => (if t837 = true then (if (a0.size : Int) > 60 then (masterdisclaw41_SpacebitmapRuns.j0 k a0 a1 true) else ((masterdiscref41_Valid.f k a0 a1).bind fun t838 => (masterdisclaw41_SpacebitmapRuns.j0 k a0 a1 (!t838)))) else (some false))
theorem masterdisclaw41_SpacebitmapRuns.mono_l : ∀ k, (∀ y0 y1 y2, LeO (masterdisclaw41_SpacebitmapRuns.j0 k y0 y1 y2) (masterdisclaw41_SpacebitmapRuns.j0 (k + 1) y0 y1 y2)) ∧ (∀ y0 y1 y2 y3 y4 y5 y6 y7, LeO (masterdisclaw41_SpacebitmapRuns.l0 k y0 y1 y2 y3 y4 y5 y6 y7) (masterdisclaw41_SpacebitmapRuns.l0 (k + 1) y0 y1 y2 y3 y4 y5 y6 y7)) ∧ (∀ y0 y1 y2 y3 y4 y5 y6 y7 y8 y9, LeO (masterdisclaw41_SpacebitmapRuns.j2 k y0 y1 y2 y3 y4 y5 y6 y7 y8 y9) (masterdisclaw41_SpacebitmapRuns.j2 (k + 1) y0 y1 y2 y3 y4 y5 y6 y7 y8 y9)) ∧ (∀ y0 y1 y2 y3 y4 y5 y6 y7 y8 y9 y10, LeO (masterdisclaw41_SpacebitmapRuns.l1 k y0 y1 y2 y3 y4 y5 y6 y7 y8 y9 y10) (masterdisclaw41_SpacebitmapRuns.l1 (k + 1) y0 y1 y2 y3 y4 y5 y6 y7 y8 y9 y10)) ∧ (∀ y0 y1 y2 y3 y4 y5, LeO (masterdisclaw41_SpacebitmapRuns.l2 k y0 y1 y2 y3 y4 y5) (masterdisclaw41_SpacebitmapRuns.l2 (k + 1) y0 y1 y2 y3 y4 y5))
  | 0 => ⟨fun _ _ _ r h => by simp [masterdisclaw41_SpacebitmapRuns.j0] at h, fun _ _ _ _ _ _ _ _ r h => by simp [masterdisclaw41_SpacebitmapRuns.l0] at h, fun _ _ _ _ _ _ _ _ _ _ r h => by simp [masterdisclaw41_SpacebitmapRuns.j2] at h, fun _ _ _ _ _ _ _ _ _ _ _ r h => by simp [masterdisclaw41_SpacebitmapRuns.l1] at h, fun _ _ _ _ _ _ r h => by simp [masterdisclaw41_SpacebitmapRuns.l2] at h⟩
  | k + 1 => by
    obtain ⟨ih0, ih1, ih2, ih3, ih4⟩ := masterdisclaw41_SpacebitmapRuns.mono_l k
    refine ⟨?_, ?_, ?_, ?_, ?_⟩
    · intro y0 y1 y2
      unfold masterdisclaw41_SpacebitmapRuns.j0
      repeat' first
      | (with_reducible exact ih0 _ _ _)
      | (with_reducible exact ih1 _ _ _ _ _ _ _ _)
      | (with_reducible exact ih2 _ _ _ _ _ _ _ _ _ _)
      | (with_reducible exact ih3 _ _ _ _ _ _ _ _ _ _ _)
      | (with_reducible exact ih4 _ _ _ _ _ _)
      | (with_reducible exact masterdiscref41_Valid.mono _ _ _)
      | (with_reducible exact LeO.refl _)
      | (with_reducible exact LeO.none _)
      | (with_reducible refine LeO.ite ?_ ?_)
      | (with_reducible refine LeO.bind ?_ (fun _ => ?_))
      | exact ih0 _ _ _
      | exact ih1 _ _ _ _ _ _ _ _
      | exact ih2 _ _ _ _ _ _ _ _ _ _
      | exact ih3 _ _ _ _ _ _ _ _ _ _ _
      | exact ih4 _ _ _ _ _ _
      | exact masterdiscref41_Valid.mono _ _ _
      | exact LeO.none _
      | refine LeO.ite ?_ ?_
      | refine LeO.bind ?_ (fun _ => ?_)
    · intro y0 y1 y2 y3 y4 y5 y6 y7
      unfold masterdisclaw41_SpacebitmapRuns.l0
      repeat' first
      | (with_reducible exact ih0 _ _ _)
      | (with_reducible exact ih1 _ _ _ _ _ _ _ _)
      | (with_reducible exact ih2 _ _ _ _ _ _ _ _ _ _)
      | (with_reducible exact ih3 _ _ _ _ _ _ _ _ _ _ _)
      | (with_reducible exact ih4 _ _ _ _ _ _)
      | (with_reducible exact masterdiscref41_Valid.mono _ _ _)
      | (with_reducible exact LeO.refl _)
      | (with_reducible exact LeO.none _)
      | (with_reducible refine LeO.ite ?_ ?_)
      | (with_reducible refine LeO.bind ?_ (fun _ => ?_))
      | exact ih0 _ _ _
      | exact ih1 _ _ _ _ _ _ _ _
      | exact ih2 _ _ _ _ _ _ _ _ _ _
      | exact ih3 _ _ _ _ _ _ _ _ _ _ _
      | exact ih4 _ _ _ _ _ _
      | exact masterdiscref41_Valid.mono _ _ _
      | exact LeO.none _
      | refine LeO.ite ?_ ?_
      | refine LeO.bind ?_ (fun _ => ?_)
    · intro y0 y1 y2 y3 y4 y5 y6 y7 y8 y9
      unfold masterdisclaw41_SpacebitmapRuns.j2
      repeat' first
      | (with_reducible exact ih0 _ _ _)
      | (with_reducible exact ih1 _ _ _ _ _ _ _ _)
      | (with_reducible exact ih2 _ _ _ _ _ _ _ _ _ _)
      | (with_reducible exact ih3 _ _ _ _ _ _ _ _ _ _ _)
      | (with_reducible exact ih4 _ _ _ _ _ _)
      | (with_reducible exact masterdiscref41_Valid.mono _ _ _)
      | (with_reducible exact LeO.refl _)
      | (with_reducible exact LeO.none _)
      | (with_reducible refine LeO.ite ?_ ?_)
      | (with_reducible refine LeO.bind ?_ (fun _ => ?_))
      | exact ih0 _ _ _
      | exact ih1 _ _ _ _ _ _ _ _
      | exact ih2 _ _ _ _ _ _ _ _ _ _
      | exact ih3 _ _ _ _ _ _ _ _ _ _ _
      | exact ih4 _ _ _ _ _ _
      | exact masterdiscref41_Valid.mono _ _ _
      | exact LeO.none _
      | refine LeO.ite ?_ ?_
      | refine LeO.bind ?_ (fun _ => ?_)
    · intro y0 y1 y2 y3 y4 y5 y6 y7 y8 y9 y10
      unfold masterdisclaw41_SpacebitmapRuns.l1
      repeat' first
      | (with_reducible exact ih0 _ _ _)
      | (with_reducible exact ih1 _ _ _ _ _ _ _ _)
      | (with_reducible exact ih2 _ _ _ _ _ _ _ _ _ _)
      | (with_reducible exact ih3 _ _ _ _ _ _ _ _ _ _ _)
      | (with_reducible exact ih4 _ _ _ _ _ _)
      | (with_reducible exact masterdiscref41_Valid.mono _ _ _)
      | (with_reducible exact LeO.refl _)
      | (with_reducible exact LeO.none _)
      | (with_reducible refine LeO.ite ?_ ?_)
      | (with_reducible refine LeO.bind ?_ (fun _ => ?_))
      | exact ih0 _ _ _
      | exact ih1 _ _ _ _ _ _ _ _
      | exact ih2 _ _ _ _ _ _ _ _ _ _
      | exact ih3 _ _ _ _ _ _ _ _ _ _ _
      | exact ih4 _ _ _ _ _ _
      | exact masterdiscref41_Valid.mono _ _ _
      | exact LeO.none _
      | refine LeO.ite ?_ ?_
      | refine LeO.bind ?_ (fun _ => ?_)
    · intro y0 y1 y2 y3 y4 y5
      unfold masterdisclaw41_SpacebitmapRuns.l2
      repeat' first
      | (with_reducible exact ih0 _ _ _)
      | (with_reducible exact ih1 _ _ _ _ _ _ _ _)
      | (with_reducible exact ih2 _ _ _ _ _ _ _ _ _ _)
      | (with_reducible exact ih3 _ _ _ _ _ _ _ _ _ _ _)
      | (with_reducible exact ih4 _ _ _ _ _ _)
      | (with_reducible exact masterdiscref41_Valid.mono _ _ _)
      | (with_reducible exact LeO.refl _)
      | (with_reducible exact LeO.none _)
      | (with_reducible refine LeO.ite ?_ ?_)
      | (with_reducible refine LeO.bind ?_ (fun _ => ?_))
      | exact ih0 _ _ _
      | exact ih1 _ _ _ _ _ _ _ _
      | exact ih2 _ _ _ _ _ _ _ _ _ _
      | exact ih3 _ _ _ _ _ _ _ _ _ _ _
      | exact ih4 _ _ _ _ _ _
      | exact masterdiscref41_Valid.mono _ _ _
      | exact LeO.none _
      | refine LeO.ite ?_ ?_
      | refine LeO.bind ?_ (fun _ => ?_)
theorem masterdisclaw41_SpacebitmapRuns.mono : ∀ a0 a1 k, LeO (masterdisclaw41_SpacebitmapRuns.f k a0 a1) (masterdisclaw41_SpacebitmapRuns.f (k + 1) a0 a1) := by
  intro a0 a1 k
  obtain ⟨ih0, ih1, ih2, ih3, ih4⟩ := masterdisclaw41_SpacebitmapRuns.mono_l k
  unfold masterdisclaw41_SpacebitmapRuns.f
  repeat' first
      | (with_reducible exact ih0 _ _ _)
      | (with_reducible exact ih1 _ _ _ _ _ _ _ _)
      | (with_reducible exact ih2 _ _ _ _ _ _ _ _ _ _)
      | (with_reducible exact ih3 _ _ _ _ _ _ _ _ _ _ _)
      | (with_reducible exact ih4 _ _ _ _ _ _)
      | (with_reducible exact masterdiscref41_Valid.mono _ _ _)
      | (with_reducible exact LeO.refl _)
      | (with_reducible exact LeO.none _)
      | (with_reducible refine LeO.ite ?_ ?_)
      | (with_reducible refine LeO.bind ?_ (fun _ => ?_))
      | exact ih0 _ _ _
      | exact ih1 _ _ _ _ _ _ _ _
      | exact ih2 _ _ _ _ _ _ _ _ _ _
      | exact ih3 _ _ _ _ _ _ _ _ _ _ _
      | exact ih4 _ _ _ _ _ _
      | exact masterdiscref41_Valid.mono _ _ _
      | exact LeO.none _
      | refine LeO.ite ?_ ?_
      | refine LeO.bind ?_ (fun _ => ?_)
set_option maxHeartbeats 8000000 in
set_option maxRecDepth 100000 in
theorem masterdisclaw41_SpacebitmapRuns.calls (k : Nat) (a0 : ByteArray) (a1 : Int) (r : Bool) (w : World) (h : masterdisclaw41_SpacebitmapRuns.f k a0 a1 = some r) :
    Calls Try.prog 24 #[.string a0, .int .i64 a1] w fun e w' => e = .returned (.bool r) ∧ Below w.heap.size w w' := by
  have hu76 := Try.underlying76
  have HB := Aside0.mk (Below.refl w.heap.size w)
  have H : ((masterdisclaw41_awake.f).bind fun t837 => (if t837 = true then (if (a0.size : Int) > 60 then (masterdisclaw41_SpacebitmapRuns.j0 k a0 a1 true) else ((masterdiscref41_Valid.f k a0 a1).bind fun t838 => (masterdisclaw41_SpacebitmapRuns.j0 k a0 a1 (!t838)))) else (some false))) = some r := h
  clear h
  replace H := Option.bind_eq_some_iff.mp H
  obtain ⟨t837, A30, H⟩ := H
  replace H : (if t837 = true then (if (a0.size : Int) > 60 then (masterdisclaw41_SpacebitmapRuns.j0 k a0 a1 true) else ((masterdiscref41_Valid.f k a0 a1).bind fun t838 => (masterdisclaw41_SpacebitmapRuns.j0 k a0 a1 (!t838)))) else (some false)) = some r := H
  have A3 := Aside0.mk A30
  clear A30
  by_cases c4 : t837 = true
  · subst c4
    have H1 : (if (a0.size : Int) > 60 then (masterdisclaw41_SpacebitmapRuns.j0 k a0 a1 true) else ((masterdiscref41_Valid.f k a0 a1).bind fun t838 => (masterdisclaw41_SpacebitmapRuns.j0 k a0 a1 (!t838)))) = some r := by rw [if_pos rfl] at H; exact H
    clear H
    have H := H1
    clear H1
    have HC5 := Aside0.mk H
    clear H
    go_enter Try.func24, Try.ntmps24
    go_upto_region 3 with (first | (go_at_call 43; (with_reducible refine (masterdisclaw41_awake.calls  true _ A3.out).mono ?_); rintro e w6 ⟨rfl, hb⟩; have n0_ := Aside0.mk (below_step (by repeat (first | (with_reducible first | exact HB.out | apply below_alloc | apply pw_below_drewN | apply below_drew1) | exact HB.out)) hb); clear HB; have HB := n0_; clear n0_; (try clear hb); (try clear hb2); (try clear hk); (try clear hi)))
    repeat (go_quiet (first | (go_at_call 43; (with_reducible refine (masterdisclaw41_awake.calls  true _ A3.out).mono ?_); rintro e w6 ⟨rfl, hb⟩; have n0_ := Aside0.mk (below_step (by repeat (first | (with_reducible first | exact HB.out | apply below_alloc | apply pw_below_drewN | apply below_drew1) | exact HB.out)) hb); clear HB; have HB := n0_; clear n0_; (try clear hb); (try clear hb2); (try clear hk); (try clear hi))); go_upto_region 3 with (first | (go_at_call 43; (with_reducible refine (masterdisclaw41_awake.calls  true _ A3.out).mono ?_); rintro e w6 ⟨rfl, hb⟩; have n0_ := Aside0.mk (below_step (by repeat (first | (with_reducible first | exact HB.out | apply below_alloc | apply pw_below_drewN | apply below_drew1) | exact HB.out)) hb); clear HB; have HB := n0_; clear n0_; (try clear hb); (try clear hb2); (try clear hk); (try clear hi))))
    (try simp only [Act.put, List.setIfInBounds_toArray, List.set_cons_zero, List.set_cons_succ])
    go_cut [22] (fun v22 wc => ∃ (kq : Nat) (x22_4 : Bool), v22 = .bool x22_4 ∧ Aside0 (masterdisclaw41_SpacebitmapRuns.j0 kq a0 a1 x22_4 = some r) ∧ Aside0 (kq ≤ k) ∧ Aside0 (Below w.heap.size w wc))
    case first =>
      have H := HC5.out
      clear HC5
      by_cases c7 : (a0.size : Int) > 60
      · rw [if_pos c7] at H
        have c7b0 : decide (60 < (a0.size : Int)) = true := decide_eq_true c7
        have c7b1 : decide (60 < a0.size) = true := decide_eq_true (by omega)
        clear c7
        (first | rw [c7b0] | (simp only [i64_w, i32_w]; rw [c7b0]) | skip)
        have H' := Aside0.mk H
        clear H
        go_wp2
        repeat (go_quiet (fail); try go_wp2)
        go_meet
        case rel => exact ⟨_, (true), (by first | rfl | (simp; done) | (simp [*]; done)), H', ⟨by first | omega | exact Nat.le_refl _⟩, ⟨by repeat (first | (with_reducible first | exact HB.out | apply below_alloc | apply pw_below_drewN | apply below_drew1) | exact HB.out)⟩⟩
      · rw [if_neg c7] at H
        have c7b0 : decide (60 < (a0.size : Int)) = false := decide_eq_false c7
        have c7b1 : decide (60 < a0.size) = false := decide_eq_false (by omega)
        clear c7
        (first | rw [c7b0] | (simp only [i64_w, i32_w]; rw [c7b0]) | skip)
        replace H := Option.bind_eq_some_iff.mp H
        obtain ⟨t838, A80, H⟩ := H
        replace H : (masterdisclaw41_SpacebitmapRuns.j0 k a0 a1 (!t838)) = some r := H
        have A8 := Aside0.mk A80
        clear A80
        have H' := Aside0.mk H
        clear H
        go_wp2_with (first | (go_at_call 44; (with_reducible refine (masterdiscref41_Valid.calls k a0 a1 t838 _ A8.out).mono ?_); rintro e w9 ⟨rfl, hb⟩; have n0_ := Aside0.mk (below_step (by repeat (first | (with_reducible first | exact HB.out | apply below_alloc | apply pw_below_drewN | apply below_drew1) | exact HB.out)) hb); clear HB; have HB := n0_; clear n0_; (try clear hb); (try clear hb2); (try clear hk); (try clear hi)))
        repeat (go_quiet (first | (go_at_call 44; (with_reducible refine (masterdiscref41_Valid.calls k a0 a1 t838 _ A8.out).mono ?_); rintro e w9 ⟨rfl, hb⟩; have n0_ := Aside0.mk (below_step (by repeat (first | (with_reducible first | exact HB.out | apply below_alloc | apply pw_below_drewN | apply below_drew1) | exact HB.out)) hb); clear HB; have HB := n0_; clear n0_; (try clear hb); (try clear hb2); (try clear hk); (try clear hi))); try go_wp2_with (first | (go_at_call 44; (with_reducible refine (masterdiscref41_Valid.calls k a0 a1 t838 _ A8.out).mono ?_); rintro e w9 ⟨rfl, hb⟩; have n0_ := Aside0.mk (below_step (by repeat (first | (with_reducible first | exact HB.out | apply below_alloc | apply pw_below_drewN | apply below_drew1) | exact HB.out)) hb); clear HB; have HB := n0_; clear n0_; (try clear hb); (try clear hb2); (try clear hk); (try clear hi))))
        go_meet
        case rel => exact ⟨_, (!t838), (by first | rfl | (simp; done) | (simp [*]; done)), H', ⟨by first | omega | exact Nat.le_refl _⟩, ⟨by repeat (first | (with_reducible first | exact HB.out | apply below_alloc | apply pw_below_drewN | apply below_drew1) | exact HB.out)⟩⟩
    case rest =>
      clear HC5
      try clear c2
      try clear p2
      try clear c4
      try clear c7
      try clear c7b0
      try clear c7b1
      obtain ⟨kq, x22_4, rfl, HA, HJ4, HB⟩ := hcut
      cases kq with
      | zero => exact absurd HA.out (by simp [masterdisclaw41_SpacebitmapRuns.j0])
      | succ kj4 =>
        have H := HA.out
        clear HA
        simp only [masterdisclaw41_SpacebitmapRuns.j0] at H
        by_cases c10 : x22_4 = true
        · subst c10
          have H1 : (some true) = some r := by rw [if_pos rfl] at H; exact H
          clear H
          have H := H1
          clear H1
          obtain rfl := Option.some.inj H
          go_wp2
          repeat (go_quiet (fail); try go_wp2)
          go_ret
          exact ⟨by first | rfl | (simp [errW_none, errW_some] <;> rfl) | (simp [*, errW_none, errW_some] <;> rfl), by repeat (first | (with_reducible first | exact HB.out | apply below_alloc | apply pw_below_drewN | apply below_drew1) | exact HB.out)⟩
        · replace c10 := Bool.eq_false_iff.mpr c10
          subst c10
          have H1 : (if 0 ≤ a1 then (if (a1 : Int).toNat ≤ 281474976710656 then ((spacebitmap_Spans.f a0 a1).bind fun t842 => (masterdisclaw41_SpacebitmapRuns.l0 kj4 a0 a1 (List.replicate (a1 : Int).toNat false) (-2) 0 t842 (t842.length : Int) 0)) else (none)) else (none)) = some r := by rw [if_neg (show ¬ (false = true) by decide)] at H; exact H
          clear H
          have H := H1
          clear H1
          by_cases c11 : 0 ≤ a1
          · rw [if_pos c11] at H
            have c11b0 := eq_true c11
            have c11b1 : decide (0 ≤ a1) = true := decide_eq_true c11
            clear c11
            by_cases c12 : (a1 : Int).toNat ≤ 281474976710656
            · rw [if_pos c12] at H
              have c12b0 := eq_true c12
              have c12b1 : decide ((a1 : Int).toNat ≤ 281474976710656) = true := decide_eq_true c12
              clear c12
              obtain ⟨y839, hy839⟩ : ∃ y_ : List Bool, y_ = (List.replicate (a1 : Int).toNat false) := ⟨_, rfl⟩
              replace H : ((spacebitmap_Spans.f a0 a1).bind fun t842 => (masterdisclaw41_SpacebitmapRuns.l0 kj4 a0 a1 y839 (-2) 0 t842 (t842.length : Int) 0)) = some r := by first | (rw [hy839]; with_reducible exact H) | (have H2_ := (Option.bind_some _ _).symm.trans H; rw [hy839]; with_reducible exact H2_) | (have H2_ := (Option.bind_some _ _).symm.trans H; with_reducible exact H2_) | with_reducible exact H | (rw [hy839]; exact H) | exact H
              have Ny839 := Aside0.mk hy839
              clear hy839
              replace H := Option.bind_eq_some_iff.mp H
              obtain ⟨t842, A130, H⟩ := H
              replace H : (masterdisclaw41_SpacebitmapRuns.l0 kj4 a0 a1 y839 (-2) 0 t842 (t842.length : Int) 0) = some r := H
              have A13 := Aside0.mk A130
              clear A130
              have H' := Aside0.mk H
              clear H
              go_wp2_with (first | ((with_reducible refine gate_dst (N := 24) rfl ?_); refine Kd.R_make Kd.bool _ 4 rfl (N := 24) rfl 85 _ _ rfl a1 rfl rfl Try.underlying85 (.bool false) 1 info4 rfl (by decide) (by omega) false (ok := fun _ => True) (okp := fun _ => True) rfl (fun _ hk => hk) trivial (of_decide_eq_true (by first | (with_reducible assumption) | assumption)) (Nat.le_trans (Nat.mul_le_mul_right _ (of_decide_eq_true (by first | (with_reducible assumption) | assumption) : a1.toNat ≤ 281474976710656)) (by omega)) (Below.refl _ _) (Nat.le_refl _) ?_; intro v840 w14 ho15 hb hg_ hnew_; clear hg_ hnew_; (first | rw [← Ny839.out] at ho15 | (simp only [Int.reduceToNat] at ho15; rw [← Ny839.out] at ho15)); have n0_ := Aside0.mk (Kd.R_lower ho15 (below_size (by repeat (first | (with_reducible first | exact HB.out | apply below_alloc | apply pw_below_drewN | apply below_drew1) | exact HB.out)))); have n1_ := Aside0.mk (below_step (by repeat (first | (with_reducible first | exact HB.out | apply below_alloc | apply pw_below_drewN | apply below_drew1) | exact HB.out)) hb); clear HB; have HO841 := n0_; have HB := n1_; clear n0_ n1_; clear hb ho15) | (go_at_call 82; (with_reducible refine (spacebitmap_Spans.calls a0 a1 t842 _ A13.out).mono ?_); rintro e w16 ⟨v843, rfl, ho0, hb⟩; have n0_ := Aside0.mk (Kd.R_below (by (with_reducible repeat (first | apply Kd.R_alloc | apply Kd.R_drewN | apply Kd.R_drew)); exact HO841.out) hb); have n1_ := Aside0.mk (Kd.R_lower ho0 (below_size (by repeat (first | (with_reducible first | exact HB.out | apply below_alloc | apply pw_below_drewN | apply below_drew1) | exact HB.out)))); have n2_ := Aside0.mk (below_step (by repeat (first | (with_reducible first | exact HB.out | apply below_alloc | apply pw_below_drewN | apply below_drew1) | exact HB.out)) hb); clear HO841; clear HB; have HO841 := n0_; have HO844 := n1_; have HB := n2_; clear n0_ n1_ n2_; (try clear hb); (try clear hb2); (try clear hk); (try clear hi); (try clear ho0); obtain ⟨Ao17, co17, eo17⟩ := Kd.R_slice HO844.out; subst eo17))
              repeat (go_quiet (first | ((with_reducible refine gate_dst (N := 24) rfl ?_); refine Kd.R_make Kd.bool _ 4 rfl (N := 24) rfl 85 _ _ rfl a1 rfl rfl Try.underlying85 (.bool false) 1 info4 rfl (by decide) (by omega) false (ok := fun _ => True) (okp := fun _ => True) rfl (fun _ hk => hk) trivial (of_decide_eq_true (by first | (with_reducible assumption) | assumption)) (Nat.le_trans (Nat.mul_le_mul_right _ (of_decide_eq_true (by first | (with_reducible assumption) | assumption) : a1.toNat ≤ 281474976710656)) (by omega)) (Below.refl _ _) (Nat.le_refl _) ?_; intro v840 w14 ho15 hb hg_ hnew_; clear hg_ hnew_; (first | rw [← Ny839.out] at ho15 | (simp only [Int.reduceToNat] at ho15; rw [← Ny839.out] at ho15)); have n0_ := Aside0.mk (Kd.R_lower ho15 (below_size (by repeat (first | (with_reducible first | exact HB.out | apply below_alloc | apply pw_below_drewN | apply below_drew1) | exact HB.out)))); have n1_ := Aside0.mk (below_step (by repeat (first | (with_reducible first | exact HB.out | apply below_alloc | apply pw_below_drewN | apply below_drew1) | exact HB.out)) hb); clear HB; have HO841 := n0_; have HB := n1_; clear n0_ n1_; clear hb ho15) | (go_at_call 82; (with_reducible refine (spacebitmap_Spans.calls a0 a1 t842 _ A13.out).mono ?_); rintro e w16 ⟨v843, rfl, ho0, hb⟩; have n0_ := Aside0.mk (Kd.R_below (by (with_reducible repeat (first | apply Kd.R_alloc | apply Kd.R_drewN | apply Kd.R_drew)); exact HO841.out) hb); have n1_ := Aside0.mk (Kd.R_lower ho0 (below_size (by repeat (first | (with_reducible first | exact HB.out | apply below_alloc | apply pw_below_drewN | apply below_drew1) | exact HB.out)))); have n2_ := Aside0.mk (below_step (by repeat (first | (with_reducible first | exact HB.out | apply below_alloc | apply pw_below_drewN | apply below_drew1) | exact HB.out)) hb); clear HO841; clear HB; have HO841 := n0_; have HO844 := n1_; have HB := n2_; clear n0_ n1_ n2_; (try clear hb); (try clear hb2); (try clear hk); (try clear hi); (try clear ho0); obtain ⟨Ao17, co17, eo17⟩ := Kd.R_slice HO844.out; subst eo17)); try go_wp2_with (first | ((with_reducible refine gate_dst (N := 24) rfl ?_); refine Kd.R_make Kd.bool _ 4 rfl (N := 24) rfl 85 _ _ rfl a1 rfl rfl Try.underlying85 (.bool false) 1 info4 rfl (by decide) (by omega) false (ok := fun _ => True) (okp := fun _ => True) rfl (fun _ hk => hk) trivial (of_decide_eq_true (by first | (with_reducible assumption) | assumption)) (Nat.le_trans (Nat.mul_le_mul_right _ (of_decide_eq_true (by first | (with_reducible assumption) | assumption) : a1.toNat ≤ 281474976710656)) (by omega)) (Below.refl _ _) (Nat.le_refl _) ?_; intro v840 w14 ho15 hb hg_ hnew_; clear hg_ hnew_; (first | rw [← Ny839.out] at ho15 | (simp only [Int.reduceToNat] at ho15; rw [← Ny839.out] at ho15)); have n0_ := Aside0.mk (Kd.R_lower ho15 (below_size (by repeat (first | (with_reducible first | exact HB.out | apply below_alloc | apply pw_below_drewN | apply below_drew1) | exact HB.out)))); have n1_ := Aside0.mk (below_step (by repeat (first | (with_reducible first | exact HB.out | apply below_alloc | apply pw_below_drewN | apply below_drew1) | exact HB.out)) hb); clear HB; have HO841 := n0_; have HB := n1_; clear n0_ n1_; clear hb ho15) | (go_at_call 82; (with_reducible refine (spacebitmap_Spans.calls a0 a1 t842 _ A13.out).mono ?_); rintro e w16 ⟨v843, rfl, ho0, hb⟩; have n0_ := Aside0.mk (Kd.R_below (by (with_reducible repeat (first | apply Kd.R_alloc | apply Kd.R_drewN | apply Kd.R_drew)); exact HO841.out) hb); have n1_ := Aside0.mk (Kd.R_lower ho0 (below_size (by repeat (first | (with_reducible first | exact HB.out | apply below_alloc | apply pw_below_drewN | apply below_drew1) | exact HB.out)))); have n2_ := Aside0.mk (below_step (by repeat (first | (with_reducible first | exact HB.out | apply below_alloc | apply pw_below_drewN | apply below_drew1) | exact HB.out)) hb); clear HO841; clear HB; have HO841 := n0_; have HO844 := n1_; have HB := n2_; clear n0_ n1_ n2_; (try clear hb); (try clear hb2); (try clear hk); (try clear hi); (try clear ho0); obtain ⟨Ao17, co17, eo17⟩ := Kd.R_slice HO844.out; subst eo17)))
              go_loopg [6, 7, 29] kj4 (fun kq v6 v7 v29 w' => ∃ (x5_2 : List Bool) (x6_2 : Int) (x7_2 : Int) (x29_2 : Int), v6 = .int .i64 x6_2 ∧ v7 = .int .i64 x7_2 ∧ v29 = .int .i64 x29_2 ∧ Aside0 (masterdisclaw41_SpacebitmapRuns.l0 kq a0 a1 x5_2 x6_2 x7_2 t842 (t842.length : Int) x29_2 = some r) ∧ Aside0 (kq ≤ kj4) ∧ Aside0 (Kd.R Kd.bool 4 w' w.heap.size (fun _ => True) v840 x5_2) ∧ Aside0 (Kd.R k76 76 w' w.heap.size (fun _ => True) (.slice Ao17 t842.length co17) t842) ∧ Aside0 (Below w.heap.size w w'))
              case atStart => exact ⟨(y839), ((-2)), (0), (0), (by first | rfl | (simp; done) | (simp [*]; done)), (by first | rfl | (simp; done) | (simp [*]; done)), (by first | rfl | (simp; done) | (simp [*]; done)), H', ⟨Nat.le_refl _⟩, ⟨by (with_reducible repeat (first | apply Kd.R_alloc | apply Kd.R_drewN | apply Kd.R_drew)); exact HO841.out⟩, ⟨by (with_reducible repeat (first | apply Kd.R_alloc | apply Kd.R_drewN | apply Kd.R_drew)); exact HO844.out⟩, ⟨by repeat (first | (with_reducible first | exact HB.out | apply below_alloc | apply pw_below_drewN | apply below_drew1) | exact HB.out)⟩⟩
              case round =>
                clear H'
                try clear c1
                try clear c2
                try clear p2
                try clear c4
                try clear c7
                try clear c7b0
                try clear c7b1
                try clear c10
                try clear c11
                try clear c11b0
                try clear c11b1
                try clear c12
                try clear c12b0
                try clear c12b1
                try clear p2
                obtain ⟨x5_2, x6_2, x7_2, x29_2, rfl, rfl, rfl, HA, HK2, HO_5, HO_27, HB⟩ := hrel
                cases gk with
                | zero => exact absurd HA.out (by simp [masterdisclaw41_SpacebitmapRuns.l0])
                | succ k2 =>
                  have H := HA.out
                  clear HA
                  simp only [masterdisclaw41_SpacebitmapRuns.l0] at H
                  by_cases c18 : x29_2 < (t842.length : Int)
                  · rw [if_pos c18] at H
                    have c18b0 : decide (x29_2 < (t842.length : Int)) = true := decide_eq_true c18
                    clear c18
                    by_cases c19 : 0 ≤ x29_2
                    · rw [if_pos c19] at H
                      have c19b0 : decide (0 ≤ x29_2) = true := decide_eq_true c19
                      clear c19
                      by_cases c20 : x29_2 < (t842.length : Int)
                      · rw [if_pos c20] at H
                        have c20b0 : decide (x29_2 < (t842.length : Int)) = true := decide_eq_true c20
                        clear c20
                        have HC21 := Aside0.mk H
                        clear H
                        have p845 : 0 ≤ (x29_2 : Int) := of_decide_eq_true (by first | (with_reducible assumption) | assumption)
                        have q845 : x29_2 < (t842.length : Int) := of_decide_eq_true (by first | (with_reducible assumption) | assumption)
                        obtain ⟨ad845, e845, hx845_0, hx845_1⟩ := at_T76 (Kd.R_reads' HO_27.out).2.2 x29_2 p845 q845
                        cases e845
                        replace p845 := eq_true p845
                        replace q845 := eq_true q845
                        go_upto_region 10 with (first | ((with_reducible refine gate_dst (N := 9) rfl ?_); refine box_event ?hg (N := 9) ?hd (cs := #[.int .i64 0, .int .i64 0]) (t := 76) ?hr ?_; (case hd => rfl); (case hg => rfl); (case hr => first | (go_simp; done) | (go_simp; rfl)); intro gb846 hg w22 hbox hb; have n0_ := Aside0.mk (Kd.R_below (by (with_reducible repeat (first | apply Kd.R_alloc | apply Kd.R_drewN | apply Kd.R_drew)); exact HO_5.out) hb); have n1_ := Aside0.mk (Kd.R_below (Kd.R_elderB (by (with_reducible repeat (first | apply Kd.R_alloc | apply Kd.R_drewN | apply Kd.R_drew)); exact HO_27.out) gb846 (Nat.le_of_eq hg.symm)) hb); have n2_ := Aside0.mk (below_step (by repeat (first | (with_reducible first | exact HB.out | apply below_alloc | apply pw_below_drewN | apply below_drew1) | exact HB.out)) hb); have n3_ := Aside0.mk (hbox); have n4_ := Aside0.mk ((by rw [hg]; exact (below_size (by repeat (first | (with_reducible first | exact HB.out | apply below_alloc | apply pw_below_drewN | apply below_drew1) | exact HB.out))) : w.heap.size ≤ gb846)); have n5_ := Aside0.mk ((by rw [hg]; exact (below_size (by repeat (first | (with_reducible first | exact HB.out | apply below_alloc | apply pw_below_drewN | apply below_drew1) | exact HB.out))) : w.heap.size ≤ gb846)); clear HO_5; clear HO_27; clear HB; have HO_5 := n0_; have HO_27 := n1_; have HB := n2_; have BK846 := n3_; have GW846 := n4_; have GE846 := n5_; clear n0_ n1_ n2_ n3_ n4_ n5_; clear hb hbox hg; have hcz23_0 : w22.cell? ⟨gb846, 0, none⟩ = some (.int .i64 0) := (blk_cell BK846.out 0).trans rfl; have hcz23_1 : w22.cell? ⟨gb846, 1, none⟩ = some (.int .i64 0) := (blk_cell BK846.out 1).trans rfl; have hfz23_0 := blk_frozen BK846.out 0; have hfz23_1 := blk_frozen BK846.out 1))
                        repeat (go_quiet (first | ((with_reducible refine gate_dst (N := 9) rfl ?_); refine box_event ?hg (N := 9) ?hd (cs := #[.int .i64 0, .int .i64 0]) (t := 76) ?hr ?_; (case hd => rfl); (case hg => rfl); (case hr => first | (go_simp; done) | (go_simp; rfl)); intro gb846 hg w22 hbox hb; have n0_ := Aside0.mk (Kd.R_below (by (with_reducible repeat (first | apply Kd.R_alloc | apply Kd.R_drewN | apply Kd.R_drew)); exact HO_5.out) hb); have n1_ := Aside0.mk (Kd.R_below (Kd.R_elderB (by (with_reducible repeat (first | apply Kd.R_alloc | apply Kd.R_drewN | apply Kd.R_drew)); exact HO_27.out) gb846 (Nat.le_of_eq hg.symm)) hb); have n2_ := Aside0.mk (below_step (by repeat (first | (with_reducible first | exact HB.out | apply below_alloc | apply pw_below_drewN | apply below_drew1) | exact HB.out)) hb); have n3_ := Aside0.mk (hbox); have n4_ := Aside0.mk ((by rw [hg]; exact (below_size (by repeat (first | (with_reducible first | exact HB.out | apply below_alloc | apply pw_below_drewN | apply below_drew1) | exact HB.out))) : w.heap.size ≤ gb846)); have n5_ := Aside0.mk ((by rw [hg]; exact (below_size (by repeat (first | (with_reducible first | exact HB.out | apply below_alloc | apply pw_below_drewN | apply below_drew1) | exact HB.out))) : w.heap.size ≤ gb846)); clear HO_5; clear HO_27; clear HB; have HO_5 := n0_; have HO_27 := n1_; have HB := n2_; have BK846 := n3_; have GW846 := n4_; have GE846 := n5_; clear n0_ n1_ n2_ n3_ n4_ n5_; clear hb hbox hg; have hcz23_0 : w22.cell? ⟨gb846, 0, none⟩ = some (.int .i64 0) := (blk_cell BK846.out 0).trans rfl; have hcz23_1 : w22.cell? ⟨gb846, 1, none⟩ = some (.int .i64 0) := (blk_cell BK846.out 1).trans rfl; have hfz23_0 := blk_frozen BK846.out 0; have hfz23_1 := blk_frozen BK846.out 1)); go_upto_region 10 with (first | ((with_reducible refine gate_dst (N := 9) rfl ?_); refine box_event ?hg (N := 9) ?hd (cs := #[.int .i64 0, .int .i64 0]) (t := 76) ?hr ?_; (case hd => rfl); (case hg => rfl); (case hr => first | (go_simp; done) | (go_simp; rfl)); intro gb846 hg w22 hbox hb; have n0_ := Aside0.mk (Kd.R_below (by (with_reducible repeat (first | apply Kd.R_alloc | apply Kd.R_drewN | apply Kd.R_drew)); exact HO_5.out) hb); have n1_ := Aside0.mk (Kd.R_below (Kd.R_elderB (by (with_reducible repeat (first | apply Kd.R_alloc | apply Kd.R_drewN | apply Kd.R_drew)); exact HO_27.out) gb846 (Nat.le_of_eq hg.symm)) hb); have n2_ := Aside0.mk (below_step (by repeat (first | (with_reducible first | exact HB.out | apply below_alloc | apply pw_below_drewN | apply below_drew1) | exact HB.out)) hb); have n3_ := Aside0.mk (hbox); have n4_ := Aside0.mk ((by rw [hg]; exact (below_size (by repeat (first | (with_reducible first | exact HB.out | apply below_alloc | apply pw_below_drewN | apply below_drew1) | exact HB.out))) : w.heap.size ≤ gb846)); have n5_ := Aside0.mk ((by rw [hg]; exact (below_size (by repeat (first | (with_reducible first | exact HB.out | apply below_alloc | apply pw_below_drewN | apply below_drew1) | exact HB.out))) : w.heap.size ≤ gb846)); clear HO_5; clear HO_27; clear HB; have HO_5 := n0_; have HO_27 := n1_; have HB := n2_; have BK846 := n3_; have GW846 := n4_; have GE846 := n5_; clear n0_ n1_ n2_ n3_ n4_ n5_; clear hb hbox hg; have hcz23_0 : w22.cell? ⟨gb846, 0, none⟩ = some (.int .i64 0) := (blk_cell BK846.out 0).trans rfl; have hcz23_1 : w22.cell? ⟨gb846, 1, none⟩ = some (.int .i64 0) := (blk_cell BK846.out 1).trans rfl; have hfz23_0 := blk_frozen BK846.out 0; have hfz23_1 := blk_frozen BK846.out 1)))
                        (try simp only [Act.put, List.setIfInBounds_toArray, List.set_cons_zero, List.set_cons_succ])
                        go_cut [66] (fun v66 wc => ∃ (kq : Nat) (x66_20 : Bool), v66 = .bool x66_20 ∧ Aside0 (masterdisclaw41_SpacebitmapRuns.j2 kq a0 a1 x5_2 x7_2 t842 (t842.length : Int) x29_2 x66_20 ((rd_T76 t842 x29_2).f0) ((rd_T76 t842 x29_2).f1) = some r) ∧ Aside0 (kq ≤ k2) ∧ Aside0 (Kd.R Kd.bool 4 wc w.heap.size (fun _ => True) v840 x5_2) ∧ Aside0 (Kd.R k76 76 wc w.heap.size (fun k_ => k_ ≠ gb846) (.slice (some ad845) t842.length co17) t842) ∧ Aside0 (wc.heap[gb846]? = some (.cells #[.int .i64 ((rd_T76 t842 x29_2).f0), .int .i64 ((rd_T76 t842 x29_2).f1)] 76 (0, 0))) ∧ Aside0 (Below w.heap.size w wc))
                        case first =>
                          have H := HC21.out
                          clear HC21
                          by_cases c24 : ((rd_T76 t842 x29_2).f1) < 1
                          · rw [if_pos c24] at H
                            have c24b0 : decide (((rd_T76 t842 x29_2).f1) < 1) = true := decide_eq_true c24
                            clear c24
                            (first | rw [c24b0] | (simp only [i64_w, i32_w]; rw [c24b0]) | skip)
                            have H' := Aside0.mk H
                            clear H
                            have hcz25_0 : w22.cell? ⟨gb846, 0, none⟩ = some (.int .i64 0) := (blk_cell BK846.out 0).trans rfl
                            have hcz25_1 : w22.cell? ⟨gb846, 1, none⟩ = some (.int .i64 0) := (blk_cell BK846.out 1).trans rfl
                            have hfz25_0 := blk_frozen BK846.out 0
                            have hfz25_1 := blk_frozen BK846.out 1
                            go_wp2
                            repeat (go_quiet (fail); try go_wp2)
                            go_meet
                            case rel => exact ⟨_, (true), (by first | rfl | (simp; done) | (simp [*]; done)), H', ⟨by have := HJ4.out; have := HK2.out; first | omega | exact Nat.le_refl _⟩, ⟨by (with_reducible repeat (first | apply Kd.R_alloc | apply Kd.R_drewN | apply Kd.R_drew)); exact Kd.R_mono (Kd.R_far (p := ⟨gb846, 1, none⟩) (Kd.R_far (p := ⟨gb846, 0, none⟩) (Kd.R_types HO_5.out BK846.out (by decide)) (fun _ hk => hk.2) (.int .i64 ((rd_T76 t842 x29_2).f0))) (fun _ hk => hk.2) (.int .i64 ((rd_T76 t842 x29_2).f1))) (fun _ hk => trivial)⟩, ⟨by (with_reducible repeat (first | apply Kd.R_alloc | apply Kd.R_drewN | apply Kd.R_drew)); exact Kd.R_mono (Kd.R_far (p := ⟨gb846, 1, none⟩) (Kd.R_far (p := ⟨gb846, 0, none⟩) (Kd.R_mono HO_27.out (fun k_ hk => (⟨hk, hk.2⟩ : _ ∧ k_ ≠ gb846))) (fun _ hk => hk.2) (.int .i64 ((rd_T76 t842 x29_2).f0))) (fun _ hk => hk.2) (.int .i64 ((rd_T76 t842 x29_2).f1))) (fun _ hk => hk.1.2)⟩, ⟨by (with_reducible repeat (first | refine blk_drewN ?_ _ | refine blk_drew ?_ | refine blk_alloc ?_ _)); refine blk_put (cs := #[.int .i64 ((rd_T76 t842 x29_2).f0), .int .i64 0]) ?_ 1 _ rfl; (with_reducible repeat (first | refine blk_drewN ?_ _ | refine blk_drew ?_ | refine blk_alloc ?_ _)); refine blk_put (cs := #[.int .i64 0, .int .i64 0]) ?_ 0 _ rfl; (with_reducible repeat (first | refine blk_drewN ?_ _ | refine blk_drew ?_ | refine blk_alloc ?_ _)); exact BK846.out⟩, ⟨by repeat (first | (with_reducible first | exact HB.out | apply below_alloc | apply pw_below_drewN | apply below_drew1 | refine below_set ?_ GE846.out) | exact HB.out)⟩⟩
                          · rw [if_neg c24] at H
                            have c24b0 : decide (((rd_T76 t842 x29_2).f1) < 1) = false := decide_eq_false c24
                            clear c24
                            (first | rw [c24b0] | (simp only [i64_w, i32_w]; rw [c24b0]) | skip)
                            by_cases c26 : ((rd_T76 t842 x29_2).f0) ≤ (wrap64 (x6_2 + 1))
                            · rw [if_pos c26] at H
                              have c26b0 : decide (((rd_T76 t842 x29_2).f0) ≤ (wrap64 (x6_2 + 1))) = true := decide_eq_true c26
                              clear c26
                              by_cases c27 : x6_2 ≥ 0
                              · rw [if_pos c27] at H
                                have c27b0 : decide (0 ≤ x6_2) = true := decide_eq_true c27
                                clear c27
                                have H' := Aside0.mk H
                                clear H
                                have hcz28_0 : w22.cell? ⟨gb846, 0, none⟩ = some (.int .i64 0) := (blk_cell BK846.out 0).trans rfl
                                have hcz28_1 : w22.cell? ⟨gb846, 1, none⟩ = some (.int .i64 0) := (blk_cell BK846.out 1).trans rfl
                                have hfz28_0 := blk_frozen BK846.out 0
                                have hfz28_1 := blk_frozen BK846.out 1
                                go_wp2
                                repeat (go_quiet (fail); try go_wp2)
                                go_meet
                                case rel => exact ⟨_, (true), (by first | rfl | (simp; done) | (simp [*]; done)), H', ⟨by have := HJ4.out; have := HK2.out; first | omega | exact Nat.le_refl _⟩, ⟨by (with_reducible repeat (first | apply Kd.R_alloc | apply Kd.R_drewN | apply Kd.R_drew)); exact Kd.R_mono (Kd.R_far (p := ⟨gb846, 1, none⟩) (Kd.R_far (p := ⟨gb846, 0, none⟩) (Kd.R_types HO_5.out BK846.out (by decide)) (fun _ hk => hk.2) (.int .i64 ((rd_T76 t842 x29_2).f0))) (fun _ hk => hk.2) (.int .i64 ((rd_T76 t842 x29_2).f1))) (fun _ hk => trivial)⟩, ⟨by (with_reducible repeat (first | apply Kd.R_alloc | apply Kd.R_drewN | apply Kd.R_drew)); exact Kd.R_mono (Kd.R_far (p := ⟨gb846, 1, none⟩) (Kd.R_far (p := ⟨gb846, 0, none⟩) (Kd.R_mono HO_27.out (fun k_ hk => (⟨hk, hk.2⟩ : _ ∧ k_ ≠ gb846))) (fun _ hk => hk.2) (.int .i64 ((rd_T76 t842 x29_2).f0))) (fun _ hk => hk.2) (.int .i64 ((rd_T76 t842 x29_2).f1))) (fun _ hk => hk.1.2)⟩, ⟨by (with_reducible repeat (first | refine blk_drewN ?_ _ | refine blk_drew ?_ | refine blk_alloc ?_ _)); refine blk_put (cs := #[.int .i64 ((rd_T76 t842 x29_2).f0), .int .i64 0]) ?_ 1 _ rfl; (with_reducible repeat (first | refine blk_drewN ?_ _ | refine blk_drew ?_ | refine blk_alloc ?_ _)); refine blk_put (cs := #[.int .i64 0, .int .i64 0]) ?_ 0 _ rfl; (with_reducible repeat (first | refine blk_drewN ?_ _ | refine blk_drew ?_ | refine blk_alloc ?_ _)); exact BK846.out⟩, ⟨by repeat (first | (with_reducible first | exact HB.out | apply below_alloc | apply pw_below_drewN | apply below_drew1 | refine below_set ?_ GE846.out) | exact HB.out)⟩⟩
                              · rw [if_neg c27] at H
                                have c27b0 : decide (0 ≤ x6_2) = false := decide_eq_false c27
                                clear c27
                                by_cases c29 : ((rd_T76 t842 x29_2).f0) < 0
                                · rw [if_pos c29] at H
                                  have c29b0 : decide (((rd_T76 t842 x29_2).f0) < 0) = true := decide_eq_true c29
                                  clear c29
                                  have H' := Aside0.mk H
                                  clear H
                                  have hcz30_0 : w22.cell? ⟨gb846, 0, none⟩ = some (.int .i64 0) := (blk_cell BK846.out 0).trans rfl
                                  have hcz30_1 : w22.cell? ⟨gb846, 1, none⟩ = some (.int .i64 0) := (blk_cell BK846.out 1).trans rfl
                                  have hfz30_0 := blk_frozen BK846.out 0
                                  have hfz30_1 := blk_frozen BK846.out 1
                                  go_wp2
                                  repeat (go_quiet (fail); try go_wp2)
                                  go_meet
                                  case rel => exact ⟨_, (true), (by first | rfl | (simp; done) | (simp [*]; done)), H', ⟨by have := HJ4.out; have := HK2.out; first | omega | exact Nat.le_refl _⟩, ⟨by (with_reducible repeat (first | apply Kd.R_alloc | apply Kd.R_drewN | apply Kd.R_drew)); exact Kd.R_mono (Kd.R_far (p := ⟨gb846, 1, none⟩) (Kd.R_far (p := ⟨gb846, 0, none⟩) (Kd.R_types HO_5.out BK846.out (by decide)) (fun _ hk => hk.2) (.int .i64 ((rd_T76 t842 x29_2).f0))) (fun _ hk => hk.2) (.int .i64 ((rd_T76 t842 x29_2).f1))) (fun _ hk => trivial)⟩, ⟨by (with_reducible repeat (first | apply Kd.R_alloc | apply Kd.R_drewN | apply Kd.R_drew)); exact Kd.R_mono (Kd.R_far (p := ⟨gb846, 1, none⟩) (Kd.R_far (p := ⟨gb846, 0, none⟩) (Kd.R_mono HO_27.out (fun k_ hk => (⟨hk, hk.2⟩ : _ ∧ k_ ≠ gb846))) (fun _ hk => hk.2) (.int .i64 ((rd_T76 t842 x29_2).f0))) (fun _ hk => hk.2) (.int .i64 ((rd_T76 t842 x29_2).f1))) (fun _ hk => hk.1.2)⟩, ⟨by (with_reducible repeat (first | refine blk_drewN ?_ _ | refine blk_drew ?_ | refine blk_alloc ?_ _)); refine blk_put (cs := #[.int .i64 ((rd_T76 t842 x29_2).f0), .int .i64 0]) ?_ 1 _ rfl; (with_reducible repeat (first | refine blk_drewN ?_ _ | refine blk_drew ?_ | refine blk_alloc ?_ _)); refine blk_put (cs := #[.int .i64 0, .int .i64 0]) ?_ 0 _ rfl; (with_reducible repeat (first | refine blk_drewN ?_ _ | refine blk_drew ?_ | refine blk_alloc ?_ _)); exact BK846.out⟩, ⟨by repeat (first | (with_reducible first | exact HB.out | apply below_alloc | apply pw_below_drewN | apply below_drew1 | refine below_set ?_ GE846.out) | exact HB.out)⟩⟩
                                · rw [if_neg c29] at H
                                  have c29b0 : decide (((rd_T76 t842 x29_2).f0) < 0) = false := decide_eq_false c29
                                  clear c29
                                  by_cases c31 : ((rd_T76 t842 x29_2).f0) > a1
                                  · rw [if_pos c31] at H
                                    have c31b0 : decide (a1 < ((rd_T76 t842 x29_2).f0)) = true := decide_eq_true c31
                                    clear c31
                                    have H' := Aside0.mk H
                                    clear H
                                    have hcz32_0 : w22.cell? ⟨gb846, 0, none⟩ = some (.int .i64 0) := (blk_cell BK846.out 0).trans rfl
                                    have hcz32_1 : w22.cell? ⟨gb846, 1, none⟩ = some (.int .i64 0) := (blk_cell BK846.out 1).trans rfl
                                    have hfz32_0 := blk_frozen BK846.out 0
                                    have hfz32_1 := blk_frozen BK846.out 1
                                    go_wp2
                                    repeat (go_quiet (fail); try go_wp2)
                                    go_meet
                                    case rel => exact ⟨_, (true), (by first | rfl | (simp; done) | (simp [*]; done)), H', ⟨by have := HJ4.out; have := HK2.out; first | omega | exact Nat.le_refl _⟩, ⟨by (with_reducible repeat (first | apply Kd.R_alloc | apply Kd.R_drewN | apply Kd.R_drew)); exact Kd.R_mono (Kd.R_far (p := ⟨gb846, 1, none⟩) (Kd.R_far (p := ⟨gb846, 0, none⟩) (Kd.R_types HO_5.out BK846.out (by decide)) (fun _ hk => hk.2) (.int .i64 ((rd_T76 t842 x29_2).f0))) (fun _ hk => hk.2) (.int .i64 ((rd_T76 t842 x29_2).f1))) (fun _ hk => trivial)⟩, ⟨by (with_reducible repeat (first | apply Kd.R_alloc | apply Kd.R_drewN | apply Kd.R_drew)); exact Kd.R_mono (Kd.R_far (p := ⟨gb846, 1, none⟩) (Kd.R_far (p := ⟨gb846, 0, none⟩) (Kd.R_mono HO_27.out (fun k_ hk => (⟨hk, hk.2⟩ : _ ∧ k_ ≠ gb846))) (fun _ hk => hk.2) (.int .i64 ((rd_T76 t842 x29_2).f0))) (fun _ hk => hk.2) (.int .i64 ((rd_T76 t842 x29_2).f1))) (fun _ hk => hk.1.2)⟩, ⟨by (with_reducible repeat (first | refine blk_drewN ?_ _ | refine blk_drew ?_ | refine blk_alloc ?_ _)); refine blk_put (cs := #[.int .i64 ((rd_T76 t842 x29_2).f0), .int .i64 0]) ?_ 1 _ rfl; (with_reducible repeat (first | refine blk_drewN ?_ _ | refine blk_drew ?_ | refine blk_alloc ?_ _)); refine blk_put (cs := #[.int .i64 0, .int .i64 0]) ?_ 0 _ rfl; (with_reducible repeat (first | refine blk_drewN ?_ _ | refine blk_drew ?_ | refine blk_alloc ?_ _)); exact BK846.out⟩, ⟨by repeat (first | (with_reducible first | exact HB.out | apply below_alloc | apply pw_below_drewN | apply below_drew1 | refine below_set ?_ GE846.out) | exact HB.out)⟩⟩
                                  · rw [if_neg c31] at H
                                    have c31b0 : decide (a1 < ((rd_T76 t842 x29_2).f0)) = false := decide_eq_false c31
                                    clear c31
                                    have H' := Aside0.mk H
                                    clear H
                                    have hcz33_0 : w22.cell? ⟨gb846, 0, none⟩ = some (.int .i64 0) := (blk_cell BK846.out 0).trans rfl
                                    have hcz33_1 : w22.cell? ⟨gb846, 1, none⟩ = some (.int .i64 0) := (blk_cell BK846.out 1).trans rfl
                                    have hfz33_0 := blk_frozen BK846.out 0
                                    have hfz33_1 := blk_frozen BK846.out 1
                                    go_wp2
                                    repeat (go_quiet (fail); try go_wp2)
                                    go_meet
                                    case rel => exact ⟨_, (decide (((rd_T76 t842 x29_2).f1) > (wrap64 (a1 - ((rd_T76 t842 x29_2).f0))))), (by first | rfl | (simp; done) | (simp [*]; done)), H', ⟨by have := HJ4.out; have := HK2.out; first | omega | exact Nat.le_refl _⟩, ⟨by (with_reducible repeat (first | apply Kd.R_alloc | apply Kd.R_drewN | apply Kd.R_drew)); exact Kd.R_mono (Kd.R_far (p := ⟨gb846, 1, none⟩) (Kd.R_far (p := ⟨gb846, 0, none⟩) (Kd.R_types HO_5.out BK846.out (by decide)) (fun _ hk => hk.2) (.int .i64 ((rd_T76 t842 x29_2).f0))) (fun _ hk => hk.2) (.int .i64 ((rd_T76 t842 x29_2).f1))) (fun _ hk => trivial)⟩, ⟨by (with_reducible repeat (first | apply Kd.R_alloc | apply Kd.R_drewN | apply Kd.R_drew)); exact Kd.R_mono (Kd.R_far (p := ⟨gb846, 1, none⟩) (Kd.R_far (p := ⟨gb846, 0, none⟩) (Kd.R_mono HO_27.out (fun k_ hk => (⟨hk, hk.2⟩ : _ ∧ k_ ≠ gb846))) (fun _ hk => hk.2) (.int .i64 ((rd_T76 t842 x29_2).f0))) (fun _ hk => hk.2) (.int .i64 ((rd_T76 t842 x29_2).f1))) (fun _ hk => hk.1.2)⟩, ⟨by (with_reducible repeat (first | refine blk_drewN ?_ _ | refine blk_drew ?_ | refine blk_alloc ?_ _)); refine blk_put (cs := #[.int .i64 ((rd_T76 t842 x29_2).f0), .int .i64 0]) ?_ 1 _ rfl; (with_reducible repeat (first | refine blk_drewN ?_ _ | refine blk_drew ?_ | refine blk_alloc ?_ _)); refine blk_put (cs := #[.int .i64 0, .int .i64 0]) ?_ 0 _ rfl; (with_reducible repeat (first | refine blk_drewN ?_ _ | refine blk_drew ?_ | refine blk_alloc ?_ _)); exact BK846.out⟩, ⟨by repeat (first | (with_reducible first | exact HB.out | apply below_alloc | apply pw_below_drewN | apply below_drew1 | refine below_set ?_ GE846.out) | exact HB.out)⟩⟩
                            · rw [if_neg c26] at H
                              have c26b0 : decide (((rd_T76 t842 x29_2).f0) ≤ (wrap64 (x6_2 + 1))) = false := decide_eq_false c26
                              clear c26
                              by_cases c34 : ((rd_T76 t842 x29_2).f0) < 0
                              · rw [if_pos c34] at H
                                have c34b0 : decide (((rd_T76 t842 x29_2).f0) < 0) = true := decide_eq_true c34
                                clear c34
                                have H' := Aside0.mk H
                                clear H
                                have hcz35_0 : w22.cell? ⟨gb846, 0, none⟩ = some (.int .i64 0) := (blk_cell BK846.out 0).trans rfl
                                have hcz35_1 : w22.cell? ⟨gb846, 1, none⟩ = some (.int .i64 0) := (blk_cell BK846.out 1).trans rfl
                                have hfz35_0 := blk_frozen BK846.out 0
                                have hfz35_1 := blk_frozen BK846.out 1
                                go_wp2
                                repeat (go_quiet (fail); try go_wp2)
                                go_meet
                                case rel => exact ⟨_, (true), (by first | rfl | (simp; done) | (simp [*]; done)), H', ⟨by have := HJ4.out; have := HK2.out; first | omega | exact Nat.le_refl _⟩, ⟨by (with_reducible repeat (first | apply Kd.R_alloc | apply Kd.R_drewN | apply Kd.R_drew)); exact Kd.R_mono (Kd.R_far (p := ⟨gb846, 1, none⟩) (Kd.R_far (p := ⟨gb846, 0, none⟩) (Kd.R_types HO_5.out BK846.out (by decide)) (fun _ hk => hk.2) (.int .i64 ((rd_T76 t842 x29_2).f0))) (fun _ hk => hk.2) (.int .i64 ((rd_T76 t842 x29_2).f1))) (fun _ hk => trivial)⟩, ⟨by (with_reducible repeat (first | apply Kd.R_alloc | apply Kd.R_drewN | apply Kd.R_drew)); exact Kd.R_mono (Kd.R_far (p := ⟨gb846, 1, none⟩) (Kd.R_far (p := ⟨gb846, 0, none⟩) (Kd.R_mono HO_27.out (fun k_ hk => (⟨hk, hk.2⟩ : _ ∧ k_ ≠ gb846))) (fun _ hk => hk.2) (.int .i64 ((rd_T76 t842 x29_2).f0))) (fun _ hk => hk.2) (.int .i64 ((rd_T76 t842 x29_2).f1))) (fun _ hk => hk.1.2)⟩, ⟨by (with_reducible repeat (first | refine blk_drewN ?_ _ | refine blk_drew ?_ | refine blk_alloc ?_ _)); refine blk_put (cs := #[.int .i64 ((rd_T76 t842 x29_2).f0), .int .i64 0]) ?_ 1 _ rfl; (with_reducible repeat (first | refine blk_drewN ?_ _ | refine blk_drew ?_ | refine blk_alloc ?_ _)); refine blk_put (cs := #[.int .i64 0, .int .i64 0]) ?_ 0 _ rfl; (with_reducible repeat (first | refine blk_drewN ?_ _ | refine blk_drew ?_ | refine blk_alloc ?_ _)); exact BK846.out⟩, ⟨by repeat (first | (with_reducible first | exact HB.out | apply below_alloc | apply pw_below_drewN | apply below_drew1 | refine below_set ?_ GE846.out) | exact HB.out)⟩⟩
                              · rw [if_neg c34] at H
                                have c34b0 : decide (((rd_T76 t842 x29_2).f0) < 0) = false := decide_eq_false c34
                                clear c34
                                by_cases c36 : ((rd_T76 t842 x29_2).f0) > a1
                                · rw [if_pos c36] at H
                                  have c36b0 : decide (a1 < ((rd_T76 t842 x29_2).f0)) = true := decide_eq_true c36
                                  clear c36
                                  have H' := Aside0.mk H
                                  clear H
                                  have hcz37_0 : w22.cell? ⟨gb846, 0, none⟩ = some (.int .i64 0) := (blk_cell BK846.out 0).trans rfl
                                  have hcz37_1 : w22.cell? ⟨gb846, 1, none⟩ = some (.int .i64 0) := (blk_cell BK846.out 1).trans rfl
                                  have hfz37_0 := blk_frozen BK846.out 0
                                  have hfz37_1 := blk_frozen BK846.out 1
                                  go_wp2
                                  repeat (go_quiet (fail); try go_wp2)
                                  go_meet
                                  case rel => exact ⟨_, (true), (by first | rfl | (simp; done) | (simp [*]; done)), H', ⟨by have := HJ4.out; have := HK2.out; first | omega | exact Nat.le_refl _⟩, ⟨by (with_reducible repeat (first | apply Kd.R_alloc | apply Kd.R_drewN | apply Kd.R_drew)); exact Kd.R_mono (Kd.R_far (p := ⟨gb846, 1, none⟩) (Kd.R_far (p := ⟨gb846, 0, none⟩) (Kd.R_types HO_5.out BK846.out (by decide)) (fun _ hk => hk.2) (.int .i64 ((rd_T76 t842 x29_2).f0))) (fun _ hk => hk.2) (.int .i64 ((rd_T76 t842 x29_2).f1))) (fun _ hk => trivial)⟩, ⟨by (with_reducible repeat (first | apply Kd.R_alloc | apply Kd.R_drewN | apply Kd.R_drew)); exact Kd.R_mono (Kd.R_far (p := ⟨gb846, 1, none⟩) (Kd.R_far (p := ⟨gb846, 0, none⟩) (Kd.R_mono HO_27.out (fun k_ hk => (⟨hk, hk.2⟩ : _ ∧ k_ ≠ gb846))) (fun _ hk => hk.2) (.int .i64 ((rd_T76 t842 x29_2).f0))) (fun _ hk => hk.2) (.int .i64 ((rd_T76 t842 x29_2).f1))) (fun _ hk => hk.1.2)⟩, ⟨by (with_reducible repeat (first | refine blk_drewN ?_ _ | refine blk_drew ?_ | refine blk_alloc ?_ _)); refine blk_put (cs := #[.int .i64 ((rd_T76 t842 x29_2).f0), .int .i64 0]) ?_ 1 _ rfl; (with_reducible repeat (first | refine blk_drewN ?_ _ | refine blk_drew ?_ | refine blk_alloc ?_ _)); refine blk_put (cs := #[.int .i64 0, .int .i64 0]) ?_ 0 _ rfl; (with_reducible repeat (first | refine blk_drewN ?_ _ | refine blk_drew ?_ | refine blk_alloc ?_ _)); exact BK846.out⟩, ⟨by repeat (first | (with_reducible first | exact HB.out | apply below_alloc | apply pw_below_drewN | apply below_drew1 | refine below_set ?_ GE846.out) | exact HB.out)⟩⟩
                                · rw [if_neg c36] at H
                                  have c36b0 : decide (a1 < ((rd_T76 t842 x29_2).f0)) = false := decide_eq_false c36
                                  clear c36
                                  have H' := Aside0.mk H
                                  clear H
                                  have hcz38_0 : w22.cell? ⟨gb846, 0, none⟩ = some (.int .i64 0) := (blk_cell BK846.out 0).trans rfl
                                  have hcz38_1 : w22.cell? ⟨gb846, 1, none⟩ = some (.int .i64 0) := (blk_cell BK846.out 1).trans rfl
                                  have hfz38_0 := blk_frozen BK846.out 0
                                  have hfz38_1 := blk_frozen BK846.out 1
                                  go_wp2
                                  repeat (go_quiet (fail); try go_wp2)
                                  go_meet
                                  case rel => exact ⟨_, (decide (((rd_T76 t842 x29_2).f1) > (wrap64 (a1 - ((rd_T76 t842 x29_2).f0))))), (by first | rfl | (simp; done) | (simp [*]; done)), H', ⟨by have := HJ4.out; have := HK2.out; first | omega | exact Nat.le_refl _⟩, ⟨by (with_reducible repeat (first | apply Kd.R_alloc | apply Kd.R_drewN | apply Kd.R_drew)); exact Kd.R_mono (Kd.R_far (p := ⟨gb846, 1, none⟩) (Kd.R_far (p := ⟨gb846, 0, none⟩) (Kd.R_types HO_5.out BK846.out (by decide)) (fun _ hk => hk.2) (.int .i64 ((rd_T76 t842 x29_2).f0))) (fun _ hk => hk.2) (.int .i64 ((rd_T76 t842 x29_2).f1))) (fun _ hk => trivial)⟩, ⟨by (with_reducible repeat (first | apply Kd.R_alloc | apply Kd.R_drewN | apply Kd.R_drew)); exact Kd.R_mono (Kd.R_far (p := ⟨gb846, 1, none⟩) (Kd.R_far (p := ⟨gb846, 0, none⟩) (Kd.R_mono HO_27.out (fun k_ hk => (⟨hk, hk.2⟩ : _ ∧ k_ ≠ gb846))) (fun _ hk => hk.2) (.int .i64 ((rd_T76 t842 x29_2).f0))) (fun _ hk => hk.2) (.int .i64 ((rd_T76 t842 x29_2).f1))) (fun _ hk => hk.1.2)⟩, ⟨by (with_reducible repeat (first | refine blk_drewN ?_ _ | refine blk_drew ?_ | refine blk_alloc ?_ _)); refine blk_put (cs := #[.int .i64 ((rd_T76 t842 x29_2).f0), .int .i64 0]) ?_ 1 _ rfl; (with_reducible repeat (first | refine blk_drewN ?_ _ | refine blk_drew ?_ | refine blk_alloc ?_ _)); refine blk_put (cs := #[.int .i64 0, .int .i64 0]) ?_ 0 _ rfl; (with_reducible repeat (first | refine blk_drewN ?_ _ | refine blk_drew ?_ | refine blk_alloc ?_ _)); exact BK846.out⟩, ⟨by repeat (first | (with_reducible first | exact HB.out | apply below_alloc | apply pw_below_drewN | apply below_drew1 | refine below_set ?_ GE846.out) | exact HB.out)⟩⟩
                        case rest =>
                          clear HC21
                          try clear c1
                          try clear c2
                          try clear p2
                          try clear c3
                          try clear c4
                          try clear p6
                          try clear c7
                          try clear c7b0
                          try clear c7b1
                          try clear p8
                          try clear q8
                          try clear hx8
                          try clear c10
                          try clear c11
                          try clear c11b0
                          try clear c11b1
                          try clear c12
                          try clear c12b0
                          try clear c12b1
                          try clear c18
                          try clear c18b0
                          try clear c19
                          try clear c19b0
                          try clear c20
                          try clear c20b0
                          try clear c24
                          try clear c24b0
                          try clear c26
                          try clear c26b0
                          try clear c27
                          try clear c27b0
                          try clear c29
                          try clear c29b0
                          try clear c31
                          try clear c31b0
                          try clear c34
                          try clear c34b0
                          try clear c36
                          try clear c36b0
                          try clear hcz23_0
                          try clear hcz23_1
                          try clear hcz25_0
                          try clear hcz25_1
                          try clear hcz28_0
                          try clear hcz28_1
                          try clear hcz30_0
                          try clear hcz30_1
                          try clear hcz32_0
                          try clear hcz32_1
                          try clear hcz33_0
                          try clear hcz33_1
                          try clear hcz35_0
                          try clear hcz35_1
                          try clear hcz37_0
                          try clear hcz37_1
                          try clear hcz38_0
                          try clear hcz38_1
                          try clear hfz23_0
                          try clear hfz23_1
                          try clear hfz25_0
                          try clear hfz25_1
                          try clear hfz28_0
                          try clear hfz28_1
                          try clear hfz30_0
                          try clear hfz30_1
                          try clear hfz32_0
                          try clear hfz32_1
                          try clear hfz33_0
                          try clear hfz33_1
                          try clear hfz35_0
                          try clear hfz35_1
                          try clear hfz37_0
                          try clear hfz37_1
                          try clear hfz38_0
                          try clear hfz38_1
                          try clear hx845_0
                          try clear hx845_1
                          try clear p2
                          try clear p845
                          try clear q845
                          obtain ⟨kq, x66_20, rfl, HA, HJ20, HO_5, HO_27, BK846, HB⟩ := hcut
                          cases kq with
                          | zero => exact absurd HA.out (by simp [masterdisclaw41_SpacebitmapRuns.j2])
                          | succ kj20 =>
                            have H := HA.out
                            clear HA
                            simp only [masterdisclaw41_SpacebitmapRuns.j2] at H
                            by_cases c39 : x66_20 = true
                            · subst c39
                              have H1 : (some false) = some r := by rw [if_pos rfl] at H; exact H
                              clear H
                              have H := H1
                              clear H1
                              obtain rfl := Option.some.inj H
                              go_wp2
                              repeat (go_quiet (fail); try go_wp2)
                              go_ret
                              exact ⟨by first | rfl | (simp [errW_none, errW_some] <;> rfl) | (simp [*, errW_none, errW_some] <;> rfl), by repeat (first | (with_reducible first | exact HB.out | apply below_alloc | apply pw_below_drewN | apply below_drew1 | refine below_set ?_ GE846.out) | exact HB.out)⟩
                            · replace c39 := Bool.eq_false_iff.mpr c39
                              subst c39
                              have H1 : (masterdisclaw41_SpacebitmapRuns.l1 kj20 a0 a1 x5_2 x7_2 t842 (t842.length : Int) x29_2 ((rd_T76 t842 x29_2).f1) 0 ((rd_T76 t842 x29_2).f0) ((rd_T76 t842 x29_2).f1)) = some r := by rw [if_neg (show ¬ (false = true) by decide)] at H; exact H
                              clear H
                              have H := H1
                              clear H1
                              have H' := Aside0.mk H
                              clear H
                              have hcz40_0 : wc.cell? ⟨gb846, 0, none⟩ = some (.int .i64 ((rd_T76 t842 x29_2).f0)) := (blk_cell BK846.out 0).trans rfl
                              have hcz40_1 : wc.cell? ⟨gb846, 1, none⟩ = some (.int .i64 ((rd_T76 t842 x29_2).f1)) := (blk_cell BK846.out 1).trans rfl
                              have hfz40_0 := blk_frozen BK846.out 0
                              have hfz40_1 := blk_frozen BK846.out 1
                              go_wp2
                              repeat (go_quiet (fail); try go_wp2)
                              go_loopg [69] kj20 (fun kq v69 w' => ∃ (x5_4 : List Bool) (x69_4 : Int), v69 = .int .i64 x69_4 ∧ Aside0 (masterdisclaw41_SpacebitmapRuns.l1 kq a0 a1 x5_4 x7_2 t842 (t842.length : Int) x29_2 ((rd_T76 t842 x29_2).f1) x69_4 ((rd_T76 t842 x29_2).f0) ((rd_T76 t842 x29_2).f1) = some r) ∧ Aside0 (kq ≤ kj20) ∧ Aside0 (Kd.R Kd.bool 4 w' w.heap.size (fun _ => True) v840 x5_4) ∧ Aside0 (Kd.R k76 76 w' w.heap.size (fun k_ => k_ ≠ gb846) (.slice (some ad845) t842.length co17) t842) ∧ Aside0 (w'.heap[gb846]? = some (.cells #[.int .i64 ((rd_T76 t842 x29_2).f0), .int .i64 ((rd_T76 t842 x29_2).f1)] 76 (0, 0))) ∧ Aside0 (Below w.heap.size w w'))
                              case atStart => exact ⟨(x5_2), (0), (by first | rfl | (simp; done) | (simp [*]; done)), H', ⟨Nat.le_refl _⟩, ⟨by (with_reducible repeat (first | apply Kd.R_alloc | apply Kd.R_drewN | apply Kd.R_drew)); exact HO_5.out⟩, ⟨by (with_reducible repeat (first | apply Kd.R_alloc | apply Kd.R_drewN | apply Kd.R_drew)); exact HO_27.out⟩, ⟨by (with_reducible repeat (first | refine blk_drewN ?_ _ | refine blk_drew ?_ | refine blk_alloc ?_ _)); exact BK846.out⟩, ⟨by repeat (first | (with_reducible first | exact HB.out | apply below_alloc | apply pw_below_drewN | apply below_drew1 | refine below_set ?_ GE846.out) | exact HB.out)⟩⟩
                              case round =>
                                clear H'
                                try clear c1
                                try clear c2
                                try clear p2
                                try clear c3
                                try clear c4
                                try clear p6
                                try clear c7
                                try clear c7b0
                                try clear c7b1
                                try clear p8
                                try clear q8
                                try clear hx8
                                try clear c10
                                try clear c11
                                try clear c11b0
                                try clear c11b1
                                try clear c12
                                try clear c12b0
                                try clear c12b1
                                try clear c18
                                try clear c18b0
                                try clear c19
                                try clear c19b0
                                try clear c20
                                try clear c20b0
                                try clear c24
                                try clear c24b0
                                try clear c26
                                try clear c26b0
                                try clear c27
                                try clear c27b0
                                try clear c29
                                try clear c29b0
                                try clear c31
                                try clear c31b0
                                try clear c34
                                try clear c34b0
                                try clear c36
                                try clear c36b0
                                try clear c39
                                try clear hcz23_0
                                try clear hcz23_1
                                try clear hcz25_0
                                try clear hcz25_1
                                try clear hcz28_0
                                try clear hcz28_1
                                try clear hcz30_0
                                try clear hcz30_1
                                try clear hcz32_0
                                try clear hcz32_1
                                try clear hcz33_0
                                try clear hcz33_1
                                try clear hcz35_0
                                try clear hcz35_1
                                try clear hcz37_0
                                try clear hcz37_1
                                try clear hcz38_0
                                try clear hcz38_1
                                try clear hcz40_0
                                try clear hcz40_1
                                try clear hfz23_0
                                try clear hfz23_1
                                try clear hfz25_0
                                try clear hfz25_1
                                try clear hfz28_0
                                try clear hfz28_1
                                try clear hfz30_0
                                try clear hfz30_1
                                try clear hfz32_0
                                try clear hfz32_1
                                try clear hfz33_0
                                try clear hfz33_1
                                try clear hfz35_0
                                try clear hfz35_1
                                try clear hfz37_0
                                try clear hfz37_1
                                try clear hfz38_0
                                try clear hfz38_1
                                try clear hfz40_0
                                try clear hfz40_1
                                try clear hx845_0
                                try clear hx845_1
                                try clear p2
                                try clear p6
                                try clear p8
                                try clear p845
                                try clear q8
                                try clear q845
                                obtain ⟨x5_4, x69_4, rfl, HA, HK4, HO_5, HO_27, BK846, HB⟩ := hrel
                                cases gk with
                                | zero => exact absurd HA.out (by simp [masterdisclaw41_SpacebitmapRuns.l1])
                                | succ k4 =>
                                  have H := HA.out
                                  clear HA
                                  simp only [masterdisclaw41_SpacebitmapRuns.l1] at H
                                  by_cases c41 : x69_4 < ((rd_T76 t842 x29_2).f1)
                                  · rw [if_pos c41] at H
                                    have c41b0 : decide (x69_4 < ((rd_T76 t842 x29_2).f1)) = true := decide_eq_true c41
                                    clear c41
                                    obtain ⟨ji42, hji42⟩ : ∃ j_ : Int, (wrap64 (((rd_T76 t842 x29_2).f0) + x69_4)) = j_ := ⟨_, rfl⟩
                                    replace H : (if 0 ≤ (ji42) then (if (ji42) < (x5_4.length : Int) then (masterdisclaw41_SpacebitmapRuns.l1 k4 a0 a1 (x5_4.set ((ji42) : Int).toNat true) x7_2 t842 (t842.length : Int) x29_2 ((rd_T76 t842 x29_2).f1) (wrap64 (x69_4 + 1)) ((rd_T76 t842 x29_2).f0) ((rd_T76 t842 x29_2).f1)) else (none)) else (none)) = some r := by first | (rw [hji42] at H; exact H) | (simp only [hji42] at H ⊢; exact H)
                                    have hji42w : (IntKind.i64.wrap (((rd_T76 t842 x29_2).f0) + x69_4)) = ji42 := (i64_w _).trans hji42
                                    by_cases c43 : 0 ≤ (ji42)
                                    · rw [if_pos c43] at H
                                      have c43b0 : decide (0 ≤ (ji42)) = true := decide_eq_true c43
                                      clear c43
                                      by_cases c44 : (ji42) < (x5_4.length : Int)
                                      · rw [if_pos c44] at H
                                        have c44b0 : decide ((ji42) < (x5_4.length : Int)) = true := decide_eq_true c44
                                        clear c44
                                        obtain ⟨y847, hy847⟩ : ∃ y_ : List Bool, y_ = (x5_4.set ((ji42) : Int).toNat true) := ⟨_, rfl⟩
                                        replace H : (masterdisclaw41_SpacebitmapRuns.l1 k4 a0 a1 y847 x7_2 t842 (t842.length : Int) x29_2 ((rd_T76 t842 x29_2).f1) (wrap64 (x69_4 + 1)) ((rd_T76 t842 x29_2).f0) ((rd_T76 t842 x29_2).f1)) = some r := by first | (rw [hy847]; with_reducible exact H) | (have H2_ := (Option.bind_some _ _).symm.trans H; rw [hy847]; with_reducible exact H2_) | (have H2_ := (Option.bind_some _ _).symm.trans H; with_reducible exact H2_) | with_reducible exact H | (rw [hy847]; exact H) | exact H
                                        have Ny847 := Aside0.mk hy847
                                        clear hy847
                                        have H' := Aside0.mk H
                                        clear H
                                        have hcz46_0 : wr.cell? ⟨gb846, 0, none⟩ = some (.int .i64 ((rd_T76 t842 x29_2).f0)) := (blk_cell BK846.out 0).trans rfl
                                        have hcz46_1 : wr.cell? ⟨gb846, 1, none⟩ = some (.int .i64 ((rd_T76 t842 x29_2).f1)) := (blk_cell BK846.out 1).trans rfl
                                        have hfz46_0 := blk_frozen BK846.out 0
                                        have hfz46_1 := blk_frozen BK846.out 1
                                        have p45 : 0 ≤ ((ji42) : Int) := of_decide_eq_true (by first | (with_reducible assumption) | assumption)
                                        have q45 : ((ji42) : Int) < ((x5_4.length : Int) : Int) := of_decide_eq_true (by first | (with_reducible assumption) | assumption)
                                        obtain ⟨go45, co45, eo45, gb45, gl45, cl45, HG45⟩ := Kd.R_form HO_5.out (by omega)
                                        (first | cases eo45 | (injection eo45 with ea_ en_ ec_; (first | subst ea_ | (injection ea_ with ea_; subst ea_)); subst ec_; clear en_))
                                        have GB45 := Aside0.mk gb45
                                        have GG45 := Aside0.mk HG45
                                        clear gb45 gl45 HG45
                                        obtain ⟨hx45_0, hf45_0⟩ := Kd.R_celln false HO_5.out ((ji42) : Int) p45 q45
                                        replace p45 := eq_true p45
                                        replace q45 := eq_true q45
                                        have HP47 := Kd.R_putg HO_5.out ((ji42) : Int) true
                                        go_wp2_with (first | ((with_reducible refine gate_store (t := 4) (p := 77) rfl ?_); (try (rw [drewN_self wr]; generalize hq_ : World.drewN wr _ = wr; have n0_ := Aside0.mk (Kd.R_at hq_ HO_5.out); have n1_ := Aside0.mk (Kd.R_at hq_ HO_27.out); have n2_ := Aside0.mk (blk_at hq_ BK846.out); have n3_ := Aside0.mk (below_at hq_ HB.out); clear hq_ HO_5 HO_27 BK846 HB; have HO_5 := n0_; have HO_27 := n1_; have BK846 := n2_; have HB := n3_; clear n0_ n1_ n2_ n3_; (try (have HP47 := Kd.R_putg HO_5.out ((ji42) : Int) true)))); refine store_event (t := 4) (p := 77) (v := ?vo_w48) (w1 := (wr.setCell ⟨go45, ((ji42) : Int).toNat, none⟩ (.bool true))) ?hg ?ho ?hn ?hr ?_; (case ho => rfl); (case hg => rfl); (case hn => rfl); (case hr => first | (go_simp; done) | (go_simp; rfl)); intro w48 hw; have hg : wr.grownBy w48 (some go45) := (by rw [hw]; exact HP47.2); have hp_ : Kd.R Kd.bool 4 w48 w.heap.size (fun _ => True) (.slice (some ⟨go45, 0, none⟩) x5_4.length co45) y847 := (by rw [hw, Ny847.out]; exact HP47.1); clear HP47; have n0_ := Aside0.mk (hp_); have n1_ := Aside0.mk (Kd.R_over' (v := (.slice (some ⟨go45, 0, none⟩) x5_4.length co45)) (by (with_reducible repeat (first | apply Kd.R_alloc | apply Kd.R_drewN | apply Kd.R_drew)); exact HO_27.out) (Kd.R_typed HO_5.out) (by decide) hg); have n2_ := Aside0.mk (blk_grown (g := gb846) (o := .cells #[.int .i64 ((rd_T76 t842 x29_2).f0), .int .i64 ((rd_T76 t842 x29_2).f1)] 76 (0, 0)) (by (with_reducible repeat (first | refine blk_drewN ?_ _ | refine blk_drew ?_ | refine blk_alloc ?_ _)); exact BK846.out) hg (Kd.R_ne HO_5.out BK846.out (by decide))); have n3_ := Aside0.mk ((by rw [hw]; exact below_set (HB.out) GB45.out : Below w.heap.size w w48)); clear HO_5; clear HO_27; clear BK846; clear HB; have HO_5 := n0_; have HO_27 := n1_; have BK846 := n2_; have HB := n3_; clear n0_ n1_ n2_ n3_; clear hg hw hp_))
                                        repeat (go_quiet (first | ((with_reducible refine gate_store (t := 4) (p := 77) rfl ?_); (try (rw [drewN_self wr]; generalize hq_ : World.drewN wr _ = wr; have n0_ := Aside0.mk (Kd.R_at hq_ HO_5.out); have n1_ := Aside0.mk (Kd.R_at hq_ HO_27.out); have n2_ := Aside0.mk (blk_at hq_ BK846.out); have n3_ := Aside0.mk (below_at hq_ HB.out); clear hq_ HO_5 HO_27 BK846 HB; have HO_5 := n0_; have HO_27 := n1_; have BK846 := n2_; have HB := n3_; clear n0_ n1_ n2_ n3_; (try (have HP47 := Kd.R_putg HO_5.out ((ji42) : Int) true)))); refine store_event (t := 4) (p := 77) (v := ?vo_w48) (w1 := (wr.setCell ⟨go45, ((ji42) : Int).toNat, none⟩ (.bool true))) ?hg ?ho ?hn ?hr ?_; (case ho => rfl); (case hg => rfl); (case hn => rfl); (case hr => first | (go_simp; done) | (go_simp; rfl)); intro w48 hw; have hg : wr.grownBy w48 (some go45) := (by rw [hw]; exact HP47.2); have hp_ : Kd.R Kd.bool 4 w48 w.heap.size (fun _ => True) (.slice (some ⟨go45, 0, none⟩) x5_4.length co45) y847 := (by rw [hw, Ny847.out]; exact HP47.1); clear HP47; have n0_ := Aside0.mk (hp_); have n1_ := Aside0.mk (Kd.R_over' (v := (.slice (some ⟨go45, 0, none⟩) x5_4.length co45)) (by (with_reducible repeat (first | apply Kd.R_alloc | apply Kd.R_drewN | apply Kd.R_drew)); exact HO_27.out) (Kd.R_typed HO_5.out) (by decide) hg); have n2_ := Aside0.mk (blk_grown (g := gb846) (o := .cells #[.int .i64 ((rd_T76 t842 x29_2).f0), .int .i64 ((rd_T76 t842 x29_2).f1)] 76 (0, 0)) (by (with_reducible repeat (first | refine blk_drewN ?_ _ | refine blk_drew ?_ | refine blk_alloc ?_ _)); exact BK846.out) hg (Kd.R_ne HO_5.out BK846.out (by decide))); have n3_ := Aside0.mk ((by rw [hw]; exact below_set (HB.out) GB45.out : Below w.heap.size w w48)); clear HO_5; clear HO_27; clear BK846; clear HB; have HO_5 := n0_; have HO_27 := n1_; have BK846 := n2_; have HB := n3_; clear n0_ n1_ n2_ n3_; clear hg hw hp_)); try go_wp2_with (first | ((with_reducible refine gate_store (t := 4) (p := 77) rfl ?_); (try (rw [drewN_self wr]; generalize hq_ : World.drewN wr _ = wr; have n0_ := Aside0.mk (Kd.R_at hq_ HO_5.out); have n1_ := Aside0.mk (Kd.R_at hq_ HO_27.out); have n2_ := Aside0.mk (blk_at hq_ BK846.out); have n3_ := Aside0.mk (below_at hq_ HB.out); clear hq_ HO_5 HO_27 BK846 HB; have HO_5 := n0_; have HO_27 := n1_; have BK846 := n2_; have HB := n3_; clear n0_ n1_ n2_ n3_; (try (have HP47 := Kd.R_putg HO_5.out ((ji42) : Int) true)))); refine store_event (t := 4) (p := 77) (v := ?vo_w48) (w1 := (wr.setCell ⟨go45, ((ji42) : Int).toNat, none⟩ (.bool true))) ?hg ?ho ?hn ?hr ?_; (case ho => rfl); (case hg => rfl); (case hn => rfl); (case hr => first | (go_simp; done) | (go_simp; rfl)); intro w48 hw; have hg : wr.grownBy w48 (some go45) := (by rw [hw]; exact HP47.2); have hp_ : Kd.R Kd.bool 4 w48 w.heap.size (fun _ => True) (.slice (some ⟨go45, 0, none⟩) x5_4.length co45) y847 := (by rw [hw, Ny847.out]; exact HP47.1); clear HP47; have n0_ := Aside0.mk (hp_); have n1_ := Aside0.mk (Kd.R_over' (v := (.slice (some ⟨go45, 0, none⟩) x5_4.length co45)) (by (with_reducible repeat (first | apply Kd.R_alloc | apply Kd.R_drewN | apply Kd.R_drew)); exact HO_27.out) (Kd.R_typed HO_5.out) (by decide) hg); have n2_ := Aside0.mk (blk_grown (g := gb846) (o := .cells #[.int .i64 ((rd_T76 t842 x29_2).f0), .int .i64 ((rd_T76 t842 x29_2).f1)] 76 (0, 0)) (by (with_reducible repeat (first | refine blk_drewN ?_ _ | refine blk_drew ?_ | refine blk_alloc ?_ _)); exact BK846.out) hg (Kd.R_ne HO_5.out BK846.out (by decide))); have n3_ := Aside0.mk ((by rw [hw]; exact below_set (HB.out) GB45.out : Below w.heap.size w w48)); clear HO_5; clear HO_27; clear BK846; clear HB; have HO_5 := n0_; have HO_27 := n1_; have BK846 := n2_; have HB := n3_; clear n0_ n1_ n2_ n3_; clear hg hw hp_)))
                                        go_roundg k4
                                        case measure => have := HJ4.out; have := HK2.out; have := HJ20.out; have := HK4.out; omega
                                        case rel => exact ⟨(y847), (wrap64 (x69_4 + 1)), (by first | rfl | (simp; done) | (simp [*]; done)), H', ⟨by have := HJ4.out; have := HK2.out; have := HJ20.out; have := HK4.out; omega⟩, ⟨by (with_reducible repeat (first | apply Kd.R_alloc | apply Kd.R_drewN | apply Kd.R_drew)); exact HO_5.out⟩, ⟨by (with_reducible repeat (first | apply Kd.R_alloc | apply Kd.R_drewN | apply Kd.R_drew)); exact HO_27.out⟩, ⟨by (with_reducible repeat (first | refine blk_drewN ?_ _ | refine blk_drew ?_ | refine blk_alloc ?_ _)); exact BK846.out⟩, ⟨by repeat (first | (with_reducible first | exact HB.out | apply below_alloc | apply pw_below_drewN | apply below_drew1 | refine below_set ?_ GE846.out) | exact HB.out)⟩⟩
                                      · rw [if_neg c44] at H
                                        exact absurd H (by simp)
                                    · rw [if_neg c43] at H
                                      exact absurd H (by simp)
                                  · rw [if_neg c41] at H
                                    have c41b0 : decide (x69_4 < ((rd_T76 t842 x29_2).f1)) = false := decide_eq_false c41
                                    clear c41
                                    have H' := Aside0.mk H
                                    clear H
                                    have hcz49_0 : wr.cell? ⟨gb846, 0, none⟩ = some (.int .i64 ((rd_T76 t842 x29_2).f0)) := (blk_cell BK846.out 0).trans rfl
                                    have hcz49_1 : wr.cell? ⟨gb846, 1, none⟩ = some (.int .i64 ((rd_T76 t842 x29_2).f1)) := (blk_cell BK846.out 1).trans rfl
                                    have hfz49_0 := blk_frozen BK846.out 0
                                    have hfz49_1 := blk_frozen BK846.out 1
                                    go_wp2
                                    repeat (go_quiet (fail); try go_wp2)
                                    go_roundg k4
                                    case measure => have := HJ4.out; have := HK2.out; have := HJ20.out; have := HK4.out; omega
                                    case rel => exact ⟨(x5_4), (wrap64 ((wrap64 (((rd_T76 t842 x29_2).f0) + ((rd_T76 t842 x29_2).f1))) - 1)), (wrap64 (x7_2 + ((rd_T76 t842 x29_2).f1))), (wrap64 (x29_2 + 1)), (by first | rfl | (simp; done) | (simp [*]; done)), (by first | rfl | (simp; done) | (simp [*]; done)), (by first | rfl | (simp; done) | (simp [*]; done)), H', ⟨by have := HJ4.out; have := HK2.out; have := HJ20.out; have := HK4.out; omega⟩, ⟨by (with_reducible repeat (first | apply Kd.R_alloc | apply Kd.R_drewN | apply Kd.R_drew)); exact HO_5.out⟩, ⟨by (with_reducible repeat (first | apply Kd.R_alloc | apply Kd.R_drewN | apply Kd.R_drew)); exact Kd.R_mono HO_27.out (fun _ hk => trivial)⟩, ⟨by repeat (first | (with_reducible first | exact HB.out | apply below_alloc | apply pw_below_drewN | apply below_drew1 | refine below_set ?_ GE846.out) | exact HB.out)⟩⟩
                      · rw [if_neg c20] at H
                        exact absurd H (by simp)
                    · rw [if_neg c19] at H
                      exact absurd H (by simp)
                  · rw [if_neg c18] at H
                    have c18b0 : decide (x29_2 < (t842.length : Int)) = false := decide_eq_false c18
                    clear c18
                    have H' := Aside0.mk H
                    clear H
                    go_wp2
                    repeat (go_quiet (fail); try go_wp2)
                    go_loopg [91] k2 (fun kq v91 w' => ∃ (x91_3 : Int), v91 = .int .i64 x91_3 ∧ Aside0 (masterdisclaw41_SpacebitmapRuns.l2 kq a0 a1 x5_2 x7_2 a1 x91_3 = some r) ∧ Aside0 (kq ≤ k2) ∧ Aside0 (Kd.R Kd.bool 4 w' w.heap.size (fun _ => True) v840 x5_2) ∧ Aside0 (Below w.heap.size w w'))
                    case atStart => exact ⟨(0), (by first | rfl | (simp; done) | (simp [*]; done)), H', ⟨Nat.le_refl _⟩, ⟨by (with_reducible repeat (first | apply Kd.R_alloc | apply Kd.R_drewN | apply Kd.R_drew)); exact HO_5.out⟩, ⟨by repeat (first | (with_reducible first | exact HB.out | apply below_alloc | apply pw_below_drewN | apply below_drew1) | exact HB.out)⟩⟩
                    case round =>
                      clear H'
                      try clear c1
                      try clear c2
                      try clear p2
                      try clear c3
                      try clear c4
                      try clear p4
                      try clear q4
                      try clear hx4
                      try clear hf4
                      try clear p6
                      try clear c7
                      try clear c7b0
                      try clear c7b1
                      try clear p8
                      try clear q8
                      try clear hx8
                      try clear c10
                      try clear c11
                      try clear c11b0
                      try clear c11b1
                      try clear c12
                      try clear c12b0
                      try clear c12b1
                      try clear c18
                      try clear c18b0
                      try clear c19
                      try clear c19b0
                      try clear c20
                      try clear c20b0
                      try clear c24
                      try clear c24b0
                      try clear c26
                      try clear c26b0
                      try clear c27
                      try clear c27b0
                      try clear c29
                      try clear c29b0
                      try clear c31
                      try clear c31b0
                      try clear c34
                      try clear c34b0
                      try clear c36
                      try clear c36b0
                      try clear c39
                      try clear c41
                      try clear c41b0
                      try clear c43
                      try clear c43b0
                      try clear c44
                      try clear c44b0
                      try clear p45
                      try clear q45
                      try clear hx45
                      try clear hf45
                      try clear hcz23_0
                      try clear hcz23_1
                      try clear hcz25_0
                      try clear hcz25_1
                      try clear hcz28_0
                      try clear hcz28_1
                      try clear hcz30_0
                      try clear hcz30_1
                      try clear hcz32_0
                      try clear hcz32_1
                      try clear hcz33_0
                      try clear hcz33_1
                      try clear hcz35_0
                      try clear hcz35_1
                      try clear hcz37_0
                      try clear hcz37_1
                      try clear hcz38_0
                      try clear hcz38_1
                      try clear hcz40_0
                      try clear hcz40_1
                      try clear hcz46_0
                      try clear hcz46_1
                      try clear hcz49_0
                      try clear hcz49_1
                      try clear hfz23_0
                      try clear hfz23_1
                      try clear hfz25_0
                      try clear hfz25_1
                      try clear hfz28_0
                      try clear hfz28_1
                      try clear hfz30_0
                      try clear hfz30_1
                      try clear hfz32_0
                      try clear hfz32_1
                      try clear hfz33_0
                      try clear hfz33_1
                      try clear hfz35_0
                      try clear hfz35_1
                      try clear hfz37_0
                      try clear hfz37_1
                      try clear hfz38_0
                      try clear hfz38_1
                      try clear hfz40_0
                      try clear hfz40_1
                      try clear hfz46_0
                      try clear hfz46_1
                      try clear hfz49_0
                      try clear hfz49_1
                      try clear hx45_0
                      try clear hx845_0
                      try clear hx845_1
                      try clear p2
                      try clear p45
                      try clear p6
                      try clear p8
                      try clear p845
                      try clear q45
                      try clear q8
                      try clear q845
                      obtain ⟨x91_3, rfl, HA, HK3, HO_5, HB⟩ := hrel
                      cases gk with
                      | zero => exact absurd HA.out (by simp [masterdisclaw41_SpacebitmapRuns.l2])
                      | succ k3 =>
                        have H := HA.out
                        clear HA
                        simp only [masterdisclaw41_SpacebitmapRuns.l2] at H
                        by_cases c50 : x91_3 < a1
                        · rw [if_pos c50] at H
                          have c50b0 : decide (x91_3 < a1) = true := decide_eq_true c50
                          clear c50
                          by_cases c51 : 0 ≤ x91_3
                          · rw [if_pos c51] at H
                            have c51b0 : decide (0 ≤ x91_3) = true := decide_eq_true c51
                            clear c51
                            by_cases c52 : x91_3 < (x5_2.length : Int)
                            · rw [if_pos c52] at H
                              have c52b0 : decide (x91_3 < (x5_2.length : Int)) = true := decide_eq_true c52
                              clear c52
                              replace H := Option.bind_eq_some_iff.mp H
                              obtain ⟨t849, A530, H⟩ := H
                              replace H : (if ((rdOf false x5_2 x91_3) != t849) = true then (some false) else (masterdisclaw41_SpacebitmapRuns.l2 k3 a0 a1 x5_2 x7_2 a1 (wrap64 (x91_3 + 1)))) = some r := H
                              have A53 := Aside0.mk A530
                              clear A530
                              by_cases c54 : ((rdOf false x5_2 x91_3) != t849) = true
                              · rw [if_pos c54] at H
                                have c54b0 : ((rdOf false x5_2 x91_3) != t849) = true := c54
                                (try (have c54b1 : decide ((rdOf false x5_2 x91_3) = t849) = false := by simpa using c54))
                                (try (have c54b2 : ((rdOf false x5_2 x91_3) == t849) = false := by simpa using c54))
                                (try (have c54b3 : ¬ ((rdOf false x5_2 x91_3) = t849) := by simpa using c54))
                                clear c54
                                obtain rfl := Option.some.inj H
                                obtain ⟨Ao55, co55, eo55⟩ := Kd.R_slice HO_5.out
                                subst eo55
                                have p848 : 0 ≤ (x91_3 : Int) := of_decide_eq_true (by first | (with_reducible assumption) | assumption)
                                have q848 : x91_3 < (x5_2.length : Int) := of_decide_eq_true (by first | (with_reducible assumption) | assumption)
                                obtain ⟨ad848, e848, hx848_0⟩ := Kd.at_bool (Kd.R_reads' HO_5.out).2.2 x91_3 p848 q848
                                cases e848
                                replace p848 := eq_true p848
                                replace q848 := eq_true q848
                                go_wp2_with (first | (go_at_call 45; (with_reducible refine (masterdisclaw41_free.calls a0 x91_3 t849 _ A53.out).mono ?_); rintro e w' ⟨rfl, ⟨nd, rfl⟩⟩; (try first | exact ⟨rfl, _, World.drewN_drewN _ _ _⟩ | exact ⟨rfl, _, Eq.trans (World.drewN_drewN _ _ _) (congrArg (World.drewN _) (Nat.add_assoc _ _ _))⟩)))
                                repeat (go_quiet (first | (go_at_call 45; (with_reducible refine (masterdisclaw41_free.calls a0 x91_3 t849 _ A53.out).mono ?_); rintro e w' ⟨rfl, ⟨nd, rfl⟩⟩; (try first | exact ⟨rfl, _, World.drewN_drewN _ _ _⟩ | exact ⟨rfl, _, Eq.trans (World.drewN_drewN _ _ _) (congrArg (World.drewN _) (Nat.add_assoc _ _ _))⟩))); try go_wp2_with (first | (go_at_call 45; (with_reducible refine (masterdisclaw41_free.calls a0 x91_3 t849 _ A53.out).mono ?_); rintro e w' ⟨rfl, ⟨nd, rfl⟩⟩; (try first | exact ⟨rfl, _, World.drewN_drewN _ _ _⟩ | exact ⟨rfl, _, Eq.trans (World.drewN_drewN _ _ _) (congrArg (World.drewN _) (Nat.add_assoc _ _ _))⟩))))
                                go_ret
                                exact ⟨by first | rfl | (simp [errW_none, errW_some] <;> rfl) | (simp [*, errW_none, errW_some] <;> rfl), by repeat (first | (with_reducible first | exact HB.out | apply below_alloc | apply pw_below_drewN | apply below_drew1) | exact HB.out)⟩
                              · rw [if_neg c54] at H
                                have c54b0 : ((rdOf false x5_2 x91_3) != t849) = false := by simpa using c54
                                (try (have c54b1 : decide ((rdOf false x5_2 x91_3) = t849) = true := by simpa using c54))
                                (try (have c54b2 : ((rdOf false x5_2 x91_3) == t849) = true := by simpa using c54))
                                clear c54
                                have H' := Aside0.mk H
                                clear H
                                obtain ⟨Ao56, co56, eo56⟩ := Kd.R_slice HO_5.out
                                subst eo56
                                have p848 : 0 ≤ (x91_3 : Int) := of_decide_eq_true (by first | (with_reducible assumption) | assumption)
                                have q848 : x91_3 < (x5_2.length : Int) := of_decide_eq_true (by first | (with_reducible assumption) | assumption)
                                obtain ⟨ad848, e848, hx848_0⟩ := Kd.at_bool (Kd.R_reads' HO_5.out).2.2 x91_3 p848 q848
                                cases e848
                                replace p848 := eq_true p848
                                replace q848 := eq_true q848
                                go_wp2_with (first | (go_at_call 45; (with_reducible refine (masterdisclaw41_free.calls a0 x91_3 t849 _ A53.out).mono ?_); rintro e w' ⟨rfl, ⟨nd, rfl⟩⟩; (try first | exact ⟨rfl, _, World.drewN_drewN _ _ _⟩ | exact ⟨rfl, _, Eq.trans (World.drewN_drewN _ _ _) (congrArg (World.drewN _) (Nat.add_assoc _ _ _))⟩)))
                                repeat (go_quiet (first | (go_at_call 45; (with_reducible refine (masterdisclaw41_free.calls a0 x91_3 t849 _ A53.out).mono ?_); rintro e w' ⟨rfl, ⟨nd, rfl⟩⟩; (try first | exact ⟨rfl, _, World.drewN_drewN _ _ _⟩ | exact ⟨rfl, _, Eq.trans (World.drewN_drewN _ _ _) (congrArg (World.drewN _) (Nat.add_assoc _ _ _))⟩))); try go_wp2_with (first | (go_at_call 45; (with_reducible refine (masterdisclaw41_free.calls a0 x91_3 t849 _ A53.out).mono ?_); rintro e w' ⟨rfl, ⟨nd, rfl⟩⟩; (try first | exact ⟨rfl, _, World.drewN_drewN _ _ _⟩ | exact ⟨rfl, _, Eq.trans (World.drewN_drewN _ _ _) (congrArg (World.drewN _) (Nat.add_assoc _ _ _))⟩))))
                                go_roundg k3
                                case measure => have := HJ4.out; have := HK2.out; have := HK3.out; omega
                                case rel => exact ⟨(wrap64 (x91_3 + 1)), (by first | rfl | (simp; done) | (simp [*]; done)), H', ⟨by have := HJ4.out; have := HK2.out; have := HK3.out; omega⟩, ⟨by (with_reducible repeat (first | apply Kd.R_alloc | apply Kd.R_drewN | apply Kd.R_drew)); exact HO_5.out⟩, ⟨by repeat (first | (with_reducible first | exact HB.out | apply below_alloc | apply pw_below_drewN | apply below_drew1) | exact HB.out)⟩⟩
                            · rw [if_neg c52] at H
                              exact absurd H (by simp)
                          · rw [if_neg c51] at H
                            exact absurd H (by simp)
                        · rw [if_neg c50] at H
                          have c50b0 : decide (x91_3 < a1) = false := decide_eq_false c50
                          clear c50
                          replace H := Option.bind_eq_some_iff.mp H
                          obtain ⟨t850, A570, H⟩ := H
                          replace H : (some (x7_2 == t850)) = some r := H
                          have A57 := Aside0.mk A570
                          clear A570
                          obtain rfl := Option.some.inj H
                          go_wp2_with (first | (go_at_call 79; (with_reducible refine (spacebitmap_Free.calls a0 a1 t850 _ A57.out).mono ?_); rintro e w58 ⟨rfl, hb⟩; have n0_ := Aside0.mk (Kd.R_below (by (with_reducible repeat (first | apply Kd.R_alloc | apply Kd.R_drewN | apply Kd.R_drew)); exact HO_5.out) hb); have n1_ := Aside0.mk (below_step (by repeat (first | (with_reducible first | exact HB.out | apply below_alloc | apply pw_below_drewN | apply below_drew1) | exact HB.out)) hb); clear HO_5; clear HB; have HO_5 := n0_; have HB := n1_; clear n0_ n1_; (try clear hb); (try clear hb2); (try clear hk); (try clear hi)))
                          repeat (go_quiet (first | (go_at_call 79; (with_reducible refine (spacebitmap_Free.calls a0 a1 t850 _ A57.out).mono ?_); rintro e w58 ⟨rfl, hb⟩; have n0_ := Aside0.mk (Kd.R_below (by (with_reducible repeat (first | apply Kd.R_alloc | apply Kd.R_drewN | apply Kd.R_drew)); exact HO_5.out) hb); have n1_ := Aside0.mk (below_step (by repeat (first | (with_reducible first | exact HB.out | apply below_alloc | apply pw_below_drewN | apply below_drew1) | exact HB.out)) hb); clear HO_5; clear HB; have HO_5 := n0_; have HB := n1_; clear n0_ n1_; (try clear hb); (try clear hb2); (try clear hk); (try clear hi))); try go_wp2_with (first | (go_at_call 79; (with_reducible refine (spacebitmap_Free.calls a0 a1 t850 _ A57.out).mono ?_); rintro e w58 ⟨rfl, hb⟩; have n0_ := Aside0.mk (Kd.R_below (by (with_reducible repeat (first | apply Kd.R_alloc | apply Kd.R_drewN | apply Kd.R_drew)); exact HO_5.out) hb); have n1_ := Aside0.mk (below_step (by repeat (first | (with_reducible first | exact HB.out | apply below_alloc | apply pw_below_drewN | apply below_drew1) | exact HB.out)) hb); clear HO_5; clear HB; have HO_5 := n0_; have HB := n1_; clear n0_ n1_; (try clear hb); (try clear hb2); (try clear hk); (try clear hi))))
                          go_ret
                          exact ⟨by first | rfl | (simp [errW_none, errW_some] <;> rfl) | (simp [*, errW_none, errW_some] <;> rfl), by repeat (first | (with_reducible first | exact HB.out | apply below_alloc | apply pw_below_drewN | apply below_drew1) | exact HB.out)⟩
            · rw [if_neg c12] at H
              exact absurd H (by simp)
          · rw [if_neg c11] at H
            exact absurd H (by simp)
  · replace c4 := Bool.eq_false_iff.mpr c4
    subst c4
    have H1 : (some false) = some r := by rw [if_neg (show ¬ (false = true) by decide)] at H; exact H
    clear H
    have H := H1
    clear H1
    obtain rfl := Option.some.inj H
    go_enter Try.func24, Try.ntmps24
    go_wp2_with (first | (go_at_call 43; (with_reducible refine (masterdisclaw41_awake.calls  false _ A3.out).mono ?_); rintro e w59 ⟨rfl, hb⟩; have n0_ := Aside0.mk (below_step (by repeat (first | (with_reducible first | exact HB.out | apply below_alloc | apply pw_below_drewN | apply below_drew1) | exact HB.out)) hb); clear HB; have HB := n0_; clear n0_; (try clear hb); (try clear hb2); (try clear hk); (try clear hi)))
    repeat (go_quiet (first | (go_at_call 43; (with_reducible refine (masterdisclaw41_awake.calls  false _ A3.out).mono ?_); rintro e w59 ⟨rfl, hb⟩; have n0_ := Aside0.mk (below_step (by repeat (first | (with_reducible first | exact HB.out | apply below_alloc | apply pw_below_drewN | apply below_drew1) | exact HB.out)) hb); clear HB; have HB := n0_; clear n0_; (try clear hb); (try clear hb2); (try clear hk); (try clear hi))); try go_wp2_with (first | (go_at_call 43; (with_reducible refine (masterdisclaw41_awake.calls  false _ A3.out).mono ?_); rintro e w59 ⟨rfl, hb⟩; have n0_ := Aside0.mk (below_step (by repeat (first | (with_reducible first | exact HB.out | apply below_alloc | apply pw_below_drewN | apply below_drew1) | exact HB.out)) hb); clear HB; have HB := n0_; clear n0_; (try clear hb); (try clear hb2); (try clear hk); (try clear hi))))
    go_ret
    exact ⟨by first | rfl | (simp [errW_none, errW_some] <;> rfl) | (simp [*, errW_none, errW_some] <;> rfl), by repeat (first | (with_reducible first | exact HB.out | apply below_alloc | apply pw_below_drewN | apply below_drew1) | exact HB.out)⟩

/-- THE ONE PURE STATEMENT of masterdisclaw41_SpacebitmapRuns: yours. -/
def masterdisclaw41_SpacebitmapRuns.Pure : Prop := ∀ (a0 : ByteArray) (a1 : Int), a0.size ≤ 140737488351232 → (Lit.int .i64 a1).wf = true → ∃ k, masterdisclaw41_SpacebitmapRuns.f k a0 a1 = some true
theorem masterdisclaw41_SpacebitmapRuns.walk (P : masterdisclaw41_SpacebitmapRuns.Pure) (a0 : ByteArray) (a1 : Int) (w : World) (w0 : a0.size ≤ 140737488351232) (w1 : (Lit.int .i64 a1).wf = true) :
    Calls Try.prog 24 #[.string a0, .int .i64 a1] w fun e w' => e = .returned (.bool true) ∧ Below w.heap.size w w' := by
  obtain ⟨k, h⟩ := P a0 a1 w0 w1
  refine (masterdisclaw41_SpacebitmapRuns.calls k a0 a1 true w h).mono ?_
  rintro e w' ⟨rfl, hd⟩
  exact ⟨rfl, hd⟩

end Go.Proofs.Ytijbfebbogiiiaa.Q
