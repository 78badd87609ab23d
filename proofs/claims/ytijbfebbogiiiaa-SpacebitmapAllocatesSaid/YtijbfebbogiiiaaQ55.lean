/- Contracts of Go functions: each call returns what the Lean function of its name says. Written by wip/gen.py (a patched print) for this claim. -/
import Derived.Test.YtijbfebbogiiiaaQ0
import Derived.Test.YtijbfebbogiiiaaQ31
import Derived.Test.YtijbfebbogiiiaaQKept
namespace Go.Proofs.Ytijbfebbogiiiaa.Q
open Go.RowKit Go.Proofs.YtijbfebbogiiiaaW.PrintWords Go.Proofs.YtijbfebbogiiiaaW.PrintLast Go.Proofs.YtijbfebbogiiiaaW.PrintMore
attribute [local go_sem] max2_int min2_int max_two min_two max_three min_three max_four min_four   -- for this text's walks alone
set_option linter.unusedVariables false
set_option linter.unusedSimpArgs false

/-! ### masterdiscref41_pack: function 136 -/
mutual
def masterdiscref41_pack.l0 : Nat → List Bool → List Int → Int → Option (ByteArray)
  | 0, _, _, _ => none
  | k + 1, x0, x3, x4 => if x4 < (x0.length : Int) then (masterdiscref41_pack.l1 k x0 x3 x4 0 7) else (some (strOfNums x3))
def masterdiscref41_pack.l1 : Nat → List Bool → List Int → Int → Int → Int → Option (ByteArray)
  | 0, _, _, _, _, _ => none
  | k + 1, x0, x3, x4, x5, x6 => if x6 ≥ 0 then (if (wrap64 (x4 + x6)) < (x0.length : Int) then (if 0 ≤ (wrap64 (x4 + x6)) then (if rdOf false x0 (wrap64 (x4 + x6)) = true then (masterdiscref41_pack.l1 k x0 x3 x4 (wrap64 ((wrap64 (2 * x5)) + 1)) (wrap64 (x6 - 1))) else (masterdiscref41_pack.l1 k x0 x3 x4 (wrap64 (2 * x5)) (wrap64 (x6 - 1)))) else (none)) else (masterdiscref41_pack.l1 k x0 x3 x4 (wrap64 (2 * x5)) (wrap64 (x6 - 1)))) else (if x3.length < 140737488355328 then (masterdiscref41_pack.l0 k x0 (x3 ++ [(x5) % 256]) (wrap64 (x4 + 8))) else (none))
end
def masterdiscref41_pack.f (k : Nat) (l0 : List Bool) : Option (ByteArray) := masterdiscref41_pack.l0 k l0 (([] : List Int)) 0
theorem masterdiscref41_pack.mono_l : ∀ k, (∀ y0 y1 y2, LeO (masterdiscref41_pack.l0 k y0 y1 y2) (masterdiscref41_pack.l0 (k + 1) y0 y1 y2)) ∧ (∀ y0 y1 y2 y3 y4, LeO (masterdiscref41_pack.l1 k y0 y1 y2 y3 y4) (masterdiscref41_pack.l1 (k + 1) y0 y1 y2 y3 y4))
  | 0 => ⟨fun _ _ _ r h => by simp [masterdiscref41_pack.l0] at h, fun _ _ _ _ _ r h => by simp [masterdiscref41_pack.l1] at h⟩
  | k + 1 => by
    obtain ⟨ih0, ih1⟩ := masterdiscref41_pack.mono_l k
    refine ⟨?_, ?_⟩
    · intro y0 y1 y2
      unfold masterdiscref41_pack.l0
      repeat' first
      | (with_reducible exact ih0 _ _ _)
      | (with_reducible exact ih1 _ _ _ _ _)
      | (with_reducible exact LeO.refl _)
      | (with_reducible exact LeO.none _)
      | (with_reducible refine LeO.ite ?_ ?_)
      | (with_reducible refine LeO.bind ?_ (fun _ => ?_))
      | exact ih0 _ _ _
      | exact ih1 _ _ _ _ _
      | exact LeO.none _
      | refine LeO.ite ?_ ?_
      | refine LeO.bind ?_ (fun _ => ?_)
    · intro y0 y1 y2 y3 y4
      unfold masterdiscref41_pack.l1
      repeat' first
      | (with_reducible exact ih0 _ _ _)
      | (with_reducible exact ih1 _ _ _ _ _)
      | (with_reducible exact LeO.refl _)
      | (with_reducible exact LeO.none _)
      | (with_reducible refine LeO.ite ?_ ?_)
      | (with_reducible refine LeO.bind ?_ (fun _ => ?_))
      | exact ih0 _ _ _
      | exact ih1 _ _ _ _ _
      | exact LeO.none _
      | refine LeO.ite ?_ ?_
      | refine LeO.bind ?_ (fun _ => ?_)
theorem masterdiscref41_pack.mono : ∀ a0 k, LeO (masterdiscref41_pack.f k a0) (masterdiscref41_pack.f (k + 1) a0) := by
  intro a0 k
  obtain ⟨ih0, ih1⟩ := masterdiscref41_pack.mono_l k
  unfold masterdiscref41_pack.f
  repeat' first
      | (with_reducible exact ih0 _ _ _)
      | (with_reducible exact ih1 _ _ _ _ _)
      | (with_reducible exact LeO.refl _)
      | (with_reducible exact LeO.none _)
      | (with_reducible refine LeO.ite ?_ ?_)
      | (with_reducible refine LeO.bind ?_ (fun _ => ?_))
      | exact ih0 _ _ _
      | exact ih1 _ _ _ _ _
      | exact LeO.none _
      | refine LeO.ite ?_ ?_
      | refine LeO.bind ?_ (fun _ => ?_)
set_option maxHeartbeats 8000000 in
set_option maxRecDepth 100000 in
theorem masterdiscref41_pack.calls (k : Nat) (A0 : Option Addr) (c0 : Nat) (l0 : List Bool) (r : ByteArray) (w : World) (hr0 : Kd.C Kd.bool w A0 l0.length l0) (hc0 : l0.length ≤ c0) (h : masterdiscref41_pack.f k l0 = some r) :
    Calls Try.prog 136 #[.slice A0 l0.length c0] w fun e w' => e = .returned (.string r) ∧ Below w.heap.size w w' := by
  have HR0 := Aside0.mk hr0
  have HC0 := Aside0.mk hc0
  clear hr0 hc0
  have HB := Aside0.mk (Below.refl w.heap.size w)
  have H : (masterdiscref41_pack.l0 k l0 (([] : List Int)) 0) = some r := h
  clear h
  obtain ⟨y708, hy708⟩ : ∃ y_ : List Int, y_ = (([] : List Int)) := ⟨_, rfl⟩
  replace H : (masterdiscref41_pack.l0 k l0 y708 0) = some r := by first | (rw [hy708]; with_reducible exact H) | (have H2_ := (Option.bind_some _ _).symm.trans H; rw [hy708]; with_reducible exact H2_) | (have H2_ := (Option.bind_some _ _).symm.trans H; with_reducible exact H2_) | with_reducible exact H | (rw [hy708]; exact H) | exact H
  have Ny708 := Aside0.mk hy708
  clear hy708
  have H' := Aside0.mk H
  clear H
  go_enter Try.func136, Try.ntmps136
  go_wp2_with (first | ((with_reducible refine gate_dst (N := 7) rfl ?_); refine Kd.R_lit (Kd.int .u8) _ 5 ?hg (N := 7) ?hd (xs := ([] : List Int)) (inner := []) (ok := fun _ => True) (okp := fun _ => True) ?hr ?hp (fun _ hk => hk) trivial (Below.refl _ _) (Nat.le_refl _) (by simp) ?_; (case hd => rfl); (case hg => rfl); (case hr => first | (go_simp; done) | (go_simp; rfl)); (case hp => exact (Reps.none _ _)); intro v709 w2 ho3 hb hg_ hnew_; clear hg_ hnew_; (first | rw [← Ny708.out] at ho3 | (simp only [Int.reduceToNat] at ho3; rw [← Ny708.out] at ho3)); have n0_ := Aside0.mk (Kd.R_lower ho3 (below_size (by repeat (first | (with_reducible first | exact HB.out | apply below_alloc | apply pw_below_drewN | apply below_drew1) | exact HB.out)))); have n1_ := Aside0.mk (below_step (by repeat (first | (with_reducible first | exact HB.out | apply below_alloc | apply pw_below_drewN | apply below_drew1) | exact HB.out)) hb); clear HB; have HO710 := n0_; have HB := n1_; clear n0_ n1_; clear hb ho3))
  go_loopg [3, 4] k (fun kq v3 v4 w' => ∃ (x3_1 : List Int) (x4_1 : Int), v4 = .int .i64 x4_1 ∧ Aside0 (masterdiscref41_pack.l0 kq l0 x3_1 x4_1 = some r) ∧ Aside0 (kq ≤ k) ∧ Aside0 (Kd.R (Kd.int .u8) 5 w' w.heap.size (fun _ => True) v3 x3_1) ∧ Aside0 (Below w.heap.size w w'))
  case atStart => exact ⟨(y708), (0), (by first | rfl | (simp; done) | (simp [*]; done)), H', ⟨Nat.le_refl _⟩, ⟨by (with_reducible repeat (first | apply Kd.R_alloc | apply Kd.R_drewN | apply Kd.R_drew)); exact HO710.out⟩, ⟨by repeat (first | (with_reducible first | exact HB.out | apply below_alloc | apply pw_below_drewN | apply below_drew1) | exact HB.out)⟩⟩
  case round =>
    clear H'
    try clear c1
    try clear p2
    obtain ⟨x3_1, x4_1, rfl, HA, HK1, HO_3, HB⟩ := hrel
    cases gk with
    | zero => exact absurd HA.out (by simp [masterdiscref41_pack.l0])
    | succ k1 =>
      have H := HA.out
      clear HA
      simp only [masterdiscref41_pack.l0] at H
      by_cases c4 : x4_1 < (l0.length : Int)
      · rw [if_pos c4] at H
        have c4b0 : decide (x4_1 < (l0.length : Int)) = true := decide_eq_true c4
        clear c4
        have H' := Aside0.mk H
        clear H
        go_wp2
        go_loopg [5, 6] k1 (fun kq v5 v6 w' => ∃ (x5_2 : Int) (x6_2 : Int), v5 = .int .i64 x5_2 ∧ v6 = .int .i64 x6_2 ∧ Aside0 (masterdiscref41_pack.l1 kq l0 x3_1 x4_1 x5_2 x6_2 = some r) ∧ Aside0 (kq ≤ k1) ∧ Aside0 (Kd.R (Kd.int .u8) 5 w' w.heap.size (fun _ => True) u3 x3_1) ∧ Aside0 (Below w.heap.size w w'))
        case atStart => exact ⟨(0), (7), (by first | rfl | (simp; done) | (simp [*]; done)), (by first | rfl | (simp; done) | (simp [*]; done)), H', ⟨Nat.le_refl _⟩, ⟨by (with_reducible repeat (first | apply Kd.R_alloc | apply Kd.R_drewN | apply Kd.R_drew)); exact HO_3.out⟩, ⟨by repeat (first | (with_reducible first | exact HB.out | apply below_alloc | apply pw_below_drewN | apply below_drew1) | exact HB.out)⟩⟩
        case round =>
          clear H'
          try clear c1
          try clear p2
          try clear c4
          try clear c4b0
          try clear p2
          obtain ⟨x5_2, x6_2, rfl, rfl, HA, HK2, HO_3, HB⟩ := hrel
          cases gk with
          | zero => exact absurd HA.out (by simp [masterdiscref41_pack.l1])
          | succ k2 =>
            have H := HA.out
            clear HA
            simp only [masterdiscref41_pack.l1] at H
            by_cases c5 : x6_2 ≥ 0
            · rw [if_pos c5] at H
              have c5b0 : decide (0 ≤ x6_2) = true := decide_eq_true c5
              clear c5
              by_cases c6 : (wrap64 (x4_1 + x6_2)) < (l0.length : Int)
              · rw [if_pos c6] at H
                have c6b0 : decide ((wrap64 (x4_1 + x6_2)) < (l0.length : Int)) = true := decide_eq_true c6
                clear c6
                obtain ⟨ji7, hji7⟩ : ∃ j_ : Int, (wrap64 (x4_1 + x6_2)) = j_ := ⟨_, rfl⟩
                replace H : (if 0 ≤ (ji7) then (if rdOf false l0 (ji7) = true then (masterdiscref41_pack.l1 k2 l0 x3_1 x4_1 (wrap64 ((wrap64 (2 * x5_2)) + 1)) (wrap64 (x6_2 - 1))) else (masterdiscref41_pack.l1 k2 l0 x3_1 x4_1 (wrap64 (2 * x5_2)) (wrap64 (x6_2 - 1)))) else (none)) = some r := by first | (rw [hji7] at H; exact H) | (simp only [hji7] at H ⊢; exact H)
                (try rw [hji7] at c6b0)
                have hji7w : (IntKind.i64.wrap (x4_1 + x6_2)) = ji7 := (i64_w _).trans hji7
                by_cases c8 : 0 ≤ (ji7)
                · rw [if_pos c8] at H
                  have c8b0 : decide (0 ≤ (ji7)) = true := decide_eq_true c8
                  clear c8
                  obtain ⟨bq9, hbq9⟩ : ∃ b_ : Bool, b_ = (rdOf false l0 (ji7)) := ⟨_, rfl⟩
                  replace H : (if bq9 = true then (masterdiscref41_pack.l1 k2 l0 x3_1 x4_1 (wrap64 ((wrap64 (2 * x5_2)) + 1)) (wrap64 (x6_2 - 1))) else (masterdiscref41_pack.l1 k2 l0 x3_1 x4_1 (wrap64 (2 * x5_2)) (wrap64 (x6_2 - 1)))) = some r := by rw [← hbq9] at H; exact H
                  have Nbq9 := Aside0.mk hbq9
                  clear hbq9
                  by_cases c10 : bq9 = true
                  · subst c10
                    have H1 : (masterdiscref41_pack.l1 k2 l0 x3_1 x4_1 (wrap64 ((wrap64 (2 * x5_2)) + 1)) (wrap64 (x6_2 - 1))) = some r := by rw [if_pos rfl] at H; exact H
                    clear H
                    have H := H1
                    clear H1
                    have H' := Aside0.mk H
                    clear H
                    have p711 : 0 ≤ ((ji7) : Int) := of_decide_eq_true (by first | (with_reducible assumption) | assumption)
                    have q711 : (ji7) < (l0.length : Int) := of_decide_eq_true (by first | (with_reducible assumption) | assumption)
                    obtain ⟨ad711, e711, hx711_0⟩ := Kd.at_bool HR0.out (ji7) p711 q711
                    (try rw [← Nbq9.out] at hx711_0)
                    cases e711
                    replace hx711_0 := (HB.out.cell (World.block_lt_of_cell? w _ hx711_0)).trans hx711_0
                    replace p711 := eq_true p711
                    replace q711 := eq_true q711
                    go_wp2
                    go_roundg k2
                    case measure => have := HK1.out; have := HK2.out; omega
                    case rel => exact ⟨(wrap64 ((wrap64 (2 * x5_2)) + 1)), (wrap64 (x6_2 - 1)), (by first | rfl | (simp; done) | (simp [*]; done)), (by first | rfl | (simp; done) | (simp [*]; done)), H', ⟨by have := HK1.out; have := HK2.out; omega⟩, ⟨by (with_reducible repeat (first | apply Kd.R_alloc | apply Kd.R_drewN | apply Kd.R_drew)); exact HO_3.out⟩, ⟨by repeat (first | (with_reducible first | exact HB.out | apply below_alloc | apply pw_below_drewN | apply below_drew1) | exact HB.out)⟩⟩
                  · replace c10 := Bool.eq_false_iff.mpr c10
                    subst c10
                    have H1 : (masterdiscref41_pack.l1 k2 l0 x3_1 x4_1 (wrap64 (2 * x5_2)) (wrap64 (x6_2 - 1))) = some r := by rw [if_neg (show ¬ (false = true) by decide)] at H; exact H
                    clear H
                    have H := H1
                    clear H1
                    have H' := Aside0.mk H
                    clear H
                    have p711 : 0 ≤ ((ji7) : Int) := of_decide_eq_true (by first | (with_reducible assumption) | assumption)
                    have q711 : (ji7) < (l0.length : Int) := of_decide_eq_true (by first | (with_reducible assumption) | assumption)
                    obtain ⟨ad711, e711, hx711_0⟩ := Kd.at_bool HR0.out (ji7) p711 q711
                    (try rw [← Nbq9.out] at hx711_0)
                    cases e711
                    replace hx711_0 := (HB.out.cell (World.block_lt_of_cell? w _ hx711_0)).trans hx711_0
                    replace p711 := eq_true p711
                    replace q711 := eq_true q711
                    go_wp2
                    go_roundg k2
                    case measure => have := HK1.out; have := HK2.out; omega
                    case rel => exact ⟨(wrap64 (2 * x5_2)), (wrap64 (x6_2 - 1)), (by first | rfl | (simp; done) | (simp [*]; done)), (by first | rfl | (simp; done) | (simp [*]; done)), H', ⟨by have := HK1.out; have := HK2.out; omega⟩, ⟨by (with_reducible repeat (first | apply Kd.R_alloc | apply Kd.R_drewN | apply Kd.R_drew)); exact HO_3.out⟩, ⟨by repeat (first | (with_reducible first | exact HB.out | apply below_alloc | apply pw_below_drewN | apply below_drew1) | exact HB.out)⟩⟩
                · rw [if_neg c8] at H
                  exact absurd H (by simp)
              · rw [if_neg c6] at H
                have c6b0 : decide ((wrap64 (x4_1 + x6_2)) < (l0.length : Int)) = false := decide_eq_false c6
                clear c6
                have H' := Aside0.mk H
                clear H
                go_wp2
                go_roundg k2
                case measure => have := HK1.out; have := HK2.out; omega
                case rel => exact ⟨(wrap64 (2 * x5_2)), (wrap64 (x6_2 - 1)), (by first | rfl | (simp; done) | (simp [*]; done)), (by first | rfl | (simp; done) | (simp [*]; done)), H', ⟨by have := HK1.out; have := HK2.out; omega⟩, ⟨by (with_reducible repeat (first | apply Kd.R_alloc | apply Kd.R_drewN | apply Kd.R_drew)); exact HO_3.out⟩, ⟨by repeat (first | (with_reducible first | exact HB.out | apply below_alloc | apply pw_below_drewN | apply below_drew1) | exact HB.out)⟩⟩
            · rw [if_neg c5] at H
              have c5b0 : decide (0 ≤ x6_2) = false := decide_eq_false c5
              clear c5
              by_cases c11 : x3_1.length < 140737488355328
              · rw [if_pos c11] at H
                have LMc11 := Aside0.mk c11
                clear c11
                obtain ⟨y712, hy712⟩ : ∃ y_ : List Int, y_ = (x3_1 ++ [(x5_2) % 256]) := ⟨_, rfl⟩
                replace H : (masterdiscref41_pack.l0 k2 l0 y712 (wrap64 (x4_1 + 8))) = some r := by first | (rw [hy712]; with_reducible exact H) | (have H2_ := (Option.bind_some _ _).symm.trans H; rw [hy712]; with_reducible exact H2_) | (have H2_ := (Option.bind_some _ _).symm.trans H; with_reducible exact H2_) | with_reducible exact H | (rw [hy712]; exact H) | exact H
                have Ny712 := Aside0.mk hy712
                clear hy712
                have H' := Aside0.mk H
                clear H
                go_wp2_with (first | ((with_reducible refine gate_builtin (b := .append) (xs := #[.tmp 36, .tmp 39]) rfl ?_); at_builtin; refine Kd.R_append (Kd.int .u8) (w0 := w) w.heap.size rfl (.tmp 36) (.tmp 39) 29 5 (.int .u8 0) 1 rfl Try.underlying29 info5 rfl (by decide) (by omega) u3 x3_1 ((x5_2) % 256) [.int .u8 ((x5_2) % 256)] (fun _ => True) (fun _ => False) rfl rfl ?aP (fun _ hk => hk.elim) ?aF ?aO ?aB ?aS ?aL ?_; (case aP => exact rfl); (case aB => exact (by repeat (first | (with_reducible first | exact HB.out | apply below_alloc | apply pw_below_drewN | apply below_drew1) | exact HB.out))); (case aF => exact (fun _ _ => trivial)); (case aO => exact (by (with_reducible repeat (first | apply Kd.R_alloc | apply Kd.R_drewN | apply Kd.R_drew)); exact HO_3.out)); (case aS => exact (below_size (by repeat (first | (with_reducible first | exact HB.out | apply below_alloc | apply pw_below_drewN | apply below_drew1) | exact HB.out)))); (case aL => have := LMc11.out; omega); intro v713 w12 ho hb hg hat; rw [← Ny712.out] at ho; have n0_ := Aside0.mk (hb); have n1_ := Aside0.mk (ho); clear HB; clear HO_3; have HB := n0_; have HO714 := n1_; clear n0_ n1_; clear ho hb hg hat))
                go_roundg k2
                case measure => have := HK1.out; have := HK2.out; omega
                case rel => exact ⟨(y712), (wrap64 (x4_1 + 8)), (by first | rfl | (simp; done) | (simp [*]; done)), H', ⟨by have := HK1.out; have := HK2.out; omega⟩, ⟨by (with_reducible repeat (first | apply Kd.R_alloc | apply Kd.R_drewN | apply Kd.R_drew)); exact HO714.out⟩, ⟨by repeat (first | (with_reducible first | exact HB.out | apply below_alloc | apply pw_below_drewN | apply below_drew1) | exact HB.out)⟩⟩
              · rw [if_neg c11] at H
                exact absurd H (by simp)
      · rw [if_neg c4] at H
        have c4b0 : decide (x4_1 < (l0.length : Int)) = false := decide_eq_false c4
        clear c4
        obtain rfl := Option.some.inj H
        have hcv13 := own_string (P := Try.prog) Try.underlying29 Try.underlying5 Try.underlying9 (Kd.own_of_R HO_3.out)
        go_wp2
        go_ret
        exact ⟨by first | rfl | (simp [errW_none, errW_some] <;> rfl) | (simp [*, errW_none, errW_some] <;> rfl), by repeat (first | (with_reducible first | exact HB.out | apply below_alloc | apply pw_below_drewN | apply below_drew1) | exact HB.out)⟩

/-! ### masterdiscref41_Mark: function 76 -/
mutual
def masterdiscref41_Mark.l0 : Nat → Int → List (S76) → Bool → List Bool → Int → Option (ByteArray × Int)
  | 0, _, _, _, _, _ => none
  | k + 1, x1, x2, x3, x10, x11 => if x11 < (x2.length : Int) then (if 0 ≤ x11 then (if ((rd_T76 x2 x11).f0) < 0 then (masterdiscref41_Mark.j1 k x1 x2 x3 x10 x11 true ((rd_T76 x2 x11).f0) ((rd_T76 x2 x11).f1)) else (if ((rd_T76 x2 x11).f1) < 0 then (masterdiscref41_Mark.j1 k x1 x2 x3 x10 x11 true ((rd_T76 x2 x11).f0) ((rd_T76 x2 x11).f1)) else (if ((rd_T76 x2 x11).f0) > x1 then (masterdiscref41_Mark.j1 k x1 x2 x3 x10 x11 true ((rd_T76 x2 x11).f0) ((rd_T76 x2 x11).f1)) else (masterdiscref41_Mark.j1 k x1 x2 x3 x10 x11 (decide (((rd_T76 x2 x11).f1) > (wrap64 (x1 - ((rd_T76 x2 x11).f0))))) ((rd_T76 x2 x11).f0) ((rd_T76 x2 x11).f1))))) else (none)) else ((masterdiscref41_pack.f k x10).bind fun t722 => (some (t722, 0)))
def masterdiscref41_Mark.j1 : Nat → Int → List (S76) → Bool → List Bool → Int → Bool → Int → Int → Option (ByteArray × Int)
  | 0, _, _, _, _, _, _, _, _ => none
  | k + 1, x1, x2, x3, x10, x11, x54, x725000, x725001 => if x54 = true then (some ((⟨#[]⟩ : ByteArray), 2)) else (masterdiscref41_Mark.l1 k x1 x2 x3 x10 x11 0 x725000 x725001)
def masterdiscref41_Mark.l1 : Nat → Int → List (S76) → Bool → List Bool → Int → Int → Int → Int → Option (ByteArray × Int)
  | 0, _, _, _, _, _, _, _, _ => none
  | k + 1, x1, x2, x3, x10, x11, x13, x725000, x725001 => if x13 < x725001 then (if 0 ≤ (wrap64 (x725000 + x13)) then (if (wrap64 (x725000 + x13)) < (x10.length : Int) then (masterdiscref41_Mark.l1 k x1 x2 x3 (x10.set ((wrap64 (x725000 + x13)) : Int).toNat x3) x11 (wrap64 (x13 + 1)) x725000 x725001) else (none)) else (none)) else (masterdiscref41_Mark.l0 k x1 x2 x3 x10 (wrap64 (x11 + 1)))
end
def masterdiscref41_Mark.f (k : Nat) (a0 : ByteArray) (a1 : Int) (l2 : List (S76)) (a3 : Bool) : Option (ByteArray × Int) := (masterdiscref41_Valid.f k a0 a1).bind fun t715 => (if t715 = true then ((masterdiscref41_bits.f k a0).bind fun t716 => (if 0 ≤ a1 then (if a1 ≤ (t716.length : Int) then (masterdiscref41_Mark.l0 k a1 l2 a3 (t716.take (a1 : Int).toNat) 0) else (none)) else (none))) else (some ((⟨#[]⟩ : ByteArray), 1)))
theorem masterdiscref41_Mark.mono_l : ∀ k, (∀ y0 y1 y2 y3 y4, LeO (masterdiscref41_Mark.l0 k y0 y1 y2 y3 y4) (masterdiscref41_Mark.l0 (k + 1) y0 y1 y2 y3 y4)) ∧ (∀ y0 y1 y2 y3 y4 y5 y6 y7, LeO (masterdiscref41_Mark.j1 k y0 y1 y2 y3 y4 y5 y6 y7) (masterdiscref41_Mark.j1 (k + 1) y0 y1 y2 y3 y4 y5 y6 y7)) ∧ (∀ y0 y1 y2 y3 y4 y5 y6 y7, LeO (masterdiscref41_Mark.l1 k y0 y1 y2 y3 y4 y5 y6 y7) (masterdiscref41_Mark.l1 (k + 1) y0 y1 y2 y3 y4 y5 y6 y7))
  | 0 => ⟨fun _ _ _ _ _ r h => by simp [masterdiscref41_Mark.l0] at h, fun _ _ _ _ _ _ _ _ r h => by simp [masterdiscref41_Mark.j1] at h, fun _ _ _ _ _ _ _ _ r h => by simp [masterdiscref41_Mark.l1] at h⟩
  | k + 1 => by
    obtain ⟨ih0, ih1, ih2⟩ := masterdiscref41_Mark.mono_l k
    refine ⟨?_, ?_, ?_⟩
    · intro y0 y1 y2 y3 y4
      unfold masterdiscref41_Mark.l0
      repeat' first
      | (with_reducible exact ih0 _ _ _ _ _)
      | (with_reducible exact ih1 _ _ _ _ _ _ _ _)
      | (with_reducible exact ih2 _ _ _ _ _ _ _ _)
      | (with_reducible exact masterdiscref41_Valid.mono _ _ _)
      | (with_reducible exact masterdiscref41_bits.mono _ _)
      | (with_reducible exact masterdiscref41_pack.mono _ _)
      | (with_reducible exact LeO.refl _)
      | (with_reducible exact LeO.none _)
      | (with_reducible refine LeO.ite ?_ ?_)
      | (with_reducible refine LeO.bind ?_ (fun _ => ?_))
      | exact ih0 _ _ _ _ _
      | exact ih1 _ _ _ _ _ _ _ _
      | exact ih2 _ _ _ _ _ _ _ _
      | exact masterdiscref41_Valid.mono _ _ _
      | exact masterdiscref41_bits.mono _ _
      | exact masterdiscref41_pack.mono _ _
      | exact LeO.none _
      | refine LeO.ite ?_ ?_
      | refine LeO.bind ?_ (fun _ => ?_)
    · intro y0 y1 y2 y3 y4 y5 y6 y7
      unfold masterdiscref41_Mark.j1
      repeat' first
      | (with_reducible exact ih0 _ _ _ _ _)
      | (with_reducible exact ih1 _ _ _ _ _ _ _ _)
      | (with_reducible exact ih2 _ _ _ _ _ _ _ _)
      | (with_reducible exact masterdiscref41_Valid.mono _ _ _)
      | (with_reducible exact masterdiscref41_bits.mono _ _)
      | (with_reducible exact masterdiscref41_pack.mono _ _)
      | (with_reducible exact LeO.refl _)
      | (with_reducible exact LeO.none _)
      | (with_reducible refine LeO.ite ?_ ?_)
      | (with_reducible refine LeO.bind ?_ (fun _ => ?_))
      | exact ih0 _ _ _ _ _
      | exact ih1 _ _ _ _ _ _ _ _
      | exact ih2 _ _ _ _ _ _ _ _
      | exact masterdiscref41_Valid.mono _ _ _
      | exact masterdiscref41_bits.mono _ _
      | exact masterdiscref41_pack.mono _ _
      | exact LeO.none _
      | refine LeO.ite ?_ ?_
      | refine LeO.bind ?_ (fun _ => ?_)
    · intro y0 y1 y2 y3 y4 y5 y6 y7
      unfold masterdiscref41_Mark.l1
      repeat' first
      | (with_reducible exact ih0 _ _ _ _ _)
      | (with_reducible exact ih1 _ _ _ _ _ _ _ _)
      | (with_reducible exact ih2 _ _ _ _ _ _ _ _)
      | (with_reducible exact masterdiscref41_Valid.mono _ _ _)
      | (with_reducible exact masterdiscref41_bits.mono _ _)
      | (with_reducible exact masterdiscref41_pack.mono _ _)
      | (with_reducible exact LeO.refl _)
      | (with_reducible exact LeO.none _)
      | (with_reducible refine LeO.ite ?_ ?_)
      | (with_reducible refine LeO.bind ?_ (fun _ => ?_))
      | exact ih0 _ _ _ _ _
      | exact ih1 _ _ _ _ _ _ _ _
      | exact ih2 _ _ _ _ _ _ _ _
      | exact masterdiscref41_Valid.mono _ _ _
      | exact masterdiscref41_bits.mono _ _
      | exact masterdiscref41_pack.mono _ _
      | exact LeO.none _
      | refine LeO.ite ?_ ?_
      | refine LeO.bind ?_ (fun _ => ?_)
theorem masterdiscref41_Mark.mono : ∀ a0 a1 a2 a3 k, LeO (masterdiscref41_Mark.f k a0 a1 a2 a3) (masterdiscref41_Mark.f (k + 1) a0 a1 a2 a3) := by
  intro a0 a1 a2 a3 k
  obtain ⟨ih0, ih1, ih2⟩ := masterdiscref41_Mark.mono_l k
  unfold masterdiscref41_Mark.f
  repeat' first
      | (with_reducible exact ih0 _ _ _ _ _)
      | (with_reducible exact ih1 _ _ _ _ _ _ _ _)
      | (with_reducible exact ih2 _ _ _ _ _ _ _ _)
      | (with_reducible exact masterdiscref41_Valid.mono _ _ _)
      | (with_reducible exact masterdiscref41_bits.mono _ _)
      | (with_reducible exact masterdiscref41_pack.mono _ _)
      | (with_reducible exact LeO.refl _)
      | (with_reducible exact LeO.none _)
      | (with_reducible refine LeO.ite ?_ ?_)
      | (with_reducible refine LeO.bind ?_ (fun _ => ?_))
      | exact ih0 _ _ _ _ _
      | exact ih1 _ _ _ _ _ _ _ _
      | exact ih2 _ _ _ _ _ _ _ _
      | exact masterdiscref41_Valid.mono _ _ _
      | exact masterdiscref41_bits.mono _ _
      | exact masterdiscref41_pack.mono _ _
      | exact LeO.none _
      | refine LeO.ite ?_ ?_
      | refine LeO.bind ?_ (fun _ => ?_)
set_option maxHeartbeats 8000000 in
set_option maxRecDepth 100000 in
theorem masterdiscref41_Mark.calls (k : Nat) (a0 : ByteArray) (a1 : Int) (A2 : Option Addr) (c2 : Nat) (l2 : List (S76)) (a3 : Bool) (r1 : ByteArray) (r2 : Int) (w : World) (hr2 : Kd.C k76 w A2 l2.length l2) (hc2 : l2.length ≤ c2) (h : masterdiscref41_Mark.f k a0 a1 l2 a3 = some (r1, r2)) :
    Calls Try.prog 76 #[.string a0, .int .i64 a1, .slice A2 l2.length c2, .bool a3] w fun e w' => e = .returned (.tuple #[.string r1, .int .i64 r2]) ∧ Below w.heap.size w w' := by
  have hu76 := Try.underlying76
  have HR2 := Aside0.mk hr2
  have HC2 := Aside0.mk hc2
  clear hr2 hc2
  have HB := Aside0.mk (Below.refl w.heap.size w)
  have H : ((masterdiscref41_Valid.f k a0 a1).bind fun t715 => (if t715 = true then ((masterdiscref41_bits.f k a0).bind fun t716 => (if 0 ≤ a1 then (if a1 ≤ (t716.length : Int) then (masterdiscref41_Mark.l0 k a1 l2 a3 (t716.take (a1 : Int).toNat) 0) else (none)) else (none))) else (some ((⟨#[]⟩ : ByteArray), 1)))) = some (r1, r2) := h
  clear h
  replace H := Option.bind_eq_some_iff.mp H
  obtain ⟨t715, A50, H⟩ := H
  replace H : (if t715 = true then ((masterdiscref41_bits.f k a0).bind fun t716 => (if 0 ≤ a1 then (if a1 ≤ (t716.length : Int) then (masterdiscref41_Mark.l0 k a1 l2 a3 (t716.take (a1 : Int).toNat) 0) else (none)) else (none))) else (some ((⟨#[]⟩ : ByteArray), 1))) = some (r1, r2) := H
  have A5 := Aside0.mk A50
  clear A50
  by_cases c6 : t715 = true
  · subst c6
    have H1 : ((masterdiscref41_bits.f k a0).bind fun t716 => (if 0 ≤ a1 then (if a1 ≤ (t716.length : Int) then (masterdiscref41_Mark.l0 k a1 l2 a3 (t716.take (a1 : Int).toNat) 0) else (none)) else (none))) = some (r1, r2) := by rw [if_pos rfl] at H; exact H
    clear H
    have H := H1
    clear H1
    replace H := Option.bind_eq_some_iff.mp H
    obtain ⟨t716, A70, H⟩ := H
    replace H : (if 0 ≤ a1 then (if a1 ≤ (t716.length : Int) then (masterdiscref41_Mark.l0 k a1 l2 a3 (t716.take (a1 : Int).toNat) 0) else (none)) else (none)) = some (r1, r2) := H
    have A7 := Aside0.mk A70
    clear A70
    by_cases c8 : 0 ≤ a1
    · rw [if_pos c8] at H
      have c8b0 := eq_true c8
      have c8b1 : decide (0 ≤ a1) = true := decide_eq_true c8
      clear c8
      by_cases c9 : a1 ≤ (t716.length : Int)
      · rw [if_pos c9] at H
        have c9b0 := eq_true c9
        have c9b1 : decide (a1 ≤ (t716.length : Int)) = true := decide_eq_true c9
        clear c9
        obtain ⟨y719, hy719⟩ : ∃ y_ : List Bool, y_ = (t716.take (a1 : Int).toNat) := ⟨_, rfl⟩
        replace H : (masterdiscref41_Mark.l0 k a1 l2 a3 y719 0) = some (r1, r2) := by first | (rw [hy719]; with_reducible exact H) | (have H2_ := (Option.bind_some _ _).symm.trans H; rw [hy719]; with_reducible exact H2_) | (have H2_ := (Option.bind_some _ _).symm.trans H; with_reducible exact H2_) | with_reducible exact H | (rw [hy719]; exact H) | exact H
        have Ny719 := Aside0.mk hy719
        clear hy719
        have H' := Aside0.mk H
        clear H
        go_enter Try.func76, Try.ntmps76
        go_wp2_with (first | ((with_reducible refine gate_callee (f := 44) rfl ?_); refine goesL_ (some 16) rfl rfl Try.func44 (by kernel_rfl) rfl #[.string a0, .int .i64 a1] rfl (by (try simp only [List.map_toArray, List.map_cons, List.map_nil]); first | done | rfl | (simp only [List.length_drop, List.length_take]; rfl)) ?_; (with_reducible refine (masterdiscref41_Valid.calls k a0 a1 true _ A5.out).mono ?_); rintro e w10 ⟨rfl, hb⟩; refine ⟨_, rfl, ?_⟩; have n0_ := Aside0.mk (below_step (by repeat (first | (with_reducible first | exact HB.out | apply below_alloc | apply pw_below_drewN | apply below_drew1) | exact HB.out)) hb); clear HB; have HB := n0_; clear n0_; (try clear hb); (try clear hb2); (try clear hk); (try clear hi)) | ((with_reducible refine gate_callee (f := 112) rfl ?_); refine goesL_ (some 19) rfl rfl Try.func112 (by kernel_rfl) rfl #[.string a0] rfl (by (try simp only [List.map_toArray, List.map_cons, List.map_nil]); first | done | rfl | (simp only [List.length_drop, List.length_take]; rfl)) ?_; (with_reducible refine (masterdiscref41_bits.calls k a0 t716 _ A7.out).mono ?_); rintro e w11 ⟨v717, rfl, ho0, hb⟩; refine ⟨_, rfl, ?_⟩; have n0_ := Aside0.mk (Kd.R_lower ho0 (below_size (by repeat (first | (with_reducible first | exact HB.out | apply below_alloc | apply pw_below_drewN | apply below_drew1) | exact HB.out)))); have n1_ := Aside0.mk (below_step (by repeat (first | (with_reducible first | exact HB.out | apply below_alloc | apply pw_below_drewN | apply below_drew1) | exact HB.out)) hb); clear HB; have HO718 := n0_; have HB := n1_; clear n0_ n1_; (try clear hb); (try clear hb2); (try clear hk); (try clear hi); (try clear ho0); obtain ⟨Ao12, co12, eo12⟩ := Kd.R_slice HO718.out; subst eo12; have q13 : (a1 : Int) ≤ ((t716.length : Int) : Int) := of_decide_eq_true (by first | (with_reducible assumption) | assumption); obtain ⟨i013, hi013, _, hsz13, _⟩ := info_parts info4; have hcut13 := cut_to (P := Try.prog) 85 4 .i64 Try.underlying85 hi013 Ao12 t716.length co12 a1 (of_decide_eq_true (by first | (with_reducible assumption) | assumption)) q13 (Kd.R_reads' HO718.out).2.1; have hr13 := Kd.R_take (m := (a1 : Int).toNat) HO718.out (by omega); have hy13 : y719.length = (a1 : Int).toNat := (by rw [Ny719.out, List.length_take]; omega); rw [← Ny719.out] at hr13; rw [← hy13] at hr13 hcut13; clear hy13 hi013 hsz13 HO718; have HO721 := Aside0.mk hr13; clear hr13; replace q13 := eq_true q13))
        go_loopg [11] k (fun kq v11 w' => ∃ (x10_1 : List Bool) (x11_1 : Int), v11 = .int .i64 x11_1 ∧ Aside0 (masterdiscref41_Mark.l0 kq a1 l2 a3 x10_1 x11_1 = some (r1, r2)) ∧ Aside0 (kq ≤ k) ∧ Aside0 (Kd.R Kd.bool 4 w' w.heap.size (fun _ => True) (.slice Ao12 y719.length co12) x10_1) ∧ Aside0 (Below w.heap.size w w'))
        case atStart => exact ⟨(y719), (0), (by first | rfl | (simp; done) | (simp [*]; done)), H', ⟨Nat.le_refl _⟩, ⟨by (with_reducible repeat (first | apply Kd.R_alloc | apply Kd.R_drewN | apply Kd.R_drew)); exact HO721.out⟩, ⟨by repeat (first | (with_reducible first | exact HB.out | apply below_alloc | apply pw_below_drewN | apply below_drew1) | exact HB.out)⟩⟩
        case round =>
          clear H'
          try clear c1
          try clear q1
          try clear c2
          try clear p2
          try clear c4
          try clear c6
          try clear c7
          try clear c8
          try clear c8b0
          try clear c8b1
          try clear c9
          try clear c9b0
          try clear c9b1
          try clear c11
          try clear q13
          try clear q13
          obtain ⟨x10_1, x11_1, rfl, HA, HK1, HO_10, HB⟩ := hrel
          have hl10_1 := (Kd.R_reads' HO_10.out).1
          rw [hl10_1] at HO_10
          (try simp only [hl10_1])
          cases gk with
          | zero => exact absurd HA.out (by simp [masterdiscref41_Mark.l0])
          | succ k1 =>
            have H := HA.out
            clear HA
            simp only [masterdiscref41_Mark.l0] at H
            by_cases c14 : x11_1 < (l2.length : Int)
            · rw [if_pos c14] at H
              have c14b0 : decide (x11_1 < (l2.length : Int)) = true := decide_eq_true c14
              clear c14
              by_cases c15 : 0 ≤ x11_1
              · rw [if_pos c15] at H
                have c15b0 : decide (0 ≤ x11_1) = true := decide_eq_true c15
                clear c15
                have HC16 := Aside0.mk H
                clear H
                have p723 : 0 ≤ (x11_1 : Int) := of_decide_eq_true (by first | (with_reducible assumption) | assumption)
                have q723 : x11_1 < (l2.length : Int) := of_decide_eq_true (by first | (with_reducible assumption) | assumption)
                obtain ⟨ad723, e723, hx723_0, hx723_1⟩ := at_T76 HR2.out x11_1 p723 q723
                cases e723
                replace hx723_0 := (HB.out.cell (World.block_lt_of_cell? w _ hx723_0)).trans hx723_0
                replace hx723_1 := (HB.out.cell (World.block_lt_of_cell? w _ hx723_1)).trans hx723_1
                replace p723 := eq_true p723
                replace q723 := eq_true q723
                go_upto_region 8 with (first | ((with_reducible refine gate_dst (N := 12) rfl ?_); refine box_event ?hg (N := 12) ?hd (cs := #[.int .i64 0, .int .i64 0]) (t := 76) ?hr ?_; (case hd => rfl); (case hg => rfl); (case hr => first | (go_simp; done) | (go_simp; rfl)); intro gb724 hg w17 hbox hb; have n0_ := Aside0.mk (Kd.R_below (by (with_reducible repeat (first | apply Kd.R_alloc | apply Kd.R_drewN | apply Kd.R_drew)); exact HO_10.out) hb); have n1_ := Aside0.mk (below_step (by repeat (first | (with_reducible first | exact HB.out | apply below_alloc | apply pw_below_drewN | apply below_drew1) | exact HB.out)) hb); have n2_ := Aside0.mk (hbox); have n3_ := Aside0.mk ((by rw [hg]; exact (below_size (by repeat (first | (with_reducible first | exact HB.out | apply below_alloc | apply pw_below_drewN | apply below_drew1) | exact HB.out))) : w.heap.size ≤ gb724)); have n4_ := Aside0.mk ((by rw [hg]; exact (below_size (by repeat (first | (with_reducible first | exact HB.out | apply below_alloc | apply pw_below_drewN | apply below_drew1) | exact HB.out))) : w.heap.size ≤ gb724)); clear HO_10; clear HB; have HO_10 := n0_; have HB := n1_; have BK724 := n2_; have GW724 := n3_; have GE724 := n4_; clear n0_ n1_ n2_ n3_ n4_; clear hb hbox hg; have hcz18_0 : w17.cell? ⟨gb724, 0, none⟩ = some (.int .i64 0) := (blk_cell BK724.out 0).trans rfl; have hcz18_1 : w17.cell? ⟨gb724, 1, none⟩ = some (.int .i64 0) := (blk_cell BK724.out 1).trans rfl; have hfz18_0 := blk_frozen BK724.out 0; have hfz18_1 := blk_frozen BK724.out 1))
                (try simp only [Act.put, List.setIfInBounds_toArray, List.set_cons_zero, List.set_cons_succ])
                go_cut [54] (fun v54 wc => ∃ (kq : Nat) (x54_15 : Bool), v54 = .bool x54_15 ∧ Aside0 (masterdiscref41_Mark.j1 kq a1 l2 a3 x10_1 x11_1 x54_15 ((rd_T76 l2 x11_1).f0) ((rd_T76 l2 x11_1).f1) = some (r1, r2)) ∧ Aside0 (kq ≤ k1) ∧ Aside0 (Kd.R Kd.bool 4 wc w.heap.size (fun _ => True) (.slice Ao12 x10_1.length co12) x10_1) ∧ Aside0 (wc.heap[gb724]? = some (.cells #[.int .i64 ((rd_T76 l2 x11_1).f0), .int .i64 ((rd_T76 l2 x11_1).f1)] 76 (0, 0))) ∧ Aside0 (Below w.heap.size w wc))
                case first =>
                  have H := HC16.out
                  clear HC16
                  by_cases c19 : ((rd_T76 l2 x11_1).f0) < 0
                  · rw [if_pos c19] at H
                    have c19b0 : decide (((rd_T76 l2 x11_1).f0) < 0) = true := decide_eq_true c19
                    clear c19
                    (first | rw [c19b0] | (simp only [i64_w, i32_w]; rw [c19b0]) | skip)
                    have H' := Aside0.mk H
                    clear H
                    have hcz20_0 : w17.cell? ⟨gb724, 0, none⟩ = some (.int .i64 0) := (blk_cell BK724.out 0).trans rfl
                    have hcz20_1 : w17.cell? ⟨gb724, 1, none⟩ = some (.int .i64 0) := (blk_cell BK724.out 1).trans rfl
                    have hfz20_0 := blk_frozen BK724.out 0
                    have hfz20_1 := blk_frozen BK724.out 1
                    go_wp2
                    go_meet
                    case rel => exact ⟨_, (true), (by first | rfl | (simp; done) | (simp [*]; done)), H', ⟨by have := HK1.out; first | omega | exact Nat.le_refl _⟩, ⟨by (try simp only [hl10_1]); (with_reducible repeat (first | apply Kd.R_alloc | apply Kd.R_drewN | apply Kd.R_drew)); exact Kd.R_mono (Kd.R_far (p := ⟨gb724, 1, none⟩) (Kd.R_far (p := ⟨gb724, 0, none⟩) (Kd.R_types HO_10.out BK724.out (by decide)) (fun _ hk => hk.2) (.int .i64 ((rd_T76 l2 x11_1).f0))) (fun _ hk => hk.2) (.int .i64 ((rd_T76 l2 x11_1).f1))) (fun _ hk => trivial)⟩, ⟨by (try simp only [hl10_1]); (with_reducible repeat (first | refine blk_drewN ?_ _ | refine blk_drew ?_ | refine blk_alloc ?_ _)); refine blk_put (cs := #[.int .i64 ((rd_T76 l2 x11_1).f0), .int .i64 0]) ?_ 1 _ rfl; (with_reducible repeat (first | refine blk_drewN ?_ _ | refine blk_drew ?_ | refine blk_alloc ?_ _)); refine blk_put (cs := #[.int .i64 0, .int .i64 0]) ?_ 0 _ rfl; (with_reducible repeat (first | refine blk_drewN ?_ _ | refine blk_drew ?_ | refine blk_alloc ?_ _)); exact BK724.out⟩, ⟨by repeat (first | (with_reducible first | exact HB.out | apply below_alloc | apply pw_below_drewN | apply below_drew1 | refine below_set ?_ GE724.out) | exact HB.out)⟩⟩
                  · rw [if_neg c19] at H
                    have c19b0 : decide (((rd_T76 l2 x11_1).f0) < 0) = false := decide_eq_false c19
                    clear c19
                    (first | rw [c19b0] | (simp only [i64_w, i32_w]; rw [c19b0]) | skip)
                    by_cases c21 : ((rd_T76 l2 x11_1).f1) < 0
                    · rw [if_pos c21] at H
                      have c21b0 : decide (((rd_T76 l2 x11_1).f1) < 0) = true := decide_eq_true c21
                      clear c21
                      have H' := Aside0.mk H
                      clear H
                      have hcz22_0 : w17.cell? ⟨gb724, 0, none⟩ = some (.int .i64 0) := (blk_cell BK724.out 0).trans rfl
                      have hcz22_1 : w17.cell? ⟨gb724, 1, none⟩ = some (.int .i64 0) := (blk_cell BK724.out 1).trans rfl
                      have hfz22_0 := blk_frozen BK724.out 0
                      have hfz22_1 := blk_frozen BK724.out 1
                      go_wp2
                      go_meet
                      case rel => exact ⟨_, (true), (by first | rfl | (simp; done) | (simp [*]; done)), H', ⟨by have := HK1.out; first | omega | exact Nat.le_refl _⟩, ⟨by (try simp only [hl10_1]); (with_reducible repeat (first | apply Kd.R_alloc | apply Kd.R_drewN | apply Kd.R_drew)); exact Kd.R_mono (Kd.R_far (p := ⟨gb724, 1, none⟩) (Kd.R_far (p := ⟨gb724, 0, none⟩) (Kd.R_types HO_10.out BK724.out (by decide)) (fun _ hk => hk.2) (.int .i64 ((rd_T76 l2 x11_1).f0))) (fun _ hk => hk.2) (.int .i64 ((rd_T76 l2 x11_1).f1))) (fun _ hk => trivial)⟩, ⟨by (try simp only [hl10_1]); (with_reducible repeat (first | refine blk_drewN ?_ _ | refine blk_drew ?_ | refine blk_alloc ?_ _)); refine blk_put (cs := #[.int .i64 ((rd_T76 l2 x11_1).f0), .int .i64 0]) ?_ 1 _ rfl; (with_reducible repeat (first | refine blk_drewN ?_ _ | refine blk_drew ?_ | refine blk_alloc ?_ _)); refine blk_put (cs := #[.int .i64 0, .int .i64 0]) ?_ 0 _ rfl; (with_reducible repeat (first | refine blk_drewN ?_ _ | refine blk_drew ?_ | refine blk_alloc ?_ _)); exact BK724.out⟩, ⟨by repeat (first | (with_reducible first | exact HB.out | apply below_alloc | apply pw_below_drewN | apply below_drew1 | refine below_set ?_ GE724.out) | exact HB.out)⟩⟩
                    · rw [if_neg c21] at H
                      have c21b0 : decide (((rd_T76 l2 x11_1).f1) < 0) = false := decide_eq_false c21
                      clear c21
                      by_cases c23 : ((rd_T76 l2 x11_1).f0) > a1
                      · rw [if_pos c23] at H
                        have c23b0 : decide (a1 < ((rd_T76 l2 x11_1).f0)) = true := decide_eq_true c23
                        clear c23
                        have H' := Aside0.mk H
                        clear H
                        have hcz24_0 : w17.cell? ⟨gb724, 0, none⟩ = some (.int .i64 0) := (blk_cell BK724.out 0).trans rfl
                        have hcz24_1 : w17.cell? ⟨gb724, 1, none⟩ = some (.int .i64 0) := (blk_cell BK724.out 1).trans rfl
                        have hfz24_0 := blk_frozen BK724.out 0
                        have hfz24_1 := blk_frozen BK724.out 1
                        go_wp2
                        go_meet
                        case rel => exact ⟨_, (true), (by first | rfl | (simp; done) | (simp [*]; done)), H', ⟨by have := HK1.out; first | omega | exact Nat.le_refl _⟩, ⟨by (try simp only [hl10_1]); (with_reducible repeat (first | apply Kd.R_alloc | apply Kd.R_drewN | apply Kd.R_drew)); exact Kd.R_mono (Kd.R_far (p := ⟨gb724, 1, none⟩) (Kd.R_far (p := ⟨gb724, 0, none⟩) (Kd.R_types HO_10.out BK724.out (by decide)) (fun _ hk => hk.2) (.int .i64 ((rd_T76 l2 x11_1).f0))) (fun _ hk => hk.2) (.int .i64 ((rd_T76 l2 x11_1).f1))) (fun _ hk => trivial)⟩, ⟨by (try simp only [hl10_1]); (with_reducible repeat (first | refine blk_drewN ?_ _ | refine blk_drew ?_ | refine blk_alloc ?_ _)); refine blk_put (cs := #[.int .i64 ((rd_T76 l2 x11_1).f0), .int .i64 0]) ?_ 1 _ rfl; (with_reducible repeat (first | refine blk_drewN ?_ _ | refine blk_drew ?_ | refine blk_alloc ?_ _)); refine blk_put (cs := #[.int .i64 0, .int .i64 0]) ?_ 0 _ rfl; (with_reducible repeat (first | refine blk_drewN ?_ _ | refine blk_drew ?_ | refine blk_alloc ?_ _)); exact BK724.out⟩, ⟨by repeat (first | (with_reducible first | exact HB.out | apply below_alloc | apply pw_below_drewN | apply below_drew1 | refine below_set ?_ GE724.out) | exact HB.out)⟩⟩
                      · rw [if_neg c23] at H
                        have c23b0 : decide (a1 < ((rd_T76 l2 x11_1).f0)) = false := decide_eq_false c23
                        clear c23
                        have H' := Aside0.mk H
                        clear H
                        have hcz25_0 : w17.cell? ⟨gb724, 0, none⟩ = some (.int .i64 0) := (blk_cell BK724.out 0).trans rfl
                        have hcz25_1 : w17.cell? ⟨gb724, 1, none⟩ = some (.int .i64 0) := (blk_cell BK724.out 1).trans rfl
                        have hfz25_0 := blk_frozen BK724.out 0
                        have hfz25_1 := blk_frozen BK724.out 1
                        go_wp2
                        go_meet
                        case rel => exact ⟨_, (decide (((rd_T76 l2 x11_1).f1) > (wrap64 (a1 - ((rd_T76 l2 x11_1).f0))))), (by first | rfl | (simp; done) | (simp [*]; done)), H', ⟨by have := HK1.out; first | omega | exact Nat.le_refl _⟩, ⟨by (try simp only [hl10_1]); (with_reducible repeat (first | apply Kd.R_alloc | apply Kd.R_drewN | apply Kd.R_drew)); exact Kd.R_mono (Kd.R_far (p := ⟨gb724, 1, none⟩) (Kd.R_far (p := ⟨gb724, 0, none⟩) (Kd.R_types HO_10.out BK724.out (by decide)) (fun _ hk => hk.2) (.int .i64 ((rd_T76 l2 x11_1).f0))) (fun _ hk => hk.2) (.int .i64 ((rd_T76 l2 x11_1).f1))) (fun _ hk => trivial)⟩, ⟨by (try simp only [hl10_1]); (with_reducible repeat (first | refine blk_drewN ?_ _ | refine blk_drew ?_ | refine blk_alloc ?_ _)); refine blk_put (cs := #[.int .i64 ((rd_T76 l2 x11_1).f0), .int .i64 0]) ?_ 1 _ rfl; (with_reducible repeat (first | refine blk_drewN ?_ _ | refine blk_drew ?_ | refine blk_alloc ?_ _)); refine blk_put (cs := #[.int .i64 0, .int .i64 0]) ?_ 0 _ rfl; (with_reducible repeat (first | refine blk_drewN ?_ _ | refine blk_drew ?_ | refine blk_alloc ?_ _)); exact BK724.out⟩, ⟨by repeat (first | (with_reducible first | exact HB.out | apply below_alloc | apply pw_below_drewN | apply below_drew1 | refine below_set ?_ GE724.out) | exact HB.out)⟩⟩
                case rest =>
                  clear HC16
                  try clear c1
                  try clear q1
                  try clear c2
                  try clear p2
                  try clear c4
                  try clear c6
                  try clear p6
                  try clear c7
                  try clear p7
                  try clear q7
                  try clear hx7
                  try clear c8
                  try clear c8b0
                  try clear c8b1
                  try clear c9
                  try clear c9b0
                  try clear c9b1
                  try clear c11
                  try clear q13
                  try clear c14
                  try clear c14b0
                  try clear c15
                  try clear c15b0
                  try clear c19
                  try clear c19b0
                  try clear c21
                  try clear c21b0
                  try clear c23
                  try clear c23b0
                  try clear hcz18_0
                  try clear hcz18_1
                  try clear hcz20_0
                  try clear hcz20_1
                  try clear hcz22_0
                  try clear hcz22_1
                  try clear hcz24_0
                  try clear hcz24_1
                  try clear hcz25_0
                  try clear hcz25_1
                  try clear hfz18_0
                  try clear hfz18_1
                  try clear hfz20_0
                  try clear hfz20_1
                  try clear hfz22_0
                  try clear hfz22_1
                  try clear hfz24_0
                  try clear hfz24_1
                  try clear hfz25_0
                  try clear hfz25_1
                  try clear hx723_0
                  try clear hx723_1
                  try clear p2
                  try clear p723
                  try clear q1
                  try clear q13
                  try clear q723
                  obtain ⟨kq, x54_15, rfl, HA, HJ15, HO_10, BK724, HB⟩ := hcut
                  cases kq with
                  | zero => exact absurd HA.out (by simp [masterdiscref41_Mark.j1])
                  | succ kj15 =>
                    have H := HA.out
                    clear HA
                    simp only [masterdiscref41_Mark.j1] at H
                    by_cases c26 : x54_15 = true
                    · subst c26
                      have H1 : (some ((⟨#[]⟩ : ByteArray), 2)) = some (r1, r2) := by rw [if_pos rfl] at H; exact H
                      clear H
                      have H := H1
                      clear H1
                      simp only [Option.some.injEq, Prod.mk.injEq] at H
                      obtain ⟨rfl, rfl⟩ := H
                      go_wp2
                      go_ret2
                      exact ⟨by first | rfl | (simp [errW_none, errW_some] <;> rfl) | (simp [*, errW_none, errW_some] <;> rfl), by repeat (first | (with_reducible first | exact HB.out | apply below_alloc | apply pw_below_drewN | apply below_drew1 | refine below_set ?_ GE724.out) | exact HB.out)⟩
                    · replace c26 := Bool.eq_false_iff.mpr c26
                      subst c26
                      have H1 : (masterdiscref41_Mark.l1 kj15 a1 l2 a3 x10_1 x11_1 0 ((rd_T76 l2 x11_1).f0) ((rd_T76 l2 x11_1).f1)) = some (r1, r2) := by rw [if_neg (show ¬ (false = true) by decide)] at H; exact H
                      clear H
                      have H := H1
                      clear H1
                      have H' := Aside0.mk H
                      clear H
                      go_wp2
                      go_loopg [13] kj15 (fun kq v13 w' => ∃ (x10_3 : List Bool) (x13_3 : Int), v13 = .int .i64 x13_3 ∧ Aside0 (masterdiscref41_Mark.l1 kq a1 l2 a3 x10_3 x11_1 x13_3 ((rd_T76 l2 x11_1).f0) ((rd_T76 l2 x11_1).f1) = some (r1, r2)) ∧ Aside0 (kq ≤ kj15) ∧ Aside0 (Kd.R Kd.bool 4 w' w.heap.size (fun _ => True) (.slice Ao12 x10_1.length co12) x10_3) ∧ Aside0 (w'.heap[gb724]? = some (.cells #[.int .i64 ((rd_T76 l2 x11_1).f0), .int .i64 ((rd_T76 l2 x11_1).f1)] 76 (0, 0))) ∧ Aside0 (Below w.heap.size w w'))
                      case atStart => exact ⟨(x10_1), (0), (by first | rfl | (simp; done) | (simp [*]; done)), H', ⟨Nat.le_refl _⟩, ⟨by (try simp only [hl10_1]); (with_reducible repeat (first | apply Kd.R_alloc | apply Kd.R_drewN | apply Kd.R_drew)); exact HO_10.out⟩, ⟨by (try simp only [hl10_1]); (with_reducible repeat (first | refine blk_drewN ?_ _ | refine blk_drew ?_ | refine blk_alloc ?_ _)); exact BK724.out⟩, ⟨by repeat (first | (with_reducible first | exact HB.out | apply below_alloc | apply pw_below_drewN | apply below_drew1 | refine below_set ?_ GE724.out) | exact HB.out)⟩⟩
                      case round =>
                        clear H'
                        try clear c1
                        try clear q1
                        try clear c2
                        try clear p2
                        try clear c4
                        try clear c6
                        try clear p6
                        try clear c7
                        try clear p7
                        try clear q7
                        try clear hx7
                        try clear c8
                        try clear c8b0
                        try clear c8b1
                        try clear c9
                        try clear c9b0
                        try clear c9b1
                        try clear c11
                        try clear q13
                        try clear c14
                        try clear c14b0
                        try clear c15
                        try clear c15b0
                        try clear c19
                        try clear c19b0
                        try clear c21
                        try clear c21b0
                        try clear c23
                        try clear c23b0
                        try clear c26
                        try clear hcz18_0
                        try clear hcz18_1
                        try clear hcz20_0
                        try clear hcz20_1
                        try clear hcz22_0
                        try clear hcz22_1
                        try clear hcz24_0
                        try clear hcz24_1
                        try clear hcz25_0
                        try clear hcz25_1
                        try clear hfz18_0
                        try clear hfz18_1
                        try clear hfz20_0
                        try clear hfz20_1
                        try clear hfz22_0
                        try clear hfz22_1
                        try clear hfz24_0
                        try clear hfz24_1
                        try clear hfz25_0
                        try clear hfz25_1
                        try clear hx723_0
                        try clear hx723_1
                        try clear p2
                        try clear p6
                        try clear p7
                        try clear p723
                        try clear q1
                        try clear q13
                        try clear q7
                        try clear q723
                        obtain ⟨x10_3, x13_3, rfl, HA, HK3, HO_10, BK724, HB⟩ := hrel
                        have hl10_3 := (Kd.R_reads' HO_10.out).1
                        rw [hl10_3] at HO_10
                        (try simp only [hl10_3])
                        (try simp only [hl10_3] at BK724)
                        cases gk with
                        | zero => exact absurd HA.out (by simp [masterdiscref41_Mark.l1])
                        | succ k3 =>
                          have H := HA.out
                          clear HA
                          simp only [masterdiscref41_Mark.l1] at H
                          by_cases c27 : x13_3 < ((rd_T76 l2 x11_1).f1)
                          · rw [if_pos c27] at H
                            have c27b0 : decide (x13_3 < ((rd_T76 l2 x11_1).f1)) = true := decide_eq_true c27
                            clear c27
                            obtain ⟨ji28, hji28⟩ : ∃ j_ : Int, (wrap64 (((rd_T76 l2 x11_1).f0) + x13_3)) = j_ := ⟨_, rfl⟩
                            replace H : (if 0 ≤ (ji28) then (if (ji28) < (x10_3.length : Int) then (masterdiscref41_Mark.l1 k3 a1 l2 a3 (x10_3.set ((ji28) : Int).toNat a3) x11_1 (wrap64 (x13_3 + 1)) ((rd_T76 l2 x11_1).f0) ((rd_T76 l2 x11_1).f1)) else (none)) else (none)) = some (r1, r2) := by first | (rw [hji28] at H; exact H) | (simp only [hji28] at H ⊢; exact H)
                            have hji28w : (IntKind.i64.wrap (((rd_T76 l2 x11_1).f0) + x13_3)) = ji28 := (i64_w _).trans hji28
                            by_cases c29 : 0 ≤ (ji28)
                            · rw [if_pos c29] at H
                              have c29b0 : decide (0 ≤ (ji28)) = true := decide_eq_true c29
                              clear c29
                              by_cases c30 : (ji28) < (x10_3.length : Int)
                              · rw [if_pos c30] at H
                                have c30b0 : decide ((ji28) < (x10_3.length : Int)) = true := decide_eq_true c30
                                clear c30
                                obtain ⟨y725, hy725⟩ : ∃ y_ : List Bool, y_ = (x10_3.set ((ji28) : Int).toNat a3) := ⟨_, rfl⟩
                                replace H : (masterdiscref41_Mark.l1 k3 a1 l2 a3 y725 x11_1 (wrap64 (x13_3 + 1)) ((rd_T76 l2 x11_1).f0) ((rd_T76 l2 x11_1).f1)) = some (r1, r2) := by first | (rw [hy725]; with_reducible exact H) | (have H2_ := (Option.bind_some _ _).symm.trans H; rw [hy725]; with_reducible exact H2_) | (have H2_ := (Option.bind_some _ _).symm.trans H; with_reducible exact H2_) | with_reducible exact H | (rw [hy725]; exact H) | exact H
                                have Ny725 := Aside0.mk hy725
                                clear hy725
                                have H' := Aside0.mk H
                                clear H
                                have hcz32_0 : wr.cell? ⟨gb724, 0, none⟩ = some (.int .i64 ((rd_T76 l2 x11_1).f0)) := (blk_cell BK724.out 0).trans rfl
                                have hcz32_1 : wr.cell? ⟨gb724, 1, none⟩ = some (.int .i64 ((rd_T76 l2 x11_1).f1)) := (blk_cell BK724.out 1).trans rfl
                                have hfz32_0 := blk_frozen BK724.out 0
                                have hfz32_1 := blk_frozen BK724.out 1
                                have p31 : 0 ≤ ((ji28) : Int) := of_decide_eq_true (by first | (with_reducible assumption) | assumption)
                                have q31 : ((ji28) : Int) < ((x10_3.length : Int) : Int) := of_decide_eq_true (by first | (with_reducible assumption) | assumption)
                                obtain ⟨go31, co31, eo31, gb31, gl31, cl31, HG31⟩ := Kd.R_form HO_10.out (by omega)
                                (first | cases eo31 | (injection eo31 with ea_ en_ ec_; (first | subst ea_ | (injection ea_ with ea_; subst ea_)); subst ec_; clear en_))
                                have GB31 := Aside0.mk gb31
                                have GG31 := Aside0.mk HG31
                                clear gb31 gl31 HG31
                                obtain ⟨hx31_0, hf31_0⟩ := Kd.R_celln false HO_10.out ((ji28) : Int) p31 q31
                                replace p31 := eq_true p31
                                replace q31 := eq_true q31
                                have HP33 := Kd.R_putg HO_10.out ((ji28) : Int) a3
                                go_wp2_with (first | ((with_reducible refine gate_store (t := 4) (p := 67) rfl ?_); refine store_event (t := 4) (p := 67) (v := ?vo_w34) (w1 := (wr.setCell ⟨go31, ((ji28) : Int).toNat, none⟩ (.bool a3))) ?hg ?ho ?hn ?hr ?_; (case ho => rfl); (case hg => rfl); (case hn => rfl); (case hr => first | (go_simp; done) | (go_simp; rfl)); intro w34 hw; have hg : wr.grownBy w34 (some go31) := (by rw [hw]; exact HP33.2); have hp_ : Kd.R Kd.bool 4 w34 w.heap.size (fun _ => True) (.slice (some ⟨go31, 0, none⟩) x10_3.length co12) y725 := (by rw [hw, Ny725.out]; exact HP33.1); clear HP33; have n0_ := Aside0.mk (hp_); have n1_ := Aside0.mk (blk_grown (g := gb724) (o := .cells #[.int .i64 ((rd_T76 l2 x11_1).f0), .int .i64 ((rd_T76 l2 x11_1).f1)] 76 (0, 0)) (by (with_reducible repeat (first | refine blk_drewN ?_ _ | refine blk_drew ?_ | refine blk_alloc ?_ _)); exact BK724.out) hg (Kd.R_ne HO_10.out BK724.out (by decide))); have n2_ := Aside0.mk ((by rw [hw]; exact below_set (HB.out) GB31.out : Below w.heap.size w w34)); clear HO_10; clear BK724; clear HB; have HO_10 := n0_; have BK724 := n1_; have HB := n2_; clear n0_ n1_ n2_; clear hg hw hp_))
                                (try simp only [← hl10_3])
                                go_roundg k3
                                case measure => have := HK1.out; have := HJ15.out; have := HK3.out; omega
                                case rel => exact ⟨(y725), (wrap64 (x13_3 + 1)), (by first | rfl | (simp; done) | (simp [*]; done)), H', ⟨by have := HK1.out; have := HJ15.out; have := HK3.out; omega⟩, ⟨by (try simp only [hl10_1]); (try simp only [hl10_3]); (with_reducible repeat (first | apply Kd.R_alloc | apply Kd.R_drewN | apply Kd.R_drew)); exact HO_10.out⟩, ⟨by (try simp only [hl10_1]); (try simp only [hl10_3]); (with_reducible repeat (first | refine blk_drewN ?_ _ | refine blk_drew ?_ | refine blk_alloc ?_ _)); exact BK724.out⟩, ⟨by repeat (first | (with_reducible first | exact HB.out | apply below_alloc | apply pw_below_drewN | apply below_drew1 | refine below_set ?_ GE724.out) | exact HB.out)⟩⟩
                              · rw [if_neg c30] at H
                                exact absurd H (by simp)
                            · rw [if_neg c29] at H
                              exact absurd H (by simp)
                          · rw [if_neg c27] at H
                            have c27b0 : decide (x13_3 < ((rd_T76 l2 x11_1).f1)) = false := decide_eq_false c27
                            clear c27
                            have H' := Aside0.mk H
                            clear H
                            have hcz35_0 : wr.cell? ⟨gb724, 0, none⟩ = some (.int .i64 ((rd_T76 l2 x11_1).f0)) := (blk_cell BK724.out 0).trans rfl
                            have hcz35_1 : wr.cell? ⟨gb724, 1, none⟩ = some (.int .i64 ((rd_T76 l2 x11_1).f1)) := (blk_cell BK724.out 1).trans rfl
                            have hfz35_0 := blk_frozen BK724.out 0
                            have hfz35_1 := blk_frozen BK724.out 1
                            go_wp2
                            (try simp only [← hl10_1, ← hl10_3])
                            go_roundg k3
                            case measure => have := HK1.out; have := HJ15.out; have := HK3.out; omega
                            case rel => exact ⟨(x10_3), (wrap64 (x11_1 + 1)), (by first | rfl | (simp; done) | (simp [*]; done)), H', ⟨by have := HK1.out; have := HJ15.out; have := HK3.out; omega⟩, ⟨by (try simp only [hl10_1]); (try simp only [hl10_3]); (with_reducible repeat (first | apply Kd.R_alloc | apply Kd.R_drewN | apply Kd.R_drew)); exact HO_10.out⟩, ⟨by repeat (first | (with_reducible first | exact HB.out | apply below_alloc | apply pw_below_drewN | apply below_drew1 | refine below_set ?_ GE724.out) | exact HB.out)⟩⟩
              · rw [if_neg c15] at H
                exact absurd H (by simp)
            · rw [if_neg c14] at H
              have c14b0 : decide (x11_1 < (l2.length : Int)) = false := decide_eq_false c14
              clear c14
              replace H := Option.bind_eq_some_iff.mp H
              obtain ⟨t722, A360, H⟩ := H
              replace H : (some (t722, 0)) = some (r1, r2) := H
              have A36 := Aside0.mk A360
              clear A360
              simp only [Option.some.injEq, Prod.mk.injEq] at H
              obtain ⟨rfl, rfl⟩ := H
              go_wp2_with (first | ((with_reducible refine gate_callee (f := 136) rfl ?_); refine goesL_ (some 69) rfl rfl Try.func136 (by kernel_rfl) rfl #[.slice Ao12 x10_1.length co12] rfl (by (try simp only [List.map_toArray, List.map_cons, List.map_nil]); first | done | rfl | (simp only [List.length_drop, List.length_take]; rfl)) ?_; (with_reducible refine (masterdiscref41_pack.calls k1 _ _ x10_1 t722 _ ?side1 ?side2 A36.out).mono ?_); (case side1 => repeat (first | exact (Kd.R_reads' HO_10.out).2.2 | (with_reducible refine Kd.C_alloc ?_ _) | (with_reducible refine Kd.C_drewN ?_ _) | (with_reducible refine Kd.C_drew ?_))); (case side2 => exact (Kd.R_reads' HO_10.out).2.1); rintro e w37 ⟨rfl, hb⟩; refine ⟨_, rfl, ?_⟩; have n0_ := Aside0.mk (Kd.R_below (by (with_reducible repeat (first | apply Kd.R_alloc | apply Kd.R_drewN | apply Kd.R_drew)); exact HO_10.out) hb); have n1_ := Aside0.mk (below_step (by repeat (first | (with_reducible first | exact HB.out | apply below_alloc | apply pw_below_drewN | apply below_drew1) | exact HB.out)) hb); clear HO_10; clear HB; have HO_10 := n0_; have HB := n1_; clear n0_ n1_; (try clear hb); (try clear hb2); (try clear hk); (try clear hi)))
              go_ret2
              exact ⟨by first | rfl | (simp [errW_none, errW_some] <;> rfl) | (simp [*, errW_none, errW_some] <;> rfl), by repeat (first | (with_reducible first | exact HB.out | apply below_alloc | apply pw_below_drewN | apply below_drew1) | exact HB.out)⟩
      · rw [if_neg c9] at H
        exact absurd H (by simp)
    · rw [if_neg c8] at H
      exact absurd H (by simp)
  · replace c6 := Bool.eq_false_iff.mpr c6
    subst c6
    have H1 : (some ((⟨#[]⟩ : ByteArray), 1)) = some (r1, r2) := by rw [if_neg (show ¬ (false = true) by decide)] at H; exact H
    clear H
    have H := H1
    clear H1
    simp only [Option.some.injEq, Prod.mk.injEq] at H
    obtain ⟨rfl, rfl⟩ := H
    go_enter Try.func76, Try.ntmps76
    go_wp2_with (first | ((with_reducible refine gate_callee (f := 44) rfl ?_); refine goesL_ (some 16) rfl rfl Try.func44 (by kernel_rfl) rfl #[.string a0, .int .i64 a1] rfl (by (try simp only [List.map_toArray, List.map_cons, List.map_nil]); first | done | rfl | (simp only [List.length_drop, List.length_take]; rfl)) ?_; (with_reducible refine (masterdiscref41_Valid.calls k a0 a1 false _ A5.out).mono ?_); rintro e w38 ⟨rfl, hb⟩; refine ⟨_, rfl, ?_⟩; have n0_ := Aside0.mk (below_step (by repeat (first | (with_reducible first | exact HB.out | apply below_alloc | apply pw_below_drewN | apply below_drew1) | exact HB.out)) hb); clear HB; have HB := n0_; clear n0_; (try clear hb); (try clear hb2); (try clear hk); (try clear hi)))
    go_ret2
    exact ⟨by first | rfl | (simp [errW_none, errW_some] <;> rfl) | (simp [*, errW_none, errW_some] <;> rfl), by repeat (first | (with_reducible first | exact HB.out | apply below_alloc | apply pw_below_drewN | apply below_drew1) | exact HB.out)⟩

/-! ### masterdiscref41_New: function 78 -/
mutual
def masterdiscref41_New.j0 : Nat → Int → Bool → Option (ByteArray)
  | 0, _, _ => none
  | k + 1, x0, x10 => if x10 = true then (some (⟨#[]⟩ : ByteArray)) else (masterdiscref41_New.l0 k x0 (([] : List Bool)) 0)
def masterdiscref41_New.l0 : Nat → Int → List Bool → Int → Option (ByteArray)
  | 0, _, _, _ => none
  | k + 1, x0, x3, x4 => if x4 < x0 then (if x3.length < 140737488355328 then (masterdiscref41_New.l0 k x0 (x3 ++ [true]) (wrap64 (x4 + 1))) else (none)) else ((masterdiscref41_pack.f k x3).bind fun t732 => (some t732))
end
def masterdiscref41_New.f (k : Nat) (a0 : Int) : Option (ByteArray) := if a0 < 0 then (masterdiscref41_New.j0 k a0 true) else (masterdiscref41_New.j0 k a0 (decide (a0 > 4096)))
theorem masterdiscref41_New.mono_l : ∀ k, (∀ y0 y1, LeO (masterdiscref41_New.j0 k y0 y1) (masterdiscref41_New.j0 (k + 1) y0 y1)) ∧ (∀ y0 y1 y2, LeO (masterdiscref41_New.l0 k y0 y1 y2) (masterdiscref41_New.l0 (k + 1) y0 y1 y2))
  | 0 => ⟨fun _ _ r h => by simp [masterdiscref41_New.j0] at h, fun _ _ _ r h => by simp [masterdiscref41_New.l0] at h⟩
  | k + 1 => by
    obtain ⟨ih0, ih1⟩ := masterdiscref41_New.mono_l k
    refine ⟨?_, ?_⟩
    · intro y0 y1
      unfold masterdiscref41_New.j0
      repeat' first
      | (with_reducible exact ih0 _ _)
      | (with_reducible exact ih1 _ _ _)
      | (with_reducible exact masterdiscref41_pack.mono _ _)
      | (with_reducible exact LeO.refl _)
      | (with_reducible exact LeO.none _)
      | (with_reducible refine LeO.ite ?_ ?_)
      | (with_reducible refine LeO.bind ?_ (fun _ => ?_))
      | exact ih0 _ _
      | exact ih1 _ _ _
      | exact masterdiscref41_pack.mono _ _
      | exact LeO.none _
      | refine LeO.ite ?_ ?_
      | refine LeO.bind ?_ (fun _ => ?_)
    · intro y0 y1 y2
      unfold masterdiscref41_New.l0
      repeat' first
      | (with_reducible exact ih0 _ _)
      | (with_reducible exact ih1 _ _ _)
      | (with_reducible exact masterdiscref41_pack.mono _ _)
      | (with_reducible exact LeO.refl _)
      | (with_reducible exact LeO.none _)
      | (with_reducible refine LeO.ite ?_ ?_)
      | (with_reducible refine LeO.bind ?_ (fun _ => ?_))
      | exact ih0 _ _
      | exact ih1 _ _ _
      | exact masterdiscref41_pack.mono _ _
      | exact LeO.none _
      | refine LeO.ite ?_ ?_
      | refine LeO.bind ?_ (fun _ => ?_)
theorem masterdiscref41_New.mono : ∀ a0 k, LeO (masterdiscref41_New.f k a0) (masterdiscref41_New.f (k + 1) a0) := by
  intro a0 k
  obtain ⟨ih0, ih1⟩ := masterdiscref41_New.mono_l k
  unfold masterdiscref41_New.f
  repeat' first
      | (with_reducible exact ih0 _ _)
      | (with_reducible exact ih1 _ _ _)
      | (with_reducible exact masterdiscref41_pack.mono _ _)
      | (with_reducible exact LeO.refl _)
      | (with_reducible exact LeO.none _)
      | (with_reducible refine LeO.ite ?_ ?_)
      | (with_reducible refine LeO.bind ?_ (fun _ => ?_))
      | exact ih0 _ _
      | exact ih1 _ _ _
      | exact masterdiscref41_pack.mono _ _
      | exact LeO.none _
      | refine LeO.ite ?_ ?_
      | refine LeO.bind ?_ (fun _ => ?_)
set_option maxHeartbeats 8000000 in
set_option maxRecDepth 100000 in
theorem masterdiscref41_New.calls (k : Nat) (a0 : Int) (r : ByteArray) (w : World) (h : masterdiscref41_New.f k a0 = some r) :
    Calls Try.prog 78 #[.int .i64 a0] w fun e w' => e = .returned (.string r) ∧ Below w.heap.size w w' := by
  have HB := Aside0.mk (Below.refl w.heap.size w)
  have H : (if a0 < 0 then (masterdiscref41_New.j0 k a0 true) else (masterdiscref41_New.j0 k a0 (decide (a0 > 4096)))) = some r := h
  clear h
  have HC2 := Aside0.mk H
  clear H
  go_enter Try.func78, Try.ntmps78
  go_upto_region 1 with (fail)
  go_cut [10] (fun v10 wc => ∃ (kq : Nat) (x10_1 : Bool), v10 = .bool x10_1 ∧ Aside0 (masterdiscref41_New.j0 kq a0 x10_1 = some r) ∧ Aside0 (kq ≤ k) ∧ Aside0 (Below w.heap.size w wc))
  case first =>
    have H := HC2.out
    clear HC2
    by_cases c3 : a0 < 0
    · rw [if_pos c3] at H
      have c3b0 : decide (a0 < 0) = true := decide_eq_true c3
      clear c3
      (first | rw [c3b0] | (simp only [i64_w, i32_w]; rw [c3b0]) | skip)
      have H' := Aside0.mk H
      clear H
      go_wp2
      go_meet
      case rel => exact ⟨_, (true), (by first | rfl | (simp; done) | (simp [*]; done)), H', ⟨by first | omega | exact Nat.le_refl _⟩, ⟨by repeat (first | (with_reducible first | exact HB.out | apply below_alloc | apply pw_below_drewN | apply below_drew1) | exact HB.out)⟩⟩
    · rw [if_neg c3] at H
      have c3b0 : decide (a0 < 0) = false := decide_eq_false c3
      clear c3
      (first | rw [c3b0] | (simp only [i64_w, i32_w]; rw [c3b0]) | skip)
      have H' := Aside0.mk H
      clear H
      go_wp2
      go_meet
      case rel => exact ⟨_, (decide (a0 > 4096)), (by first | rfl | (simp; done) | (simp [*]; done)), H', ⟨by first | omega | exact Nat.le_refl _⟩, ⟨by repeat (first | (with_reducible first | exact HB.out | apply below_alloc | apply pw_below_drewN | apply below_drew1) | exact HB.out)⟩⟩
  case rest =>
    clear HC2
    try clear p2
    try clear c3
    try clear c3b0
    obtain ⟨kq, x10_1, rfl, HA, HJ1, HB⟩ := hcut
    cases kq with
    | zero => exact absurd HA.out (by simp [masterdiscref41_New.j0])
    | succ kj1 =>
      have H := HA.out
      clear HA
      simp only [masterdiscref41_New.j0] at H
      by_cases c4 : x10_1 = true
      · subst c4
        have H1 : (some (⟨#[]⟩ : ByteArray)) = some r := by rw [if_pos rfl] at H; exact H
        clear H
        have H := H1
        clear H1
        obtain rfl := Option.some.inj H
        go_wp2
        go_ret
        exact ⟨by first | rfl | (simp [errW_none, errW_some] <;> rfl) | (simp [*, errW_none, errW_some] <;> rfl), by repeat (first | (with_reducible first | exact HB.out | apply below_alloc | apply pw_below_drewN | apply below_drew1) | exact HB.out)⟩
      · replace c4 := Bool.eq_false_iff.mpr c4
        subst c4
        have H1 : (masterdiscref41_New.l0 kj1 a0 (([] : List Bool)) 0) = some r := by rw [if_neg (show ¬ (false = true) by decide)] at H; exact H
        clear H
        have H := H1
        clear H1
        obtain ⟨y726, hy726⟩ : ∃ y_ : List Bool, y_ = (([] : List Bool)) := ⟨_, rfl⟩
        replace H : (masterdiscref41_New.l0 kj1 a0 y726 0) = some r := by first | (rw [hy726]; with_reducible exact H) | (have H2_ := (Option.bind_some _ _).symm.trans H; rw [hy726]; with_reducible exact H2_) | (have H2_ := (Option.bind_some _ _).symm.trans H; with_reducible exact H2_) | with_reducible exact H | (rw [hy726]; exact H) | exact H
        have Ny726 := Aside0.mk hy726
        clear hy726
        have H' := Aside0.mk H
        clear H
        go_wp2_with (first | ((with_reducible refine gate_dst (N := 11) rfl ?_); refine Kd.R_lit Kd.bool _ 4 ?hg (N := 11) ?hd (xs := ([] : List Bool)) (inner := []) (ok := fun _ => True) (okp := fun _ => True) ?hr ?hp (fun _ hk => hk) trivial (Below.refl _ _) (Nat.le_refl _) (by simp) ?_; (case hd => rfl); (case hg => rfl); (case hr => first | (go_simp; done) | (go_simp; rfl)); (case hp => exact (Reps.none _ _)); intro v727 w5 ho6 hb hg_ hnew_; clear hg_ hnew_; (first | rw [← Ny726.out] at ho6 | (simp only [Int.reduceToNat] at ho6; rw [← Ny726.out] at ho6)); have n0_ := Aside0.mk (Kd.R_lower ho6 (below_size (by repeat (first | (with_reducible first | exact HB.out | apply below_alloc | apply pw_below_drewN | apply below_drew1) | exact HB.out)))); have n1_ := Aside0.mk (below_step (by repeat (first | (with_reducible first | exact HB.out | apply below_alloc | apply pw_below_drewN | apply below_drew1) | exact HB.out)) hb); clear HB; have HO728 := n0_; have HB := n1_; clear n0_ n1_; clear hb ho6))
        go_loopg [3, 4] kj1 (fun kq v3 v4 w' => ∃ (x3_2 : List Bool) (x4_2 : Int), v4 = .int .i64 x4_2 ∧ Aside0 (masterdiscref41_New.l0 kq a0 x3_2 x4_2 = some r) ∧ Aside0 (kq ≤ kj1) ∧ Aside0 (Kd.R Kd.bool 4 w' w.heap.size (fun _ => True) v3 x3_2) ∧ Aside0 (Below w.heap.size w w'))
        case atStart => exact ⟨(y726), (0), (by first | rfl | (simp; done) | (simp [*]; done)), H', ⟨Nat.le_refl _⟩, ⟨by (with_reducible repeat (first | apply Kd.R_alloc | apply Kd.R_drewN | apply Kd.R_drew)); exact HO728.out⟩, ⟨by repeat (first | (with_reducible first | exact HB.out | apply below_alloc | apply pw_below_drewN | apply below_drew1) | exact HB.out)⟩⟩
        case round =>
          clear H'
          try clear p2
          try clear c3
          try clear c3b0
          try clear c4
          try clear p2
          obtain ⟨x3_2, x4_2, rfl, HA, HK2, HO_3, HB⟩ := hrel
          cases gk with
          | zero => exact absurd HA.out (by simp [masterdiscref41_New.l0])
          | succ k2 =>
            have H := HA.out
            clear HA
            simp only [masterdiscref41_New.l0] at H
            by_cases c7 : x4_2 < a0
            · rw [if_pos c7] at H
              have c7b0 : decide (x4_2 < a0) = true := decide_eq_true c7
              clear c7
              by_cases c8 : x3_2.length < 140737488355328
              · rw [if_pos c8] at H
                have LMc8 := Aside0.mk c8
                clear c8
                obtain ⟨y729, hy729⟩ : ∃ y_ : List Bool, y_ = (x3_2 ++ [true]) := ⟨_, rfl⟩
                replace H : (masterdiscref41_New.l0 k2 a0 y729 (wrap64 (x4_2 + 1))) = some r := by first | (rw [hy729]; with_reducible exact H) | (have H2_ := (Option.bind_some _ _).symm.trans H; rw [hy729]; with_reducible exact H2_) | (have H2_ := (Option.bind_some _ _).symm.trans H; with_reducible exact H2_) | with_reducible exact H | (rw [hy729]; exact H) | exact H
                have Ny729 := Aside0.mk hy729
                clear hy729
                have H' := Aside0.mk H
                clear H
                go_wp2_with (first | ((with_reducible refine gate_builtin (b := .append) (xs := #[.tmp 17, .tmp 18]) rfl ?_); at_builtin; refine Kd.R_append Kd.bool (w0 := w) w.heap.size rfl (.tmp 17) (.tmp 18) 85 4 (.bool false) 1 rfl Try.underlying85 info4 rfl (by decide) (by omega) u3 x3_2 true [.bool true] (fun _ => True) (fun _ => False) rfl rfl ?aP (fun _ hk => hk.elim) ?aF ?aO ?aB ?aS ?aL ?_; (case aP => exact rfl); (case aB => exact (by repeat (first | (with_reducible first | exact HB.out | apply below_alloc | apply pw_below_drewN | apply below_drew1) | exact HB.out))); (case aF => exact (fun _ _ => trivial)); (case aO => exact (by (with_reducible repeat (first | apply Kd.R_alloc | apply Kd.R_drewN | apply Kd.R_drew)); exact HO_3.out)); (case aS => exact (below_size (by repeat (first | (with_reducible first | exact HB.out | apply below_alloc | apply pw_below_drewN | apply below_drew1) | exact HB.out)))); (case aL => have := LMc8.out; omega); intro v730 w9 ho hb hg hat; rw [← Ny729.out] at ho; have n0_ := Aside0.mk (hb); have n1_ := Aside0.mk (ho); clear HB; clear HO_3; have HB := n0_; have HO731 := n1_; clear n0_ n1_; clear ho hb hg hat))
                go_roundg k2
                case measure => have := HJ1.out; have := HK2.out; omega
                case rel => exact ⟨(y729), (wrap64 (x4_2 + 1)), (by first | rfl | (simp; done) | (simp [*]; done)), H', ⟨by have := HJ1.out; have := HK2.out; omega⟩, ⟨by (with_reducible repeat (first | apply Kd.R_alloc | apply Kd.R_drewN | apply Kd.R_drew)); exact HO731.out⟩, ⟨by repeat (first | (with_reducible first | exact HB.out | apply below_alloc | apply pw_below_drewN | apply below_drew1) | exact HB.out)⟩⟩
              · rw [if_neg c8] at H
                exact absurd H (by simp)
            · rw [if_neg c7] at H
              have c7b0 : decide (x4_2 < a0) = false := decide_eq_false c7
              clear c7
              replace H := Option.bind_eq_some_iff.mp H
              obtain ⟨t732, A100, H⟩ := H
              replace H : (some t732) = some r := H
              have A10 := Aside0.mk A100
              clear A100
              obtain rfl := Option.some.inj H
              obtain ⟨Ao11, co11, eo11⟩ := Kd.R_slice HO_3.out
              subst eo11
              go_wp2_with (first | ((with_reducible refine gate_callee (f := 136) rfl ?_); refine goesL_ (some 21) rfl rfl Try.func136 (by kernel_rfl) rfl #[.slice Ao11 x3_2.length co11] rfl (by (try simp only [List.map_toArray, List.map_cons, List.map_nil]); first | done | rfl | (simp only [List.length_drop, List.length_take]; rfl)) ?_; (with_reducible refine (masterdiscref41_pack.calls k2 _ _ x3_2 t732 _ ?side1 ?side2 A10.out).mono ?_); (case side1 => repeat (first | exact (Kd.R_reads' HO_3.out).2.2 | (with_reducible refine Kd.C_alloc ?_ _) | (with_reducible refine Kd.C_drewN ?_ _) | (with_reducible refine Kd.C_drew ?_))); (case side2 => exact (Kd.R_reads' HO_3.out).2.1); rintro e w12 ⟨rfl, hb⟩; refine ⟨_, rfl, ?_⟩; have n0_ := Aside0.mk (Kd.R_below (by (with_reducible repeat (first | apply Kd.R_alloc | apply Kd.R_drewN | apply Kd.R_drew)); exact HO_3.out) hb); have n1_ := Aside0.mk (below_step (by repeat (first | (with_reducible first | exact HB.out | apply below_alloc | apply pw_below_drewN | apply below_drew1) | exact HB.out)) hb); clear HO_3; clear HB; have HO_3 := n0_; have HB := n1_; clear n0_ n1_; (try clear hb); (try clear hb2); (try clear hk); (try clear hi)))
              go_ret
              exact ⟨by first | rfl | (simp [errW_none, errW_some] <;> rfl) | (simp [*, errW_none, errW_some] <;> rfl), by repeat (first | (with_reducible first | exact HB.out | apply below_alloc | apply pw_below_drewN | apply below_drew1) | exact HB.out)⟩

/-! ### masterdiscref41_Free: function 80 -/
def masterdiscref41_Free.l0 : Nat → Int → List Bool → Int → Option (Int)
  | 0, _, _, _ => none
  | k + 1, x5, x6, x7 => if x7 < (x6.length : Int) then (if 0 ≤ x7 then (if rdOf false x6 x7 = true then (masterdiscref41_Free.l0 k (wrap64 (x5 + 1)) x6 (wrap64 (x7 + 1))) else (masterdiscref41_Free.l0 k x5 x6 (wrap64 (x7 + 1)))) else (none)) else (some x5)
def masterdiscref41_Free.f (k : Nat) (a0 : ByteArray) (a1 : Int) : Option (Int) := (masterdiscref41_Valid.f k a0 a1).bind fun t733 => (if t733 = true then ((masterdiscref41_bits.f k a0).bind fun t734 => (masterdiscref41_Free.l0 k 0 t734 0)) else (some 0))
theorem masterdiscref41_Free.mono_l : ∀ k, (∀ y0 y1 y2, LeO (masterdiscref41_Free.l0 k y0 y1 y2) (masterdiscref41_Free.l0 (k + 1) y0 y1 y2))
  | 0 => fun _ _ _ r h => by simp [masterdiscref41_Free.l0] at h
  | k + 1 => by
    have ih0 := masterdiscref41_Free.mono_l k
    · intro y0 y1 y2
      unfold masterdiscref41_Free.l0
      repeat' first
      | (with_reducible exact ih0 _ _ _)
      | (with_reducible exact masterdiscref41_Valid.mono _ _ _)
      | (with_reducible exact masterdiscref41_bits.mono _ _)
      | (with_reducible exact LeO.refl _)
      | (with_reducible exact LeO.none _)
      | (with_reducible refine LeO.ite ?_ ?_)
      | (with_reducible refine LeO.bind ?_ (fun _ => ?_))
      | exact ih0 _ _ _
      | exact masterdiscref41_Valid.mono _ _ _
      | exact masterdiscref41_bits.mono _ _
      | exact LeO.none _
      | refine LeO.ite ?_ ?_
      | refine LeO.bind ?_ (fun _ => ?_)
theorem masterdiscref41_Free.mono : ∀ a0 a1 k, LeO (masterdiscref41_Free.f k a0 a1) (masterdiscref41_Free.f (k + 1) a0 a1) := by
  intro a0 a1 k
  have ih0 := masterdiscref41_Free.mono_l k
  unfold masterdiscref41_Free.f
  repeat' first
      | (with_reducible exact ih0 _ _ _)
      | (with_reducible exact masterdiscref41_Valid.mono _ _ _)
      | (with_reducible exact masterdiscref41_bits.mono _ _)
      | (with_reducible exact LeO.refl _)
      | (with_reducible exact LeO.none _)
      | (with_reducible refine LeO.ite ?_ ?_)
      | (with_reducible refine LeO.bind ?_ (fun _ => ?_))
      | exact ih0 _ _ _
      | exact masterdiscref41_Valid.mono _ _ _
      | exact masterdiscref41_bits.mono _ _
      | exact LeO.none _
      | refine LeO.ite ?_ ?_
      | refine LeO.bind ?_ (fun _ => ?_)
set_option maxHeartbeats 8000000 in
set_option maxRecDepth 100000 in
theorem masterdiscref41_Free.calls (k : Nat) (a0 : ByteArray) (a1 : Int) (r : Int) (w : World) (h : masterdiscref41_Free.f k a0 a1 = some r) :
    Calls Try.prog 80 #[.string a0, .int .i64 a1] w fun e w' => e = .returned (.int .i64 r) ∧ Below w.heap.size w w' := by
  have HB := Aside0.mk (Below.refl w.heap.size w)
  have H : ((masterdiscref41_Valid.f k a0 a1).bind fun t733 => (if t733 = true then ((masterdiscref41_bits.f k a0).bind fun t734 => (masterdiscref41_Free.l0 k 0 t734 0)) else (some 0))) = some r := h
  clear h
  replace H := Option.bind_eq_some_iff.mp H
  obtain ⟨t733, A30, H⟩ := H
  replace H : (if t733 = true then ((masterdiscref41_bits.f k a0).bind fun t734 => (masterdiscref41_Free.l0 k 0 t734 0)) else (some 0)) = some r := H
  have A3 := Aside0.mk A30
  clear A30
  by_cases c4 : t733 = true
  · subst c4
    have H1 : ((masterdiscref41_bits.f k a0).bind fun t734 => (masterdiscref41_Free.l0 k 0 t734 0)) = some r := by rw [if_pos rfl] at H; exact H
    clear H
    have H := H1
    clear H1
    replace H := Option.bind_eq_some_iff.mp H
    obtain ⟨t734, A50, H⟩ := H
    replace H : (masterdiscref41_Free.l0 k 0 t734 0) = some r := H
    have A5 := Aside0.mk A50
    clear A50
    have H' := Aside0.mk H
    clear H
    go_enter Try.func80, Try.ntmps80
    go_wp2_with (first | ((with_reducible refine gate_callee (f := 44) rfl ?_); refine goesL_ (some 10) rfl rfl Try.func44 (by kernel_rfl) rfl #[.string a0, .int .i64 a1] rfl (by (try simp only [List.map_toArray, List.map_cons, List.map_nil]); first | done | rfl | (simp only [List.length_drop, List.length_take]; rfl)) ?_; (with_reducible refine (masterdiscref41_Valid.calls k a0 a1 true _ A3.out).mono ?_); rintro e w6 ⟨rfl, hb⟩; refine ⟨_, rfl, ?_⟩; have n0_ := Aside0.mk (below_step (by repeat (first | (with_reducible first | exact HB.out | apply below_alloc | apply pw_below_drewN | apply below_drew1) | exact HB.out)) hb); clear HB; have HB := n0_; clear n0_; (try clear hb); (try clear hb2); (try clear hk); (try clear hi)) | ((with_reducible refine gate_callee (f := 112) rfl ?_); refine goesL_ (some 12) rfl rfl Try.func112 (by kernel_rfl) rfl #[.string a0] rfl (by (try simp only [List.map_toArray, List.map_cons, List.map_nil]); first | done | rfl | (simp only [List.length_drop, List.length_take]; rfl)) ?_; (with_reducible refine (masterdiscref41_bits.calls k a0 t734 _ A5.out).mono ?_); rintro e w7 ⟨v735, rfl, ho0, hb⟩; refine ⟨_, rfl, ?_⟩; have n0_ := Aside0.mk (Kd.R_lower ho0 (below_size (by repeat (first | (with_reducible first | exact HB.out | apply below_alloc | apply pw_below_drewN | apply below_drew1) | exact HB.out)))); have n1_ := Aside0.mk (below_step (by repeat (first | (with_reducible first | exact HB.out | apply below_alloc | apply pw_below_drewN | apply below_drew1) | exact HB.out)) hb); clear HB; have HO736 := n0_; have HB := n1_; clear n0_ n1_; (try clear hb); (try clear hb2); (try clear hk); (try clear hi); (try clear ho0)))
    go_loopg [5, 7] k (fun kq v5 v7 w' => ∃ (x5_1 : Int) (x7_1 : Int), v5 = .int .i64 x5_1 ∧ v7 = .int .i64 x7_1 ∧ Aside0 (masterdiscref41_Free.l0 kq x5_1 t734 x7_1 = some r) ∧ Aside0 (kq ≤ k) ∧ Aside0 (Kd.R Kd.bool 4 w' w.heap.size (fun _ => True) v735 t734) ∧ Aside0 (Below w.heap.size w w'))
    case atStart => exact ⟨(0), (0), (by first | rfl | (simp; done) | (simp [*]; done)), (by first | rfl | (simp; done) | (simp [*]; done)), H', ⟨Nat.le_refl _⟩, ⟨by (with_reducible repeat (first | apply Kd.R_alloc | apply Kd.R_drewN | apply Kd.R_drew)); exact HO736.out⟩, ⟨by repeat (first | (with_reducible first | exact HB.out | apply below_alloc | apply pw_below_drewN | apply below_drew1) | exact HB.out)⟩⟩
    case round =>
      clear H'
      try clear c1
      try clear p2
      try clear c4
      obtain ⟨x5_1, x7_1, rfl, rfl, HA, HK1, HO_6, HB⟩ := hrel
      cases gk with
      | zero => exact absurd HA.out (by simp [masterdiscref41_Free.l0])
      | succ k1 =>
        have H := HA.out
        clear HA
        simp only [masterdiscref41_Free.l0] at H
        by_cases c8 : x7_1 < (t734.length : Int)
        · rw [if_pos c8] at H
          have c8b0 : decide (x7_1 < (t734.length : Int)) = true := decide_eq_true c8
          clear c8
          by_cases c9 : 0 ≤ x7_1
          · rw [if_pos c9] at H
            have c9b0 : decide (0 ≤ x7_1) = true := decide_eq_true c9
            clear c9
            obtain ⟨bq10, hbq10⟩ : ∃ b_ : Bool, b_ = (rdOf false t734 x7_1) := ⟨_, rfl⟩
            replace H : (if bq10 = true then (masterdiscref41_Free.l0 k1 (wrap64 (x5_1 + 1)) t734 (wrap64 (x7_1 + 1))) else (masterdiscref41_Free.l0 k1 x5_1 t734 (wrap64 (x7_1 + 1)))) = some r := by rw [← hbq10] at H; exact H
            have Nbq10 := Aside0.mk hbq10
            clear hbq10
            by_cases c11 : bq10 = true
            · subst c11
              have H1 : (masterdiscref41_Free.l0 k1 (wrap64 (x5_1 + 1)) t734 (wrap64 (x7_1 + 1))) = some r := by rw [if_pos rfl] at H; exact H
              clear H
              have H := H1
              clear H1
              have H' := Aside0.mk H
              clear H
              obtain ⟨Ao12, co12, eo12⟩ := Kd.R_slice HO_6.out
              subst eo12
              have p737 : 0 ≤ (x7_1 : Int) := of_decide_eq_true (by first | (with_reducible assumption) | assumption)
              have q737 : x7_1 < (t734.length : Int) := of_decide_eq_true (by first | (with_reducible assumption) | assumption)
              obtain ⟨ad737, e737, hx737_0⟩ := Kd.at_bool (Kd.R_reads' HO_6.out).2.2 x7_1 p737 q737
              (try rw [← Nbq10.out] at hx737_0)
              cases e737
              replace p737 := eq_true p737
              replace q737 := eq_true q737
              go_wp2
              go_roundg k1
              case measure => have := HK1.out; omega
              case rel => exact ⟨(wrap64 (x5_1 + 1)), (wrap64 (x7_1 + 1)), (by first | rfl | (simp; done) | (simp [*]; done)), (by first | rfl | (simp; done) | (simp [*]; done)), H', ⟨by have := HK1.out; omega⟩, ⟨by (with_reducible repeat (first | apply Kd.R_alloc | apply Kd.R_drewN | apply Kd.R_drew)); exact HO_6.out⟩, ⟨by repeat (first | (with_reducible first | exact HB.out | apply below_alloc | apply pw_below_drewN | apply below_drew1) | exact HB.out)⟩⟩
            · replace c11 := Bool.eq_false_iff.mpr c11
              subst c11
              have H1 : (masterdiscref41_Free.l0 k1 x5_1 t734 (wrap64 (x7_1 + 1))) = some r := by rw [if_neg (show ¬ (false = true) by decide)] at H; exact H
              clear H
              have H := H1
              clear H1
              have H' := Aside0.mk H
              clear H
              obtain ⟨Ao13, co13, eo13⟩ := Kd.R_slice HO_6.out
              subst eo13
              have p737 : 0 ≤ (x7_1 : Int) := of_decide_eq_true (by first | (with_reducible assumption) | assumption)
              have q737 : x7_1 < (t734.length : Int) := of_decide_eq_true (by first | (with_reducible assumption) | assumption)
              obtain ⟨ad737, e737, hx737_0⟩ := Kd.at_bool (Kd.R_reads' HO_6.out).2.2 x7_1 p737 q737
              (try rw [← Nbq10.out] at hx737_0)
              cases e737
              replace p737 := eq_true p737
              replace q737 := eq_true q737
              go_wp2
              go_roundg k1
              case measure => have := HK1.out; omega
              case rel => exact ⟨(x5_1), (wrap64 (x7_1 + 1)), (by first | rfl | (simp; done) | (simp [*]; done)), (by first | rfl | (simp; done) | (simp [*]; done)), H', ⟨by have := HK1.out; omega⟩, ⟨by (with_reducible repeat (first | apply Kd.R_alloc | apply Kd.R_drewN | apply Kd.R_drew)); exact HO_6.out⟩, ⟨by repeat (first | (with_reducible first | exact HB.out | apply below_alloc | apply pw_below_drewN | apply below_drew1) | exact HB.out)⟩⟩
          · rw [if_neg c9] at H
            exact absurd H (by simp)
        · rw [if_neg c8] at H
          have c8b0 : decide (x7_1 < (t734.length : Int)) = false := decide_eq_false c8
          clear c8
          obtain rfl := Option.some.inj H
          obtain ⟨Ao14, co14, eo14⟩ := Kd.R_slice HO_6.out
          subst eo14
          go_wp2
          go_ret
          exact ⟨by first | rfl | (simp [errW_none, errW_some] <;> rfl) | (simp [*, errW_none, errW_some] <;> rfl), by repeat (first | (with_reducible first | exact HB.out | apply below_alloc | apply pw_below_drewN | apply below_drew1) | exact HB.out)⟩
  · replace c4 := Bool.eq_false_iff.mpr c4
    subst c4
    have H1 : (some 0) = some r := by rw [if_neg (show ¬ (false = true) by decide)] at H; exact H
    clear H
    have H := H1
    clear H1
    obtain rfl := Option.some.inj H
    go_enter Try.func80, Try.ntmps80
    go_wp2_with (first | ((with_reducible refine gate_callee (f := 44) rfl ?_); refine goesL_ (some 10) rfl rfl Try.func44 (by kernel_rfl) rfl #[.string a0, .int .i64 a1] rfl (by (try simp only [List.map_toArray, List.map_cons, List.map_nil]); first | done | rfl | (simp only [List.length_drop, List.length_take]; rfl)) ?_; (with_reducible refine (masterdiscref41_Valid.calls k a0 a1 false _ A3.out).mono ?_); rintro e w15 ⟨rfl, hb⟩; refine ⟨_, rfl, ?_⟩; have n0_ := Aside0.mk (below_step (by repeat (first | (with_reducible first | exact HB.out | apply below_alloc | apply pw_below_drewN | apply below_drew1) | exact HB.out)) hb); clear HB; have HB := n0_; clear n0_; (try clear hb); (try clear hb2); (try clear hk); (try clear hi)))
    go_ret
    exact ⟨by first | rfl | (simp [errW_none, errW_some] <;> rfl) | (simp [*, errW_none, errW_some] <;> rfl), by repeat (first | (with_reducible first | exact HB.out | apply below_alloc | apply pw_below_drewN | apply below_drew1) | exact HB.out)⟩

/-! ### masterdiscref41_add: function 139 -/
def masterdiscref41_add.f (l0 : List (S76)) (a1 : Int) : Option ((List (S76))) := if (l0.length : Int) > 0 then (if 0 ≤ (wrap64 ((l0.length : Int) - 1)) then (if (wrap64 ((l0.length : Int) - 1)) < (l0.length : Int) then (if (wrap64 (((rd_T76 l0 (wrap64 ((l0.length : Int) - 1))).f0) + ((rd_T76 l0 (wrap64 ((l0.length : Int) - 1))).f1))) = a1 then (some (l0.set ((wrap64 ((l0.length : Int) - 1)) : Int).toNat (⟨(rd_T76 l0 (wrap64 ((l0.length : Int) - 1))).f0, wrap64 (((rd_T76 l0 (wrap64 ((l0.length : Int) - 1))).f1) + 1)⟩ : S76))) else (if l0.length < 8796093022208 then (some (l0 ++ [(⟨a1, 1⟩ : S76)])) else (none))) else (none)) else (none)) else (if l0.length < 8796093022208 then (some (l0 ++ [(⟨a1, 1⟩ : S76)])) else (none))
set_option maxHeartbeats 8000000 in
set_option maxRecDepth 100000 in
theorem masterdiscref41_add.calls (P0_ : Nat → Prop) (u9000_ : Value) (l0 : List (S76)) (a1 : Int) (r : List (S76)) (w0 w : World) (hB : Below w0.heap.size w0 w) (ho0 : Kd.R k76 76 w w0.heap.size P0_ u9000_ l0) (h : masterdiscref41_add.f l0 a1 = some r) :
    Calls Try.prog 139 #[u9000_, .int .i64 a1] w fun e w' => ∃ v0_ : Value, e = .returned (v0_) ∧ Kd.R k76 76 w' w0.heap.size (fun k_ => (P0_ k_ ∨ w.heap.size ≤ k_)) v0_ r ∧ Below w0.heap.size w0 w' ∧ Kept w w' (fun k_ => P0_ k_) := by
  have hu76 := Try.underlying76
  have HO0 := Aside0.mk (show Kd.R k76 76 w w0.heap.size (fun k_ => (P0_ k_ ∨ w.heap.size ≤ k_)) u9000_ l0 from Kd.R_mono ho0 (fun k_ hk => (.inl hk)))
  have HK := Aside0.mk (Kept.refl w (fun k_ => P0_ k_))
  have HW0 := Aside0.mk hB.size
  have HB := Aside0.mk hB
  clear hB
  have H : (if (l0.length : Int) > 0 then (if 0 ≤ (wrap64 ((l0.length : Int) - 1)) then (if (wrap64 ((l0.length : Int) - 1)) < (l0.length : Int) then (if (wrap64 (((rd_T76 l0 (wrap64 ((l0.length : Int) - 1))).f0) + ((rd_T76 l0 (wrap64 ((l0.length : Int) - 1))).f1))) = a1 then (some (l0.set ((wrap64 ((l0.length : Int) - 1)) : Int).toNat (⟨(rd_T76 l0 (wrap64 ((l0.length : Int) - 1))).f0, wrap64 (((rd_T76 l0 (wrap64 ((l0.length : Int) - 1))).f1) + 1)⟩ : S76))) else (if l0.length < 8796093022208 then (some (l0 ++ [(⟨a1, 1⟩ : S76)])) else (none))) else (none)) else (none)) else (if l0.length < 8796093022208 then (some (l0 ++ [(⟨a1, 1⟩ : S76)])) else (none))) = some r := h
  clear h
  by_cases c3 : (l0.length : Int) > 0
  · rw [if_pos c3] at H
    have c3b0 : decide (0 < (l0.length : Int)) = true := decide_eq_true c3
    have c3b1 : decide (0 < l0.length) = true := decide_eq_true (by omega)
    clear c3
    obtain ⟨ji4, hji4⟩ : ∃ j_ : Int, (wrap64 ((l0.length : Int) - 1)) = j_ := ⟨_, rfl⟩
    replace H : (if 0 ≤ (ji4) then (if (ji4) < (l0.length : Int) then (if (wrap64 (((rd_T76 l0 (ji4)).f0) + ((rd_T76 l0 (ji4)).f1))) = a1 then (some (l0.set ((ji4) : Int).toNat (⟨(rd_T76 l0 (ji4)).f0, wrap64 (((rd_T76 l0 (ji4)).f1) + 1)⟩ : S76))) else (if l0.length < 8796093022208 then (some (l0 ++ [(⟨a1, 1⟩ : S76)])) else (none))) else (none)) else (none)) = some r := by first | (rw [hji4] at H; exact H) | (simp only [hji4] at H ⊢; exact H)
    have hji4w : (IntKind.i64.wrap ((l0.length : Int) - 1)) = ji4 := (i64_w _).trans hji4
    by_cases c5 : 0 ≤ (ji4)
    · rw [if_pos c5] at H
      have c5b0 : decide (0 ≤ (ji4)) = true := decide_eq_true c5
      clear c5
      by_cases c6 : (ji4) < (l0.length : Int)
      · rw [if_pos c6] at H
        have c6b0 : decide ((ji4) < (l0.length : Int)) = true := decide_eq_true c6
        clear c6
        by_cases c7 : (wrap64 (((rd_T76 l0 (ji4)).f0) + ((rd_T76 l0 (ji4)).f1))) = a1
        · rw [if_pos c7] at H
          have c7b0 : ((wrap64 (((rd_T76 l0 (ji4)).f0) + ((rd_T76 l0 (ji4)).f1))) == a1) = true := beq_iff_eq.mpr c7
          have c7b1 : ((wrap64 (((rd_T76 l0 (ji4)).f0) + ((rd_T76 l0 (ji4)).f1))) != a1) = false := bne_eq_false_iff_eq.mpr c7
          clear c7
          obtain ⟨y741, hy741⟩ : ∃ y_ : List (S76), y_ = (l0.set ((ji4) : Int).toNat (⟨(rd_T76 l0 (ji4)).f0, wrap64 (((rd_T76 l0 (ji4)).f1) + 1)⟩ : S76)) := ⟨_, rfl⟩
          replace H : (some y741) = some r := by first | (rw [hy741]; with_reducible exact H) | (have H2_ := (Option.bind_some _ _).symm.trans H; rw [hy741]; with_reducible exact H2_) | (have H2_ := (Option.bind_some _ _).symm.trans H; with_reducible exact H2_) | with_reducible exact H | (rw [hy741]; exact H) | exact H
          have Ny741 := Aside0.mk hy741
          clear hy741
          obtain rfl := Option.some.inj H
          obtain ⟨Ao9, co9, eo9⟩ := Kd.R_slice HO0.out
          subst eo9
          have p738 : 0 ≤ ((ji4) : Int) := of_decide_eq_true (by first | (with_reducible assumption) | assumption)
          have q738 : (ji4) < (l0.length : Int) := of_decide_eq_true (by first | (with_reducible assumption) | assumption)
          obtain ⟨ad738, e738, hx738_0, hx738_1⟩ := at_T76 (Kd.R_reads' HO0.out).2.2 (ji4) p738 q738
          cases e738
          replace p738 := eq_true p738
          replace q738 := eq_true q738
          have p739 : 0 ≤ ((ji4) : Int) := of_decide_eq_true (by first | (with_reducible assumption) | assumption)
          have q739 : (ji4) < (l0.length : Int) := of_decide_eq_true (by first | (with_reducible assumption) | assumption)
          obtain ⟨ad739, e739, hx739_0, hx739_1⟩ := at_T76 (Kd.R_reads' HO0.out).2.2 (ji4) p739 q739
          obtain rfl : ad738 = ad739 := (by injection e739)
          replace p739 := eq_true p739
          replace q739 := eq_true q739
          have p740 : 0 ≤ ((ji4) : Int) := of_decide_eq_true (by first | (with_reducible assumption) | assumption)
          have q740 : (ji4) < (l0.length : Int) := of_decide_eq_true (by first | (with_reducible assumption) | assumption)
          obtain ⟨ad740, e740, hx740_0, hx740_1⟩ := at_T76 (Kd.R_reads' HO0.out).2.2 (ji4) p740 q740
          obtain rfl : ad738 = ad740 := (by injection e740)
          replace p740 := eq_true p740
          replace q740 := eq_true q740
          have p8 : 0 ≤ ((ji4) : Int) := of_decide_eq_true (by first | (with_reducible assumption) | assumption)
          have q8 : ((ji4) : Int) < ((l0.length : Int) : Int) := of_decide_eq_true (by first | (with_reducible assumption) | assumption)
          obtain ⟨go8, co8, eo8, gb8, gl8, cl8, HG8⟩ := Kd.R_form HO0.out (by omega)
          (first | cases eo8 | (injection eo8 with ea_ en_ ec_; (first | subst ea_ | (injection ea_ with ea_; subst ea_)); subst ec_; clear en_))
          have GB8 := Aside0.mk gb8
          have GG8 := Aside0.mk HG8
          clear gb8 gl8 HG8
          have HMgo8 := Aside0.mk (show (P0_ go8 ∨ w.heap.size ≤ go8) from (HO0.out.1 _ rfl))
          (first | simp only [add_plain] at hx738_0 | skip)
          (first | simp only [add_plain] at hx738_1 | skip)
          (first | simp only [add_plain] at hx739_0 | skip)
          (first | simp only [add_plain] at hx739_1 | skip)
          (first | simp only [add_plain] at hx740_0 | skip)
          (first | simp only [add_plain] at hx740_1 | skip)
          obtain ⟨ce8, hcl8, hM8, hcc8, hfr8⟩ := Kd.R_elem HO0.out z76 ((ji4) : Int) p8 q8
          obtain rfl := k76_openM hM8
          have hx8_0 : w.cell? ⟨go8, ((ji4) : Int).toNat * 2, none⟩ = some (.int .i64 ((rd_T76 l0 (ji4)).f0)) := hcc8 0 _ rfl
          have hx8_1 : w.cell? ⟨go8, ((ji4) : Int).toNat * 2 + 1, none⟩ = some (.int .i64 ((rd_T76 l0 (ji4)).f1)) := hcc8 1 _ rfl
          have hf8_0 : w.frozen? ⟨go8, ((ji4) : Int).toNat * 2, none⟩ = false := hfr8 0
          have hf8_1 : w.frozen? ⟨go8, ((ji4) : Int).toNat * 2 + 1, none⟩ = false := hfr8 1
          clear hcl8 hcc8 hfr8 hM8
          replace p8 := eq_true p8
          replace q8 := eq_true q8
          have HX10 := Aside0.mk (show Kd.R k76 76 w w0.heap.size (fun k_ => (P0_ k_ ∨ w.heap.size ≤ k_)) (.slice (some ⟨go8, 0, none⟩) l0.length co9) l0 from (by (with_reducible repeat (first | apply Kd.R_alloc | apply Kd.R_drewN | apply Kd.R_drew)); exact HO0.out))
          obtain ⟨ce10, hcl10, hM10, hcc10, hfr10⟩ := Kd.R_elem HX10.out z76 ((ji4) : Int) (of_decide_eq_true (by first | (with_reducible assumption) | assumption)) (by have h_ : ((ji4) : Int) < ((l0.length : Int) : Int) := of_decide_eq_true (by first | (with_reducible assumption) | assumption); first | exact h_ | (have e_ := (Kd.R_reads' HO0.out).1; omega) | simpa using h_)
          obtain rfl := k76_openM hM10
          have HP10 := Kd.R_seg HX10.out ((ji4) : Int) (of_decide_eq_true (by first | (with_reducible assumption) | assumption)) (by have h_ : ((ji4) : Int) < ((l0.length : Int) : Int) := of_decide_eq_true (by first | (with_reducible assumption) | assumption); first | exact h_ | (have e_ := (Kd.R_reads' HO0.out).1; omega) | simpa using h_) (seg := [.int .i64 (wrap64 (((rd_T76 l0 (ji4)).f1) + 1))]) (j := 1) hcl10 hcc10 (show 2 ≤ 2 from by decide) (x' := (⟨(rd_T76 l0 (ji4)).f0, wrap64 (((rd_T76 l0 (ji4)).f1) + 1)⟩ : S76)) (k76_mkM _ _ _ (⟨(rd_T76 l0 (ji4)).f0, wrap64 (((rd_T76 l0 (ji4)).f1) + 1)⟩ : S76) ) (fun _ hk => hk)
          have hx10_1 := hcc10 1 _ rfl
          (try simp only [show (k76).sz = 2 from rfl, Nat.mul_one, Nat.add_zero] at hx10_1)
          have hf10_1 := hfr10 1
          (try simp only [show (k76).sz = 2 from rfl, Nat.mul_one, Nat.add_zero] at hf10_1)
          clear hcl10 hcc10 hfr10 hM10
          go_enter Try.func139, Try.ntmps139
          go_wp2_with (first | ((with_reducible refine gate_store (t := 3) (p := 35) rfl ?_); (try (rw [drewN_self w]; generalize hq_ : World.drewN w _ = w; have n0_ := Aside0.mk (Kd.R_at hq_ HO0.out); have n1_ := Aside0.mk (kept_at hq_ HK.out); have n2_ := Aside0.mk (below_at hq_ HB.out); clear hq_ HO0 HK HB; have HO0 := n0_; have HK := n1_; have HB := n2_; clear n0_ n1_ n2_; (try (have HX10 := Aside0.mk (show Kd.R k76 76 w w0.heap.size (fun k_ => (P0_ k_ ∨ w.heap.size ≤ k_)) (.slice (some ⟨go8, 0, none⟩) l0.length co9) l0 from (by (with_reducible repeat (first | apply Kd.R_alloc | apply Kd.R_drewN | apply Kd.R_drew)); exact HO0.out)))); (try (obtain ⟨ce10, hcl10, hM10, hcc10, hfr10⟩ := Kd.R_elem HX10.out z76 ((ji4) : Int) (of_decide_eq_true (by first | (with_reducible assumption) | assumption)) (by have h_ : ((ji4) : Int) < ((l0.length : Int) : Int) := of_decide_eq_true (by first | (with_reducible assumption) | assumption); first | exact h_ | (have e_ := (Kd.R_reads' HO0.out).1; omega) | simpa using h_))); (try (obtain rfl := k76_openM hM10)); (try (have HP10 := Kd.R_seg HX10.out ((ji4) : Int) (of_decide_eq_true (by first | (with_reducible assumption) | assumption)) (by have h_ : ((ji4) : Int) < ((l0.length : Int) : Int) := of_decide_eq_true (by first | (with_reducible assumption) | assumption); first | exact h_ | (have e_ := (Kd.R_reads' HO0.out).1; omega) | simpa using h_) (seg := [.int .i64 (wrap64 (((rd_T76 l0 (ji4)).f1) + 1))]) (j := 1) hcl10 hcc10 (show 2 ≤ 2 from by decide) (x' := (⟨(rd_T76 l0 (ji4)).f0, wrap64 (((rd_T76 l0 (ji4)).f1) + 1)⟩ : S76)) (k76_mkM _ _ _ (⟨(rd_T76 l0 (ji4)).f0, wrap64 (((rd_T76 l0 (ji4)).f1) + 1)⟩ : S76) ) (fun _ hk => hk))); (try (have hx10_1 := hcc10 1 _ rfl)); (try (try simp only [show (k76).sz = 2 from rfl, Nat.mul_one, Nat.add_zero] at hx10_1)); (try (have hf10_1 := hfr10 1)); (try (try simp only [show (k76).sz = 2 from rfl, Nat.mul_one, Nat.add_zero] at hf10_1)); (try (clear hcl10 hcc10 hfr10 hM10)))); refine store_event (t := 3) (p := 35) (v := ?vo_w11) (w1 := (w.setCell ⟨go8, ((ji4) : Int).toNat * 2 + 1, none⟩ (.int .i64 (wrap64 (((rd_T76 l0 (ji4)).f1) + 1))))) ?hg ?ho ?hn ?hr ?_; (case ho => rfl); (case hg => rfl); (case hn => rfl); (case hr => first | (go_simp; done) | (go_simp; rfl)); intro w11 hw; have hg : w.grownBy w11 (some go8) := (by rw [hw]; exact HP10.2); have hp_ : Kd.R k76 76 w11 w0.heap.size (fun k_ => (P0_ k_ ∨ w.heap.size ≤ k_)) (.slice (some ⟨go8, 0, none⟩) l0.length co9) y741 := (by rw [hw, Ny741.out]; exact HP10.1); clear HP10; have n0_ := Aside0.mk (hp_); have n1_ := Aside0.mk ((by rw [hw]; exact below_set (HB.out) GB8.out : Below w0.heap.size w0 w11)); have n2_ := Aside0.mk (Kept.of_grown (S := (fun k_ => P0_ k_)) hg (by repeat (first | (with_reducible first | exact HK.out | apply Kept.alloc | apply Kept.drewN | apply Kept.drew) | exact HK.out)) (fun k_ e_ => (HO0.out.1 k_ e_))); clear HO0; clear HB; clear HK; have HO0 := n0_; have HB := n1_; have HK := n2_; clear n0_ n1_ n2_; clear hg hw hp_))
          repeat (go_quiet (first | ((with_reducible refine gate_store (t := 3) (p := 35) rfl ?_); (try (rw [drewN_self w]; generalize hq_ : World.drewN w _ = w; have n0_ := Aside0.mk (Kd.R_at hq_ HO0.out); have n1_ := Aside0.mk (kept_at hq_ HK.out); have n2_ := Aside0.mk (below_at hq_ HB.out); clear hq_ HO0 HK HB; have HO0 := n0_; have HK := n1_; have HB := n2_; clear n0_ n1_ n2_; (try (have HX10 := Aside0.mk (show Kd.R k76 76 w w0.heap.size (fun k_ => (P0_ k_ ∨ w.heap.size ≤ k_)) (.slice (some ⟨go8, 0, none⟩) l0.length co9) l0 from (by (with_reducible repeat (first | apply Kd.R_alloc | apply Kd.R_drewN | apply Kd.R_drew)); exact HO0.out)))); (try (obtain ⟨ce10, hcl10, hM10, hcc10, hfr10⟩ := Kd.R_elem HX10.out z76 ((ji4) : Int) (of_decide_eq_true (by first | (with_reducible assumption) | assumption)) (by have h_ : ((ji4) : Int) < ((l0.length : Int) : Int) := of_decide_eq_true (by first | (with_reducible assumption) | assumption); first | exact h_ | (have e_ := (Kd.R_reads' HO0.out).1; omega) | simpa using h_))); (try (obtain rfl := k76_openM hM10)); (try (have HP10 := Kd.R_seg HX10.out ((ji4) : Int) (of_decide_eq_true (by first | (with_reducible assumption) | assumption)) (by have h_ : ((ji4) : Int) < ((l0.length : Int) : Int) := of_decide_eq_true (by first | (with_reducible assumption) | assumption); first | exact h_ | (have e_ := (Kd.R_reads' HO0.out).1; omega) | simpa using h_) (seg := [.int .i64 (wrap64 (((rd_T76 l0 (ji4)).f1) + 1))]) (j := 1) hcl10 hcc10 (show 2 ≤ 2 from by decide) (x' := (⟨(rd_T76 l0 (ji4)).f0, wrap64 (((rd_T76 l0 (ji4)).f1) + 1)⟩ : S76)) (k76_mkM _ _ _ (⟨(rd_T76 l0 (ji4)).f0, wrap64 (((rd_T76 l0 (ji4)).f1) + 1)⟩ : S76) ) (fun _ hk => hk))); (try (have hx10_1 := hcc10 1 _ rfl)); (try (try simp only [show (k76).sz = 2 from rfl, Nat.mul_one, Nat.add_zero] at hx10_1)); (try (have hf10_1 := hfr10 1)); (try (try simp only [show (k76).sz = 2 from rfl, Nat.mul_one, Nat.add_zero] at hf10_1)); (try (clear hcl10 hcc10 hfr10 hM10)))); refine store_event (t := 3) (p := 35) (v := ?vo_w11) (w1 := (w.setCell ⟨go8, ((ji4) : Int).toNat * 2 + 1, none⟩ (.int .i64 (wrap64 (((rd_T76 l0 (ji4)).f1) + 1))))) ?hg ?ho ?hn ?hr ?_; (case ho => rfl); (case hg => rfl); (case hn => rfl); (case hr => first | (go_simp; done) | (go_simp; rfl)); intro w11 hw; have hg : w.grownBy w11 (some go8) := (by rw [hw]; exact HP10.2); have hp_ : Kd.R k76 76 w11 w0.heap.size (fun k_ => (P0_ k_ ∨ w.heap.size ≤ k_)) (.slice (some ⟨go8, 0, none⟩) l0.length co9) y741 := (by rw [hw, Ny741.out]; exact HP10.1); clear HP10; have n0_ := Aside0.mk (hp_); have n1_ := Aside0.mk ((by rw [hw]; exact below_set (HB.out) GB8.out : Below w0.heap.size w0 w11)); have n2_ := Aside0.mk (Kept.of_grown (S := (fun k_ => P0_ k_)) hg (by repeat (first | (with_reducible first | exact HK.out | apply Kept.alloc | apply Kept.drewN | apply Kept.drew) | exact HK.out)) (fun k_ e_ => (HO0.out.1 k_ e_))); clear HO0; clear HB; clear HK; have HO0 := n0_; have HB := n1_; have HK := n2_; clear n0_ n1_ n2_; clear hg hw hp_)); try go_wp2_with (first | ((with_reducible refine gate_store (t := 3) (p := 35) rfl ?_); (try (rw [drewN_self w]; generalize hq_ : World.drewN w _ = w; have n0_ := Aside0.mk (Kd.R_at hq_ HO0.out); have n1_ := Aside0.mk (kept_at hq_ HK.out); have n2_ := Aside0.mk (below_at hq_ HB.out); clear hq_ HO0 HK HB; have HO0 := n0_; have HK := n1_; have HB := n2_; clear n0_ n1_ n2_; (try (have HX10 := Aside0.mk (show Kd.R k76 76 w w0.heap.size (fun k_ => (P0_ k_ ∨ w.heap.size ≤ k_)) (.slice (some ⟨go8, 0, none⟩) l0.length co9) l0 from (by (with_reducible repeat (first | apply Kd.R_alloc | apply Kd.R_drewN | apply Kd.R_drew)); exact HO0.out)))); (try (obtain ⟨ce10, hcl10, hM10, hcc10, hfr10⟩ := Kd.R_elem HX10.out z76 ((ji4) : Int) (of_decide_eq_true (by first | (with_reducible assumption) | assumption)) (by have h_ : ((ji4) : Int) < ((l0.length : Int) : Int) := of_decide_eq_true (by first | (with_reducible assumption) | assumption); first | exact h_ | (have e_ := (Kd.R_reads' HO0.out).1; omega) | simpa using h_))); (try (obtain rfl := k76_openM hM10)); (try (have HP10 := Kd.R_seg HX10.out ((ji4) : Int) (of_decide_eq_true (by first | (with_reducible assumption) | assumption)) (by have h_ : ((ji4) : Int) < ((l0.length : Int) : Int) := of_decide_eq_true (by first | (with_reducible assumption) | assumption); first | exact h_ | (have e_ := (Kd.R_reads' HO0.out).1; omega) | simpa using h_) (seg := [.int .i64 (wrap64 (((rd_T76 l0 (ji4)).f1) + 1))]) (j := 1) hcl10 hcc10 (show 2 ≤ 2 from by decide) (x' := (⟨(rd_T76 l0 (ji4)).f0, wrap64 (((rd_T76 l0 (ji4)).f1) + 1)⟩ : S76)) (k76_mkM _ _ _ (⟨(rd_T76 l0 (ji4)).f0, wrap64 (((rd_T76 l0 (ji4)).f1) + 1)⟩ : S76) ) (fun _ hk => hk))); (try (have hx10_1 := hcc10 1 _ rfl)); (try (try simp only [show (k76).sz = 2 from rfl, Nat.mul_one, Nat.add_zero] at hx10_1)); (try (have hf10_1 := hfr10 1)); (try (try simp only [show (k76).sz = 2 from rfl, Nat.mul_one, Nat.add_zero] at hf10_1)); (try (clear hcl10 hcc10 hfr10 hM10)))); refine store_event (t := 3) (p := 35) (v := ?vo_w11) (w1 := (w.setCell ⟨go8, ((ji4) : Int).toNat * 2 + 1, none⟩ (.int .i64 (wrap64 (((rd_T76 l0 (ji4)).f1) + 1))))) ?hg ?ho ?hn ?hr ?_; (case ho => rfl); (case hg => rfl); (case hn => rfl); (case hr => first | (go_simp; done) | (go_simp; rfl)); intro w11 hw; have hg : w.grownBy w11 (some go8) := (by rw [hw]; exact HP10.2); have hp_ : Kd.R k76 76 w11 w0.heap.size (fun k_ => (P0_ k_ ∨ w.heap.size ≤ k_)) (.slice (some ⟨go8, 0, none⟩) l0.length co9) y741 := (by rw [hw, Ny741.out]; exact HP10.1); clear HP10; have n0_ := Aside0.mk (hp_); have n1_ := Aside0.mk ((by rw [hw]; exact below_set (HB.out) GB8.out : Below w0.heap.size w0 w11)); have n2_ := Aside0.mk (Kept.of_grown (S := (fun k_ => P0_ k_)) hg (by repeat (first | (with_reducible first | exact HK.out | apply Kept.alloc | apply Kept.drewN | apply Kept.drew) | exact HK.out)) (fun k_ e_ => (HO0.out.1 k_ e_))); clear HO0; clear HB; clear HK; have HO0 := n0_; have HB := n1_; have HK := n2_; clear n0_ n1_ n2_; clear hg hw hp_)))
          go_ret
          refine ⟨_, rfl, ?_, ?_, ?_⟩
          · rw [Ny741.out]; exact HP10.1
          · exact below_set (pw_below_drewN HB.out _) GB8.out
          · exact (Kept.of_grown (S := (fun k_ => P0_ k_)) (row := some go8) HP10.2 HK.out (fun k_ e_ => (HO0.out.1 k_ e_))).drewN 0
        · rw [if_neg c7] at H
          have c7b0 : ((wrap64 (((rd_T76 l0 (ji4)).f0) + ((rd_T76 l0 (ji4)).f1))) == a1) = false := beq_eq_false_iff_ne.mpr c7
          have c7b1 : ((wrap64 (((rd_T76 l0 (ji4)).f0) + ((rd_T76 l0 (ji4)).f1))) != a1) = true := bne_iff_ne.mpr c7
          by_cases c12 : l0.length < 8796093022208
          · rw [if_pos c12] at H
            have LMc12 := Aside0.mk c12
            clear c12
            obtain ⟨y742, hy742⟩ : ∃ y_ : List (S76), y_ = (l0 ++ [(⟨a1, 1⟩ : S76)]) := ⟨_, rfl⟩
            replace H : (some y742) = some r := by first | (rw [hy742]; with_reducible exact H) | (have H2_ := (Option.bind_some _ _).symm.trans H; rw [hy742]; with_reducible exact H2_) | (have H2_ := (Option.bind_some _ _).symm.trans H; with_reducible exact H2_) | with_reducible exact H | (rw [hy742]; exact H) | exact H
            have Ny742 := Aside0.mk hy742
            clear hy742
            obtain rfl := Option.some.inj H
            obtain ⟨Ao13, co13, eo13⟩ := Kd.R_slice HO0.out
            subst eo13
            have p738 : 0 ≤ ((ji4) : Int) := of_decide_eq_true (by first | (with_reducible assumption) | assumption)
            have q738 : (ji4) < (l0.length : Int) := of_decide_eq_true (by first | (with_reducible assumption) | assumption)
            obtain ⟨ad738, e738, hx738_0, hx738_1⟩ := at_T76 (Kd.R_reads' HO0.out).2.2 (ji4) p738 q738
            cases e738
            replace p738 := eq_true p738
            replace q738 := eq_true q738
            have p739 : 0 ≤ ((ji4) : Int) := of_decide_eq_true (by first | (with_reducible assumption) | assumption)
            have q739 : (ji4) < (l0.length : Int) := of_decide_eq_true (by first | (with_reducible assumption) | assumption)
            obtain ⟨ad739, e739, hx739_0, hx739_1⟩ := at_T76 (Kd.R_reads' HO0.out).2.2 (ji4) p739 q739
            obtain rfl : ad738 = ad739 := (by injection e739)
            replace p739 := eq_true p739
            replace q739 := eq_true q739
            go_enter Try.func139, Try.ntmps139
            go_wp2_with (first | ((with_reducible refine gate_builtin (b := .append) (xs := #[.tmp 37, .tmp 40]) rfl ?_); at_builtin; refine Kd.R_append k76 (w0 := w0) w0.heap.size rfl (.tmp 37) (.tmp 40) 70 76 (.agg #[(.int .i64 0), (.int .i64 0)]) 16 rfl Try.underlying70 info76 rfl (by decide) (by omega) (.slice (some ad738) l0.length co13) l0 (⟨a1, 1⟩ : S76) [.int .i64 a1, .int .i64 1] (fun k_ => (P0_ k_ ∨ w.heap.size ≤ k_)) (fun _ => False) rfl rfl ?aP (fun _ hk => hk.elim) ?aF ?aO ?aB ?aS ?aL ?_; (case aP => exact k76_mkM _ _ _ (⟨a1, 1⟩ : S76)); (case aB => exact (by repeat (first | (with_reducible first | exact HB.out | apply below_alloc | apply pw_below_drewN | apply below_drew1) | exact HB.out))); (case aF => exact (fun k_ hk => (.inr (Nat.le_trans (by first | exact HK.out.1 | exact (show Kept w _ (fun k_ => P0_ k_) from by repeat (first | (with_reducible first | exact HK.out | apply Kept.alloc | apply Kept.drewN | apply Kept.drew) | exact HK.out)).1) hk)))); (case aO => exact (by (with_reducible repeat (first | apply Kd.R_alloc | apply Kd.R_drewN | apply Kd.R_drew)); exact HO0.out)); (case aS => exact (below_size (by repeat (first | (with_reducible first | exact HB.out | apply below_alloc | apply pw_below_drewN | apply below_drew1) | exact HB.out)))); (case aL => have := LMc12.out; omega); intro v743 w14 ho hb hg hat; rw [← Ny742.out] at ho; have n0_ := Aside0.mk (hb); have n1_ := Aside0.mk (Kept.of_grown (S := (fun k_ => P0_ k_)) hg (by repeat (first | (with_reducible first | exact HK.out | apply Kept.alloc | apply Kept.drewN | apply Kept.drew) | exact HK.out)) (fun k_ e_ => (HO0.out.1 k_ e_))); have n2_ := Aside0.mk (ho); clear HB; clear HK; clear HO0; have HB := n0_; have HK := n1_; have HO744 := n2_; clear n0_ n1_ n2_; clear ho hb hg hat))
            repeat (go_quiet (first | ((with_reducible refine gate_builtin (b := .append) (xs := #[.tmp 37, .tmp 40]) rfl ?_); at_builtin; refine Kd.R_append k76 (w0 := w0) w0.heap.size rfl (.tmp 37) (.tmp 40) 70 76 (.agg #[(.int .i64 0), (.int .i64 0)]) 16 rfl Try.underlying70 info76 rfl (by decide) (by omega) (.slice (some ad738) l0.length co13) l0 (⟨a1, 1⟩ : S76) [.int .i64 a1, .int .i64 1] (fun k_ => (P0_ k_ ∨ w.heap.size ≤ k_)) (fun _ => False) rfl rfl ?aP (fun _ hk => hk.elim) ?aF ?aO ?aB ?aS ?aL ?_; (case aP => exact k76_mkM _ _ _ (⟨a1, 1⟩ : S76)); (case aB => exact (by repeat (first | (with_reducible first | exact HB.out | apply below_alloc | apply pw_below_drewN | apply below_drew1) | exact HB.out))); (case aF => exact (fun k_ hk => (.inr (Nat.le_trans (by first | exact HK.out.1 | exact (show Kept w _ (fun k_ => P0_ k_) from by repeat (first | (with_reducible first | exact HK.out | apply Kept.alloc | apply Kept.drewN | apply Kept.drew) | exact HK.out)).1) hk)))); (case aO => exact (by (with_reducible repeat (first | apply Kd.R_alloc | apply Kd.R_drewN | apply Kd.R_drew)); exact HO0.out)); (case aS => exact (below_size (by repeat (first | (with_reducible first | exact HB.out | apply below_alloc | apply pw_below_drewN | apply below_drew1) | exact HB.out)))); (case aL => have := LMc12.out; omega); intro v743 w14 ho hb hg hat; rw [← Ny742.out] at ho; have n0_ := Aside0.mk (hb); have n1_ := Aside0.mk (Kept.of_grown (S := (fun k_ => P0_ k_)) hg (by repeat (first | (with_reducible first | exact HK.out | apply Kept.alloc | apply Kept.drewN | apply Kept.drew) | exact HK.out)) (fun k_ e_ => (HO0.out.1 k_ e_))); have n2_ := Aside0.mk (ho); clear HB; clear HK; clear HO0; have HB := n0_; have HK := n1_; have HO744 := n2_; clear n0_ n1_ n2_; clear ho hb hg hat)); try go_wp2_with (first | ((with_reducible refine gate_builtin (b := .append) (xs := #[.tmp 37, .tmp 40]) rfl ?_); at_builtin; refine Kd.R_append k76 (w0 := w0) w0.heap.size rfl (.tmp 37) (.tmp 40) 70 76 (.agg #[(.int .i64 0), (.int .i64 0)]) 16 rfl Try.underlying70 info76 rfl (by decide) (by omega) (.slice (some ad738) l0.length co13) l0 (⟨a1, 1⟩ : S76) [.int .i64 a1, .int .i64 1] (fun k_ => (P0_ k_ ∨ w.heap.size ≤ k_)) (fun _ => False) rfl rfl ?aP (fun _ hk => hk.elim) ?aF ?aO ?aB ?aS ?aL ?_; (case aP => exact k76_mkM _ _ _ (⟨a1, 1⟩ : S76)); (case aB => exact (by repeat (first | (with_reducible first | exact HB.out | apply below_alloc | apply pw_below_drewN | apply below_drew1) | exact HB.out))); (case aF => exact (fun k_ hk => (.inr (Nat.le_trans (by first | exact HK.out.1 | exact (show Kept w _ (fun k_ => P0_ k_) from by repeat (first | (with_reducible first | exact HK.out | apply Kept.alloc | apply Kept.drewN | apply Kept.drew) | exact HK.out)).1) hk)))); (case aO => exact (by (with_reducible repeat (first | apply Kd.R_alloc | apply Kd.R_drewN | apply Kd.R_drew)); exact HO0.out)); (case aS => exact (below_size (by repeat (first | (with_reducible first | exact HB.out | apply below_alloc | apply pw_below_drewN | apply below_drew1) | exact HB.out)))); (case aL => have := LMc12.out; omega); intro v743 w14 ho hb hg hat; rw [← Ny742.out] at ho; have n0_ := Aside0.mk (hb); have n1_ := Aside0.mk (Kept.of_grown (S := (fun k_ => P0_ k_)) hg (by repeat (first | (with_reducible first | exact HK.out | apply Kept.alloc | apply Kept.drewN | apply Kept.drew) | exact HK.out)) (fun k_ e_ => (HO0.out.1 k_ e_))); have n2_ := Aside0.mk (ho); clear HB; clear HK; clear HO0; have HB := n0_; have HK := n1_; have HO744 := n2_; clear n0_ n1_ n2_; clear ho hb hg hat)))
            go_ret
            exact ⟨_, by first | rfl | (simp [errW_none, errW_some] <;> rfl) | (simp only [← hji4]; first | rfl | (simp [errW_none, errW_some] <;> rfl)) | (simp [*, errW_none, errW_some] <;> rfl), by (with_reducible repeat (first | apply Kd.R_alloc | apply Kd.R_drewN | apply Kd.R_drew)); exact HO744.out, by repeat (first | (with_reducible first | exact HB.out | apply below_alloc | apply pw_below_drewN | apply below_drew1) | exact HB.out), by repeat (first | (with_reducible first | exact HK.out | apply Kept.alloc | apply Kept.drewN | apply Kept.drew) | exact HK.out)⟩
          · rw [if_neg c12] at H
            exact absurd H (by simp)
      · rw [if_neg c6] at H
        exact absurd H (by simp)
    · rw [if_neg c5] at H
      exact absurd H (by simp)
  · rw [if_neg c3] at H
    have c3b0 : decide (0 < (l0.length : Int)) = false := decide_eq_false c3
    have c3b1 : decide (0 < l0.length) = false := decide_eq_false (by omega)
    clear c3
    by_cases c15 : l0.length < 8796093022208
    · rw [if_pos c15] at H
      have LMc15 := Aside0.mk c15
      clear c15
      obtain ⟨y745, hy745⟩ : ∃ y_ : List (S76), y_ = (l0 ++ [(⟨a1, 1⟩ : S76)]) := ⟨_, rfl⟩
      replace H : (some y745) = some r := by first | (rw [hy745]; with_reducible exact H) | (have H2_ := (Option.bind_some _ _).symm.trans H; rw [hy745]; with_reducible exact H2_) | (have H2_ := (Option.bind_some _ _).symm.trans H; with_reducible exact H2_) | with_reducible exact H | (rw [hy745]; exact H) | exact H
      have Ny745 := Aside0.mk hy745
      clear hy745
      obtain rfl := Option.some.inj H
      obtain ⟨Ao16, co16, eo16⟩ := Kd.R_slice HO0.out
      subst eo16
      go_enter Try.func139, Try.ntmps139
      go_wp2_with (first | ((with_reducible refine gate_builtin (b := .append) (xs := #[.tmp 37, .tmp 40]) rfl ?_); at_builtin; refine Kd.R_append k76 (w0 := w0) w0.heap.size rfl (.tmp 37) (.tmp 40) 70 76 (.agg #[(.int .i64 0), (.int .i64 0)]) 16 rfl Try.underlying70 info76 rfl (by decide) (by omega) (.slice Ao16 l0.length co16) l0 (⟨a1, 1⟩ : S76) [.int .i64 a1, .int .i64 1] (fun k_ => (P0_ k_ ∨ w.heap.size ≤ k_)) (fun _ => False) rfl rfl ?aP (fun _ hk => hk.elim) ?aF ?aO ?aB ?aS ?aL ?_; (case aP => exact k76_mkM _ _ _ (⟨a1, 1⟩ : S76)); (case aB => exact (by repeat (first | (with_reducible first | exact HB.out | apply below_alloc | apply pw_below_drewN | apply below_drew1) | exact HB.out))); (case aF => exact (fun k_ hk => (.inr (Nat.le_trans (by first | exact HK.out.1 | exact (show Kept w _ (fun k_ => P0_ k_) from by repeat (first | (with_reducible first | exact HK.out | apply Kept.alloc | apply Kept.drewN | apply Kept.drew) | exact HK.out)).1) hk)))); (case aO => exact (by (with_reducible repeat (first | apply Kd.R_alloc | apply Kd.R_drewN | apply Kd.R_drew)); exact HO0.out)); (case aS => exact (below_size (by repeat (first | (with_reducible first | exact HB.out | apply below_alloc | apply pw_below_drewN | apply below_drew1) | exact HB.out)))); (case aL => have := LMc15.out; omega); intro v746 w17 ho hb hg hat; rw [← Ny745.out] at ho; have n0_ := Aside0.mk (hb); have n1_ := Aside0.mk (Kept.of_grown (S := (fun k_ => P0_ k_)) hg (by repeat (first | (with_reducible first | exact HK.out | apply Kept.alloc | apply Kept.drewN | apply Kept.drew) | exact HK.out)) (fun k_ e_ => (HO0.out.1 k_ e_))); have n2_ := Aside0.mk (ho); clear HB; clear HK; clear HO0; have HB := n0_; have HK := n1_; have HO747 := n2_; clear n0_ n1_ n2_; clear ho hb hg hat))
      repeat (go_quiet (first | ((with_reducible refine gate_builtin (b := .append) (xs := #[.tmp 37, .tmp 40]) rfl ?_); at_builtin; refine Kd.R_append k76 (w0 := w0) w0.heap.size rfl (.tmp 37) (.tmp 40) 70 76 (.agg #[(.int .i64 0), (.int .i64 0)]) 16 rfl Try.underlying70 info76 rfl (by decide) (by omega) (.slice Ao16 l0.length co16) l0 (⟨a1, 1⟩ : S76) [.int .i64 a1, .int .i64 1] (fun k_ => (P0_ k_ ∨ w.heap.size ≤ k_)) (fun _ => False) rfl rfl ?aP (fun _ hk => hk.elim) ?aF ?aO ?aB ?aS ?aL ?_; (case aP => exact k76_mkM _ _ _ (⟨a1, 1⟩ : S76)); (case aB => exact (by repeat (first | (with_reducible first | exact HB.out | apply below_alloc | apply pw_below_drewN | apply below_drew1) | exact HB.out))); (case aF => exact (fun k_ hk => (.inr (Nat.le_trans (by first | exact HK.out.1 | exact (show Kept w _ (fun k_ => P0_ k_) from by repeat (first | (with_reducible first | exact HK.out | apply Kept.alloc | apply Kept.drewN | apply Kept.drew) | exact HK.out)).1) hk)))); (case aO => exact (by (with_reducible repeat (first | apply Kd.R_alloc | apply Kd.R_drewN | apply Kd.R_drew)); exact HO0.out)); (case aS => exact (below_size (by repeat (first | (with_reducible first | exact HB.out | apply below_alloc | apply pw_below_drewN | apply below_drew1) | exact HB.out)))); (case aL => have := LMc15.out; omega); intro v746 w17 ho hb hg hat; rw [← Ny745.out] at ho; have n0_ := Aside0.mk (hb); have n1_ := Aside0.mk (Kept.of_grown (S := (fun k_ => P0_ k_)) hg (by repeat (first | (with_reducible first | exact HK.out | apply Kept.alloc | apply Kept.drewN | apply Kept.drew) | exact HK.out)) (fun k_ e_ => (HO0.out.1 k_ e_))); have n2_ := Aside0.mk (ho); clear HB; clear HK; clear HO0; have HB := n0_; have HK := n1_; have HO747 := n2_; clear n0_ n1_ n2_; clear ho hb hg hat)); try go_wp2_with (first | ((with_reducible refine gate_builtin (b := .append) (xs := #[.tmp 37, .tmp 40]) rfl ?_); at_builtin; refine Kd.R_append k76 (w0 := w0) w0.heap.size rfl (.tmp 37) (.tmp 40) 70 76 (.agg #[(.int .i64 0), (.int .i64 0)]) 16 rfl Try.underlying70 info76 rfl (by decide) (by omega) (.slice Ao16 l0.length co16) l0 (⟨a1, 1⟩ : S76) [.int .i64 a1, .int .i64 1] (fun k_ => (P0_ k_ ∨ w.heap.size ≤ k_)) (fun _ => False) rfl rfl ?aP (fun _ hk => hk.elim) ?aF ?aO ?aB ?aS ?aL ?_; (case aP => exact k76_mkM _ _ _ (⟨a1, 1⟩ : S76)); (case aB => exact (by repeat (first | (with_reducible first | exact HB.out | apply below_alloc | apply pw_below_drewN | apply below_drew1) | exact HB.out))); (case aF => exact (fun k_ hk => (.inr (Nat.le_trans (by first | exact HK.out.1 | exact (show Kept w _ (fun k_ => P0_ k_) from by repeat (first | (with_reducible first | exact HK.out | apply Kept.alloc | apply Kept.drewN | apply Kept.drew) | exact HK.out)).1) hk)))); (case aO => exact (by (with_reducible repeat (first | apply Kd.R_alloc | apply Kd.R_drewN | apply Kd.R_drew)); exact HO0.out)); (case aS => exact (below_size (by repeat (first | (with_reducible first | exact HB.out | apply below_alloc | apply pw_below_drewN | apply below_drew1) | exact HB.out)))); (case aL => have := LMc15.out; omega); intro v746 w17 ho hb hg hat; rw [← Ny745.out] at ho; have n0_ := Aside0.mk (hb); have n1_ := Aside0.mk (Kept.of_grown (S := (fun k_ => P0_ k_)) hg (by repeat (first | (with_reducible first | exact HK.out | apply Kept.alloc | apply Kept.drewN | apply Kept.drew) | exact HK.out)) (fun k_ e_ => (HO0.out.1 k_ e_))); have n2_ := Aside0.mk (ho); clear HB; clear HK; clear HO0; have HB := n0_; have HK := n1_; have HO747 := n2_; clear n0_ n1_ n2_; clear ho hb hg hat)))
      go_ret
      exact ⟨_, by first | rfl | (simp [errW_none, errW_some] <;> rfl) | (simp [*, errW_none, errW_some] <;> rfl), by (with_reducible repeat (first | apply Kd.R_alloc | apply Kd.R_drewN | apply Kd.R_drew)); exact HO747.out, by repeat (first | (with_reducible first | exact HB.out | apply below_alloc | apply pw_below_drewN | apply below_drew1) | exact HB.out), by repeat (first | (with_reducible first | exact HK.out | apply Kept.alloc | apply Kept.drewN | apply Kept.drew) | exact HK.out)⟩
    · rw [if_neg c15] at H
      exact absurd H (by simp)

/-! ### masterdiscref41_Spans: function 83 -/
def masterdiscref41_Spans.l0 : Nat → Int → List (S76) → List Bool → Int → Option ((List (S76)))
  | 0, _, _, _, _ => none
  | k + 1, x1, x5, x6, x7 => if x7 < x1 then (if 0 ≤ x7 then (if x7 < (x6.length : Int) then (if rdOf false x6 x7 = true then ((masterdiscref41_add.f x5 x7).bind fun t756 => (masterdiscref41_Spans.l0 k x1 t756 x6 (wrap64 (x7 + 1)))) else (masterdiscref41_Spans.l0 k x1 x5 x6 (wrap64 (x7 + 1)))) else (none)) else (none)) else (some x5)
def masterdiscref41_Spans.f (k : Nat) (a0 : ByteArray) (a1 : Int) : Option ((List (S76))) := (masterdiscref41_Valid.f k a0 a1).bind fun t748 => (if t748 = true then ((masterdiscref41_bits.f k a0).bind fun t752 => (masterdiscref41_Spans.l0 k a1 (([] : List (S76))) t752 0)) else (some ([] : List (S76))))
theorem masterdiscref41_Spans.mono_l : ∀ k, (∀ y0 y1 y2 y3, LeO (masterdiscref41_Spans.l0 k y0 y1 y2 y3) (masterdiscref41_Spans.l0 (k + 1) y0 y1 y2 y3))
  | 0 => fun _ _ _ _ r h => by simp [masterdiscref41_Spans.l0] at h
  | k + 1 => by
    have ih0 := masterdiscref41_Spans.mono_l k
    · intro y0 y1 y2 y3
      unfold masterdiscref41_Spans.l0
      repeat' first
      | (with_reducible exact ih0 _ _ _ _)
      | (with_reducible exact masterdiscref41_Valid.mono _ _ _)
      | (with_reducible exact masterdiscref41_bits.mono _ _)
      | (with_reducible exact LeO.refl _)
      | (with_reducible exact LeO.none _)
      | (with_reducible refine LeO.ite ?_ ?_)
      | (with_reducible refine LeO.bind ?_ (fun _ => ?_))
      | exact ih0 _ _ _ _
      | exact masterdiscref41_Valid.mono _ _ _
      | exact masterdiscref41_bits.mono _ _
      | exact LeO.none _
      | refine LeO.ite ?_ ?_
      | refine LeO.bind ?_ (fun _ => ?_)
theorem masterdiscref41_Spans.mono : ∀ a0 a1 k, LeO (masterdiscref41_Spans.f k a0 a1) (masterdiscref41_Spans.f (k + 1) a0 a1) := by
  intro a0 a1 k
  have ih0 := masterdiscref41_Spans.mono_l k
  unfold masterdiscref41_Spans.f
  repeat' first
      | (with_reducible exact ih0 _ _ _ _)
      | (with_reducible exact masterdiscref41_Valid.mono _ _ _)
      | (with_reducible exact masterdiscref41_bits.mono _ _)
      | (with_reducible exact LeO.refl _)
      | (with_reducible exact LeO.none _)
      | (with_reducible refine LeO.ite ?_ ?_)
      | (with_reducible refine LeO.bind ?_ (fun _ => ?_))
      | exact ih0 _ _ _ _
      | exact masterdiscref41_Valid.mono _ _ _
      | exact masterdiscref41_bits.mono _ _
      | exact LeO.none _
      | refine LeO.ite ?_ ?_
      | refine LeO.bind ?_ (fun _ => ?_)
set_option maxHeartbeats 8000000 in
set_option maxRecDepth 100000 in
theorem masterdiscref41_Spans.calls (k : Nat) (a0 : ByteArray) (a1 : Int) (r : List (S76)) (w : World) (h : masterdiscref41_Spans.f k a0 a1 = some r) :
    Calls Try.prog 83 #[.string a0, .int .i64 a1] w fun e w' => ∃ v0_ : Value, e = .returned (v0_) ∧ Kd.R k76 76 w' w.heap.size (fun _ => True) v0_ r ∧ Below w.heap.size w w' := by
  have HB := Aside0.mk (Below.refl w.heap.size w)
  have H : ((masterdiscref41_Valid.f k a0 a1).bind fun t748 => (if t748 = true then ((masterdiscref41_bits.f k a0).bind fun t752 => (masterdiscref41_Spans.l0 k a1 (([] : List (S76))) t752 0)) else (some ([] : List (S76))))) = some r := h
  clear h
  replace H := Option.bind_eq_some_iff.mp H
  obtain ⟨t748, A30, H⟩ := H
  replace H : (if t748 = true then ((masterdiscref41_bits.f k a0).bind fun t752 => (masterdiscref41_Spans.l0 k a1 (([] : List (S76))) t752 0)) else (some ([] : List (S76)))) = some r := H
  have A3 := Aside0.mk A30
  clear A30
  by_cases c4 : t748 = true
  · subst c4
    have H1 : ((masterdiscref41_bits.f k a0).bind fun t752 => (masterdiscref41_Spans.l0 k a1 (([] : List (S76))) t752 0)) = some r := by rw [if_pos rfl] at H; exact H
    clear H
    have H := H1
    clear H1
    obtain ⟨y749, hy749⟩ : ∃ y_ : List (S76), y_ = (([] : List (S76))) := ⟨_, rfl⟩
    replace H : ((masterdiscref41_bits.f k a0).bind fun t752 => (masterdiscref41_Spans.l0 k a1 y749 t752 0)) = some r := by first | (rw [hy749]; with_reducible exact H) | (have H2_ := (Option.bind_some _ _).symm.trans H; rw [hy749]; with_reducible exact H2_) | (have H2_ := (Option.bind_some _ _).symm.trans H; with_reducible exact H2_) | with_reducible exact H | (rw [hy749]; exact H) | exact H
    have Ny749 := Aside0.mk hy749
    clear hy749
    replace H := Option.bind_eq_some_iff.mp H
    obtain ⟨t752, A50, H⟩ := H
    replace H : (masterdiscref41_Spans.l0 k a1 y749 t752 0) = some r := H
    have A5 := Aside0.mk A50
    clear A50
    have H' := Aside0.mk H
    clear H
    go_enter Try.func83, Try.ntmps83
    go_wp2_with (first | ((with_reducible refine gate_callee (f := 44) rfl ?_); refine goesL_ (some 10) rfl rfl Try.func44 (by kernel_rfl) rfl #[.string a0, .int .i64 a1] rfl (by (try simp only [List.map_toArray, List.map_cons, List.map_nil]); first | done | rfl | (simp only [List.length_drop, List.length_take]; rfl)) ?_; (with_reducible refine (masterdiscref41_Valid.calls k a0 a1 true _ A3.out).mono ?_); rintro e w6 ⟨rfl, hb⟩; refine ⟨_, rfl, ?_⟩; have n0_ := Aside0.mk (below_step (by repeat (first | (with_reducible first | exact HB.out | apply below_alloc | apply pw_below_drewN | apply below_drew1) | exact HB.out)) hb); clear HB; have HB := n0_; clear n0_; (try clear hb); (try clear hb2); (try clear hk); (try clear hi)) | ((with_reducible refine gate_dst (N := 12) rfl ?_); refine Kd.R_lit k76 _ 76 ?hg (N := 12) ?hd (xs := ([] : List (S76))) (inner := []) (ok := fun _ => True) (okp := fun _ => True) ?hr ?hp (fun _ hk => hk) trivial (Below.refl _ _) (Nat.le_refl _) (by simp) ?_; (case hd => rfl); (case hg => rfl); (case hr => first | (go_simp; done) | (go_simp; rfl)); (case hp => exact (Reps.none _ _)); intro v750 w7 ho8 hb hg_ hnew_; clear hg_ hnew_; (first | rw [← Ny749.out] at ho8 | (simp only [Int.reduceToNat] at ho8; rw [← Ny749.out] at ho8)); have n0_ := Aside0.mk (Kd.R_lower ho8 (below_size (by repeat (first | (with_reducible first | exact HB.out | apply below_alloc | apply pw_below_drewN | apply below_drew1) | exact HB.out)))); have n1_ := Aside0.mk (below_step (by repeat (first | (with_reducible first | exact HB.out | apply below_alloc | apply pw_below_drewN | apply below_drew1) | exact HB.out)) hb); clear HB; have HO751 := n0_; have HB := n1_; clear n0_ n1_; clear hb ho8) | ((with_reducible refine gate_callee (f := 112) rfl ?_); refine goesL_ (some 14) rfl rfl Try.func112 (by kernel_rfl) rfl #[.string a0] rfl (by (try simp only [List.map_toArray, List.map_cons, List.map_nil]); first | done | rfl | (simp only [List.length_drop, List.length_take]; rfl)) ?_; (with_reducible refine (masterdiscref41_bits.calls k a0 t752 _ A5.out).mono ?_); rintro e w9 ⟨v753, rfl, ho0, hb⟩; refine ⟨_, rfl, ?_⟩; have n0_ := Aside0.mk (Kd.R_below (by (with_reducible repeat (first | apply Kd.R_alloc | apply Kd.R_drewN | apply Kd.R_drew)); exact HO751.out) hb); have n1_ := Aside0.mk (Kd.R_lower ho0 (below_size (by repeat (first | (with_reducible first | exact HB.out | apply below_alloc | apply pw_below_drewN | apply below_drew1) | exact HB.out)))); have n2_ := Aside0.mk (below_step (by repeat (first | (with_reducible first | exact HB.out | apply below_alloc | apply pw_below_drewN | apply below_drew1) | exact HB.out)) hb); clear HO751; clear HB; have HO751 := n0_; have HO754 := n1_; have HB := n2_; clear n0_ n1_ n2_; (try clear hb); (try clear hb2); (try clear hk); (try clear hi); (try clear ho0)))
    go_loopg [5, 7] k (fun kq v5 v7 w' => ∃ (x5_1 : List (S76)) (x7_1 : Int), v7 = .int .i64 x7_1 ∧ Aside0 (masterdiscref41_Spans.l0 kq a1 x5_1 t752 x7_1 = some r) ∧ Aside0 (kq ≤ k) ∧ Aside0 (Kd.R k76 76 w' w.heap.size (fun _ => True) v5 x5_1) ∧ Aside0 (Kd.R Kd.bool 4 w' w.heap.size (fun _ => True) v753 t752) ∧ Aside0 (Below w.heap.size w w'))
    case atStart => exact ⟨(y749), (0), (by first | rfl | (simp; done) | (simp [*]; done)), H', ⟨Nat.le_refl _⟩, ⟨by (with_reducible repeat (first | apply Kd.R_alloc | apply Kd.R_drewN | apply Kd.R_drew)); exact HO751.out⟩, ⟨by (with_reducible repeat (first | apply Kd.R_alloc | apply Kd.R_drewN | apply Kd.R_drew)); exact HO754.out⟩, ⟨by repeat (first | (with_reducible first | exact HB.out | apply below_alloc | apply pw_below_drewN | apply below_drew1) | exact HB.out)⟩⟩
    case round =>
      clear H'
      try clear c1
      try clear p2
      try clear c4
      try clear c8
      obtain ⟨x5_1, x7_1, rfl, HA, HK1, HO_5, HO_6, HB⟩ := hrel
      cases gk with
      | zero => exact absurd HA.out (by simp [masterdiscref41_Spans.l0])
      | succ k1 =>
        have H := HA.out
        clear HA
        simp only [masterdiscref41_Spans.l0] at H
        by_cases c10 : x7_1 < a1
        · rw [if_pos c10] at H
          have c10b0 : decide (x7_1 < a1) = true := decide_eq_true c10
          clear c10
          by_cases c11 : 0 ≤ x7_1
          · rw [if_pos c11] at H
            have c11b0 : decide (0 ≤ x7_1) = true := decide_eq_true c11
            clear c11
            by_cases c12 : x7_1 < (t752.length : Int)
            · rw [if_pos c12] at H
              have c12b0 : decide (x7_1 < (t752.length : Int)) = true := decide_eq_true c12
              clear c12
              obtain ⟨bq13, hbq13⟩ : ∃ b_ : Bool, b_ = (rdOf false t752 x7_1) := ⟨_, rfl⟩
              replace H : (if bq13 = true then ((masterdiscref41_add.f x5_1 x7_1).bind fun t756 => (masterdiscref41_Spans.l0 k1 a1 t756 t752 (wrap64 (x7_1 + 1)))) else (masterdiscref41_Spans.l0 k1 a1 x5_1 t752 (wrap64 (x7_1 + 1)))) = some r := by rw [← hbq13] at H; exact H
              have Nbq13 := Aside0.mk hbq13
              clear hbq13
              by_cases c14 : bq13 = true
              · subst c14
                have H1 : ((masterdiscref41_add.f x5_1 x7_1).bind fun t756 => (masterdiscref41_Spans.l0 k1 a1 t756 t752 (wrap64 (x7_1 + 1)))) = some r := by rw [if_pos rfl] at H; exact H
                clear H
                have H := H1
                clear H1
                replace H := Option.bind_eq_some_iff.mp H
                obtain ⟨t756, A150, H⟩ := H
                replace H : (masterdiscref41_Spans.l0 k1 a1 t756 t752 (wrap64 (x7_1 + 1))) = some r := H
                have A15 := Aside0.mk A150
                clear A150
                have H' := Aside0.mk H
                clear H
                obtain ⟨Ao16, co16, eo16⟩ := Kd.R_slice HO_6.out
                subst eo16
                have p755 : 0 ≤ (x7_1 : Int) := of_decide_eq_true (by first | (with_reducible assumption) | assumption)
                have q755 : x7_1 < (t752.length : Int) := of_decide_eq_true (by first | (with_reducible assumption) | assumption)
                obtain ⟨ad755, e755, hx755_0⟩ := Kd.at_bool (Kd.R_reads' HO_6.out).2.2 x7_1 p755 q755
                (try rw [← Nbq13.out] at hx755_0)
                cases e755
                replace p755 := eq_true p755
                replace q755 := eq_true q755
                obtain ⟨Ao17, co17, eo17⟩ := Kd.R_slice HO_5.out
                subst eo17
                go_wp2_with (first | ((with_reducible refine gate_callee (f := 139) rfl ?_); refine goesL_ (some 26) rfl rfl Try.func139 (by kernel_rfl) rfl #[.slice Ao17 x5_1.length co17, .int .i64 x7_1] rfl (by (try simp only [List.map_toArray, List.map_cons, List.map_nil]); first | done | rfl | (simp only [List.length_drop, List.length_take]; rfl)) ?_; (with_reducible refine (masterdiscref41_add.calls (fun k_ => some k_ = (.slice Ao17 x5_1.length co17 : Value).ownBlock) (.slice Ao17 x5_1.length co17) x5_1 x7_1 t756 w _ ?side1 ?side2 A15.out).mono ?_); (case side1 => repeat (first | (with_reducible first | exact HB.out | apply below_alloc | apply pw_below_drewN | apply below_drew1) | exact HB.out)); (case side2 => exact Kd.R_tight rfl HO_5.out); rintro e w18 ⟨v757, rfl, ho0, hb, hkp⟩; refine ⟨_, rfl, ?_⟩; have n0_ := Aside0.mk (Kd.R_mono (ok' := fun k_ => True) (Kd.R_keptB ((Kd.R_apart' HO_6.out (Kd.R_typed HO_5.out) (by decide))) hkp (fun k_ hk_ hs_ => (hk_.2) hs_)) (fun k_ hk_ => trivial)); have n1_ := Aside0.mk (Kd.R_mono (ok' := fun k_ => True) ho0 (fun k_ hk_ => trivial)); have n2_ := Aside0.mk (hb); clear HO_6; clear HB; clear HO_5; have HO_6 := n0_; have HO758 := n1_; have HB := n2_; clear n0_ n1_ n2_; (try clear hb); (try clear hkp); (try clear ho0)))
                go_roundg k1
                case measure => have := HK1.out; omega
                case rel => exact ⟨(t756), (wrap64 (x7_1 + 1)), (by first | rfl | (simp; done) | (simp [*]; done)), H', ⟨by have := HK1.out; omega⟩, ⟨by (with_reducible repeat (first | apply Kd.R_alloc | apply Kd.R_drewN | apply Kd.R_drew)); exact HO758.out⟩, ⟨by (with_reducible repeat (first | apply Kd.R_alloc | apply Kd.R_drewN | apply Kd.R_drew)); exact HO_6.out⟩, ⟨by repeat (first | (with_reducible first | exact HB.out | apply below_alloc | apply pw_below_drewN | apply below_drew1) | exact HB.out)⟩⟩
              · replace c14 := Bool.eq_false_iff.mpr c14
                subst c14
                have H1 : (masterdiscref41_Spans.l0 k1 a1 x5_1 t752 (wrap64 (x7_1 + 1))) = some r := by rw [if_neg (show ¬ (false = true) by decide)] at H; exact H
                clear H
                have H := H1
                clear H1
                have H' := Aside0.mk H
                clear H
                obtain ⟨Ao19, co19, eo19⟩ := Kd.R_slice HO_6.out
                subst eo19
                have p755 : 0 ≤ (x7_1 : Int) := of_decide_eq_true (by first | (with_reducible assumption) | assumption)
                have q755 : x7_1 < (t752.length : Int) := of_decide_eq_true (by first | (with_reducible assumption) | assumption)
                obtain ⟨ad755, e755, hx755_0⟩ := Kd.at_bool (Kd.R_reads' HO_6.out).2.2 x7_1 p755 q755
                (try rw [← Nbq13.out] at hx755_0)
                cases e755
                replace p755 := eq_true p755
                replace q755 := eq_true q755
                go_wp2
                go_roundg k1
                case measure => have := HK1.out; omega
                case rel => exact ⟨(x5_1), (wrap64 (x7_1 + 1)), (by first | rfl | (simp; done) | (simp [*]; done)), H', ⟨by have := HK1.out; omega⟩, ⟨by (with_reducible repeat (first | apply Kd.R_alloc | apply Kd.R_drewN | apply Kd.R_drew)); exact HO_5.out⟩, ⟨by (with_reducible repeat (first | apply Kd.R_alloc | apply Kd.R_drewN | apply Kd.R_drew)); exact HO_6.out⟩, ⟨by repeat (first | (with_reducible first | exact HB.out | apply below_alloc | apply pw_below_drewN | apply below_drew1) | exact HB.out)⟩⟩
            · rw [if_neg c12] at H
              exact absurd H (by simp)
          · rw [if_neg c11] at H
            exact absurd H (by simp)
        · rw [if_neg c10] at H
          have c10b0 : decide (x7_1 < a1) = false := decide_eq_false c10
          clear c10
          obtain rfl := Option.some.inj H
          go_wp2
          go_ret
          exact ⟨_, by first | rfl | (simp [errW_none, errW_some] <;> rfl) | (simp [*, errW_none, errW_some] <;> rfl), by (with_reducible repeat (first | apply Kd.R_alloc | apply Kd.R_drewN | apply Kd.R_drew)); exact HO_5.out, by repeat (first | (with_reducible first | exact HB.out | apply below_alloc | apply pw_below_drewN | apply below_drew1) | exact HB.out)⟩
  · replace c4 := Bool.eq_false_iff.mpr c4
    subst c4
    have H1 : (some ([] : List (S76))) = some r := by rw [if_neg (show ¬ (false = true) by decide)] at H; exact H
    clear H
    have H := H1
    clear H1
    obtain rfl := Option.some.inj H
    go_enter Try.func83, Try.ntmps83
    go_wp2_with (first | ((with_reducible refine gate_callee (f := 44) rfl ?_); refine goesL_ (some 10) rfl rfl Try.func44 (by kernel_rfl) rfl #[.string a0, .int .i64 a1] rfl (by (try simp only [List.map_toArray, List.map_cons, List.map_nil]); first | done | rfl | (simp only [List.length_drop, List.length_take]; rfl)) ?_; (with_reducible refine (masterdiscref41_Valid.calls k a0 a1 false _ A3.out).mono ?_); rintro e w20 ⟨rfl, hb⟩; refine ⟨_, rfl, ?_⟩; have n0_ := Aside0.mk (below_step (by repeat (first | (with_reducible first | exact HB.out | apply below_alloc | apply pw_below_drewN | apply below_drew1) | exact HB.out)) hb); clear HB; have HB := n0_; clear n0_; (try clear hb); (try clear hb2); (try clear hk); (try clear hi)))
    go_ret
    exact ⟨_, by first | rfl | (simp [errW_none, errW_some] <;> rfl) | (simp [*, errW_none, errW_some] <;> rfl), by first | exact Kd.R_nil _ _ _ _ _ | exact Kd.N_nil _ _ _ _ _ | exact Kd.V_nil _ _ _ _ _ | exact Kd.Q_nil _ _ _ _ _ | exact Kd.S_nil _ _ _ _ _, by repeat (first | (with_reducible first | exact HB.out | apply below_alloc | apply pw_below_drewN | apply below_drew1) | exact HB.out)⟩

end Go.Proofs.Ytijbfebbogiiiaa.Q
