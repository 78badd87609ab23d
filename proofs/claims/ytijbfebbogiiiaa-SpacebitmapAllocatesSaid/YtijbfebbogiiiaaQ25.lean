/- Contracts of Go functions: each call returns what the Lean function of its name says. Written by wip/gen.py (a patched print) for this claim. -/
import Derived.Test.YtijbfebbogiiiaaHSpace4
import Derived.Test.YtijbfebbogiiiaaQ0
import Derived.Test.YtijbfebbogiiiaaQ24
namespace Go.Proofs.Ytijbfebbogiiiaa.Q
open Go.RowKit Go.Proofs.YtijbfebbogiiiaaW.PrintWords Go.Proofs.YtijbfebbogiiiaaW.PrintLast Go.Proofs.YtijbfebbogiiiaaW.PrintMore
attribute [local go_sem] max2_int min2_int max_two min_two max_three min_three max_four min_four   -- for this text's walks alone
set_option linter.unusedVariables false
set_option linter.unusedSimpArgs false

/-! ### spacebitmap_Mark: function 75 -/
def spacebitmap_Mark.l0 : Nat → ByteArray → Int → List (S76) → Bool → List (S76) → Int → Int → Option (ByteArray × Int)
  | 0, _, _, _, _, _, _, _ => none
  | k + 1, x0, x1, x2, x3, x16, x17, x18 => if x18 < x17 then (if 0 ≤ x18 then (if x18 < (x16.length : Int) then (if ((rd_T76 x16 x18).f0) < 0 then (some ((⟨#[]⟩ : ByteArray), 2)) else (if ((rd_T76 x16 x18).f1) < 0 then (some ((⟨#[]⟩ : ByteArray), 2)) else (if ((rd_T76 x16 x18).f0) > x1 then (some ((⟨#[]⟩ : ByteArray), 2)) else (if ((rd_T76 x16 x18).f1) > (wrap64 (x1 - ((rd_T76 x16 x18).f0))) then (some ((⟨#[]⟩ : ByteArray), 2)) else (spacebitmap_Mark.l0 k x0 x1 x2 x3 x16 x17 (wrap64 (x18 + 1))))))) else (none)) else (none)) else ((spacebitmap_marked.f x0 x2 x3).bind fun t344 => (some (t344, 0)))
def spacebitmap_Mark.f (k : Nat) (a0 : ByteArray) (a1 : Int) (l2 : List (S76)) (a3 : Bool) : Option (ByteArray × Int) := (spacebitmap_valid.f a0 a1).bind fun t341 => (if t341 = true then (spacebitmap_Mark.l0 k a0 a1 l2 a3 l2 (l2.length : Int) 0) else (some ((⟨#[]⟩ : ByteArray), 1)))
theorem spacebitmap_Mark.mono_l : ∀ k, (∀ y0 y1 y2 y3 y4 y5 y6, LeO (spacebitmap_Mark.l0 k y0 y1 y2 y3 y4 y5 y6) (spacebitmap_Mark.l0 (k + 1) y0 y1 y2 y3 y4 y5 y6))
  | 0 => fun _ _ _ _ _ _ _ r h => by simp [spacebitmap_Mark.l0] at h
  | k + 1 => by
    have ih0 := spacebitmap_Mark.mono_l k
    · intro y0 y1 y2 y3 y4 y5 y6
      unfold spacebitmap_Mark.l0
      repeat' first
      | (with_reducible exact ih0 _ _ _ _ _ _ _)
      | (with_reducible exact LeO.refl _)
      | (with_reducible exact LeO.none _)
      | (with_reducible refine LeO.ite ?_ ?_)
      | (with_reducible refine LeO.bind ?_ (fun _ => ?_))
      | exact ih0 _ _ _ _ _ _ _
      | exact LeO.none _
      | refine LeO.ite ?_ ?_
      | refine LeO.bind ?_ (fun _ => ?_)
theorem spacebitmap_Mark.mono : ∀ a0 a1 a2 a3 k, LeO (spacebitmap_Mark.f k a0 a1 a2 a3) (spacebitmap_Mark.f (k + 1) a0 a1 a2 a3) := by
  intro a0 a1 a2 a3 k
  have ih0 := spacebitmap_Mark.mono_l k
  unfold spacebitmap_Mark.f
  repeat' first
      | (with_reducible exact ih0 _ _ _ _ _ _ _)
      | (with_reducible exact LeO.refl _)
      | (with_reducible exact LeO.none _)
      | (with_reducible refine LeO.ite ?_ ?_)
      | (with_reducible refine LeO.bind ?_ (fun _ => ?_))
      | exact ih0 _ _ _ _ _ _ _
      | exact LeO.none _
      | refine LeO.ite ?_ ?_
      | refine LeO.bind ?_ (fun _ => ?_)
set_option maxHeartbeats 8000000 in
set_option maxRecDepth 100000 in
theorem spacebitmap_Mark.calls (k : Nat) (a0 : ByteArray) (a1 : Int) (A2 : Option Addr) (c2 : Nat) (l2 : List (S76)) (a3 : Bool) (r1 : ByteArray) (r2 : Int) (w : World) (hr2 : Kd.C k76 w A2 l2.length l2) (hc2 : l2.length ≤ c2) (h : spacebitmap_Mark.f k a0 a1 l2 a3 = some (r1, r2)) :
    Calls Try.prog 75 #[.string a0, .int .i64 a1, .slice A2 l2.length c2, .bool a3] w fun e w' => e = .returned (.tuple #[.string r1, .int .i64 r2]) ∧ Below w.heap.size w w' := by
  have hu76 := Try.underlying76
  have HR2 := Aside0.mk hr2
  have HC2 := Aside0.mk hc2
  clear hr2 hc2
  have HB := Aside0.mk (Below.refl w.heap.size w)
  have H : ((spacebitmap_valid.f a0 a1).bind fun t341 => (if t341 = true then (spacebitmap_Mark.l0 k a0 a1 l2 a3 l2 (l2.length : Int) 0) else (some ((⟨#[]⟩ : ByteArray), 1)))) = some (r1, r2) := h
  clear h
  replace H := Option.bind_eq_some_iff.mp H
  obtain ⟨t341, A50, H⟩ := H
  replace H : (if t341 = true then (spacebitmap_Mark.l0 k a0 a1 l2 a3 l2 (l2.length : Int) 0) else (some ((⟨#[]⟩ : ByteArray), 1))) = some (r1, r2) := H
  have A5 := Aside0.mk A50
  clear A50
  by_cases c6 : t341 = true
  · subst c6
    have H1 : (spacebitmap_Mark.l0 k a0 a1 l2 a3 l2 (l2.length : Int) 0) = some (r1, r2) := by rw [if_pos rfl] at H; exact H
    clear H
    have H := H1
    clear H1
    have H' := Aside0.mk H
    clear H
    go_enter Try.func75, Try.ntmps75
    go_wp2_with (first | ((with_reducible refine gate_callee (f := 134) rfl ?_); refine goesL_ (some 14) rfl rfl Try.func134 (by kernel_rfl) rfl #[.string a0, .int .i64 a1] rfl (by (try simp only [List.map_toArray, List.map_cons, List.map_nil]); first | done | rfl | (simp only [List.length_drop, List.length_take]; rfl)) ?_; (with_reducible refine (spacebitmap_valid.calls a0 a1 true _ A5.out).mono ?_); rintro e w' ⟨rfl, ⟨nd, rfl⟩⟩; refine ⟨_, rfl, ?_⟩))
    go_loopg [18] k (fun kq v18 w' => ∃ (x18_1 : Int), v18 = .int .i64 x18_1 ∧ Aside0 (spacebitmap_Mark.l0 kq a0 a1 l2 a3 l2 (l2.length : Int) x18_1 = some (r1, r2)) ∧ Aside0 (kq ≤ k) ∧ Aside0 (Below w.heap.size w w'))
    case atStart => exact ⟨(0), (by first | rfl | (simp; done) | (simp [*]; done)), H', ⟨Nat.le_refl _⟩, ⟨by repeat (first | (with_reducible first | exact HB.out | apply below_alloc | apply pw_below_drewN | apply below_drew1) | exact HB.out)⟩⟩
    case round =>
      clear H'
      try clear c1
      try clear c2
      try clear p2
      try clear c6
      obtain ⟨x18_1, rfl, HA, HK1, HB⟩ := hrel
      cases gk with
      | zero => exact absurd HA.out (by simp [spacebitmap_Mark.l0])
      | succ k1 =>
        have H := HA.out
        clear HA
        simp only [spacebitmap_Mark.l0] at H
        by_cases c7 : x18_1 < (l2.length : Int)
        · rw [if_pos c7] at H
          have c7b0 : decide (x18_1 < (l2.length : Int)) = true := decide_eq_true c7
          clear c7
          by_cases c8 : 0 ≤ x18_1
          · rw [if_pos c8] at H
            have c8b0 : decide (0 ≤ x18_1) = true := decide_eq_true c8
            clear c8
            by_cases c9 : x18_1 < (l2.length : Int)
            · rw [if_pos c9] at H
              have c9b0 : decide (x18_1 < (l2.length : Int)) = true := decide_eq_true c9
              clear c9
              by_cases c10 : ((rd_T76 l2 x18_1).f0) < 0
              · rw [if_pos c10] at H
                have c10b0 : decide (((rd_T76 l2 x18_1).f0) < 0) = true := decide_eq_true c10
                clear c10
                simp only [Option.some.injEq, Prod.mk.injEq] at H
                obtain ⟨rfl, rfl⟩ := H
                have p342 : 0 ≤ (x18_1 : Int) := of_decide_eq_true (by first | (with_reducible assumption) | assumption)
                have q342 : x18_1 < (l2.length : Int) := of_decide_eq_true (by first | (with_reducible assumption) | assumption)
                obtain ⟨ad342, e342, hx342_0, hx342_1⟩ := at_T76 HR2.out x18_1 p342 q342
                cases e342
                replace hx342_0 := (HB.out.cell (World.block_lt_of_cell? w _ hx342_0)).trans hx342_0
                replace hx342_1 := (HB.out.cell (World.block_lt_of_cell? w _ hx342_1)).trans hx342_1
                replace p342 := eq_true p342
                replace q342 := eq_true q342
                go_wp2_with (first | ((with_reducible refine gate_dst (N := 11) rfl ?_); refine box_event ?hg (N := 11) ?hd (cs := #[.int .i64 0, .int .i64 0]) (t := 76) ?hr ?_; (case hd => rfl); (case hg => rfl); (case hr => first | (go_simp; done) | (go_simp; rfl)); intro gb343 hg w11 hbox hb; have n0_ := Aside0.mk (below_step (by repeat (first | (with_reducible first | exact HB.out | apply below_alloc | apply pw_below_drewN | apply below_drew1) | exact HB.out)) hb); have n1_ := Aside0.mk (hbox); have n2_ := Aside0.mk ((by rw [hg]; exact (below_size (by repeat (first | (with_reducible first | exact HB.out | apply below_alloc | apply pw_below_drewN | apply below_drew1) | exact HB.out))) : w.heap.size ≤ gb343)); have n3_ := Aside0.mk ((by rw [hg]; exact (below_size (by repeat (first | (with_reducible first | exact HB.out | apply below_alloc | apply pw_below_drewN | apply below_drew1) | exact HB.out))) : w.heap.size ≤ gb343)); clear HB; have HB := n0_; have BK343 := n1_; have GW343 := n2_; have GE343 := n3_; clear n0_ n1_ n2_ n3_; clear hb hbox hg; have hcz12_0 : w11.cell? ⟨gb343, 0, none⟩ = some (.int .i64 0) := (blk_cell BK343.out 0).trans rfl; have hcz12_1 : w11.cell? ⟨gb343, 1, none⟩ = some (.int .i64 0) := (blk_cell BK343.out 1).trans rfl; have hfz12_0 := blk_frozen BK343.out 0; have hfz12_1 := blk_frozen BK343.out 1))
                go_ret2
                exact ⟨by first | rfl | (simp [errW_none, errW_some] <;> rfl) | (simp [*, errW_none, errW_some] <;> rfl), by repeat (first | (with_reducible first | exact HB.out | apply below_alloc | apply pw_below_drewN | apply below_drew1 | refine below_set ?_ GE343.out) | exact HB.out)⟩
              · rw [if_neg c10] at H
                have c10b0 : decide (((rd_T76 l2 x18_1).f0) < 0) = false := decide_eq_false c10
                clear c10
                by_cases c13 : ((rd_T76 l2 x18_1).f1) < 0
                · rw [if_pos c13] at H
                  have c13b0 : decide (((rd_T76 l2 x18_1).f1) < 0) = true := decide_eq_true c13
                  clear c13
                  simp only [Option.some.injEq, Prod.mk.injEq] at H
                  obtain ⟨rfl, rfl⟩ := H
                  have p342 : 0 ≤ (x18_1 : Int) := of_decide_eq_true (by first | (with_reducible assumption) | assumption)
                  have q342 : x18_1 < (l2.length : Int) := of_decide_eq_true (by first | (with_reducible assumption) | assumption)
                  obtain ⟨ad342, e342, hx342_0, hx342_1⟩ := at_T76 HR2.out x18_1 p342 q342
                  cases e342
                  replace hx342_0 := (HB.out.cell (World.block_lt_of_cell? w _ hx342_0)).trans hx342_0
                  replace hx342_1 := (HB.out.cell (World.block_lt_of_cell? w _ hx342_1)).trans hx342_1
                  replace p342 := eq_true p342
                  replace q342 := eq_true q342
                  go_wp2_with (first | ((with_reducible refine gate_dst (N := 11) rfl ?_); refine box_event ?hg (N := 11) ?hd (cs := #[.int .i64 0, .int .i64 0]) (t := 76) ?hr ?_; (case hd => rfl); (case hg => rfl); (case hr => first | (go_simp; done) | (go_simp; rfl)); intro gb343 hg w14 hbox hb; have n0_ := Aside0.mk (below_step (by repeat (first | (with_reducible first | exact HB.out | apply below_alloc | apply pw_below_drewN | apply below_drew1) | exact HB.out)) hb); have n1_ := Aside0.mk (hbox); have n2_ := Aside0.mk ((by rw [hg]; exact (below_size (by repeat (first | (with_reducible first | exact HB.out | apply below_alloc | apply pw_below_drewN | apply below_drew1) | exact HB.out))) : w.heap.size ≤ gb343)); have n3_ := Aside0.mk ((by rw [hg]; exact (below_size (by repeat (first | (with_reducible first | exact HB.out | apply below_alloc | apply pw_below_drewN | apply below_drew1) | exact HB.out))) : w.heap.size ≤ gb343)); clear HB; have HB := n0_; have BK343 := n1_; have GW343 := n2_; have GE343 := n3_; clear n0_ n1_ n2_ n3_; clear hb hbox hg; have hcz15_0 : w14.cell? ⟨gb343, 0, none⟩ = some (.int .i64 0) := (blk_cell BK343.out 0).trans rfl; have hcz15_1 : w14.cell? ⟨gb343, 1, none⟩ = some (.int .i64 0) := (blk_cell BK343.out 1).trans rfl; have hfz15_0 := blk_frozen BK343.out 0; have hfz15_1 := blk_frozen BK343.out 1))
                  go_ret2
                  exact ⟨by first | rfl | (simp [errW_none, errW_some] <;> rfl) | (simp [*, errW_none, errW_some] <;> rfl), by repeat (first | (with_reducible first | exact HB.out | apply below_alloc | apply pw_below_drewN | apply below_drew1 | refine below_set ?_ GE343.out) | exact HB.out)⟩
                · rw [if_neg c13] at H
                  have c13b0 : decide (((rd_T76 l2 x18_1).f1) < 0) = false := decide_eq_false c13
                  clear c13
                  by_cases c16 : ((rd_T76 l2 x18_1).f0) > a1
                  · rw [if_pos c16] at H
                    have c16b0 : decide (a1 < ((rd_T76 l2 x18_1).f0)) = true := decide_eq_true c16
                    clear c16
                    simp only [Option.some.injEq, Prod.mk.injEq] at H
                    obtain ⟨rfl, rfl⟩ := H
                    have p342 : 0 ≤ (x18_1 : Int) := of_decide_eq_true (by first | (with_reducible assumption) | assumption)
                    have q342 : x18_1 < (l2.length : Int) := of_decide_eq_true (by first | (with_reducible assumption) | assumption)
                    obtain ⟨ad342, e342, hx342_0, hx342_1⟩ := at_T76 HR2.out x18_1 p342 q342
                    cases e342
                    replace hx342_0 := (HB.out.cell (World.block_lt_of_cell? w _ hx342_0)).trans hx342_0
                    replace hx342_1 := (HB.out.cell (World.block_lt_of_cell? w _ hx342_1)).trans hx342_1
                    replace p342 := eq_true p342
                    replace q342 := eq_true q342
                    go_wp2_with (first | ((with_reducible refine gate_dst (N := 11) rfl ?_); refine box_event ?hg (N := 11) ?hd (cs := #[.int .i64 0, .int .i64 0]) (t := 76) ?hr ?_; (case hd => rfl); (case hg => rfl); (case hr => first | (go_simp; done) | (go_simp; rfl)); intro gb343 hg w17 hbox hb; have n0_ := Aside0.mk (below_step (by repeat (first | (with_reducible first | exact HB.out | apply below_alloc | apply pw_below_drewN | apply below_drew1) | exact HB.out)) hb); have n1_ := Aside0.mk (hbox); have n2_ := Aside0.mk ((by rw [hg]; exact (below_size (by repeat (first | (with_reducible first | exact HB.out | apply below_alloc | apply pw_below_drewN | apply below_drew1) | exact HB.out))) : w.heap.size ≤ gb343)); have n3_ := Aside0.mk ((by rw [hg]; exact (below_size (by repeat (first | (with_reducible first | exact HB.out | apply below_alloc | apply pw_below_drewN | apply below_drew1) | exact HB.out))) : w.heap.size ≤ gb343)); clear HB; have HB := n0_; have BK343 := n1_; have GW343 := n2_; have GE343 := n3_; clear n0_ n1_ n2_ n3_; clear hb hbox hg; have hcz18_0 : w17.cell? ⟨gb343, 0, none⟩ = some (.int .i64 0) := (blk_cell BK343.out 0).trans rfl; have hcz18_1 : w17.cell? ⟨gb343, 1, none⟩ = some (.int .i64 0) := (blk_cell BK343.out 1).trans rfl; have hfz18_0 := blk_frozen BK343.out 0; have hfz18_1 := blk_frozen BK343.out 1))
                    go_ret2
                    exact ⟨by first | rfl | (simp [errW_none, errW_some] <;> rfl) | (simp [*, errW_none, errW_some] <;> rfl), by repeat (first | (with_reducible first | exact HB.out | apply below_alloc | apply pw_below_drewN | apply below_drew1 | refine below_set ?_ GE343.out) | exact HB.out)⟩
                  · rw [if_neg c16] at H
                    have c16b0 : decide (a1 < ((rd_T76 l2 x18_1).f0)) = false := decide_eq_false c16
                    clear c16
                    by_cases c19 : ((rd_T76 l2 x18_1).f1) > (wrap64 (a1 - ((rd_T76 l2 x18_1).f0)))
                    · rw [if_pos c19] at H
                      have c19b0 : decide ((wrap64 (a1 - ((rd_T76 l2 x18_1).f0))) < ((rd_T76 l2 x18_1).f1)) = true := decide_eq_true c19
                      clear c19
                      simp only [Option.some.injEq, Prod.mk.injEq] at H
                      obtain ⟨rfl, rfl⟩ := H
                      have p342 : 0 ≤ (x18_1 : Int) := of_decide_eq_true (by first | (with_reducible assumption) | assumption)
                      have q342 : x18_1 < (l2.length : Int) := of_decide_eq_true (by first | (with_reducible assumption) | assumption)
                      obtain ⟨ad342, e342, hx342_0, hx342_1⟩ := at_T76 HR2.out x18_1 p342 q342
                      cases e342
                      replace hx342_0 := (HB.out.cell (World.block_lt_of_cell? w _ hx342_0)).trans hx342_0
                      replace hx342_1 := (HB.out.cell (World.block_lt_of_cell? w _ hx342_1)).trans hx342_1
                      replace p342 := eq_true p342
                      replace q342 := eq_true q342
                      go_wp2_with (first | ((with_reducible refine gate_dst (N := 11) rfl ?_); refine box_event ?hg (N := 11) ?hd (cs := #[.int .i64 0, .int .i64 0]) (t := 76) ?hr ?_; (case hd => rfl); (case hg => rfl); (case hr => first | (go_simp; done) | (go_simp; rfl)); intro gb343 hg w20 hbox hb; have n0_ := Aside0.mk (below_step (by repeat (first | (with_reducible first | exact HB.out | apply below_alloc | apply pw_below_drewN | apply below_drew1) | exact HB.out)) hb); have n1_ := Aside0.mk (hbox); have n2_ := Aside0.mk ((by rw [hg]; exact (below_size (by repeat (first | (with_reducible first | exact HB.out | apply below_alloc | apply pw_below_drewN | apply below_drew1) | exact HB.out))) : w.heap.size ≤ gb343)); have n3_ := Aside0.mk ((by rw [hg]; exact (below_size (by repeat (first | (with_reducible first | exact HB.out | apply below_alloc | apply pw_below_drewN | apply below_drew1) | exact HB.out))) : w.heap.size ≤ gb343)); clear HB; have HB := n0_; have BK343 := n1_; have GW343 := n2_; have GE343 := n3_; clear n0_ n1_ n2_ n3_; clear hb hbox hg; have hcz21_0 : w20.cell? ⟨gb343, 0, none⟩ = some (.int .i64 0) := (blk_cell BK343.out 0).trans rfl; have hcz21_1 : w20.cell? ⟨gb343, 1, none⟩ = some (.int .i64 0) := (blk_cell BK343.out 1).trans rfl; have hfz21_0 := blk_frozen BK343.out 0; have hfz21_1 := blk_frozen BK343.out 1))
                      go_ret2
                      exact ⟨by first | rfl | (simp [errW_none, errW_some] <;> rfl) | (simp [*, errW_none, errW_some] <;> rfl), by repeat (first | (with_reducible first | exact HB.out | apply below_alloc | apply pw_below_drewN | apply below_drew1 | refine below_set ?_ GE343.out) | exact HB.out)⟩
                    · rw [if_neg c19] at H
                      have c19b0 : decide ((wrap64 (a1 - ((rd_T76 l2 x18_1).f0))) < ((rd_T76 l2 x18_1).f1)) = false := decide_eq_false c19
                      clear c19
                      have H' := Aside0.mk H
                      clear H
                      have p342 : 0 ≤ (x18_1 : Int) := of_decide_eq_true (by first | (with_reducible assumption) | assumption)
                      have q342 : x18_1 < (l2.length : Int) := of_decide_eq_true (by first | (with_reducible assumption) | assumption)
                      obtain ⟨ad342, e342, hx342_0, hx342_1⟩ := at_T76 HR2.out x18_1 p342 q342
                      cases e342
                      replace hx342_0 := (HB.out.cell (World.block_lt_of_cell? w _ hx342_0)).trans hx342_0
                      replace hx342_1 := (HB.out.cell (World.block_lt_of_cell? w _ hx342_1)).trans hx342_1
                      replace p342 := eq_true p342
                      replace q342 := eq_true q342
                      go_wp2_with (first | ((with_reducible refine gate_dst (N := 11) rfl ?_); refine box_event ?hg (N := 11) ?hd (cs := #[.int .i64 0, .int .i64 0]) (t := 76) ?hr ?_; (case hd => rfl); (case hg => rfl); (case hr => first | (go_simp; done) | (go_simp; rfl)); intro gb343 hg w22 hbox hb; have n0_ := Aside0.mk (below_step (by repeat (first | (with_reducible first | exact HB.out | apply below_alloc | apply pw_below_drewN | apply below_drew1) | exact HB.out)) hb); have n1_ := Aside0.mk (hbox); have n2_ := Aside0.mk ((by rw [hg]; exact (below_size (by repeat (first | (with_reducible first | exact HB.out | apply below_alloc | apply pw_below_drewN | apply below_drew1) | exact HB.out))) : w.heap.size ≤ gb343)); have n3_ := Aside0.mk ((by rw [hg]; exact (below_size (by repeat (first | (with_reducible first | exact HB.out | apply below_alloc | apply pw_below_drewN | apply below_drew1) | exact HB.out))) : w.heap.size ≤ gb343)); clear HB; have HB := n0_; have BK343 := n1_; have GW343 := n2_; have GE343 := n3_; clear n0_ n1_ n2_ n3_; clear hb hbox hg; have hcz23_0 : w22.cell? ⟨gb343, 0, none⟩ = some (.int .i64 0) := (blk_cell BK343.out 0).trans rfl; have hcz23_1 : w22.cell? ⟨gb343, 1, none⟩ = some (.int .i64 0) := (blk_cell BK343.out 1).trans rfl; have hfz23_0 := blk_frozen BK343.out 0; have hfz23_1 := blk_frozen BK343.out 1))
                      go_roundg k1
                      case measure => have := HK1.out; omega
                      case rel => exact ⟨(wrap64 (x18_1 + 1)), (by first | rfl | (simp; done) | (simp [*]; done)), H', ⟨by have := HK1.out; omega⟩, ⟨by repeat (first | (with_reducible first | exact HB.out | apply below_alloc | apply pw_below_drewN | apply below_drew1 | refine below_set ?_ GE343.out) | exact HB.out)⟩⟩
            · rw [if_neg c9] at H
              exact absurd H (by simp)
          · rw [if_neg c8] at H
            exact absurd H (by simp)
        · rw [if_neg c7] at H
          have c7b0 : decide (x18_1 < (l2.length : Int)) = false := decide_eq_false c7
          clear c7
          replace H := Option.bind_eq_some_iff.mp H
          obtain ⟨t344, A240, H⟩ := H
          replace H : (some (t344, 0)) = some (r1, r2) := H
          have A24 := Aside0.mk A240
          clear A240
          simp only [Option.some.injEq, Prod.mk.injEq] at H
          obtain ⟨rfl, rfl⟩ := H
          go_wp2_with (first | ((with_reducible refine gate_callee (f := 135) rfl ?_); refine goesL_ (some 49) rfl rfl Try.func135 (by kernel_rfl) rfl #[.string a0, .slice A2 l2.length c2, .bool a3] rfl (by (try simp only [List.map_toArray, List.map_cons, List.map_nil]); first | done | rfl | (simp only [List.length_drop, List.length_take]; rfl)) ?_; (with_reducible refine (spacebitmap_marked.calls a0 _ _ l2 a3 t344 _ ?side1 ?side2 A24.out).mono ?_); (case side1 => repeat (first | exact (Kd.C_below HR2.out HB.out) | (with_reducible refine Kd.C_alloc ?_ _) | (with_reducible refine Kd.C_drewN ?_ _) | (with_reducible refine Kd.C_drew ?_))); (case side2 => exact HC2.out); rintro e w25 ⟨rfl, hb⟩; refine ⟨_, rfl, ?_⟩; have n0_ := Aside0.mk (below_step (by repeat (first | (with_reducible first | exact HB.out | apply below_alloc | apply pw_below_drewN | apply below_drew1) | exact HB.out)) hb); clear HB; have HB := n0_; clear n0_; (try clear hb); (try clear hb2); (try clear hk); (try clear hi)))
          go_ret2
          exact ⟨by first | rfl | (simp [errW_none, errW_some] <;> rfl) | (simp [*, errW_none, errW_some] <;> rfl), by repeat (first | (with_reducible first | exact HB.out | apply below_alloc | apply pw_below_drewN | apply below_drew1) | exact HB.out)⟩
  · replace c6 := Bool.eq_false_iff.mpr c6
    subst c6
    have H1 : (some ((⟨#[]⟩ : ByteArray), 1)) = some (r1, r2) := by rw [if_neg (show ¬ (false = true) by decide)] at H; exact H
    clear H
    have H := H1
    clear H1
    simp only [Option.some.injEq, Prod.mk.injEq] at H
    obtain ⟨rfl, rfl⟩ := H
    go_enter Try.func75, Try.ntmps75
    go_wp2_with (first | ((with_reducible refine gate_callee (f := 134) rfl ?_); refine goesL_ (some 14) rfl rfl Try.func134 (by kernel_rfl) rfl #[.string a0, .int .i64 a1] rfl (by (try simp only [List.map_toArray, List.map_cons, List.map_nil]); first | done | rfl | (simp only [List.length_drop, List.length_take]; rfl)) ?_; (with_reducible refine (spacebitmap_valid.calls a0 a1 false _ A5.out).mono ?_); rintro e w' ⟨rfl, ⟨nd, rfl⟩⟩; refine ⟨_, rfl, ?_⟩))
    go_ret2
    exact ⟨by first | rfl | (simp [errW_none, errW_some] <;> rfl) | (simp [*, errW_none, errW_some] <;> rfl), by repeat (first | (with_reducible first | exact HB.out | apply below_alloc | apply pw_below_drewN | apply below_drew1) | exact HB.out)⟩

/-! ### spacebitmap_New: function 77 -/
mutual
def spacebitmap_New.j0 : Nat → Int → Bool → Option (ByteArray)
  | 0, _, _ => none
  | k + 1, x0, x10 => if x10 = true then (some (⟨#[]⟩ : ByteArray)) else ((spacebitmap_bytes.f x0).bind fun t345 => (if 0 ≤ t345 then (if (t345 : Int).toNat ≤ 281474976710656 then (spacebitmap_New.l0 k (List.replicate (t345 : Int).toNat 0) x0 0) else (none)) else (none)))
def spacebitmap_New.l0 : Nat → List Int → Int → Int → Option (ByteArray)
  | 0, _, _, _ => none
  | k + 1, x3, x14, x15 => if x15 < x14 then (if 0 ≤ (wrap64 (Int.tdiv x15 8)) then (if (wrap64 (Int.tdiv x15 8)) < (x3.length : Int) then (if 0 ≤ (Int.tmod x15 8) then (spacebitmap_New.l0 k (x3.set ((wrap64 (Int.tdiv x15 8)) : Int).toNat (Go.bits .or .u8 (rd x3 (wrap64 (Int.tdiv x15 8))) (shl .u8 1 (Int.tmod x15 8)))) x14 (wrap64 (x15 + 1))) else (none)) else (none)) else (none)) else (some (strOfNums x3))
end
def spacebitmap_New.f (k : Nat) (a0 : Int) : Option (ByteArray) := if a0 < 0 then (spacebitmap_New.j0 k a0 true) else (spacebitmap_New.j0 k a0 (decide (a0 > 4096)))
theorem spacebitmap_New.mono_l : ∀ k, (∀ y0 y1, LeO (spacebitmap_New.j0 k y0 y1) (spacebitmap_New.j0 (k + 1) y0 y1)) ∧ (∀ y0 y1 y2, LeO (spacebitmap_New.l0 k y0 y1 y2) (spacebitmap_New.l0 (k + 1) y0 y1 y2))
  | 0 => ⟨fun _ _ r h => by simp [spacebitmap_New.j0] at h, fun _ _ _ r h => by simp [spacebitmap_New.l0] at h⟩
  | k + 1 => by
    obtain ⟨ih0, ih1⟩ := spacebitmap_New.mono_l k
    refine ⟨?_, ?_⟩
    · intro y0 y1
      unfold spacebitmap_New.j0
      repeat' first
      | (with_reducible exact ih0 _ _)
      | (with_reducible exact ih1 _ _ _)
      | (with_reducible exact LeO.refl _)
      | (with_reducible exact LeO.none _)
      | (with_reducible refine LeO.ite ?_ ?_)
      | (with_reducible refine LeO.bind ?_ (fun _ => ?_))
      | exact ih0 _ _
      | exact ih1 _ _ _
      | exact LeO.none _
      | refine LeO.ite ?_ ?_
      | refine LeO.bind ?_ (fun _ => ?_)
    · intro y0 y1 y2
      unfold spacebitmap_New.l0
      repeat' first
      | (with_reducible exact ih0 _ _)
      | (with_reducible exact ih1 _ _ _)
      | (with_reducible exact LeO.refl _)
      | (with_reducible exact LeO.none _)
      | (with_reducible refine LeO.ite ?_ ?_)
      | (with_reducible refine LeO.bind ?_ (fun _ => ?_))
      | exact ih0 _ _
      | exact ih1 _ _ _
      | exact LeO.none _
      | refine LeO.ite ?_ ?_
      | refine LeO.bind ?_ (fun _ => ?_)
theorem spacebitmap_New.mono : ∀ a0 k, LeO (spacebitmap_New.f k a0) (spacebitmap_New.f (k + 1) a0) := by
  intro a0 k
  obtain ⟨ih0, ih1⟩ := spacebitmap_New.mono_l k
  unfold spacebitmap_New.f
  repeat' first
      | (with_reducible exact ih0 _ _)
      | (with_reducible exact ih1 _ _ _)
      | (with_reducible exact LeO.refl _)
      | (with_reducible exact LeO.none _)
      | (with_reducible refine LeO.ite ?_ ?_)
      | (with_reducible refine LeO.bind ?_ (fun _ => ?_))
      | exact ih0 _ _
      | exact ih1 _ _ _
      | exact LeO.none _
      | refine LeO.ite ?_ ?_
      | refine LeO.bind ?_ (fun _ => ?_)
def spacebitmap_New.T7 : Bool × List (List Nat × List Nat) := (true, [([], []), ([], []), ([1], [1]), ([0, 2], [0, 2]), ([3], [3]), ([], []), ([5], [5]), ([6], [6]), ([4, 7], [4, 7]), ([0, 2, 0, 1, 2, 3, 4, 5, 6, 7, 8], [0, 2]), ([9, 8, 0, 1, 2, 3, 4, 5, 6, 7, 8], [8, 9])])
def spacebitmap_New.B7 : List Nat := [0, 0, 2, 7, 15, 0, 32, 96, 255, 511, 1023]
theorem spacebitmap_New.tab7 : rtab .any (opsOf Try.f77 7) = spacebitmap_New.T7 := by kernel_rfl
theorem spacebitmap_New.bits7 : waitsOk spacebitmap_New.T7.2 spacebitmap_New.B7 = true := by kernel_rfl
set_option maxHeartbeats 8000000 in
set_option maxRecDepth 100000 in
theorem spacebitmap_New.calls (k : Nat) (a0 : Int) (r : ByteArray) (w : World) (h : spacebitmap_New.f k a0 = some r) :
    Calls Try.prog 77 #[.int .i64 a0] w fun e w' => e = .returned (.string r) ∧ Below w.heap.size w w' := by
  have HB := Aside0.mk (Below.refl w.heap.size w)
  have H : (if a0 < 0 then (spacebitmap_New.j0 k a0 true) else (spacebitmap_New.j0 k a0 (decide (a0 > 4096)))) = some r := h
  clear h
  have HC2 := Aside0.mk H
  clear H
  go_enter Try.func77, Try.ntmps77
  go_upto_region 1 with (fail)
  go_cut [10] (fun v10 wc => ∃ (kq : Nat) (x10_1 : Bool), v10 = .bool x10_1 ∧ Aside0 (spacebitmap_New.j0 kq a0 x10_1 = some r) ∧ Aside0 (kq ≤ k) ∧ Aside0 (Below w.heap.size w wc))
  case first =>
    have H := HC2.out
    clear HC2
    by_cases c3 : a0 < 0
    · rw [if_pos c3] at H
      have c3b0 : decide (a0 < 0) = true := decide_eq_true c3
      clear c3
      (first | rw [c3b0] | (simp only [i64_w, i32_w]; rw [c3b0]) | skip)
      have H' := Aside0.mk H
      clear H
      go_wp2
      go_meet
      case rel => exact ⟨_, (true), (by first | rfl | (simp; done) | (simp [*]; done)), H', ⟨by first | omega | exact Nat.le_refl _⟩, ⟨by repeat (first | (with_reducible first | exact HB.out | apply below_alloc | apply pw_below_drewN | apply below_drew1) | exact HB.out)⟩⟩
    · rw [if_neg c3] at H
      have c3b0 : decide (a0 < 0) = false := decide_eq_false c3
      clear c3
      (first | rw [c3b0] | (simp only [i64_w, i32_w]; rw [c3b0]) | skip)
      have H' := Aside0.mk H
      clear H
      go_wp2
      go_meet
      case rel => exact ⟨_, (decide (a0 > 4096)), (by first | rfl | (simp; done) | (simp [*]; done)), H', ⟨by first | omega | exact Nat.le_refl _⟩, ⟨by repeat (first | (with_reducible first | exact HB.out | apply below_alloc | apply pw_below_drewN | apply below_drew1) | exact HB.out)⟩⟩
  case rest =>
    clear HC2
    try clear p2
    try clear c3
    try clear c3b0
    obtain ⟨kq, x10_1, rfl, HA, HJ1, HB⟩ := hcut
    cases kq with
    | zero => exact absurd HA.out (by simp [spacebitmap_New.j0])
    | succ kj1 =>
      have H := HA.out
      clear HA
      simp only [spacebitmap_New.j0] at H
      by_cases c4 : x10_1 = true
      · subst c4
        have H1 : (some (⟨#[]⟩ : ByteArray)) = some r := by rw [if_pos rfl] at H; exact H
        clear H
        have H := H1
        clear H1
        obtain rfl := Option.some.inj H
        go_wp2
        go_ret
        exact ⟨by first | rfl | (simp [errW_none, errW_some] <;> rfl) | (simp [*, errW_none, errW_some] <;> rfl), by repeat (first | (with_reducible first | exact HB.out | apply below_alloc | apply pw_below_drewN | apply below_drew1) | exact HB.out)⟩
      · replace c4 := Bool.eq_false_iff.mpr c4
        subst c4
        have H1 : ((spacebitmap_bytes.f a0).bind fun t345 => (if 0 ≤ t345 then (if (t345 : Int).toNat ≤ 281474976710656 then (spacebitmap_New.l0 kj1 (List.replicate (t345 : Int).toNat 0) a0 0) else (none)) else (none))) = some r := by rw [if_neg (show ¬ (false = true) by decide)] at H; exact H
        clear H
        have H := H1
        clear H1
        replace H := Option.bind_eq_some_iff.mp H
        obtain ⟨t345, A50, H⟩ := H
        replace H : (if 0 ≤ t345 then (if (t345 : Int).toNat ≤ 281474976710656 then (spacebitmap_New.l0 kj1 (List.replicate (t345 : Int).toNat 0) a0 0) else (none)) else (none)) = some r := H
        have A5 := Aside0.mk A50
        clear A50
        by_cases c6 : 0 ≤ t345
        · rw [if_pos c6] at H
          have c6b0 := eq_true c6
          have c6b1 : decide (0 ≤ t345) = true := decide_eq_true c6
          clear c6
          by_cases c7 : (t345 : Int).toNat ≤ 281474976710656
          · rw [if_pos c7] at H
            have c7b0 := eq_true c7
            have c7b1 : decide ((t345 : Int).toNat ≤ 281474976710656) = true := decide_eq_true c7
            clear c7
            obtain ⟨y346, hy346⟩ : ∃ y_ : List Int, y_ = (List.replicate (t345 : Int).toNat 0) := ⟨_, rfl⟩
            replace H : (spacebitmap_New.l0 kj1 y346 a0 0) = some r := by first | (rw [hy346]; with_reducible exact H) | (have H2_ := (Option.bind_some _ _).symm.trans H; rw [hy346]; with_reducible exact H2_) | (have H2_ := (Option.bind_some _ _).symm.trans H; with_reducible exact H2_) | with_reducible exact H | (rw [hy346]; exact H) | exact H
            have Ny346 := Aside0.mk hy346
            clear hy346
            have H' := Aside0.mk H
            clear H
            go_wp2_with (first | ((with_reducible refine gate_callee (f := 137) rfl ?_); refine goesL_ (some 12) rfl rfl Try.func137 (by kernel_rfl) rfl #[.int .i64 a0] rfl (by (try simp only [List.map_toArray, List.map_cons, List.map_nil]); first | done | rfl | (simp only [List.length_drop, List.length_take]; rfl)) ?_; (with_reducible refine (spacebitmap_bytes.calls a0 t345 _ A5.out).mono ?_); rintro e w' ⟨rfl, ⟨nd, rfl⟩⟩; refine ⟨_, rfl, ?_⟩) | ((with_reducible refine gate_dst (N := 13) rfl ?_); refine Kd.R_make (Kd.int .u8) _ 5 rfl (N := 13) rfl 29 _ _ rfl t345 rfl rfl Try.underlying29 (.int .u8 0) 1 info5 rfl (by decide) (by omega) 0 (ok := fun _ => True) (okp := fun _ => True) rfl (fun _ hk => hk) trivial (of_decide_eq_true (by first | (with_reducible assumption) | assumption)) (Nat.le_trans (Nat.mul_le_mul_right _ (of_decide_eq_true (by first | (with_reducible assumption) | assumption) : t345.toNat ≤ 281474976710656)) (by omega)) (Below.refl _ _) (Nat.le_refl _) ?_; intro v347 w8 ho9 hb hg_ hnew_; clear hg_ hnew_; (first | rw [← Ny346.out] at ho9 | (simp only [Int.reduceToNat] at ho9; rw [← Ny346.out] at ho9)); have n0_ := Aside0.mk (Kd.R_lower ho9 (below_size (by repeat (first | (with_reducible first | exact HB.out | apply below_alloc | apply pw_below_drewN | apply below_drew1) | exact HB.out)))); have n1_ := Aside0.mk (below_step (by repeat (first | (with_reducible first | exact HB.out | apply below_alloc | apply pw_below_drewN | apply below_drew1) | exact HB.out)) hb); clear HB; have HO348 := n0_; have HB := n1_; clear n0_ n1_; clear hb ho9))
            go_loopg [15] kj1 (fun kq v15 w' => ∃ (x3_2 : List Int) (x15_2 : Int), v15 = .int .i64 x15_2 ∧ Aside0 (spacebitmap_New.l0 kq x3_2 a0 x15_2 = some r) ∧ Aside0 (kq ≤ kj1) ∧ Aside0 (Kd.R (Kd.int .u8) 5 w' w.heap.size (fun _ => True) v347 x3_2) ∧ Aside0 (Below w.heap.size w w'))
            case atStart => exact ⟨(y346), (0), (by first | rfl | (simp; done) | (simp [*]; done)), H', ⟨Nat.le_refl _⟩, ⟨by (with_reducible repeat (first | apply Kd.R_alloc | apply Kd.R_drewN | apply Kd.R_drew)); exact HO348.out⟩, ⟨by repeat (first | (with_reducible first | exact HB.out | apply below_alloc | apply pw_below_drewN | apply below_drew1) | exact HB.out)⟩⟩
            case round =>
              clear H'
              try clear c1
              try clear p2
              try clear c3
              try clear c3b0
              try clear c4
              try clear c6
              try clear c6b0
              try clear c6b1
              try clear c7
              try clear c7b0
              try clear c7b1
              try clear p2
              obtain ⟨x3_2, x15_2, rfl, HA, HK2, HO_3, HB⟩ := hrel
              cases gk with
              | zero => exact absurd HA.out (by simp [spacebitmap_New.l0])
              | succ k2 =>
                have H := HA.out
                clear HA
                simp only [spacebitmap_New.l0] at H
                by_cases c10 : x15_2 < a0
                · rw [if_pos c10] at H
                  have c10b0 : decide (x15_2 < a0) = true := decide_eq_true c10
                  clear c10
                  obtain ⟨ji11, hji11⟩ : ∃ j_ : Int, (wrap64 (Int.tdiv x15_2 8)) = j_ := ⟨_, rfl⟩
                  replace H : (if 0 ≤ (ji11) then (if (ji11) < (x3_2.length : Int) then (if 0 ≤ (Int.tmod x15_2 8) then (spacebitmap_New.l0 k2 (x3_2.set ((ji11) : Int).toNat (Go.bits .or .u8 (rd x3_2 (ji11)) (shl .u8 1 (Int.tmod x15_2 8)))) a0 (wrap64 (x15_2 + 1))) else (none)) else (none)) else (none)) = some r := by first | (rw [hji11] at H; exact H) | (simp only [hji11] at H ⊢; exact H)
                  have hji11w : (IntKind.i64.wrap (Int.tdiv x15_2 8)) = ji11 := (i64_w _).trans hji11
                  by_cases c12 : 0 ≤ (ji11)
                  · rw [if_pos c12] at H
                    have c12b0 : decide (0 ≤ (ji11)) = true := decide_eq_true c12
                    clear c12
                    by_cases c13 : (ji11) < (x3_2.length : Int)
                    · rw [if_pos c13] at H
                      have c13b0 : decide ((ji11) < (x3_2.length : Int)) = true := decide_eq_true c13
                      clear c13
                      obtain ⟨ji14, hji14⟩ : ∃ j_ : Int, (Int.tmod x15_2 8) = j_ := ⟨_, rfl⟩
                      replace H : (if 0 ≤ (ji14) then (spacebitmap_New.l0 k2 (x3_2.set ((ji11) : Int).toNat (Go.bits .or .u8 (rd x3_2 (ji11)) (shl .u8 1 (ji14)))) a0 (wrap64 (x15_2 + 1))) else (none)) = some r := by first | (rw [hji14] at H; exact H) | (simp only [hji14] at H ⊢; exact H)
                      by_cases c15 : 0 ≤ (ji14)
                      · rw [if_pos c15] at H
                        have c15b0 := eq_true c15
                        have c15b1 : decide (0 ≤ (ji14)) = true := decide_eq_true c15
                        clear c15
                        obtain ⟨ji16, hji16⟩ : ∃ j_ : Int, (shl .u8 1 (ji14)) = j_ := ⟨_, rfl⟩
                        replace H : (spacebitmap_New.l0 k2 (x3_2.set ((ji11) : Int).toNat (Go.bits .or .u8 (rd x3_2 (ji11)) (ji16))) a0 (wrap64 (x15_2 + 1))) = some r := by first | (rw [hji16] at H; exact H) | (simp only [hji16] at H ⊢; exact H)
                        have hji16_ : (IntKind.u8.wrap (1 * 2 ^ min (ji14).toNat 8)) = ji16 := hji16
                        have hji16z : (ji14) ≤ 8 → (IntKind.u8.wrap (1 * 2 ^ (ji14).toNat)) = ji16 := shl_small hji16
                        have hji16u : (IntKind.u8.wrap (2 ^ min (ji14).toNat 8)) = ji16 := by have h_ := hji16_; rw [Int.one_mul] at h_; exact h_
                        have hji16v : (ji14) ≤ 8 → (IntKind.u8.wrap (2 ^ (ji14).toNat)) = ji16 := fun hle_ => by have h_ := hji16z hle_; rw [Int.one_mul] at h_; exact h_
                        obtain ⟨y350, hy350⟩ : ∃ y_ : List Int, y_ = (x3_2.set ((ji11) : Int).toNat (Go.bits .or .u8 (rd x3_2 (ji11)) (ji16))) := ⟨_, rfl⟩
                        replace H : (spacebitmap_New.l0 k2 y350 a0 (wrap64 (x15_2 + 1))) = some r := by first | (rw [hy350]; with_reducible exact H) | (have H2_ := (Option.bind_some _ _).symm.trans H; rw [hy350]; with_reducible exact H2_) | (have H2_ := (Option.bind_some _ _).symm.trans H; with_reducible exact H2_) | with_reducible exact H | (rw [hy350]; exact H) | exact H
                        have Ny350 := Aside0.mk hy350
                        clear hy350
                        have H' := Aside0.mk H
                        clear H
                        try go_wp2
                        have n0_ := Aside0.mk (Kd.R_drew HO_3.out)
                        have n1_ := Aside0.mk (below_drew1 HB.out)
                        clear HO_3
                        clear HB
                        have HO_3 := n0_
                        have HB := n1_
                        clear n0_ n1_
                        obtain ⟨Ao19, co19, eo19⟩ := Kd.R_slice HO_3.out
                        (first | subst eo19 | (injection eo19 with f1_ f2_ f3_; have f4_ := f1_.symm; have f5_ := f3_.symm; clear f1_ f2_ f3_; subst f4_; subst f5_))
                        have p349 : 0 ≤ ((ji11) : Int) := of_decide_eq_true (by first | (with_reducible assumption) | assumption)
                        have q349 : (ji11) < (x3_2.length : Int) := of_decide_eq_true (by first | (with_reducible assumption) | assumption)
                        obtain ⟨ad349, e349, hx349_0⟩ := Kd.at_int (Kd.R_reads' HO_3.out).2.2 (ji11) p349 q349
                        cases e349
                        replace p349 := eq_true p349
                        replace q349 := eq_true q349
                        have p17 : 0 ≤ ((ji11) : Int) := of_decide_eq_true (by first | (with_reducible assumption) | assumption)
                        have q17 : ((ji11) : Int) < ((x3_2.length : Int) : Int) := of_decide_eq_true (by first | (with_reducible assumption) | assumption)
                        obtain ⟨go17, co17, eo17, gb17, gl17, cl17, HG17⟩ := Kd.R_form HO_3.out (by omega)
                        (first | cases eo17 | (injection eo17 with ea_ en_ ec_; (first | subst ea_ | (injection ea_ with ea_; subst ea_)); subst ec_; clear en_))
                        have GB17 := Aside0.mk gb17
                        have GG17 := Aside0.mk HG17
                        clear gb17 gl17 HG17
                        (first | simp only [add_plain] at hx349_0 | skip)
                        obtain ⟨hx17_0, hf17_0⟩ := Kd.R_celln 0 HO_3.out ((ji11) : Int) p17 q17
                        replace p17 := eq_true p17
                        replace q17 := eq_true q17
                        have HP20 := Kd.R_putn HO_3.out ((ji11) : Int) (Go.bits .or .u8 (rd x3_2 (ji11)) (ji16))
                        rw [← Ny350.out] at HP20
                        have HQ20 := Aside0.mk HP20
                        clear HP20
                        refine start_ (n := 11) (S := fun w' => w'.cell? ⟨go17, ((ji11)).toNat, none⟩ = some (.int .u8 (rd x3_2 (ji11)))) (ds := [10]) #[false, false, false, false, false, false, false, false, false, false, false] (by kernel_rfl) rfl rfl (hx349_0) (fun hHeld => ?_); refine with_tabW spacebitmap_New.tab7 spacebitmap_New.bits7 (fun HT_ HW_ => ?_)
                        generalize wr.drew = w18 at HO_3 HB GG17 HQ20 hf17_0 hx17_0 hx349_0 hHeld ⊢
                        refine pure_ (i := 0) (N := some 18) (v := ?_) (a' := ?_) #[true, false, false, false, false, false, false, false, false, false, false] rfl rfl (any_of HT_.out (by kernel_rfl)) (fun _ _ _ h => h) (Or.inl ⟨by rfl, ?_⟩) ?_ ?_
                        rotate_left
                        · intro w'
                          go_simp
                          with_reducible rfl
                        rotate_left
                        · simp only [Act.put, List.setIfInBounds_toArray, List.set_cons_zero, List.set_cons_succ, i64_w, i32_w]
                          rfl
                        refine pure_ (i := 1) (N := some 19) (v := ?_) (a' := ?_) #[true, true, false, false, false, false, false, false, false, false, false] rfl rfl (any_of HT_.out (by kernel_rfl)) (fun _ _ _ h => h) (Or.inl ⟨by rfl, ?_⟩) ?_ ?_
                        rotate_left
                        · intro w'
                          go_simp
                          with_reducible rfl
                        rotate_left
                        · simp only [Act.put, List.setIfInBounds_toArray, List.set_cons_zero, List.set_cons_succ, i64_w, i32_w]
                          rfl
                        refine pure_ (i := 2) (N := some 20) (v := ?_) (a' := ?_) #[true, true, true, false, false, false, false, false, false, false, false] rfl rfl (any_of HT_.out (by kernel_rfl)) (fun _ _ _ h => h) (Or.inl ⟨by rfl, ?_⟩) ?_ ?_
                        rotate_left
                        · intro w'
                          go_simp
                          with_reducible rfl
                        rotate_left
                        · simp only [Act.put, List.setIfInBounds_toArray, List.set_cons_zero, List.set_cons_succ, i64_w, i32_w]
                          rfl
                        refine pure_ (i := 3) (N := some 21) (v := ?_) (a' := ?_) #[true, true, true, true, false, false, false, false, false, false, false] rfl rfl (any_of HT_.out (by kernel_rfl)) (fun _ _ _ h => h) (Or.inl ⟨by rfl, ?_⟩) ?_ ?_
                        rotate_left
                        · intro w'
                          go_simp
                          with_reducible rfl
                        rotate_left
                        · simp only [Act.put, List.setIfInBounds_toArray, List.set_cons_zero, List.set_cons_succ, i64_w, i32_w]
                          rfl
                        refine pure_ (i := 5) (N := some 23) (v := ?_) (a' := ?_) #[true, true, true, true, false, true, false, false, false, false, false] rfl rfl (any_of HT_.out (by kernel_rfl)) (fun _ _ _ h => h) (Or.inl ⟨by rfl, ?_⟩) ?_ ?_
                        rotate_left
                        · intro w'
                          go_simp
                          with_reducible rfl
                        rotate_left
                        · simp only [Act.put, List.setIfInBounds_toArray, List.set_cons_zero, List.set_cons_succ, i64_w, i32_w]
                          rfl
                        refine pure_ (i := 6) (N := some 24) (v := ?_) (a' := ?_) #[true, true, true, true, false, true, true, false, false, false, false] rfl rfl (any_of HT_.out (by kernel_rfl)) (fun _ _ _ h => h) (Or.inl ⟨by rfl, ?_⟩) ?_ ?_
                        rotate_left
                        · intro w'
                          go_simp
                          with_reducible rfl
                        rotate_left
                        · simp only [Act.put, List.setIfInBounds_toArray, List.set_cons_zero, List.set_cons_succ, i64_w, i32_w]
                          rfl
                        refine pure_ (i := 7) (N := some 25) (v := ?_) (a' := ?_) #[true, true, true, true, false, true, true, true, false, false, false] rfl rfl (any_of HT_.out (by kernel_rfl)) (fun _ _ _ h => h) (Or.inl ⟨by rfl, ?_⟩) ?_ ?_
                        rotate_left
                        · intro w'
                          go_simp
                          with_reducible rfl
                        rotate_left
                        · simp only [Act.put, List.setIfInBounds_toArray, List.set_cons_zero, List.set_cons_succ, i64_w, i32_w]
                          rfl
                        refine take_ (i := 4) (N := some 22) (v := ?_) (a' := ?_) #[true, true, true, true, true, true, true, true, false, false, false] rfl rfl (take_ofW HT_.out HW_.out (by kernel_rfl)) (fun _ _ _ h => h) (Or.inl ⟨by rfl, ?_⟩) hHeld ?_ ?_
                        rotate_left
                        · intro w' s0
                          go_simp
                          with_reducible rfl
                        rotate_left
                        · simp only [Act.put, List.setIfInBounds_toArray, List.set_cons_zero, List.set_cons_succ, i64_w, i32_w]
                          rfl
                        refine pure_ (i := 8) (N := some 26) (v := ?_) (a' := ?_) #[true, true, true, true, true, true, true, true, true, false, false] rfl rfl (any_of HT_.out (by kernel_rfl)) (fun _ _ _ h => h) (Or.inl ⟨by rfl, ?_⟩) ?_ ?_
                        rotate_left
                        · intro w'
                          go_simp
                          with_reducible rfl
                        rotate_left
                        · simp only [Act.put, List.setIfInBounds_toArray, List.set_cons_zero, List.set_cons_succ, i64_w, i32_w]
                          rfl
                        refine pure_ (i := 9) (N := some 27) (v := ?_) (a' := ?_) #[true, true, true, true, true, true, true, true, true, true, false] rfl rfl (any_of HT_.out (by kernel_rfl)) (fun _ _ _ h => h) (Or.inl ⟨by rfl, ?_⟩) ?_ ?_
                        rotate_left
                        · intro w'
                          go_simp
                          with_reducible rfl
                        rotate_left
                        · simp only [Act.put, List.setIfInBounds_toArray, List.set_cons_zero, List.set_cons_succ, i64_w, i32_w]
                          rfl
                        refine last_ (i := 10) (N := none) #[true, true, true, true, true, true, true, true, true, true, true] rfl rfl (one_of HT_.out (by kernel_rfl)) (by decide) (fun K hK => ?_)
                        refine skip_ (w1 := ?_) (by rfl) rfl ?_ ?_
                        rotate_left
                        · go_simp
                          rfl
                        refine hK.out _ _ ?_
                        clear hK K
                        refine done_ (done_of HT_.out (by kernel_rfl)) ?_
                        try go_wp2
                        go_roundg k2
                        case measure => have := HJ1.out; have := HK2.out; omega
                        case rel => exact ⟨(y350), (wrap64 (x15_2 + 1)), (by first | rfl | (simp; done) | (simp [*]; done)), H', ⟨by have := HJ1.out; have := HK2.out; omega⟩, ⟨by (with_reducible repeat (first | apply Kd.R_alloc | apply Kd.R_drewN | apply Kd.R_drew)); exact HQ20.out⟩, ⟨by repeat (first | (with_reducible first | exact HB.out | apply below_alloc | apply pw_below_drewN | apply below_drew1 | refine below_set ?_ GB17.out) | exact HB.out)⟩⟩
                      · rw [if_neg c15] at H
                        exact absurd H (by simp)
                    · rw [if_neg c13] at H
                      exact absurd H (by simp)
                  · rw [if_neg c12] at H
                    exact absurd H (by simp)
                · rw [if_neg c10] at H
                  have c10b0 : decide (x15_2 < a0) = false := decide_eq_false c10
                  clear c10
                  obtain rfl := Option.some.inj H
                  have hcv21 := own_string (P := Try.prog) Try.underlying29 Try.underlying5 Try.underlying9 (Kd.own_of_R HO_3.out)
                  go_wp2
                  go_ret
                  exact ⟨by first | rfl | (simp [errW_none, errW_some] <;> rfl) | (simp [*, errW_none, errW_some] <;> rfl), by repeat (first | (with_reducible first | exact HB.out | apply below_alloc | apply pw_below_drewN | apply below_drew1) | exact HB.out)⟩
          · rw [if_neg c7] at H
            exact absurd H (by simp)
        · rw [if_neg c6] at H
          exact absurd H (by simp)

end Go.Proofs.Ytijbfebbogiiiaa.Q
