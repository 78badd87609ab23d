/- Contracts of Go functions: each call returns what the Lean function of its name says. Written by wip/gen.py (a patched print) for this claim. -/
import Derived.Test.YtijbfebbogiiiaaQ0
import Derived.Test.YtijbfebbogiiiaaQ16
namespace Go.Proofs.Ytijbfebbogiiiaa.Q
open Go.RowKit Go.Proofs.YtijbfebbogiiiaaW.PrintWords Go.Proofs.YtijbfebbogiiiaaW.PrintLast Go.Proofs.YtijbfebbogiiiaaW.PrintMore
attribute [local go_sem] max2_int min2_int max_two min_two max_three min_three max_four min_four   -- for this text's walks alone
set_option linter.unusedVariables false
set_option linter.unusedSimpArgs false

/-! ### masterdiscref33_joins: function 121 -/
def masterdiscref33_joins.f (a0_0 : Int) (a0_1 : Int) (a0_2 : Int) (a0_3 : Int) (a1_0 : Int) (a1_1 : Int) (a1_2 : Int) (a1_3 : Int) : Option (Bool) := if a0_0 = a1_0 then (if (Int.tmod a0_1 2048) = 0 then (if a0_3 = a1_3 then (if (wrap64 (a0_2 + (wrap64 (Int.tdiv a0_1 2048)))) = a1_2 then (some (decide ((wrap64 (a0_1 + a1_1)) ≤ 1073739776))) else (some false)) else (some false)) else (some false)) else (some false)
set_option maxHeartbeats 8000000 in
set_option maxRecDepth 100000 in
theorem masterdiscref33_joins.calls (a0_0 : Int) (a0_1 : Int) (a0_2 : Int) (a0_3 : Int) (a1_0 : Int) (a1_1 : Int) (a1_2 : Int) (a1_3 : Int) (r : Bool) (w : World) (h : masterdiscref33_joins.f a0_0 a0_1 a0_2 a0_3 a1_0 a1_1 a1_2 a1_3 = some r) :
    Calls Try.prog 121 #[.agg #[.int .i64 a0_0, .int .i64 a0_1, .int .i64 a0_2, .int .i64 a0_3], .agg #[.int .i64 a1_0, .int .i64 a1_1, .int .i64 a1_2, .int .i64 a1_3]] w fun e w' => e = .returned (.bool r) ∧ Below w.heap.size w w' := by
  have hu46 := Try.underlying46
  have HB := Aside0.mk (Below.refl w.heap.size w)
  have H : (if a0_0 = a1_0 then (if (Int.tmod a0_1 2048) = 0 then (if a0_3 = a1_3 then (if (wrap64 (a0_2 + (wrap64 (Int.tdiv a0_1 2048)))) = a1_2 then (some (decide ((wrap64 (a0_1 + a1_1)) ≤ 1073739776))) else (some false)) else (some false)) else (some false)) else (some false)) = some r := h
  clear h
  by_cases c3 : a0_0 = a1_0
  · rw [if_pos c3] at H
    have c3b0 : (a0_0 == a1_0) = true := beq_iff_eq.mpr c3
    have c3b1 : (a0_0 != a1_0) = false := bne_eq_false_iff_eq.mpr c3
    clear c3
    by_cases c4 : (Int.tmod a0_1 2048) = 0
    · rw [if_pos c4] at H
      have c4b0 : ((Int.tmod a0_1 2048) == 0) = true := beq_iff_eq.mpr c4
      have c4b1 : ((Int.tmod a0_1 2048) != 0) = false := bne_eq_false_iff_eq.mpr c4
      clear c4
      by_cases c5 : a0_3 = a1_3
      · rw [if_pos c5] at H
        have c5b0 : (a0_3 == a1_3) = true := beq_iff_eq.mpr c5
        have c5b1 : (a0_3 != a1_3) = false := bne_eq_false_iff_eq.mpr c5
        clear c5
        by_cases c6 : (wrap64 (a0_2 + (wrap64 (Int.tdiv a0_1 2048)))) = a1_2
        · rw [if_pos c6] at H
          have c6b0 : ((wrap64 (a0_2 + (wrap64 (Int.tdiv a0_1 2048)))) == a1_2) = true := beq_iff_eq.mpr c6
          have c6b1 : ((wrap64 (a0_2 + (wrap64 (Int.tdiv a0_1 2048)))) != a1_2) = false := bne_eq_false_iff_eq.mpr c6
          clear c6
          obtain rfl := Option.some.inj H
          go_enter Try.func121, Try.ntmps121
          go_wp2_with (first | ((with_reducible refine gate_dst (N := 2) rfl ?_); refine box_event ?hg (N := 2) ?hd (cs := #[.int .i64 a0_0, .int .i64 a0_1, .int .i64 a0_2, .int .i64 a0_3]) (t := 46) ?hr ?_; (case hd => rfl); (case hg => rfl); (case hr => first | (go_simp; done) | (go_simp; rfl)); intro gb566 hg w7 hbox hb; have n0_ := Aside0.mk (below_step (by repeat (first | (with_reducible first | exact HB.out | apply below_alloc | apply pw_below_drewN | apply below_drew1) | exact HB.out)) hb); have n1_ := Aside0.mk (hbox); have n2_ := Aside0.mk ((by rw [hg]; exact (below_size (by repeat (first | (with_reducible first | exact HB.out | apply below_alloc | apply pw_below_drewN | apply below_drew1) | exact HB.out))) : w.heap.size ≤ gb566)); have n3_ := Aside0.mk ((by rw [hg]; exact (below_size (by repeat (first | (with_reducible first | exact HB.out | apply below_alloc | apply pw_below_drewN | apply below_drew1) | exact HB.out))) : w.heap.size ≤ gb566)); clear HB; have HB := n0_; have BK566 := n1_; have GW566 := n2_; have GE566 := n3_; clear n0_ n1_ n2_ n3_; clear hb hbox hg) | ((with_reducible refine gate_dst (N := 3) rfl ?_); refine box_event ?hg (N := 3) ?hd (cs := #[.int .i64 a1_0, .int .i64 a1_1, .int .i64 a1_2, .int .i64 a1_3]) (t := 46) ?hr ?_; (case hd => rfl); (case hg => rfl); (case hr => first | (go_simp; done) | (go_simp; rfl)); intro gb567 hg w8 hbox hb; have n0_ := Aside0.mk (blk_below (g := gb566) (o := .cells #[.int .i64 a0_0, .int .i64 a0_1, .int .i64 a0_2, .int .i64 a0_3] 46 (0, 0)) (by (with_reducible repeat (first | refine blk_drewN ?_ _ | refine blk_drew ?_ | refine blk_alloc ?_ _)); exact BK566.out) hb); have n1_ := Aside0.mk (below_step (by repeat (first | (with_reducible first | exact HB.out | apply below_alloc | apply pw_below_drewN | apply below_drew1 | refine below_set ?_ GE566.out) | exact HB.out)) hb); have n2_ := Aside0.mk (hbox); have n3_ := Aside0.mk ((by rw [hg]; exact (below_size (by repeat (first | (with_reducible first | exact HB.out | apply below_alloc | apply pw_below_drewN | apply below_drew1 | refine below_set ?_ GE566.out) | exact HB.out))) : w.heap.size ≤ gb567)); have n4_ := Aside0.mk ((by rw [hg]; exact (below_size (by repeat (first | (with_reducible first | exact HB.out | apply below_alloc | apply pw_below_drewN | apply below_drew1 | refine below_set ?_ GE566.out) | exact HB.out))) : w.heap.size ≤ gb567)); have n5_ := Aside0.mk ((by rw [hg]; exact Nat.ne_of_lt (blk_lt (g := gb566) (o := .cells #[.int .i64 a0_0, .int .i64 a0_1, .int .i64 a0_2, .int .i64 a0_3] 46 (0, 0)) (by (with_reducible repeat (first | refine blk_drewN ?_ _ | refine blk_drew ?_ | refine blk_alloc ?_ _)); exact BK566.out)) : gb566 ≠ gb567)); have n6_ := Aside0.mk ((by rw [hg]; exact Nat.ne_of_gt (blk_lt (g := gb566) (o := .cells #[.int .i64 a0_0, .int .i64 a0_1, .int .i64 a0_2, .int .i64 a0_3] 46 (0, 0)) (by (with_reducible repeat (first | refine blk_drewN ?_ _ | refine blk_drew ?_ | refine blk_alloc ?_ _)); exact BK566.out)) : gb567 ≠ gb566)); clear BK566; clear HB; have BK566 := n0_; have HB := n1_; have BK567 := n2_; have GW567 := n3_; have GE567 := n4_; have NB566_567 := n5_; have NB567_566 := n6_; clear n0_ n1_ n2_ n3_ n4_ n5_ n6_; clear hb hbox hg; have hnb9 := NB566_567.out; have hnc9 := NB567_566.out; have hcz10_0 : w8.cell? ⟨gb566, 0, none⟩ = some (.int .i64 a0_0) := (blk_cell BK566.out 0).trans rfl; have hcz10_1 : w8.cell? ⟨gb566, 1, none⟩ = some (.int .i64 a0_1) := (blk_cell BK566.out 1).trans rfl; have hcz10_2 : w8.cell? ⟨gb566, 2, none⟩ = some (.int .i64 a0_2) := (blk_cell BK566.out 2).trans rfl; have hcz10_3 : w8.cell? ⟨gb566, 3, none⟩ = some (.int .i64 a0_3) := (blk_cell BK566.out 3).trans rfl; have hfz10_0 := blk_frozen BK566.out 0; have hfz10_1 := blk_frozen BK566.out 1; have hfz10_2 := blk_frozen BK566.out 2; have hfz10_3 := blk_frozen BK566.out 3; have hcz11_0 : w8.cell? ⟨gb567, 0, none⟩ = some (.int .i64 a1_0) := (blk_cell BK567.out 0).trans rfl; have hcz11_1 : w8.cell? ⟨gb567, 1, none⟩ = some (.int .i64 a1_1) := (blk_cell BK567.out 1).trans rfl; have hcz11_2 : w8.cell? ⟨gb567, 2, none⟩ = some (.int .i64 a1_2) := (blk_cell BK567.out 2).trans rfl; have hcz11_3 : w8.cell? ⟨gb567, 3, none⟩ = some (.int .i64 a1_3) := (blk_cell BK567.out 3).trans rfl; have hfz11_0 := blk_frozen BK567.out 0; have hfz11_1 := blk_frozen BK567.out 1; have hfz11_2 := blk_frozen BK567.out 2; have hfz11_3 := blk_frozen BK567.out 3))
          go_ret
          exact ⟨by first | rfl | (simp [errW_none, errW_some] <;> rfl) | (simp [*, errW_none, errW_some] <;> rfl), by repeat (first | (with_reducible first | exact HB.out | apply below_alloc | apply pw_below_drewN | apply below_drew1 | refine below_set ?_ GE566.out | refine below_set ?_ GE567.out) | exact HB.out)⟩
        · rw [if_neg c6] at H
          have c6b0 : ((wrap64 (a0_2 + (wrap64 (Int.tdiv a0_1 2048)))) == a1_2) = false := beq_eq_false_iff_ne.mpr c6
          have c6b1 : ((wrap64 (a0_2 + (wrap64 (Int.tdiv a0_1 2048)))) != a1_2) = true := bne_iff_ne.mpr c6
          obtain rfl := Option.some.inj H
          go_enter Try.func121, Try.ntmps121
          go_wp2_with (first | ((with_reducible refine gate_dst (N := 2) rfl ?_); refine box_event ?hg (N := 2) ?hd (cs := #[.int .i64 a0_0, .int .i64 a0_1, .int .i64 a0_2, .int .i64 a0_3]) (t := 46) ?hr ?_; (case hd => rfl); (case hg => rfl); (case hr => first | (go_simp; done) | (go_simp; rfl)); intro gb566 hg w12 hbox hb; have n0_ := Aside0.mk (below_step (by repeat (first | (with_reducible first | exact HB.out | apply below_alloc | apply pw_below_drewN | apply below_drew1) | exact HB.out)) hb); have n1_ := Aside0.mk (hbox); have n2_ := Aside0.mk ((by rw [hg]; exact (below_size (by repeat (first | (with_reducible first | exact HB.out | apply below_alloc | apply pw_below_drewN | apply below_drew1) | exact HB.out))) : w.heap.size ≤ gb566)); have n3_ := Aside0.mk ((by rw [hg]; exact (below_size (by repeat (first | (with_reducible first | exact HB.out | apply below_alloc | apply pw_below_drewN | apply below_drew1) | exact HB.out))) : w.heap.size ≤ gb566)); clear HB; have HB := n0_; have BK566 := n1_; have GW566 := n2_; have GE566 := n3_; clear n0_ n1_ n2_ n3_; clear hb hbox hg) | ((with_reducible refine gate_dst (N := 3) rfl ?_); refine box_event ?hg (N := 3) ?hd (cs := #[.int .i64 a1_0, .int .i64 a1_1, .int .i64 a1_2, .int .i64 a1_3]) (t := 46) ?hr ?_; (case hd => rfl); (case hg => rfl); (case hr => first | (go_simp; done) | (go_simp; rfl)); intro gb567 hg w13 hbox hb; have n0_ := Aside0.mk (blk_below (g := gb566) (o := .cells #[.int .i64 a0_0, .int .i64 a0_1, .int .i64 a0_2, .int .i64 a0_3] 46 (0, 0)) (by (with_reducible repeat (first | refine blk_drewN ?_ _ | refine blk_drew ?_ | refine blk_alloc ?_ _)); exact BK566.out) hb); have n1_ := Aside0.mk (below_step (by repeat (first | (with_reducible first | exact HB.out | apply below_alloc | apply pw_below_drewN | apply below_drew1 | refine below_set ?_ GE566.out) | exact HB.out)) hb); have n2_ := Aside0.mk (hbox); have n3_ := Aside0.mk ((by rw [hg]; exact (below_size (by repeat (first | (with_reducible first | exact HB.out | apply below_alloc | apply pw_below_drewN | apply below_drew1 | refine below_set ?_ GE566.out) | exact HB.out))) : w.heap.size ≤ gb567)); have n4_ := Aside0.mk ((by rw [hg]; exact (below_size (by repeat (first | (with_reducible first | exact HB.out | apply below_alloc | apply pw_below_drewN | apply below_drew1 | refine below_set ?_ GE566.out) | exact HB.out))) : w.heap.size ≤ gb567)); have n5_ := Aside0.mk ((by rw [hg]; exact Nat.ne_of_lt (blk_lt (g := gb566) (o := .cells #[.int .i64 a0_0, .int .i64 a0_1, .int .i64 a0_2, .int .i64 a0_3] 46 (0, 0)) (by (with_reducible repeat (first | refine blk_drewN ?_ _ | refine blk_drew ?_ | refine blk_alloc ?_ _)); exact BK566.out)) : gb566 ≠ gb567)); have n6_ := Aside0.mk ((by rw [hg]; exact Nat.ne_of_gt (blk_lt (g := gb566) (o := .cells #[.int .i64 a0_0, .int .i64 a0_1, .int .i64 a0_2, .int .i64 a0_3] 46 (0, 0)) (by (with_reducible repeat (first | refine blk_drewN ?_ _ | refine blk_drew ?_ | refine blk_alloc ?_ _)); exact BK566.out)) : gb567 ≠ gb566)); clear BK566; clear HB; have BK566 := n0_; have HB := n1_; have BK567 := n2_; have GW567 := n3_; have GE567 := n4_; have NB566_567 := n5_; have NB567_566 := n6_; clear n0_ n1_ n2_ n3_ n4_ n5_ n6_; clear hb hbox hg; have hnb14 := NB566_567.out; have hnc14 := NB567_566.out; have hcz15_0 : w13.cell? ⟨gb566, 0, none⟩ = some (.int .i64 a0_0) := (blk_cell BK566.out 0).trans rfl; have hcz15_1 : w13.cell? ⟨gb566, 1, none⟩ = some (.int .i64 a0_1) := (blk_cell BK566.out 1).trans rfl; have hcz15_2 : w13.cell? ⟨gb566, 2, none⟩ = some (.int .i64 a0_2) := (blk_cell BK566.out 2).trans rfl; have hcz15_3 : w13.cell? ⟨gb566, 3, none⟩ = some (.int .i64 a0_3) := (blk_cell BK566.out 3).trans rfl; have hfz15_0 := blk_frozen BK566.out 0; have hfz15_1 := blk_frozen BK566.out 1; have hfz15_2 := blk_frozen BK566.out 2; have hfz15_3 := blk_frozen BK566.out 3; have hcz16_0 : w13.cell? ⟨gb567, 0, none⟩ = some (.int .i64 a1_0) := (blk_cell BK567.out 0).trans rfl; have hcz16_1 : w13.cell? ⟨gb567, 1, none⟩ = some (.int .i64 a1_1) := (blk_cell BK567.out 1).trans rfl; have hcz16_2 : w13.cell? ⟨gb567, 2, none⟩ = some (.int .i64 a1_2) := (blk_cell BK567.out 2).trans rfl; have hcz16_3 : w13.cell? ⟨gb567, 3, none⟩ = some (.int .i64 a1_3) := (blk_cell BK567.out 3).trans rfl; have hfz16_0 := blk_frozen BK567.out 0; have hfz16_1 := blk_frozen BK567.out 1; have hfz16_2 := blk_frozen BK567.out 2; have hfz16_3 := blk_frozen BK567.out 3))
          go_ret
          exact ⟨by first | rfl | (simp [errW_none, errW_some] <;> rfl) | (simp [*, errW_none, errW_some] <;> rfl), by repeat (first | (with_reducible first | exact HB.out | apply below_alloc | apply pw_below_drewN | apply below_drew1 | refine below_set ?_ GE566.out | refine below_set ?_ GE567.out) | exact HB.out)⟩
      · rw [if_neg c5] at H
        have c5b0 : (a0_3 == a1_3) = false := beq_eq_false_iff_ne.mpr c5
        have c5b1 : (a0_3 != a1_3) = true := bne_iff_ne.mpr c5
        obtain rfl := Option.some.inj H
        go_enter Try.func121, Try.ntmps121
        go_wp2_with (first | ((with_reducible refine gate_dst (N := 2) rfl ?_); refine box_event ?hg (N := 2) ?hd (cs := #[.int .i64 a0_0, .int .i64 a0_1, .int .i64 a0_2, .int .i64 a0_3]) (t := 46) ?hr ?_; (case hd => rfl); (case hg => rfl); (case hr => first | (go_simp; done) | (go_simp; rfl)); intro gb566 hg w17 hbox hb; have n0_ := Aside0.mk (below_step (by repeat (first | (with_reducible first | exact HB.out | apply below_alloc | apply pw_below_drewN | apply below_drew1) | exact HB.out)) hb); have n1_ := Aside0.mk (hbox); have n2_ := Aside0.mk ((by rw [hg]; exact (below_size (by repeat (first | (with_reducible first | exact HB.out | apply below_alloc | apply pw_below_drewN | apply below_drew1) | exact HB.out))) : w.heap.size ≤ gb566)); have n3_ := Aside0.mk ((by rw [hg]; exact (below_size (by repeat (first | (with_reducible first | exact HB.out | apply below_alloc | apply pw_below_drewN | apply below_drew1) | exact HB.out))) : w.heap.size ≤ gb566)); clear HB; have HB := n0_; have BK566 := n1_; have GW566 := n2_; have GE566 := n3_; clear n0_ n1_ n2_ n3_; clear hb hbox hg) | ((with_reducible refine gate_dst (N := 3) rfl ?_); refine box_event ?hg (N := 3) ?hd (cs := #[.int .i64 a1_0, .int .i64 a1_1, .int .i64 a1_2, .int .i64 a1_3]) (t := 46) ?hr ?_; (case hd => rfl); (case hg => rfl); (case hr => first | (go_simp; done) | (go_simp; rfl)); intro gb567 hg w18 hbox hb; have n0_ := Aside0.mk (blk_below (g := gb566) (o := .cells #[.int .i64 a0_0, .int .i64 a0_1, .int .i64 a0_2, .int .i64 a0_3] 46 (0, 0)) (by (with_reducible repeat (first | refine blk_drewN ?_ _ | refine blk_drew ?_ | refine blk_alloc ?_ _)); exact BK566.out) hb); have n1_ := Aside0.mk (below_step (by repeat (first | (with_reducible first | exact HB.out | apply below_alloc | apply pw_below_drewN | apply below_drew1 | refine below_set ?_ GE566.out) | exact HB.out)) hb); have n2_ := Aside0.mk (hbox); have n3_ := Aside0.mk ((by rw [hg]; exact (below_size (by repeat (first | (with_reducible first | exact HB.out | apply below_alloc | apply pw_below_drewN | apply below_drew1 | refine below_set ?_ GE566.out) | exact HB.out))) : w.heap.size ≤ gb567)); have n4_ := Aside0.mk ((by rw [hg]; exact (below_size (by repeat (first | (with_reducible first | exact HB.out | apply below_alloc | apply pw_below_drewN | apply below_drew1 | refine below_set ?_ GE566.out) | exact HB.out))) : w.heap.size ≤ gb567)); have n5_ := Aside0.mk ((by rw [hg]; exact Nat.ne_of_lt (blk_lt (g := gb566) (o := .cells #[.int .i64 a0_0, .int .i64 a0_1, .int .i64 a0_2, .int .i64 a0_3] 46 (0, 0)) (by (with_reducible repeat (first | refine blk_drewN ?_ _ | refine blk_drew ?_ | refine blk_alloc ?_ _)); exact BK566.out)) : gb566 ≠ gb567)); have n6_ := Aside0.mk ((by rw [hg]; exact Nat.ne_of_gt (blk_lt (g := gb566) (o := .cells #[.int .i64 a0_0, .int .i64 a0_1, .int .i64 a0_2, .int .i64 a0_3] 46 (0, 0)) (by (with_reducible repeat (first | refine blk_drewN ?_ _ | refine blk_drew ?_ | refine blk_alloc ?_ _)); exact BK566.out)) : gb567 ≠ gb566)); clear BK566; clear HB; have BK566 := n0_; have HB := n1_; have BK567 := n2_; have GW567 := n3_; have GE567 := n4_; have NB566_567 := n5_; have NB567_566 := n6_; clear n0_ n1_ n2_ n3_ n4_ n5_ n6_; clear hb hbox hg; have hnb19 := NB566_567.out; have hnc19 := NB567_566.out; have hcz20_0 : w18.cell? ⟨gb566, 0, none⟩ = some (.int .i64 a0_0) := (blk_cell BK566.out 0).trans rfl; have hcz20_1 : w18.cell? ⟨gb566, 1, none⟩ = some (.int .i64 a0_1) := (blk_cell BK566.out 1).trans rfl; have hcz20_2 : w18.cell? ⟨gb566, 2, none⟩ = some (.int .i64 a0_2) := (blk_cell BK566.out 2).trans rfl; have hcz20_3 : w18.cell? ⟨gb566, 3, none⟩ = some (.int .i64 a0_3) := (blk_cell BK566.out 3).trans rfl; have hfz20_0 := blk_frozen BK566.out 0; have hfz20_1 := blk_frozen BK566.out 1; have hfz20_2 := blk_frozen BK566.out 2; have hfz20_3 := blk_frozen BK566.out 3; have hcz21_0 : w18.cell? ⟨gb567, 0, none⟩ = some (.int .i64 a1_0) := (blk_cell BK567.out 0).trans rfl; have hcz21_1 : w18.cell? ⟨gb567, 1, none⟩ = some (.int .i64 a1_1) := (blk_cell BK567.out 1).trans rfl; have hcz21_2 : w18.cell? ⟨gb567, 2, none⟩ = some (.int .i64 a1_2) := (blk_cell BK567.out 2).trans rfl; have hcz21_3 : w18.cell? ⟨gb567, 3, none⟩ = some (.int .i64 a1_3) := (blk_cell BK567.out 3).trans rfl; have hfz21_0 := blk_frozen BK567.out 0; have hfz21_1 := blk_frozen BK567.out 1; have hfz21_2 := blk_frozen BK567.out 2; have hfz21_3 := blk_frozen BK567.out 3))
        go_ret
        exact ⟨by first | rfl | (simp [errW_none, errW_some] <;> rfl) | (simp [*, errW_none, errW_some] <;> rfl), by repeat (first | (with_reducible first | exact HB.out | apply below_alloc | apply pw_below_drewN | apply below_drew1 | refine below_set ?_ GE566.out | refine below_set ?_ GE567.out) | exact HB.out)⟩
    · rw [if_neg c4] at H
      have c4b0 : ((Int.tmod a0_1 2048) == 0) = false := beq_eq_false_iff_ne.mpr c4
      have c4b1 : ((Int.tmod a0_1 2048) != 0) = true := bne_iff_ne.mpr c4
      obtain rfl := Option.some.inj H
      go_enter Try.func121, Try.ntmps121
      go_wp2_with (first | ((with_reducible refine gate_dst (N := 2) rfl ?_); refine box_event ?hg (N := 2) ?hd (cs := #[.int .i64 a0_0, .int .i64 a0_1, .int .i64 a0_2, .int .i64 a0_3]) (t := 46) ?hr ?_; (case hd => rfl); (case hg => rfl); (case hr => first | (go_simp; done) | (go_simp; rfl)); intro gb566 hg w22 hbox hb; have n0_ := Aside0.mk (below_step (by repeat (first | (with_reducible first | exact HB.out | apply below_alloc | apply pw_below_drewN | apply below_drew1) | exact HB.out)) hb); have n1_ := Aside0.mk (hbox); have n2_ := Aside0.mk ((by rw [hg]; exact (below_size (by repeat (first | (with_reducible first | exact HB.out | apply below_alloc | apply pw_below_drewN | apply below_drew1) | exact HB.out))) : w.heap.size ≤ gb566)); have n3_ := Aside0.mk ((by rw [hg]; exact (below_size (by repeat (first | (with_reducible first | exact HB.out | apply below_alloc | apply pw_below_drewN | apply below_drew1) | exact HB.out))) : w.heap.size ≤ gb566)); clear HB; have HB := n0_; have BK566 := n1_; have GW566 := n2_; have GE566 := n3_; clear n0_ n1_ n2_ n3_; clear hb hbox hg) | ((with_reducible refine gate_dst (N := 3) rfl ?_); refine box_event ?hg (N := 3) ?hd (cs := #[.int .i64 a1_0, .int .i64 a1_1, .int .i64 a1_2, .int .i64 a1_3]) (t := 46) ?hr ?_; (case hd => rfl); (case hg => rfl); (case hr => first | (go_simp; done) | (go_simp; rfl)); intro gb567 hg w23 hbox hb; have n0_ := Aside0.mk (blk_below (g := gb566) (o := .cells #[.int .i64 a0_0, .int .i64 a0_1, .int .i64 a0_2, .int .i64 a0_3] 46 (0, 0)) (by (with_reducible repeat (first | refine blk_drewN ?_ _ | refine blk_drew ?_ | refine blk_alloc ?_ _)); exact BK566.out) hb); have n1_ := Aside0.mk (below_step (by repeat (first | (with_reducible first | exact HB.out | apply below_alloc | apply pw_below_drewN | apply below_drew1 | refine below_set ?_ GE566.out) | exact HB.out)) hb); have n2_ := Aside0.mk (hbox); have n3_ := Aside0.mk ((by rw [hg]; exact (below_size (by repeat (first | (with_reducible first | exact HB.out | apply below_alloc | apply pw_below_drewN | apply below_drew1 | refine below_set ?_ GE566.out) | exact HB.out))) : w.heap.size ≤ gb567)); have n4_ := Aside0.mk ((by rw [hg]; exact (below_size (by repeat (first | (with_reducible first | exact HB.out | apply below_alloc | apply pw_below_drewN | apply below_drew1 | refine below_set ?_ GE566.out) | exact HB.out))) : w.heap.size ≤ gb567)); have n5_ := Aside0.mk ((by rw [hg]; exact Nat.ne_of_lt (blk_lt (g := gb566) (o := .cells #[.int .i64 a0_0, .int .i64 a0_1, .int .i64 a0_2, .int .i64 a0_3] 46 (0, 0)) (by (with_reducible repeat (first | refine blk_drewN ?_ _ | refine blk_drew ?_ | refine blk_alloc ?_ _)); exact BK566.out)) : gb566 ≠ gb567)); have n6_ := Aside0.mk ((by rw [hg]; exact Nat.ne_of_gt (blk_lt (g := gb566) (o := .cells #[.int .i64 a0_0, .int .i64 a0_1, .int .i64 a0_2, .int .i64 a0_3] 46 (0, 0)) (by (with_reducible repeat (first | refine blk_drewN ?_ _ | refine blk_drew ?_ | refine blk_alloc ?_ _)); exact BK566.out)) : gb567 ≠ gb566)); clear BK566; clear HB; have BK566 := n0_; have HB := n1_; have BK567 := n2_; have GW567 := n3_; have GE567 := n4_; have NB566_567 := n5_; have NB567_566 := n6_; clear n0_ n1_ n2_ n3_ n4_ n5_ n6_; clear hb hbox hg; have hnb24 := NB566_567.out; have hnc24 := NB567_566.out; have hcz25_0 : w23.cell? ⟨gb566, 0, none⟩ = some (.int .i64 a0_0) := (blk_cell BK566.out 0).trans rfl; have hcz25_1 : w23.cell? ⟨gb566, 1, none⟩ = some (.int .i64 a0_1) := (blk_cell BK566.out 1).trans rfl; have hcz25_2 : w23.cell? ⟨gb566, 2, none⟩ = some (.int .i64 a0_2) := (blk_cell BK566.out 2).trans rfl; have hcz25_3 : w23.cell? ⟨gb566, 3, none⟩ = some (.int .i64 a0_3) := (blk_cell BK566.out 3).trans rfl; have hfz25_0 := blk_frozen BK566.out 0; have hfz25_1 := blk_frozen BK566.out 1; have hfz25_2 := blk_frozen BK566.out 2; have hfz25_3 := blk_frozen BK566.out 3; have hcz26_0 : w23.cell? ⟨gb567, 0, none⟩ = some (.int .i64 a1_0) := (blk_cell BK567.out 0).trans rfl; have hcz26_1 : w23.cell? ⟨gb567, 1, none⟩ = some (.int .i64 a1_1) := (blk_cell BK567.out 1).trans rfl; have hcz26_2 : w23.cell? ⟨gb567, 2, none⟩ = some (.int .i64 a1_2) := (blk_cell BK567.out 2).trans rfl; have hcz26_3 : w23.cell? ⟨gb567, 3, none⟩ = some (.int .i64 a1_3) := (blk_cell BK567.out 3).trans rfl; have hfz26_0 := blk_frozen BK567.out 0; have hfz26_1 := blk_frozen BK567.out 1; have hfz26_2 := blk_frozen BK567.out 2; have hfz26_3 := blk_frozen BK567.out 3))
      go_ret
      exact ⟨by first | rfl | (simp [errW_none, errW_some] <;> rfl) | (simp [*, errW_none, errW_some] <;> rfl), by repeat (first | (with_reducible first | exact HB.out | apply below_alloc | apply pw_below_drewN | apply below_drew1 | refine below_set ?_ GE566.out | refine below_set ?_ GE567.out) | exact HB.out)⟩
  · rw [if_neg c3] at H
    have c3b0 : (a0_0 == a1_0) = false := beq_eq_false_iff_ne.mpr c3
    have c3b1 : (a0_0 != a1_0) = true := bne_iff_ne.mpr c3
    obtain rfl := Option.some.inj H
    go_enter Try.func121, Try.ntmps121
    go_wp2_with (first | ((with_reducible refine gate_dst (N := 2) rfl ?_); refine box_event ?hg (N := 2) ?hd (cs := #[.int .i64 a0_0, .int .i64 a0_1, .int .i64 a0_2, .int .i64 a0_3]) (t := 46) ?hr ?_; (case hd => rfl); (case hg => rfl); (case hr => first | (go_simp; done) | (go_simp; rfl)); intro gb566 hg w27 hbox hb; have n0_ := Aside0.mk (below_step (by repeat (first | (with_reducible first | exact HB.out | apply below_alloc | apply pw_below_drewN | apply below_drew1) | exact HB.out)) hb); have n1_ := Aside0.mk (hbox); have n2_ := Aside0.mk ((by rw [hg]; exact (below_size (by repeat (first | (with_reducible first | exact HB.out | apply below_alloc | apply pw_below_drewN | apply below_drew1) | exact HB.out))) : w.heap.size ≤ gb566)); have n3_ := Aside0.mk ((by rw [hg]; exact (below_size (by repeat (first | (with_reducible first | exact HB.out | apply below_alloc | apply pw_below_drewN | apply below_drew1) | exact HB.out))) : w.heap.size ≤ gb566)); clear HB; have HB := n0_; have BK566 := n1_; have GW566 := n2_; have GE566 := n3_; clear n0_ n1_ n2_ n3_; clear hb hbox hg) | ((with_reducible refine gate_dst (N := 3) rfl ?_); refine box_event ?hg (N := 3) ?hd (cs := #[.int .i64 a1_0, .int .i64 a1_1, .int .i64 a1_2, .int .i64 a1_3]) (t := 46) ?hr ?_; (case hd => rfl); (case hg => rfl); (case hr => first | (go_simp; done) | (go_simp; rfl)); intro gb567 hg w28 hbox hb; have n0_ := Aside0.mk (blk_below (g := gb566) (o := .cells #[.int .i64 a0_0, .int .i64 a0_1, .int .i64 a0_2, .int .i64 a0_3] 46 (0, 0)) (by (with_reducible repeat (first | refine blk_drewN ?_ _ | refine blk_drew ?_ | refine blk_alloc ?_ _)); exact BK566.out) hb); have n1_ := Aside0.mk (below_step (by repeat (first | (with_reducible first | exact HB.out | apply below_alloc | apply pw_below_drewN | apply below_drew1 | refine below_set ?_ GE566.out) | exact HB.out)) hb); have n2_ := Aside0.mk (hbox); have n3_ := Aside0.mk ((by rw [hg]; exact (below_size (by repeat (first | (with_reducible first | exact HB.out | apply below_alloc | apply pw_below_drewN | apply below_drew1 | refine below_set ?_ GE566.out) | exact HB.out))) : w.heap.size ≤ gb567)); have n4_ := Aside0.mk ((by rw [hg]; exact (below_size (by repeat (first | (with_reducible first | exact HB.out | apply below_alloc | apply pw_below_drewN | apply below_drew1 | refine below_set ?_ GE566.out) | exact HB.out))) : w.heap.size ≤ gb567)); have n5_ := Aside0.mk ((by rw [hg]; exact Nat.ne_of_lt (blk_lt (g := gb566) (o := .cells #[.int .i64 a0_0, .int .i64 a0_1, .int .i64 a0_2, .int .i64 a0_3] 46 (0, 0)) (by (with_reducible repeat (first | refine blk_drewN ?_ _ | refine blk_drew ?_ | refine blk_alloc ?_ _)); exact BK566.out)) : gb566 ≠ gb567)); have n6_ := Aside0.mk ((by rw [hg]; exact Nat.ne_of_gt (blk_lt (g := gb566) (o := .cells #[.int .i64 a0_0, .int .i64 a0_1, .int .i64 a0_2, .int .i64 a0_3] 46 (0, 0)) (by (with_reducible repeat (first | refine blk_drewN ?_ _ | refine blk_drew ?_ | refine blk_alloc ?_ _)); exact BK566.out)) : gb567 ≠ gb566)); clear BK566; clear HB; have BK566 := n0_; have HB := n1_; have BK567 := n2_; have GW567 := n3_; have GE567 := n4_; have NB566_567 := n5_; have NB567_566 := n6_; clear n0_ n1_ n2_ n3_ n4_ n5_ n6_; clear hb hbox hg; have hnb29 := NB566_567.out; have hnc29 := NB567_566.out; have hcz30_0 : w28.cell? ⟨gb566, 0, none⟩ = some (.int .i64 a0_0) := (blk_cell BK566.out 0).trans rfl; have hcz30_1 : w28.cell? ⟨gb566, 1, none⟩ = some (.int .i64 a0_1) := (blk_cell BK566.out 1).trans rfl; have hcz30_2 : w28.cell? ⟨gb566, 2, none⟩ = some (.int .i64 a0_2) := (blk_cell BK566.out 2).trans rfl; have hcz30_3 : w28.cell? ⟨gb566, 3, none⟩ = some (.int .i64 a0_3) := (blk_cell BK566.out 3).trans rfl; have hfz30_0 := blk_frozen BK566.out 0; have hfz30_1 := blk_frozen BK566.out 1; have hfz30_2 := blk_frozen BK566.out 2; have hfz30_3 := blk_frozen BK566.out 3; have hcz31_0 : w28.cell? ⟨gb567, 0, none⟩ = some (.int .i64 a1_0) := (blk_cell BK567.out 0).trans rfl; have hcz31_1 : w28.cell? ⟨gb567, 1, none⟩ = some (.int .i64 a1_1) := (blk_cell BK567.out 1).trans rfl; have hcz31_2 : w28.cell? ⟨gb567, 2, none⟩ = some (.int .i64 a1_2) := (blk_cell BK567.out 2).trans rfl; have hcz31_3 : w28.cell? ⟨gb567, 3, none⟩ = some (.int .i64 a1_3) := (blk_cell BK567.out 3).trans rfl; have hfz31_0 := blk_frozen BK567.out 0; have hfz31_1 := blk_frozen BK567.out 1; have hfz31_2 := blk_frozen BK567.out 2; have hfz31_3 := blk_frozen BK567.out 3))
    go_ret
    exact ⟨by first | rfl | (simp [errW_none, errW_some] <;> rfl) | (simp [*, errW_none, errW_some] <;> rfl), by repeat (first | (with_reducible first | exact HB.out | apply below_alloc | apply pw_below_drewN | apply below_drew1 | refine below_set ?_ GE566.out | refine below_set ?_ GE567.out) | exact HB.out)⟩

/-! ### masterdiscref33_Join: function 61 -/
def masterdiscref33_Join.l0 : Nat → List (S46) → List (S46) → Int → Option ((List (S46)))
  | 0, _, _, _ => none
  | k + 1, x0, x3, x4 => if x4 < (x0.length : Int) then (if (x3.length : Int) > 0 then (if 0 ≤ (wrap64 ((x3.length : Int) - 1)) then (if (wrap64 ((x3.length : Int) - 1)) < (x3.length : Int) then (if 0 ≤ x4 then ((masterdiscref33_joins.f ((rd_T46 x3 (wrap64 ((x3.length : Int) - 1))).f0) ((rd_T46 x3 (wrap64 ((x3.length : Int) - 1))).f1) ((rd_T46 x3 (wrap64 ((x3.length : Int) - 1))).f2.f0) ((rd_T46 x3 (wrap64 ((x3.length : Int) - 1))).f2.f1) ((rd_T46 x0 x4).f0) ((rd_T46 x0 x4).f1) ((rd_T46 x0 x4).f2.f0) ((rd_T46 x0 x4).f2.f1)).bind fun t574 => (if t574 = true then (masterdiscref33_Join.l0 k x0 (x3.set ((wrap64 ((x3.length : Int) - 1)) : Int).toNat (⟨(rd_T46 x3 (wrap64 ((x3.length : Int) - 1))).f0, wrap64 (((rd_T46 x3 (wrap64 ((x3.length : Int) - 1))).f1) + ((rd_T46 x0 x4).f1)), (⟨(rd_T46 x3 (wrap64 ((x3.length : Int) - 1))).f2.f0, (rd_T46 x3 (wrap64 ((x3.length : Int) - 1))).f2.f1⟩ : S44)⟩ : S46)) (wrap64 (x4 + 1))) else (if x3.length < 4398046511104 then (masterdiscref33_Join.l0 k x0 (x3 ++ [(⟨(rd_T46 x0 x4).f0, (rd_T46 x0 x4).f1, (⟨(rd_T46 x0 x4).f2.f0, (rd_T46 x0 x4).f2.f1⟩ : S44)⟩ : S46)]) (wrap64 (x4 + 1))) else (none)))) else (none)) else (none)) else (none)) else (if 0 ≤ x4 then (if x3.length < 4398046511104 then (masterdiscref33_Join.l0 k x0 (x3 ++ [(⟨(rd_T46 x0 x4).f0, (rd_T46 x0 x4).f1, (⟨(rd_T46 x0 x4).f2.f0, (rd_T46 x0 x4).f2.f1⟩ : S44)⟩ : S46)]) (wrap64 (x4 + 1))) else (none)) else (none))) else (some x3)
def masterdiscref33_Join.f (k : Nat) (l0 : List (S46)) : Option ((List (S46))) := (masterdiscref33_Formed.f k l0).bind fun t568 => (if t568 = true then (masterdiscref33_Join.l0 k l0 (([] : List (S46))) 0) else (some ([] : List (S46))))
theorem masterdiscref33_Join.mono_l : ∀ k, (∀ y0 y1 y2, LeO (masterdiscref33_Join.l0 k y0 y1 y2) (masterdiscref33_Join.l0 (k + 1) y0 y1 y2))
  | 0 => fun _ _ _ r h => by simp [masterdiscref33_Join.l0] at h
  | k + 1 => by
    have ih0 := masterdiscref33_Join.mono_l k
    · intro y0 y1 y2
      unfold masterdiscref33_Join.l0
      repeat' first
      | (with_reducible exact ih0 _ _ _)
      | (with_reducible exact masterdiscref33_Formed.mono _ _)
      | (with_reducible exact LeO.refl _)
      | (with_reducible exact LeO.none _)
      | (with_reducible refine LeO.ite ?_ ?_)
      | (with_reducible refine LeO.bind ?_ (fun _ => ?_))
      | exact ih0 _ _ _
      | exact masterdiscref33_Formed.mono _ _
      | exact LeO.none _
      | refine LeO.ite ?_ ?_
      | refine LeO.bind ?_ (fun _ => ?_)
theorem masterdiscref33_Join.mono : ∀ a0 k, LeO (masterdiscref33_Join.f k a0) (masterdiscref33_Join.f (k + 1) a0) := by
  intro a0 k
  have ih0 := masterdiscref33_Join.mono_l k
  unfold masterdiscref33_Join.f
  repeat' first
      | (with_reducible exact ih0 _ _ _)
      | (with_reducible exact masterdiscref33_Formed.mono _ _)
      | (with_reducible exact LeO.refl _)
      | (with_reducible exact LeO.none _)
      | (with_reducible refine LeO.ite ?_ ?_)
      | (with_reducible refine LeO.bind ?_ (fun _ => ?_))
      | exact ih0 _ _ _
      | exact masterdiscref33_Formed.mono _ _
      | exact LeO.none _
      | refine LeO.ite ?_ ?_
      | refine LeO.bind ?_ (fun _ => ?_)
def masterdiscref33_Join.T8 : Bool × List (List Nat × List Nat) := (true, [([], []), ([0], [0]), ([1], [1]), ([2], [2]), ([2], [2]), ([4, 2], [2, 4]), ([3, 5, 2], [2, 3, 5]), ([6, 2], [2, 6]), ([2], [2]), ([2], [2]), ([8, 9, 2], [2, 8, 9]), ([10, 2], [2, 10]), ([7, 11, 2, 2], [2, 7, 11]), ([2, 12], [2, 12])])
def masterdiscref33_Join.B8 : List Nat := [0, 1, 3, 7, 7, 23, 63, 127, 7, 7, 775, 1799, 4095, 8191]
theorem masterdiscref33_Join.tab8 : rtab .any (opsOf Try.f61 8) = masterdiscref33_Join.T8 := by kernel_rfl
theorem masterdiscref33_Join.bits8 : waitsOk masterdiscref33_Join.T8.2 masterdiscref33_Join.B8 = true := by kernel_rfl
def masterdiscref33_Join.T9 : Bool × List (List Nat × List Nat) := (true, [([], []), ([], []), ([1], [1]), ([0, 2], [0, 2]), ([3], [3]), ([4], [4]), ([], []), ([], []), ([6, 7], [6, 7]), ([8], [8]), ([9], [9]), ([5, 10], [5, 10]), ([0, 2, 0, 1, 2, 3, 4, 5, 6, 7, 8, 9, 10, 11], [0, 2]), ([12, 0, 1, 2, 3, 4, 5, 6, 7, 8, 9, 10, 11], [12]), ([13, 11, 0, 1, 2, 3, 4, 5, 6, 7, 8, 9, 10, 11], [11, 13])])
def masterdiscref33_Join.B9 : List Nat := [0, 0, 2, 7, 15, 31, 0, 0, 192, 448, 960, 2047, 4095, 8191, 16383]
theorem masterdiscref33_Join.tab9 : rtab .any (opsOf Try.f61 9) = masterdiscref33_Join.T9 := by kernel_rfl
theorem masterdiscref33_Join.bits9 : waitsOk masterdiscref33_Join.T9.2 masterdiscref33_Join.B9 = true := by kernel_rfl
set_option maxHeartbeats 8000000 in
set_option maxRecDepth 100000 in
theorem masterdiscref33_Join.calls (k : Nat) (A0 : Option Addr) (c0 : Nat) (l0 : List (S46)) (r : List (S46)) (w : World) (hr0 : Kd.C k46 w A0 l0.length l0) (hc0 : l0.length ≤ c0) (h : masterdiscref33_Join.f k l0 = some r) :
    Calls Try.prog 61 #[.slice A0 l0.length c0] w fun e w' => ∃ v0_ : Value, e = .returned (v0_) ∧ Kd.R k46 46 w' w.heap.size (fun _ => True) v0_ r ∧ Below w.heap.size w w' := by
  have hu46 := Try.underlying46
  have HR0 := Aside0.mk hr0
  have HC0 := Aside0.mk hc0
  clear hr0 hc0
  have HB := Aside0.mk (Below.refl w.heap.size w)
  have H : ((masterdiscref33_Formed.f k l0).bind fun t568 => (if t568 = true then (masterdiscref33_Join.l0 k l0 (([] : List (S46))) 0) else (some ([] : List (S46))))) = some r := h
  clear h
  replace H := Option.bind_eq_some_iff.mp H
  obtain ⟨t568, A20, H⟩ := H
  replace H : (if t568 = true then (masterdiscref33_Join.l0 k l0 (([] : List (S46))) 0) else (some ([] : List (S46)))) = some r := H
  have A2 := Aside0.mk A20
  clear A20
  by_cases c3 : t568 = true
  · subst c3
    have H1 : (masterdiscref33_Join.l0 k l0 (([] : List (S46))) 0) = some r := by rw [if_pos rfl] at H; exact H
    clear H
    have H := H1
    clear H1
    obtain ⟨y569, hy569⟩ : ∃ y_ : List (S46), y_ = (([] : List (S46))) := ⟨_, rfl⟩
    replace H : (masterdiscref33_Join.l0 k l0 y569 0) = some r := by first | (rw [hy569]; with_reducible exact H) | (have H2_ := (Option.bind_some _ _).symm.trans H; rw [hy569]; with_reducible exact H2_) | (have H2_ := (Option.bind_some _ _).symm.trans H; with_reducible exact H2_) | with_reducible exact H | (rw [hy569]; exact H) | exact H
    have Ny569 := Aside0.mk hy569
    clear hy569
    have H' := Aside0.mk H
    clear H
    go_enter Try.func61, Try.ntmps61
    go_wp2_with (first | ((with_reducible refine gate_callee (f := 104) rfl ?_); refine goesL_ (some 7) rfl rfl Try.func104 (by kernel_rfl) rfl #[.slice A0 l0.length c0] rfl (by (try simp only [List.map_toArray, List.map_cons, List.map_nil]); first | done | rfl | (simp only [List.length_drop, List.length_take]; rfl)) ?_; (with_reducible refine (masterdiscref33_Formed.calls k _ _ l0 true _ ?side1 ?side2 A2.out).mono ?_); (case side1 => repeat (first | exact HR0.out | (with_reducible refine Kd.C_alloc ?_ _) | (with_reducible refine Kd.C_drewN ?_ _) | (with_reducible refine Kd.C_drew ?_))); (case side2 => exact HC0.out); rintro e w4 ⟨rfl, hb⟩; refine ⟨_, rfl, ?_⟩; have n0_ := Aside0.mk (below_step (by repeat (first | (with_reducible first | exact HB.out | apply below_alloc | apply pw_below_drewN | apply below_drew1) | exact HB.out)) hb); clear HB; have HB := n0_; clear n0_; (try clear hb); (try clear hb2); (try clear hk); (try clear hi)) | ((with_reducible refine gate_dst (N := 9) rfl ?_); refine Kd.R_lit k46 _ 46 ?hg (N := 9) ?hd (xs := ([] : List (S46))) (inner := []) (ok := fun _ => True) (okp := fun _ => True) ?hr ?hp (fun _ hk => hk) trivial (Below.refl _ _) (Nat.le_refl _) (by simp) ?_; (case hd => rfl); (case hg => rfl); (case hr => first | (go_simp; done) | (go_simp; rfl)); (case hp => exact (Reps.none _ _)); intro v570 w5 ho6 hb hg_ hnew_; clear hg_ hnew_; (first | rw [← Ny569.out] at ho6 | (simp only [Int.reduceToNat] at ho6; rw [← Ny569.out] at ho6)); have n0_ := Aside0.mk (Kd.R_lower ho6 (below_size (by repeat (first | (with_reducible first | exact HB.out | apply below_alloc | apply pw_below_drewN | apply below_drew1) | exact HB.out)))); have n1_ := Aside0.mk (below_step (by repeat (first | (with_reducible first | exact HB.out | apply below_alloc | apply pw_below_drewN | apply below_drew1) | exact HB.out)) hb); clear HB; have HO571 := n0_; have HB := n1_; clear n0_ n1_; clear hb ho6))
    go_loopg [3, 4] k (fun kq v3 v4 w' => ∃ (x3_1 : List (S46)) (x4_1 : Int), v4 = .int .i64 x4_1 ∧ Aside0 (masterdiscref33_Join.l0 kq l0 x3_1 x4_1 = some r) ∧ Aside0 (kq ≤ k) ∧ Aside0 (Kd.R k46 46 w' w.heap.size (fun _ => True) v3 x3_1) ∧ Aside0 (Below w.heap.size w w'))
    case atStart => exact ⟨(y569), (0), (by first | rfl | (simp; done) | (simp [*]; done)), H', ⟨Nat.le_refl _⟩, ⟨by (with_reducible repeat (first | apply Kd.R_alloc | apply Kd.R_drewN | apply Kd.R_drew)); exact HO571.out⟩, ⟨by repeat (first | (with_reducible first | exact HB.out | apply below_alloc | apply pw_below_drewN | apply below_drew1) | exact HB.out)⟩⟩
    case round =>
      clear H'
      try clear c1
      try clear p2
      try clear c3
      try clear c6
      obtain ⟨x3_1, x4_1, rfl, HA, HK1, HO_3, HB⟩ := hrel
      cases gk with
      | zero => exact absurd HA.out (by simp [masterdiscref33_Join.l0])
      | succ k1 =>
        have H := HA.out
        clear HA
        simp only [masterdiscref33_Join.l0] at H
        by_cases c7 : x4_1 < (l0.length : Int)
        · rw [if_pos c7] at H
          have c7b0 : decide (x4_1 < (l0.length : Int)) = true := decide_eq_true c7
          clear c7
          by_cases c8 : (x3_1.length : Int) > 0
          · rw [if_pos c8] at H
            have c8b0 : decide (0 < (x3_1.length : Int)) = true := decide_eq_true c8
            have c8b1 : decide (0 < x3_1.length) = true := decide_eq_true (by omega)
            clear c8
            obtain ⟨ji9, hji9⟩ : ∃ j_ : Int, (wrap64 ((x3_1.length : Int) - 1)) = j_ := ⟨_, rfl⟩
            replace H : (if 0 ≤ (ji9) then (if (ji9) < (x3_1.length : Int) then (if 0 ≤ x4_1 then ((masterdiscref33_joins.f ((rd_T46 x3_1 (ji9)).f0) ((rd_T46 x3_1 (ji9)).f1) ((rd_T46 x3_1 (ji9)).f2.f0) ((rd_T46 x3_1 (ji9)).f2.f1) ((rd_T46 l0 x4_1).f0) ((rd_T46 l0 x4_1).f1) ((rd_T46 l0 x4_1).f2.f0) ((rd_T46 l0 x4_1).f2.f1)).bind fun t574 => (if t574 = true then (masterdiscref33_Join.l0 k1 l0 (x3_1.set ((ji9) : Int).toNat (⟨(rd_T46 x3_1 (ji9)).f0, wrap64 (((rd_T46 x3_1 (ji9)).f1) + ((rd_T46 l0 x4_1).f1)), (⟨(rd_T46 x3_1 (ji9)).f2.f0, (rd_T46 x3_1 (ji9)).f2.f1⟩ : S44)⟩ : S46)) (wrap64 (x4_1 + 1))) else (if x3_1.length < 4398046511104 then (masterdiscref33_Join.l0 k1 l0 (x3_1 ++ [(⟨(rd_T46 l0 x4_1).f0, (rd_T46 l0 x4_1).f1, (⟨(rd_T46 l0 x4_1).f2.f0, (rd_T46 l0 x4_1).f2.f1⟩ : S44)⟩ : S46)]) (wrap64 (x4_1 + 1))) else (none)))) else (none)) else (none)) else (none)) = some r := by first | (rw [hji9] at H; exact H) | (simp only [hji9] at H ⊢; exact H)
            have hji9w : (IntKind.i64.wrap ((x3_1.length : Int) - 1)) = ji9 := (i64_w _).trans hji9
            by_cases c10 : 0 ≤ (ji9)
            · rw [if_pos c10] at H
              have c10b0 : decide (0 ≤ (ji9)) = true := decide_eq_true c10
              clear c10
              by_cases c11 : (ji9) < (x3_1.length : Int)
              · rw [if_pos c11] at H
                have c11b0 : decide ((ji9) < (x3_1.length : Int)) = true := decide_eq_true c11
                clear c11
                by_cases c12 : 0 ≤ x4_1
                · rw [if_pos c12] at H
                  have c12b0 : decide (0 ≤ x4_1) = true := decide_eq_true c12
                  clear c12
                  replace H := Option.bind_eq_some_iff.mp H
                  obtain ⟨t574, A130, H⟩ := H
                  replace H : (if t574 = true then (masterdiscref33_Join.l0 k1 l0 (x3_1.set ((ji9) : Int).toNat (⟨(rd_T46 x3_1 (ji9)).f0, wrap64 (((rd_T46 x3_1 (ji9)).f1) + ((rd_T46 l0 x4_1).f1)), (⟨(rd_T46 x3_1 (ji9)).f2.f0, (rd_T46 x3_1 (ji9)).f2.f1⟩ : S44)⟩ : S46)) (wrap64 (x4_1 + 1))) else (if x3_1.length < 4398046511104 then (masterdiscref33_Join.l0 k1 l0 (x3_1 ++ [(⟨(rd_T46 l0 x4_1).f0, (rd_T46 l0 x4_1).f1, (⟨(rd_T46 l0 x4_1).f2.f0, (rd_T46 l0 x4_1).f2.f1⟩ : S44)⟩ : S46)]) (wrap64 (x4_1 + 1))) else (none))) = some r := H
                  have A13 := Aside0.mk A130
                  clear A130
                  by_cases c14 : t574 = true
                  · subst c14
                    have H1 : (masterdiscref33_Join.l0 k1 l0 (x3_1.set ((ji9) : Int).toNat (⟨(rd_T46 x3_1 (ji9)).f0, wrap64 (((rd_T46 x3_1 (ji9)).f1) + ((rd_T46 l0 x4_1).f1)), (⟨(rd_T46 x3_1 (ji9)).f2.f0, (rd_T46 x3_1 (ji9)).f2.f1⟩ : S44)⟩ : S46)) (wrap64 (x4_1 + 1))) = some r := by rw [if_pos rfl] at H; exact H
                    clear H
                    have H := H1
                    clear H1
                    obtain ⟨y577, hy577⟩ : ∃ y_ : List (S46), y_ = (x3_1.set ((ji9) : Int).toNat (⟨(rd_T46 x3_1 (ji9)).f0, wrap64 (((rd_T46 x3_1 (ji9)).f1) + ((rd_T46 l0 x4_1).f1)), (⟨(rd_T46 x3_1 (ji9)).f2.f0, (rd_T46 x3_1 (ji9)).f2.f1⟩ : S44)⟩ : S46)) := ⟨_, rfl⟩
                    replace H : (masterdiscref33_Join.l0 k1 l0 y577 (wrap64 (x4_1 + 1))) = some r := by first | (rw [hy577]; with_reducible exact H) | (have H2_ := (Option.bind_some _ _).symm.trans H; rw [hy577]; with_reducible exact H2_) | (have H2_ := (Option.bind_some _ _).symm.trans H; with_reducible exact H2_) | with_reducible exact H | (rw [hy577]; exact H) | exact H
                    have Ny577 := Aside0.mk hy577
                    clear hy577
                    have H' := Aside0.mk H
                    clear H
                    obtain ⟨Ao16, co16, eo16⟩ := Kd.R_slice HO_3.out
                    subst eo16
                    try go_wp2
                    have n0_ := Aside0.mk (Kd.R_drew HO_3.out)
                    have n1_ := Aside0.mk (below_drew1 HB.out)
                    clear HO_3
                    clear HB
                    have HO_3 := n0_
                    have HB := n1_
                    clear n0_ n1_
                    have p572 : 0 ≤ ((ji9) : Int) := of_decide_eq_true (by first | (with_reducible assumption) | assumption)
                    have q572 : (ji9) < (x3_1.length : Int) := of_decide_eq_true (by first | (with_reducible assumption) | assumption)
                    obtain ⟨ad572, e572, hx572_0, hx572_1, hx572_2, hx572_3⟩ := at_T46 (Kd.R_reads' HO_3.out).2.2 (ji9) p572 q572
                    cases e572
                    replace p572 := eq_true p572
                    replace q572 := eq_true q572
                    have p573 : 0 ≤ (x4_1 : Int) := of_decide_eq_true (by first | (with_reducible assumption) | assumption)
                    have q573 : x4_1 < (l0.length : Int) := of_decide_eq_true (by first | (with_reducible assumption) | assumption)
                    obtain ⟨ad573, e573, hx573_0, hx573_1, hx573_2, hx573_3⟩ := at_T46 HR0.out x4_1 p573 q573
                    have hw573_3 := hx573_3
                    have hw573_2 := hx573_2
                    have hw573_1 := hx573_1
                    have hw573_0 := hx573_0
                    cases e573
                    replace hx573_0 := (HB.out.cell (World.block_lt_of_cell? w _ hx573_0)).trans hx573_0
                    replace hx573_1 := (HB.out.cell (World.block_lt_of_cell? w _ hx573_1)).trans hx573_1
                    replace hx573_2 := (HB.out.cell (World.block_lt_of_cell? w _ hx573_2)).trans hx573_2
                    replace hx573_3 := (HB.out.cell (World.block_lt_of_cell? w _ hx573_3)).trans hx573_3
                    replace p573 := eq_true p573
                    replace q573 := eq_true q573
                    refine start_ (n := 14) (S := fun w' => w'.cell? (ad572.add (((ji9)).toNat * 4)) = some (.int .i64 ((rd_T46 x3_1 (ji9)).f0)) ∧ w'.cell? ⟨(ad572.add (((ji9)).toNat * 4)).block, (ad572.add (((ji9)).toNat * 4)).off + 1, none⟩ = some (.int .i64 ((rd_T46 x3_1 (ji9)).f1)) ∧ w'.cell? ⟨(ad572.add (((ji9)).toNat * 4)).block, (ad572.add (((ji9)).toNat * 4)).off + 2, none⟩ = some (.int .i64 ((rd_T46 x3_1 (ji9)).f2.f0)) ∧ w'.cell? ⟨(ad572.add (((ji9)).toNat * 4)).block, (ad572.add (((ji9)).toNat * 4)).off + 3, none⟩ = some (.int .i64 ((rd_T46 x3_1 (ji9)).f2.f1)) ∧ w'.cell? (ad573.add ((x4_1).toNat * 4)) = some (.int .i64 ((rd_T46 l0 x4_1).f0)) ∧ w'.cell? ⟨(ad573.add ((x4_1).toNat * 4)).block, (ad573.add ((x4_1).toNat * 4)).off + 1, none⟩ = some (.int .i64 ((rd_T46 l0 x4_1).f1)) ∧ w'.cell? ⟨(ad573.add ((x4_1).toNat * 4)).block, (ad573.add ((x4_1).toNat * 4)).off + 2, none⟩ = some (.int .i64 ((rd_T46 l0 x4_1).f2.f0)) ∧ w'.cell? ⟨(ad573.add ((x4_1).toNat * 4)).block, (ad573.add ((x4_1).toNat * 4)).off + 3, none⟩ = some (.int .i64 ((rd_T46 l0 x4_1).f2.f1))) (ds := []) #[false, false, false, false, false, false, false, false, false, false, false, false, false, false] (by kernel_rfl) rfl rfl ⟨hx572_0, hx572_1, hx572_2, hx572_3, ((HB.out.cell (World.block_lt_of_cell? w _ hw573_0)).trans hw573_0), ((HB.out.cell (World.block_lt_of_cell? w _ hw573_1)).trans hw573_1), ((HB.out.cell (World.block_lt_of_cell? w _ hw573_2)).trans hw573_2), ((HB.out.cell (World.block_lt_of_cell? w _ hw573_3)).trans hw573_3)⟩ (fun hHeld => ?_); refine with_tabW masterdiscref33_Join.tab8 masterdiscref33_Join.bits8 (fun HT_ HW_ => ?_)
                    generalize wr.drew = w17 at HO_3 HB hx572_0 hx572_1 hx572_2 hx572_3 hx573_0 hx573_1 hx573_2 hx573_3 hHeld ⊢
                    refine pure_ (i := 0) (N := some 18) (v := ?_) (a' := ?_) #[true, false, false, false, false, false, false, false, false, false, false, false, false, false] rfl rfl (any_of HT_.out (by kernel_rfl)) (fun _ _ _ h => h) (Or.inl ⟨by rfl, ?_⟩) ?_ ?_
                    rotate_left
                    · intro w'
                      go_simp
                      with_reducible rfl
                    rotate_left
                    · simp only [Act.put, List.setIfInBounds_toArray, List.set_cons_zero, List.set_cons_succ, i64_w, i32_w]
                      rfl
                    refine pure_ (i := 1) (N := some 19) (v := ?_) (a' := ?_) #[true, true, false, false, false, false, false, false, false, false, false, false, false, false] rfl rfl (any_of HT_.out (by kernel_rfl)) (fun _ _ _ h => h) (Or.inl ⟨by rfl, ?_⟩) ?_ ?_
                    rotate_left
                    · intro w'
                      go_simp
                      with_reducible rfl
                    rotate_left
                    · simp only [Act.put, List.setIfInBounds_toArray, List.set_cons_zero, List.set_cons_succ, i64_w, i32_w]
                      rfl
                    refine pure_ (i := 2) (N := some 20) (v := ?_) (a' := ?_) #[true, true, true, false, false, false, false, false, false, false, false, false, false, false] rfl rfl (any_of HT_.out (by kernel_rfl)) (fun _ _ _ h => h) (Or.inl ⟨by rfl, ?_⟩) ?_ ?_
                    rotate_left
                    · intro w'
                      go_simp
                      with_reducible rfl
                    rotate_left
                    · simp only [Act.put, List.setIfInBounds_toArray, List.set_cons_zero, List.set_cons_succ, i64_w, i32_w]
                      rfl
                    refine pure_ (i := 3) (N := some 21) (v := ?_) (a' := ?_) #[true, true, true, true, false, false, false, false, false, false, false, false, false, false] rfl rfl (any_of HT_.out (by kernel_rfl)) (fun _ _ _ h => h) (Or.inl ⟨by rfl, ?_⟩) ?_ ?_
                    rotate_left
                    · intro w'
                      go_simp
                      with_reducible rfl
                    rotate_left
                    · simp only [Act.put, List.setIfInBounds_toArray, List.set_cons_zero, List.set_cons_succ, i64_w, i32_w]
                      rfl
                    refine pure_ (i := 4) (N := some 22) (v := ?_) (a' := ?_) #[true, true, true, true, true, false, false, false, false, false, false, false, false, false] rfl rfl (any_of HT_.out (by kernel_rfl)) (fun _ _ _ h => h) (Or.inl ⟨by rfl, ?_⟩) ?_ ?_
                    rotate_left
                    · intro w'
                      go_simp
                      with_reducible rfl
                    rotate_left
                    · simp only [Act.put, List.setIfInBounds_toArray, List.set_cons_zero, List.set_cons_succ, i64_w, i32_w]
                      rfl
                    refine pure_ (i := 5) (N := some 23) (v := ?_) (a' := ?_) #[true, true, true, true, true, true, false, false, false, false, false, false, false, false] rfl rfl (any_of HT_.out (by kernel_rfl)) (fun _ _ _ h => h) (Or.inl ⟨by rfl, ?_⟩) ?_ ?_
                    rotate_left
                    · intro w'
                      go_simp
                      with_reducible rfl
                    rotate_left
                    · simp only [Act.put, List.setIfInBounds_toArray, List.set_cons_zero, List.set_cons_succ, i64_w, i32_w]
                      rfl
                    refine pure_ (i := 6) (N := some 24) (v := ?_) (a' := ?_) #[true, true, true, true, true, true, true, false, false, false, false, false, false, false] rfl rfl (any_of HT_.out (by kernel_rfl)) (fun _ _ _ h => h) (Or.inl ⟨by rfl, ?_⟩) ?_ ?_
                    rotate_left
                    · intro w'
                      go_simp
                      with_reducible rfl
                    rotate_left
                    · simp only [Act.put, List.setIfInBounds_toArray, List.set_cons_zero, List.set_cons_succ, i64_w, i32_w]
                      rfl
                    refine pure_ (i := 8) (N := some 26) (v := ?_) (a' := ?_) #[true, true, true, true, true, true, true, false, true, false, false, false, false, false] rfl rfl (any_of HT_.out (by kernel_rfl)) (fun _ _ _ h => h) (Or.inl ⟨by rfl, ?_⟩) ?_ ?_
                    rotate_left
                    · intro w'
                      go_simp
                      with_reducible rfl
                    rotate_left
                    · simp only [Act.put, List.setIfInBounds_toArray, List.set_cons_zero, List.set_cons_succ, i64_w, i32_w]
                      rfl
                    refine pure_ (i := 9) (N := some 27) (v := ?_) (a' := ?_) #[true, true, true, true, true, true, true, false, true, true, false, false, false, false] rfl rfl (any_of HT_.out (by kernel_rfl)) (fun _ _ _ h => h) (Or.inl ⟨by rfl, ?_⟩) ?_ ?_
                    rotate_left
                    · intro w'
                      go_simp
                      with_reducible rfl
                    rotate_left
                    · simp only [Act.put, List.setIfInBounds_toArray, List.set_cons_zero, List.set_cons_succ, i64_w, i32_w]
                      rfl
                    refine pure_ (i := 10) (N := some 28) (v := ?_) (a' := ?_) #[true, true, true, true, true, true, true, false, true, true, true, false, false, false] rfl rfl (any_of HT_.out (by kernel_rfl)) (fun _ _ _ h => h) (Or.inl ⟨by rfl, ?_⟩) ?_ ?_
                    rotate_left
                    · intro w'
                      go_simp
                      with_reducible rfl
                    rotate_left
                    · simp only [Act.put, List.setIfInBounds_toArray, List.set_cons_zero, List.set_cons_succ, i64_w, i32_w]
                      rfl
                    refine take_ (i := 7) (N := some 25) (v := ?_) (a' := ?_) #[true, true, true, true, true, true, true, true, true, true, true, false, false, false] rfl rfl (take_ofW HT_.out HW_.out (by kernel_rfl)) (fun _ _ _ h => h) (Or.inl ⟨by rfl, ?_⟩) hHeld ?_ ?_
                    rotate_left
                    · rintro w' ⟨s0, s1, s2, s3, s4, s5, s6, s7⟩
                      go_simp
                      with_reducible rfl
                    rotate_left
                    · simp only [Act.put, List.setIfInBounds_toArray, List.set_cons_zero, List.set_cons_succ, i64_w, i32_w]
                      rfl
                    refine take_ (i := 11) (N := some 29) (v := ?_) (a' := ?_) #[true, true, true, true, true, true, true, true, true, true, true, true, false, false] rfl rfl (take_ofW HT_.out HW_.out (by kernel_rfl)) (fun _ _ _ h => h) (Or.inl ⟨by rfl, ?_⟩) hHeld ?_ ?_
                    rotate_left
                    · rintro w' ⟨s0, s1, s2, s3, s4, s5, s6, s7⟩
                      go_simp
                      with_reducible rfl
                    rotate_left
                    · simp only [Act.put, List.setIfInBounds_toArray, List.set_cons_zero, List.set_cons_succ, i64_w, i32_w]
                      rfl
                    refine one_ (i := 12) (N := some 30) #[true, true, true, true, true, true, true, true, true, true, true, true, true, false] rfl rfl (one_of HT_.out (by kernel_rfl)) (by decide) (fun K hK => ?_)
                    refine goes_ Try.func121 (by kernel_rfl) rfl #[.agg #[.int .i64 ((rd_T46 x3_1 (ji9)).f0), .int .i64 ((rd_T46 x3_1 (ji9)).f1), .int .i64 ((rd_T46 x3_1 (ji9)).f2.f0), .int .i64 ((rd_T46 x3_1 (ji9)).f2.f1)], .agg #[.int .i64 ((rd_T46 l0 x4_1).f0), .int .i64 ((rd_T46 l0 x4_1).f1), .int .i64 ((rd_T46 l0 x4_1).f2.f0), .int .i64 ((rd_T46 l0 x4_1).f2.f1)]] (by rfl) rfl rfl (by (try simp only [List.map_toArray, List.map_cons, List.map_nil]); first | done | (simp only [hji9]; rfl) | rfl | (simp only [List.length_drop, List.length_take]; rfl)) ?_
                    with_reducible refine (masterdiscref33_joins.calls ((rd_T46 x3_1 (ji9)).f0) ((rd_T46 x3_1 (ji9)).f1) ((rd_T46 x3_1 (ji9)).f2.f0) ((rd_T46 x3_1 (ji9)).f2.f1) ((rd_T46 l0 x4_1).f0) ((rd_T46 l0 x4_1).f1) ((rd_T46 l0 x4_1).f2.f0) ((rd_T46 l0 x4_1).f2.f1) true _ A13.out).mono ?_
                    rintro e w18 ⟨rfl, hb⟩
                    have HS0_ := (hb.cell (World.block_lt_of_cell? _ _ (hHeld.1))).trans (hHeld.1)
                    have HS1_ := (hb.cell (World.block_lt_of_cell? _ _ (hHeld.2.1))).trans (hHeld.2.1)
                    have HS2_ := (hb.cell (World.block_lt_of_cell? _ _ (hHeld.2.2.1))).trans (hHeld.2.2.1)
                    have HS3_ := (hb.cell (World.block_lt_of_cell? _ _ (hHeld.2.2.2.1))).trans (hHeld.2.2.2.1)
                    refine ⟨_, rfl, ?_⟩
                    have n0_ := Aside0.mk (Kd.R_below (by (with_reducible repeat (first | apply Kd.R_alloc | apply Kd.R_drewN | apply Kd.R_drew)); exact HO_3.out) hb)
                    have n1_ := Aside0.mk (below_step (by repeat (first | (with_reducible first | exact HB.out | apply below_alloc | apply pw_below_drewN | apply below_drew1) | exact HB.out)) hb)
                    clear HO_3
                    clear HB
                    have HO_3 := n0_
                    have HB := n1_
                    clear n0_ n1_
                    (try clear hb)
                    (try clear hb2)
                    (try clear hk)
                    (try clear hi)
                    refine hK.out _ _ ⟨HS0_, HS1_, HS2_, HS3_, ((HB.out.cell (World.block_lt_of_cell? w _ hw573_0)).trans hw573_0), ((HB.out.cell (World.block_lt_of_cell? w _ hw573_1)).trans hw573_1), ((HB.out.cell (World.block_lt_of_cell? w _ hw573_2)).trans hw573_2), ((HB.out.cell (World.block_lt_of_cell? w _ hw573_3)).trans hw573_3)⟩ (fun hHeld => ?_)
                    clear hK K
                    refine norm_ (a' := ?_) ?_ ?_
                    rotate_left
                    · show Act.put _ (some 30) _ = _
                      simp only [Act.put, List.setIfInBounds_toArray, List.set_cons_zero, List.set_cons_succ, i64_w, i32_w]
                      rfl
                    refine pure_ (i := 13) (N := some 31) (v := ?_) (a' := ?_) #[true, true, true, true, true, true, true, true, true, true, true, true, true, true] rfl rfl (any_of HT_.out (by kernel_rfl)) (fun _ _ _ h => h) (Or.inl ⟨by rfl, ?_⟩) ?_ ?_
                    rotate_left
                    · intro w'
                      go_simp
                      with_reducible rfl
                    rotate_left
                    · simp only [Act.put, List.setIfInBounds_toArray, List.set_cons_zero, List.set_cons_succ, i64_w, i32_w]
                      rfl
                    refine done_ (done_of HT_.out (by kernel_rfl)) ?_
                    try go_wp2
                    have n0_ := Aside0.mk (Kd.R_drew HO_3.out)
                    have n1_ := Aside0.mk (below_drew1 HB.out)
                    clear HO_3
                    clear HB
                    have HO_3 := n0_
                    have HB := n1_
                    clear n0_ n1_
                    have p575 : 0 ≤ ((ji9) : Int) := of_decide_eq_true (by first | (with_reducible assumption) | assumption)
                    have q575 : (ji9) < (x3_1.length : Int) := of_decide_eq_true (by first | (with_reducible assumption) | assumption)
                    obtain ⟨ad575, e575, hx575_0, hx575_1, hx575_2, hx575_3⟩ := at_T46 (Kd.R_reads' HO_3.out).2.2 (ji9) p575 q575
                    obtain rfl : ad572 = ad575 := (by injection e575)
                    replace p575 := eq_true p575
                    replace q575 := eq_true q575
                    have p576 : 0 ≤ (x4_1 : Int) := of_decide_eq_true (by first | (with_reducible assumption) | assumption)
                    have q576 : x4_1 < (l0.length : Int) := of_decide_eq_true (by first | (with_reducible assumption) | assumption)
                    obtain ⟨ad576, e576, hx576_0, hx576_1, hx576_2, hx576_3⟩ := at_T46 HR0.out x4_1 p576 q576
                    have hw576_3 := hx576_3
                    have hw576_2 := hx576_2
                    have hw576_1 := hx576_1
                    have hw576_0 := hx576_0
                    obtain rfl : ad573 = ad576 := (by injection e576)
                    replace hx576_0 := (HB.out.cell (World.block_lt_of_cell? w _ hx576_0)).trans hx576_0
                    replace hx576_1 := (HB.out.cell (World.block_lt_of_cell? w _ hx576_1)).trans hx576_1
                    replace hx576_2 := (HB.out.cell (World.block_lt_of_cell? w _ hx576_2)).trans hx576_2
                    replace hx576_3 := (HB.out.cell (World.block_lt_of_cell? w _ hx576_3)).trans hx576_3
                    replace p576 := eq_true p576
                    replace q576 := eq_true q576
                    have p15 : 0 ≤ ((ji9) : Int) := of_decide_eq_true (by first | (with_reducible assumption) | assumption)
                    have q15 : ((ji9) : Int) < ((x3_1.length : Int) : Int) := of_decide_eq_true (by first | (with_reducible assumption) | assumption)
                    obtain ⟨go15, co15, eo15, gb15, gl15, cl15, HG15⟩ := Kd.R_form HO_3.out (by omega)
                    (first | cases eo15 | (injection eo15 with ea_ en_ ec_; (first | subst ea_ | (injection ea_ with ea_; subst ea_)); subst ec_; clear en_))
                    have GB15 := Aside0.mk gb15
                    have GG15 := Aside0.mk HG15
                    clear gb15 gl15 HG15
                    (first | simp only [add_plain] at hx572_0 | skip)
                    (first | simp only [add_plain] at hx572_1 | skip)
                    (first | simp only [add_plain] at hx572_2 | skip)
                    (first | simp only [add_plain] at hx572_3 | skip)
                    (first | simp only [add_plain] at hx575_0 | skip)
                    (first | simp only [add_plain] at hx575_1 | skip)
                    (first | simp only [add_plain] at hx575_2 | skip)
                    (first | simp only [add_plain] at hx575_3 | skip)
                    obtain ⟨ce15, hcl15, hM15, hcc15, hfr15⟩ := Kd.R_elem HO_3.out z46 ((ji9) : Int) p15 q15
                    obtain rfl := k46_openM hM15
                    have hx15_0 : World.cell? _ ⟨go15, ((ji9) : Int).toNat * 4, none⟩ = some (.int .i64 ((rd_T46 x3_1 (ji9)).f0)) := hcc15 0 _ rfl
                    have hx15_1 : World.cell? _ ⟨go15, ((ji9) : Int).toNat * 4 + 1, none⟩ = some (.int .i64 ((rd_T46 x3_1 (ji9)).f1)) := hcc15 1 _ rfl
                    have hx15_2 : World.cell? _ ⟨go15, ((ji9) : Int).toNat * 4 + 2, none⟩ = some (.int .i64 ((rd_T46 x3_1 (ji9)).f2.f0)) := hcc15 2 _ rfl
                    have hx15_3 : World.cell? _ ⟨go15, ((ji9) : Int).toNat * 4 + 3, none⟩ = some (.int .i64 ((rd_T46 x3_1 (ji9)).f2.f1)) := hcc15 3 _ rfl
                    have hf15_0 : World.frozen? _ ⟨go15, ((ji9) : Int).toNat * 4, none⟩ = false := hfr15 0
                    have hf15_1 : World.frozen? _ ⟨go15, ((ji9) : Int).toNat * 4 + 1, none⟩ = false := hfr15 1
                    have hf15_2 : World.frozen? _ ⟨go15, ((ji9) : Int).toNat * 4 + 2, none⟩ = false := hfr15 2
                    have hf15_3 : World.frozen? _ ⟨go15, ((ji9) : Int).toNat * 4 + 3, none⟩ = false := hfr15 3
                    clear hcl15 hcc15 hfr15 hM15
                    replace p15 := eq_true p15
                    replace q15 := eq_true q15
                    obtain ⟨ce20, hcl20, hM20, hcc20, hfr20⟩ := Kd.R_elem HO_3.out z46 ((ji9) : Int) (of_decide_eq_true (by first | (with_reducible assumption) | assumption)) (by have h_ : ((ji9) : Int) < ((x3_1.length : Int) : Int) := of_decide_eq_true (by first | (with_reducible assumption) | assumption); first | exact h_ | (have e_ := (Kd.R_reads' HO_3.out).1; omega) | simpa using h_)
                    obtain rfl := k46_openM hM20
                    have HP20 := (Kd.R_seg HO_3.out ((ji9) : Int) (of_decide_eq_true (by first | (with_reducible assumption) | assumption)) (by have h_ : ((ji9) : Int) < ((x3_1.length : Int) : Int) := of_decide_eq_true (by first | (with_reducible assumption) | assumption); first | exact h_ | (have e_ := (Kd.R_reads' HO_3.out).1; omega) | simpa using h_) (seg := [.int .i64 (wrap64 (((rd_T46 x3_1 (ji9)).f1) + ((rd_T46 l0 x4_1).f1)))]) (j := 1) hcl20 hcc20 (show 2 ≤ 4 from by decide) (x' := (⟨(rd_T46 x3_1 (ji9)).f0, wrap64 (((rd_T46 x3_1 (ji9)).f1) + ((rd_T46 l0 x4_1).f1)), (⟨(rd_T46 x3_1 (ji9)).f2.f0, (rd_T46 x3_1 (ji9)).f2.f1⟩ : S44)⟩ : S46)) (k46_mkM _ _ _ (⟨(rd_T46 x3_1 (ji9)).f0, wrap64 (((rd_T46 x3_1 (ji9)).f1) + ((rd_T46 l0 x4_1).f1)), (⟨(rd_T46 x3_1 (ji9)).f2.f0, (rd_T46 x3_1 (ji9)).f2.f1⟩ : S44)⟩ : S46) ) (fun _ hk => hk)).1
                    rw [← Ny577.out] at HP20
                    have HQ20 := Aside0.mk HP20
                    clear hcl20 hcc20 hfr20 hM20 HP20
                    refine start_ (n := 15) (S := fun w' => w'.cell? ⟨go15, (((ji9)).toNat * 4), none⟩ = some (.int .i64 ((rd_T46 x3_1 (ji9)).f0)) ∧ w'.cell? ⟨go15, (((ji9)).toNat * 4) + 1, none⟩ = some (.int .i64 ((rd_T46 x3_1 (ji9)).f1)) ∧ w'.cell? ⟨go15, (((ji9)).toNat * 4) + 2, none⟩ = some (.int .i64 ((rd_T46 x3_1 (ji9)).f2.f0)) ∧ w'.cell? ⟨go15, (((ji9)).toNat * 4) + 3, none⟩ = some (.int .i64 ((rd_T46 x3_1 (ji9)).f2.f1)) ∧ w'.cell? (ad573.add ((x4_1).toNat * 4)) = some (.int .i64 ((rd_T46 l0 x4_1).f0)) ∧ w'.cell? ⟨(ad573.add ((x4_1).toNat * 4)).block, (ad573.add ((x4_1).toNat * 4)).off + 1, none⟩ = some (.int .i64 ((rd_T46 l0 x4_1).f1)) ∧ w'.cell? ⟨(ad573.add ((x4_1).toNat * 4)).block, (ad573.add ((x4_1).toNat * 4)).off + 2, none⟩ = some (.int .i64 ((rd_T46 l0 x4_1).f2.f0)) ∧ w'.cell? ⟨(ad573.add ((x4_1).toNat * 4)).block, (ad573.add ((x4_1).toNat * 4)).off + 3, none⟩ = some (.int .i64 ((rd_T46 l0 x4_1).f2.f1))) (ds := [14]) #[false, false, false, false, false, false, false, false, false, false, false, false, false, false, false] (by kernel_rfl) rfl rfl ⟨hx575_0, hx575_1, hx575_2, hx575_3, ((HB.out.cell (World.block_lt_of_cell? w _ hw576_0)).trans hw576_0), ((HB.out.cell (World.block_lt_of_cell? w _ hw576_1)).trans hw576_1), ((HB.out.cell (World.block_lt_of_cell? w _ hw576_2)).trans hw576_2), ((HB.out.cell (World.block_lt_of_cell? w _ hw576_3)).trans hw576_3)⟩ (fun hHeld => ?_); refine with_tabW masterdiscref33_Join.tab9 masterdiscref33_Join.bits9 (fun HT_ HW_ => ?_)
                    generalize w18.drew = w19 at HO_3 HB GG15 HQ20 hf15_0 hf15_1 hf15_2 hf15_3 hx15_0 hx15_1 hx15_2 hx15_3 hx572_0 hx572_1 hx572_2 hx572_3 hx575_0 hx575_1 hx575_2 hx575_3 hx576_0 hx576_1 hx576_2 hx576_3 hHeld ⊢
                    refine pure_ (i := 0) (N := some 32) (v := ?_) (a' := ?_) #[true, false, false, false, false, false, false, false, false, false, false, false, false, false, false] rfl rfl (any_of HT_.out (by kernel_rfl)) (fun _ _ _ h => h) (Or.inl ⟨by rfl, ?_⟩) ?_ ?_
                    rotate_left
                    · intro w'
                      go_simp
                      with_reducible rfl
                    rotate_left
                    · simp only [Act.put, List.setIfInBounds_toArray, List.set_cons_zero, List.set_cons_succ, i64_w, i32_w]
                      rfl
                    refine pure_ (i := 1) (N := some 33) (v := ?_) (a' := ?_) #[true, true, false, false, false, false, false, false, false, false, false, false, false, false, false] rfl rfl (any_of HT_.out (by kernel_rfl)) (fun _ _ _ h => h) (Or.inl ⟨by rfl, ?_⟩) ?_ ?_
                    rotate_left
                    · intro w'
                      go_simp
                      with_reducible rfl
                    rotate_left
                    · simp only [Act.put, List.setIfInBounds_toArray, List.set_cons_zero, List.set_cons_succ, i64_w, i32_w]
                      rfl
                    refine pure_ (i := 2) (N := some 34) (v := ?_) (a' := ?_) #[true, true, true, false, false, false, false, false, false, false, false, false, false, false, false] rfl rfl (any_of HT_.out (by kernel_rfl)) (fun _ _ _ h => h) (Or.inl ⟨by rfl, ?_⟩) ?_ ?_
                    rotate_left
                    · intro w'
                      go_simp
                      with_reducible rfl
                    rotate_left
                    · simp only [Act.put, List.setIfInBounds_toArray, List.set_cons_zero, List.set_cons_succ, i64_w, i32_w]
                      rfl
                    refine pure_ (i := 3) (N := some 35) (v := ?_) (a' := ?_) #[true, true, true, true, false, false, false, false, false, false, false, false, false, false, false] rfl rfl (any_of HT_.out (by kernel_rfl)) (fun _ _ _ h => h) (Or.inl ⟨by rfl, ?_⟩) ?_ ?_
                    rotate_left
                    · intro w'
                      go_simp
                      with_reducible rfl
                    rotate_left
                    · simp only [Act.put, List.setIfInBounds_toArray, List.set_cons_zero, List.set_cons_succ, i64_w, i32_w]
                      rfl
                    refine pure_ (i := 4) (N := some 36) (v := ?_) (a' := ?_) #[true, true, true, true, true, false, false, false, false, false, false, false, false, false, false] rfl rfl (any_of HT_.out (by kernel_rfl)) (fun _ _ _ h => h) (Or.inl ⟨by rfl, ?_⟩) ?_ ?_
                    rotate_left
                    · intro w'
                      go_simp
                      with_reducible rfl
                    rotate_left
                    · simp only [Act.put, List.setIfInBounds_toArray, List.set_cons_zero, List.set_cons_succ, i64_w, i32_w]
                      rfl
                    refine pure_ (i := 6) (N := some 38) (v := ?_) (a' := ?_) #[true, true, true, true, true, false, true, false, false, false, false, false, false, false, false] rfl rfl (any_of HT_.out (by kernel_rfl)) (fun _ _ _ h => h) (Or.inl ⟨by rfl, ?_⟩) ?_ ?_
                    rotate_left
                    · intro w'
                      go_simp
                      with_reducible rfl
                    rotate_left
                    · simp only [Act.put, List.setIfInBounds_toArray, List.set_cons_zero, List.set_cons_succ, i64_w, i32_w]
                      rfl
                    refine pure_ (i := 7) (N := some 39) (v := ?_) (a' := ?_) #[true, true, true, true, true, false, true, true, false, false, false, false, false, false, false] rfl rfl (any_of HT_.out (by kernel_rfl)) (fun _ _ _ h => h) (Or.inl ⟨by rfl, ?_⟩) ?_ ?_
                    rotate_left
                    · intro w'
                      go_simp
                      with_reducible rfl
                    rotate_left
                    · simp only [Act.put, List.setIfInBounds_toArray, List.set_cons_zero, List.set_cons_succ, i64_w, i32_w]
                      rfl
                    refine pure_ (i := 8) (N := some 40) (v := ?_) (a' := ?_) #[true, true, true, true, true, false, true, true, true, false, false, false, false, false, false] rfl rfl (any_of HT_.out (by kernel_rfl)) (fun _ _ _ h => h) (Or.inl ⟨by rfl, ?_⟩) ?_ ?_
                    rotate_left
                    · intro w'
                      go_simp
                      with_reducible rfl
                    rotate_left
                    · simp only [Act.put, List.setIfInBounds_toArray, List.set_cons_zero, List.set_cons_succ, i64_w, i32_w]
                      rfl
                    refine pure_ (i := 9) (N := some 41) (v := ?_) (a' := ?_) #[true, true, true, true, true, false, true, true, true, true, false, false, false, false, false] rfl rfl (any_of HT_.out (by kernel_rfl)) (fun _ _ _ h => h) (Or.inl ⟨by rfl, ?_⟩) ?_ ?_
                    rotate_left
                    · intro w'
                      go_simp
                      with_reducible rfl
                    rotate_left
                    · simp only [Act.put, List.setIfInBounds_toArray, List.set_cons_zero, List.set_cons_succ, i64_w, i32_w]
                      rfl
                    refine take_ (i := 5) (N := some 37) (v := ?_) (a' := ?_) #[true, true, true, true, true, true, true, true, true, true, false, false, false, false, false] rfl rfl (take_ofW HT_.out HW_.out (by kernel_rfl)) (fun _ _ _ h => h) (Or.inl ⟨by rfl, ?_⟩) hHeld ?_ ?_
                    rotate_left
                    · rintro w' ⟨s0, s1, s2, s3, s4, s5, s6, s7⟩
                      go_simp
                      with_reducible rfl
                    rotate_left
                    · simp only [Act.put, List.setIfInBounds_toArray, List.set_cons_zero, List.set_cons_succ, i64_w, i32_w]
                      rfl
                    refine take_ (i := 10) (N := some 42) (v := ?_) (a' := ?_) #[true, true, true, true, true, true, true, true, true, true, true, false, false, false, false] rfl rfl (take_ofW HT_.out HW_.out (by kernel_rfl)) (fun _ _ _ h => h) (Or.inl ⟨by rfl, ?_⟩) hHeld ?_ ?_
                    rotate_left
                    · rintro w' ⟨s0, s1, s2, s3, s4, s5, s6, s7⟩
                      go_simp
                      with_reducible rfl
                    rotate_left
                    · simp only [Act.put, List.setIfInBounds_toArray, List.set_cons_zero, List.set_cons_succ, i64_w, i32_w]
                      rfl
                    refine pure_ (i := 11) (N := some 43) (v := ?_) (a' := ?_) #[true, true, true, true, true, true, true, true, true, true, true, true, false, false, false] rfl rfl (any_of HT_.out (by kernel_rfl)) (fun _ _ _ h => h) (Or.inl ⟨by rfl, ?_⟩) ?_ ?_
                    rotate_left
                    · intro w'
                      go_simp
                      with_reducible rfl
                    rotate_left
                    · simp only [Act.put, List.setIfInBounds_toArray, List.set_cons_zero, List.set_cons_succ, i64_w, i32_w]
                      rfl
                    refine pure_ (i := 12) (N := some 44) (v := ?_) (a' := ?_) #[true, true, true, true, true, true, true, true, true, true, true, true, true, false, false] rfl rfl (any_of HT_.out (by kernel_rfl)) (fun _ _ _ h => h) (Or.inl ⟨by rfl, ?_⟩) ?_ ?_
                    rotate_left
                    · intro w'
                      go_simp
                      with_reducible rfl
                    rotate_left
                    · simp only [Act.put, List.setIfInBounds_toArray, List.set_cons_zero, List.set_cons_succ, i64_w, i32_w]
                      rfl
                    refine pure_ (i := 13) (N := some 45) (v := ?_) (a' := ?_) #[true, true, true, true, true, true, true, true, true, true, true, true, true, true, false] rfl rfl (any_of HT_.out (by kernel_rfl)) (fun _ _ _ h => h) (Or.inl ⟨by rfl, ?_⟩) ?_ ?_
                    rotate_left
                    · intro w'
                      go_simp
                      with_reducible rfl
                    rotate_left
                    · simp only [Act.put, List.setIfInBounds_toArray, List.set_cons_zero, List.set_cons_succ, i64_w, i32_w]
                      rfl
                    refine last_ (i := 14) (N := none) #[true, true, true, true, true, true, true, true, true, true, true, true, true, true, true] rfl rfl (one_of HT_.out (by kernel_rfl)) (by decide) (fun K hK => ?_)
                    refine skip_ (w1 := ?_) (by rfl) rfl ?_ ?_
                    rotate_left
                    · go_simp
                      rfl
                    refine hK.out _ _ ?_
                    clear hK K
                    refine done_ (done_of HT_.out (by kernel_rfl)) ?_
                    try go_wp2
                    go_roundg k1
                    case measure => have := HK1.out; omega
                    case rel => exact ⟨(y577), (wrap64 (x4_1 + 1)), (by first | rfl | (simp; done) | (simp [*]; done)), H', ⟨by have := HK1.out; omega⟩, ⟨by (with_reducible repeat (first | apply Kd.R_alloc | apply Kd.R_drewN | apply Kd.R_drew)); exact HQ20.out⟩, ⟨by repeat (first | (with_reducible first | exact HB.out | apply below_alloc | apply pw_below_drewN | apply below_drew1 | refine below_set ?_ GB15.out) | exact HB.out)⟩⟩
                  · replace c14 := Bool.eq_false_iff.mpr c14
                    subst c14
                    have H1 : (if x3_1.length < 4398046511104 then (masterdiscref33_Join.l0 k1 l0 (x3_1 ++ [(⟨(rd_T46 l0 x4_1).f0, (rd_T46 l0 x4_1).f1, (⟨(rd_T46 l0 x4_1).f2.f0, (rd_T46 l0 x4_1).f2.f1⟩ : S44)⟩ : S46)]) (wrap64 (x4_1 + 1))) else (none)) = some r := by rw [if_neg (show ¬ (false = true) by decide)] at H; exact H
                    clear H
                    have H := H1
                    clear H1
                    by_cases c21 : x3_1.length < 4398046511104
                    · rw [if_pos c21] at H
                      have LMc21 := Aside0.mk c21
                      clear c21
                      obtain ⟨y579, hy579⟩ : ∃ y_ : List (S46), y_ = (x3_1 ++ [(⟨(rd_T46 l0 x4_1).f0, (rd_T46 l0 x4_1).f1, (⟨(rd_T46 l0 x4_1).f2.f0, (rd_T46 l0 x4_1).f2.f1⟩ : S44)⟩ : S46)]) := ⟨_, rfl⟩
                      replace H : (masterdiscref33_Join.l0 k1 l0 y579 (wrap64 (x4_1 + 1))) = some r := by first | (rw [hy579]; with_reducible exact H) | (have H2_ := (Option.bind_some _ _).symm.trans H; rw [hy579]; with_reducible exact H2_) | (have H2_ := (Option.bind_some _ _).symm.trans H; with_reducible exact H2_) | with_reducible exact H | (rw [hy579]; exact H) | exact H
                      have Ny579 := Aside0.mk hy579
                      clear hy579
                      have H' := Aside0.mk H
                      clear H
                      obtain ⟨Ao22, co22, eo22⟩ := Kd.R_slice HO_3.out
                      subst eo22
                      try go_wp2
                      have n0_ := Aside0.mk (Kd.R_drew HO_3.out)
                      have n1_ := Aside0.mk (below_drew1 HB.out)
                      clear HO_3
                      clear HB
                      have HO_3 := n0_
                      have HB := n1_
                      clear n0_ n1_
                      have p572 : 0 ≤ ((ji9) : Int) := of_decide_eq_true (by first | (with_reducible assumption) | assumption)
                      have q572 : (ji9) < (x3_1.length : Int) := of_decide_eq_true (by first | (with_reducible assumption) | assumption)
                      obtain ⟨ad572, e572, hx572_0, hx572_1, hx572_2, hx572_3⟩ := at_T46 (Kd.R_reads' HO_3.out).2.2 (ji9) p572 q572
                      cases e572
                      replace p572 := eq_true p572
                      replace q572 := eq_true q572
                      have p573 : 0 ≤ (x4_1 : Int) := of_decide_eq_true (by first | (with_reducible assumption) | assumption)
                      have q573 : x4_1 < (l0.length : Int) := of_decide_eq_true (by first | (with_reducible assumption) | assumption)
                      obtain ⟨ad573, e573, hx573_0, hx573_1, hx573_2, hx573_3⟩ := at_T46 HR0.out x4_1 p573 q573
                      have hw573_3 := hx573_3
                      have hw573_2 := hx573_2
                      have hw573_1 := hx573_1
                      have hw573_0 := hx573_0
                      cases e573
                      replace hx573_0 := (HB.out.cell (World.block_lt_of_cell? w _ hx573_0)).trans hx573_0
                      replace hx573_1 := (HB.out.cell (World.block_lt_of_cell? w _ hx573_1)).trans hx573_1
                      replace hx573_2 := (HB.out.cell (World.block_lt_of_cell? w _ hx573_2)).trans hx573_2
                      replace hx573_3 := (HB.out.cell (World.block_lt_of_cell? w _ hx573_3)).trans hx573_3
                      replace p573 := eq_true p573
                      replace q573 := eq_true q573
                      refine start_ (n := 14) (S := fun w' => w'.cell? (ad572.add (((ji9)).toNat * 4)) = some (.int .i64 ((rd_T46 x3_1 (ji9)).f0)) ∧ w'.cell? ⟨(ad572.add (((ji9)).toNat * 4)).block, (ad572.add (((ji9)).toNat * 4)).off + 1, none⟩ = some (.int .i64 ((rd_T46 x3_1 (ji9)).f1)) ∧ w'.cell? ⟨(ad572.add (((ji9)).toNat * 4)).block, (ad572.add (((ji9)).toNat * 4)).off + 2, none⟩ = some (.int .i64 ((rd_T46 x3_1 (ji9)).f2.f0)) ∧ w'.cell? ⟨(ad572.add (((ji9)).toNat * 4)).block, (ad572.add (((ji9)).toNat * 4)).off + 3, none⟩ = some (.int .i64 ((rd_T46 x3_1 (ji9)).f2.f1)) ∧ w'.cell? (ad573.add ((x4_1).toNat * 4)) = some (.int .i64 ((rd_T46 l0 x4_1).f0)) ∧ w'.cell? ⟨(ad573.add ((x4_1).toNat * 4)).block, (ad573.add ((x4_1).toNat * 4)).off + 1, none⟩ = some (.int .i64 ((rd_T46 l0 x4_1).f1)) ∧ w'.cell? ⟨(ad573.add ((x4_1).toNat * 4)).block, (ad573.add ((x4_1).toNat * 4)).off + 2, none⟩ = some (.int .i64 ((rd_T46 l0 x4_1).f2.f0)) ∧ w'.cell? ⟨(ad573.add ((x4_1).toNat * 4)).block, (ad573.add ((x4_1).toNat * 4)).off + 3, none⟩ = some (.int .i64 ((rd_T46 l0 x4_1).f2.f1))) (ds := []) #[false, false, false, false, false, false, false, false, false, false, false, false, false, false] (by kernel_rfl) rfl rfl ⟨hx572_0, hx572_1, hx572_2, hx572_3, ((HB.out.cell (World.block_lt_of_cell? w _ hw573_0)).trans hw573_0), ((HB.out.cell (World.block_lt_of_cell? w _ hw573_1)).trans hw573_1), ((HB.out.cell (World.block_lt_of_cell? w _ hw573_2)).trans hw573_2), ((HB.out.cell (World.block_lt_of_cell? w _ hw573_3)).trans hw573_3)⟩ (fun hHeld => ?_); refine with_tabW masterdiscref33_Join.tab8 masterdiscref33_Join.bits8 (fun HT_ HW_ => ?_)
                      generalize wr.drew = w23 at HO_3 HB hx572_0 hx572_1 hx572_2 hx572_3 hx573_0 hx573_1 hx573_2 hx573_3 hHeld ⊢
                      refine pure_ (i := 0) (N := some 18) (v := ?_) (a' := ?_) #[true, false, false, false, false, false, false, false, false, false, false, false, false, false] rfl rfl (any_of HT_.out (by kernel_rfl)) (fun _ _ _ h => h) (Or.inl ⟨by rfl, ?_⟩) ?_ ?_
                      rotate_left
                      · intro w'
                        go_simp
                        with_reducible rfl
                      rotate_left
                      · simp only [Act.put, List.setIfInBounds_toArray, List.set_cons_zero, List.set_cons_succ, i64_w, i32_w]
                        rfl
                      refine pure_ (i := 1) (N := some 19) (v := ?_) (a' := ?_) #[true, true, false, false, false, false, false, false, false, false, false, false, false, false] rfl rfl (any_of HT_.out (by kernel_rfl)) (fun _ _ _ h => h) (Or.inl ⟨by rfl, ?_⟩) ?_ ?_
                      rotate_left
                      · intro w'
                        go_simp
                        with_reducible rfl
                      rotate_left
                      · simp only [Act.put, List.setIfInBounds_toArray, List.set_cons_zero, List.set_cons_succ, i64_w, i32_w]
                        rfl
                      refine pure_ (i := 2) (N := some 20) (v := ?_) (a' := ?_) #[true, true, true, false, false, false, false, false, false, false, false, false, false, false] rfl rfl (any_of HT_.out (by kernel_rfl)) (fun _ _ _ h => h) (Or.inl ⟨by rfl, ?_⟩) ?_ ?_
                      rotate_left
                      · intro w'
                        go_simp
                        with_reducible rfl
                      rotate_left
                      · simp only [Act.put, List.setIfInBounds_toArray, List.set_cons_zero, List.set_cons_succ, i64_w, i32_w]
                        rfl
                      refine pure_ (i := 3) (N := some 21) (v := ?_) (a' := ?_) #[true, true, true, true, false, false, false, false, false, false, false, false, false, false] rfl rfl (any_of HT_.out (by kernel_rfl)) (fun _ _ _ h => h) (Or.inl ⟨by rfl, ?_⟩) ?_ ?_
                      rotate_left
                      · intro w'
                        go_simp
                        with_reducible rfl
                      rotate_left
                      · simp only [Act.put, List.setIfInBounds_toArray, List.set_cons_zero, List.set_cons_succ, i64_w, i32_w]
                        rfl
                      refine pure_ (i := 4) (N := some 22) (v := ?_) (a' := ?_) #[true, true, true, true, true, false, false, false, false, false, false, false, false, false] rfl rfl (any_of HT_.out (by kernel_rfl)) (fun _ _ _ h => h) (Or.inl ⟨by rfl, ?_⟩) ?_ ?_
                      rotate_left
                      · intro w'
                        go_simp
                        with_reducible rfl
                      rotate_left
                      · simp only [Act.put, List.setIfInBounds_toArray, List.set_cons_zero, List.set_cons_succ, i64_w, i32_w]
                        rfl
                      refine pure_ (i := 5) (N := some 23) (v := ?_) (a' := ?_) #[true, true, true, true, true, true, false, false, false, false, false, false, false, false] rfl rfl (any_of HT_.out (by kernel_rfl)) (fun _ _ _ h => h) (Or.inl ⟨by rfl, ?_⟩) ?_ ?_
                      rotate_left
                      · intro w'
                        go_simp
                        with_reducible rfl
                      rotate_left
                      · simp only [Act.put, List.setIfInBounds_toArray, List.set_cons_zero, List.set_cons_succ, i64_w, i32_w]
                        rfl
                      refine pure_ (i := 6) (N := some 24) (v := ?_) (a' := ?_) #[true, true, true, true, true, true, true, false, false, false, false, false, false, false] rfl rfl (any_of HT_.out (by kernel_rfl)) (fun _ _ _ h => h) (Or.inl ⟨by rfl, ?_⟩) ?_ ?_
                      rotate_left
                      · intro w'
                        go_simp
                        with_reducible rfl
                      rotate_left
                      · simp only [Act.put, List.setIfInBounds_toArray, List.set_cons_zero, List.set_cons_succ, i64_w, i32_w]
                        rfl
                      refine pure_ (i := 8) (N := some 26) (v := ?_) (a' := ?_) #[true, true, true, true, true, true, true, false, true, false, false, false, false, false] rfl rfl (any_of HT_.out (by kernel_rfl)) (fun _ _ _ h => h) (Or.inl ⟨by rfl, ?_⟩) ?_ ?_
                      rotate_left
                      · intro w'
                        go_simp
                        with_reducible rfl
                      rotate_left
                      · simp only [Act.put, List.setIfInBounds_toArray, List.set_cons_zero, List.set_cons_succ, i64_w, i32_w]
                        rfl
                      refine pure_ (i := 9) (N := some 27) (v := ?_) (a' := ?_) #[true, true, true, true, true, true, true, false, true, true, false, false, false, false] rfl rfl (any_of HT_.out (by kernel_rfl)) (fun _ _ _ h => h) (Or.inl ⟨by rfl, ?_⟩) ?_ ?_
                      rotate_left
                      · intro w'
                        go_simp
                        with_reducible rfl
                      rotate_left
                      · simp only [Act.put, List.setIfInBounds_toArray, List.set_cons_zero, List.set_cons_succ, i64_w, i32_w]
                        rfl
                      refine pure_ (i := 10) (N := some 28) (v := ?_) (a' := ?_) #[true, true, true, true, true, true, true, false, true, true, true, false, false, false] rfl rfl (any_of HT_.out (by kernel_rfl)) (fun _ _ _ h => h) (Or.inl ⟨by rfl, ?_⟩) ?_ ?_
                      rotate_left
                      · intro w'
                        go_simp
                        with_reducible rfl
                      rotate_left
                      · simp only [Act.put, List.setIfInBounds_toArray, List.set_cons_zero, List.set_cons_succ, i64_w, i32_w]
                        rfl
                      refine take_ (i := 7) (N := some 25) (v := ?_) (a' := ?_) #[true, true, true, true, true, true, true, true, true, true, true, false, false, false] rfl rfl (take_ofW HT_.out HW_.out (by kernel_rfl)) (fun _ _ _ h => h) (Or.inl ⟨by rfl, ?_⟩) hHeld ?_ ?_
                      rotate_left
                      · rintro w' ⟨s0, s1, s2, s3, s4, s5, s6, s7⟩
                        go_simp
                        with_reducible rfl
                      rotate_left
                      · simp only [Act.put, List.setIfInBounds_toArray, List.set_cons_zero, List.set_cons_succ, i64_w, i32_w]
                        rfl
                      refine take_ (i := 11) (N := some 29) (v := ?_) (a' := ?_) #[true, true, true, true, true, true, true, true, true, true, true, true, false, false] rfl rfl (take_ofW HT_.out HW_.out (by kernel_rfl)) (fun _ _ _ h => h) (Or.inl ⟨by rfl, ?_⟩) hHeld ?_ ?_
                      rotate_left
                      · rintro w' ⟨s0, s1, s2, s3, s4, s5, s6, s7⟩
                        go_simp
                        with_reducible rfl
                      rotate_left
                      · simp only [Act.put, List.setIfInBounds_toArray, List.set_cons_zero, List.set_cons_succ, i64_w, i32_w]
                        rfl
                      refine one_ (i := 12) (N := some 30) #[true, true, true, true, true, true, true, true, true, true, true, true, true, false] rfl rfl (one_of HT_.out (by kernel_rfl)) (by decide) (fun K hK => ?_)
                      refine goes_ Try.func121 (by kernel_rfl) rfl #[.agg #[.int .i64 ((rd_T46 x3_1 (ji9)).f0), .int .i64 ((rd_T46 x3_1 (ji9)).f1), .int .i64 ((rd_T46 x3_1 (ji9)).f2.f0), .int .i64 ((rd_T46 x3_1 (ji9)).f2.f1)], .agg #[.int .i64 ((rd_T46 l0 x4_1).f0), .int .i64 ((rd_T46 l0 x4_1).f1), .int .i64 ((rd_T46 l0 x4_1).f2.f0), .int .i64 ((rd_T46 l0 x4_1).f2.f1)]] (by rfl) rfl rfl (by (try simp only [List.map_toArray, List.map_cons, List.map_nil]); first | done | (simp only [hji9]; rfl) | rfl | (simp only [List.length_drop, List.length_take]; rfl)) ?_
                      with_reducible refine (masterdiscref33_joins.calls ((rd_T46 x3_1 (ji9)).f0) ((rd_T46 x3_1 (ji9)).f1) ((rd_T46 x3_1 (ji9)).f2.f0) ((rd_T46 x3_1 (ji9)).f2.f1) ((rd_T46 l0 x4_1).f0) ((rd_T46 l0 x4_1).f1) ((rd_T46 l0 x4_1).f2.f0) ((rd_T46 l0 x4_1).f2.f1) false _ A13.out).mono ?_
                      rintro e w24 ⟨rfl, hb⟩
                      have HS0_ := (hb.cell (World.block_lt_of_cell? _ _ (hHeld.1))).trans (hHeld.1)
                      have HS1_ := (hb.cell (World.block_lt_of_cell? _ _ (hHeld.2.1))).trans (hHeld.2.1)
                      have HS2_ := (hb.cell (World.block_lt_of_cell? _ _ (hHeld.2.2.1))).trans (hHeld.2.2.1)
                      have HS3_ := (hb.cell (World.block_lt_of_cell? _ _ (hHeld.2.2.2.1))).trans (hHeld.2.2.2.1)
                      refine ⟨_, rfl, ?_⟩
                      have n0_ := Aside0.mk (Kd.R_below (by (with_reducible repeat (first | apply Kd.R_alloc | apply Kd.R_drewN | apply Kd.R_drew)); exact HO_3.out) hb)
                      have n1_ := Aside0.mk (below_step (by repeat (first | (with_reducible first | exact HB.out | apply below_alloc | apply pw_below_drewN | apply below_drew1) | exact HB.out)) hb)
                      clear HO_3
                      clear HB
                      have HO_3 := n0_
                      have HB := n1_
                      clear n0_ n1_
                      (try clear hb)
                      (try clear hb2)
                      (try clear hk)
                      (try clear hi)
                      refine hK.out _ _ ⟨HS0_, HS1_, HS2_, HS3_, ((HB.out.cell (World.block_lt_of_cell? w _ hw573_0)).trans hw573_0), ((HB.out.cell (World.block_lt_of_cell? w _ hw573_1)).trans hw573_1), ((HB.out.cell (World.block_lt_of_cell? w _ hw573_2)).trans hw573_2), ((HB.out.cell (World.block_lt_of_cell? w _ hw573_3)).trans hw573_3)⟩ (fun hHeld => ?_)
                      clear hK K
                      refine norm_ (a' := ?_) ?_ ?_
                      rotate_left
                      · show Act.put _ (some 30) _ = _
                        simp only [Act.put, List.setIfInBounds_toArray, List.set_cons_zero, List.set_cons_succ, i64_w, i32_w]
                        rfl
                      refine pure_ (i := 13) (N := some 31) (v := ?_) (a' := ?_) #[true, true, true, true, true, true, true, true, true, true, true, true, true, true] rfl rfl (any_of HT_.out (by kernel_rfl)) (fun _ _ _ h => h) (Or.inl ⟨by rfl, ?_⟩) ?_ ?_
                      rotate_left
                      · intro w'
                        go_simp
                        with_reducible rfl
                      rotate_left
                      · simp only [Act.put, List.setIfInBounds_toArray, List.set_cons_zero, List.set_cons_succ, i64_w, i32_w]
                        rfl
                      refine done_ (done_of HT_.out (by kernel_rfl)) ?_
                      have p578 : 0 ≤ (x4_1 : Int) := of_decide_eq_true (by first | (with_reducible assumption) | assumption)
                      have q578 : x4_1 < (l0.length : Int) := of_decide_eq_true (by first | (with_reducible assumption) | assumption)
                      obtain ⟨ad578, e578, hx578_0, hx578_1, hx578_2, hx578_3⟩ := at_T46 HR0.out x4_1 p578 q578
                      obtain rfl : ad573 = ad578 := (by injection e578)
                      replace hx578_0 := (HB.out.cell (World.block_lt_of_cell? w _ hx578_0)).trans hx578_0
                      replace hx578_1 := (HB.out.cell (World.block_lt_of_cell? w _ hx578_1)).trans hx578_1
                      replace hx578_2 := (HB.out.cell (World.block_lt_of_cell? w _ hx578_2)).trans hx578_2
                      replace hx578_3 := (HB.out.cell (World.block_lt_of_cell? w _ hx578_3)).trans hx578_3
                      replace p578 := eq_true p578
                      replace q578 := eq_true q578
                      try go_wp2_with (first | ((with_reducible refine gate_builtin (b := .append) (xs := #[.tmp 46, .tmp 51]) rfl ?_); at_builtin; refine Kd.R_append k46 (w0 := w) w.heap.size rfl (.tmp 46) (.tmp 51) 37 46 (.agg #[(.int .i64 0), (.int .i64 0), (.int .i64 0), (.int .i64 0)]) 32 rfl Try.underlying37 info46 rfl (by decide) (by omega) (.slice (some ad572) x3_1.length co22) x3_1 (⟨(rd_T46 l0 x4_1).f0, (rd_T46 l0 x4_1).f1, (⟨(rd_T46 l0 x4_1).f2.f0, (rd_T46 l0 x4_1).f2.f1⟩ : S44)⟩ : S46) [.int .i64 ((rd_T46 l0 x4_1).f0), .int .i64 ((rd_T46 l0 x4_1).f1), .int .i64 ((rd_T46 l0 x4_1).f2.f0), .int .i64 ((rd_T46 l0 x4_1).f2.f1)] (fun _ => True) (fun _ => False) rfl rfl ?aP (fun _ hk => hk.elim) ?aF ?aO ?aB ?aS ?aL ?_; (case aP => exact k46_mkM _ _ _ (⟨(rd_T46 l0 x4_1).f0, (rd_T46 l0 x4_1).f1, (⟨(rd_T46 l0 x4_1).f2.f0, (rd_T46 l0 x4_1).f2.f1⟩ : S44)⟩ : S46)); (case aB => exact (by repeat (first | (with_reducible first | exact HB.out | apply below_alloc | apply pw_below_drewN | apply below_drew1) | exact HB.out))); (case aF => exact (fun _ _ => trivial)); (case aO => exact (by (with_reducible repeat (first | apply Kd.R_alloc | apply Kd.R_drewN | apply Kd.R_drew)); exact HO_3.out)); (case aS => exact (below_size (by repeat (first | (with_reducible first | exact HB.out | apply below_alloc | apply pw_below_drewN | apply below_drew1) | exact HB.out)))); (case aL => have := LMc21.out; omega); intro v580 w25 ho hb hg hat; rw [← Ny579.out] at ho; have n0_ := Aside0.mk (hb); have n1_ := Aside0.mk (ho); clear HB; clear HO_3; have HB := n0_; have HO581 := n1_; clear n0_ n1_; clear ho hb hg hat))
                      go_roundg k1
                      case measure => have := HK1.out; omega
                      case rel => exact ⟨(y579), (wrap64 (x4_1 + 1)), (by first | rfl | (simp; done) | (simp [*]; done)), H', ⟨by have := HK1.out; omega⟩, ⟨by (with_reducible repeat (first | apply Kd.R_alloc | apply Kd.R_drewN | apply Kd.R_drew)); exact HO581.out⟩, ⟨by repeat (first | (with_reducible first | exact HB.out | apply below_alloc | apply pw_below_drewN | apply below_drew1) | exact HB.out)⟩⟩
                    · rw [if_neg c21] at H
                      exact absurd H (by simp)
                · rw [if_neg c12] at H
                  exact absurd H (by simp)
              · rw [if_neg c11] at H
                exact absurd H (by simp)
            · rw [if_neg c10] at H
              exact absurd H (by simp)
          · rw [if_neg c8] at H
            have c8b0 : decide (0 < (x3_1.length : Int)) = false := decide_eq_false c8
            have c8b1 : decide (0 < x3_1.length) = false := decide_eq_false (by omega)
            clear c8
            by_cases c26 : 0 ≤ x4_1
            · rw [if_pos c26] at H
              have c26b0 : decide (0 ≤ x4_1) = true := decide_eq_true c26
              clear c26
              by_cases c27 : x3_1.length < 4398046511104
              · rw [if_pos c27] at H
                have LMc27 := Aside0.mk c27
                clear c27
                obtain ⟨y583, hy583⟩ : ∃ y_ : List (S46), y_ = (x3_1 ++ [(⟨(rd_T46 l0 x4_1).f0, (rd_T46 l0 x4_1).f1, (⟨(rd_T46 l0 x4_1).f2.f0, (rd_T46 l0 x4_1).f2.f1⟩ : S44)⟩ : S46)]) := ⟨_, rfl⟩
                replace H : (masterdiscref33_Join.l0 k1 l0 y583 (wrap64 (x4_1 + 1))) = some r := by first | (rw [hy583]; with_reducible exact H) | (have H2_ := (Option.bind_some _ _).symm.trans H; rw [hy583]; with_reducible exact H2_) | (have H2_ := (Option.bind_some _ _).symm.trans H; with_reducible exact H2_) | with_reducible exact H | (rw [hy583]; exact H) | exact H
                have Ny583 := Aside0.mk hy583
                clear hy583
                have H' := Aside0.mk H
                clear H
                obtain ⟨Ao28, co28, eo28⟩ := Kd.R_slice HO_3.out
                subst eo28
                try go_wp2
                have n0_ := Aside0.mk (Kd.R_drew HO_3.out)
                have n1_ := Aside0.mk (below_drew1 HB.out)
                clear HO_3
                clear HB
                have HO_3 := n0_
                have HB := n1_
                clear n0_ n1_
                refine start_ (n := 14) (S := fun w' => True) (ds := []) #[false, false, false, false, false, false, false, false, false, false, false, false, false, false] (by kernel_rfl) rfl rfl trivial (fun hHeld => ?_); refine with_tabW masterdiscref33_Join.tab8 masterdiscref33_Join.bits8 (fun HT_ HW_ => ?_)
                generalize wr.drew = w29 at HO_3 HB hHeld ⊢
                refine pure_ (i := 0) (N := some 18) (v := ?_) (a' := ?_) #[true, false, false, false, false, false, false, false, false, false, false, false, false, false] rfl rfl (any_of HT_.out (by kernel_rfl)) (fun _ _ _ h => h) (Or.inl ⟨by rfl, ?_⟩) ?_ ?_
                rotate_left
                · intro w'
                  go_simp
                  with_reducible rfl
                rotate_left
                · simp only [Act.put, List.setIfInBounds_toArray, List.set_cons_zero, List.set_cons_succ, i64_w, i32_w]
                  rfl
                refine pure_ (i := 1) (N := some 19) (v := ?_) (a' := ?_) #[true, true, false, false, false, false, false, false, false, false, false, false, false, false] rfl rfl (any_of HT_.out (by kernel_rfl)) (fun _ _ _ h => h) (Or.inl ⟨by rfl, ?_⟩) ?_ ?_
                rotate_left
                · intro w'
                  go_simp
                  with_reducible rfl
                rotate_left
                · simp only [Act.put, List.setIfInBounds_toArray, List.set_cons_zero, List.set_cons_succ, i64_w, i32_w]
                  rfl
                refine pure_ (i := 2) (N := some 20) (v := ?_) (a' := ?_) #[true, true, true, false, false, false, false, false, false, false, false, false, false, false] rfl rfl (any_of HT_.out (by kernel_rfl)) (fun _ _ _ h => h) (Or.inl ⟨by rfl, ?_⟩) ?_ ?_
                rotate_left
                · intro w'
                  go_simp
                  with_reducible rfl
                rotate_left
                · simp only [Act.put, List.setIfInBounds_toArray, List.set_cons_zero, List.set_cons_succ, i64_w, i32_w]
                  rfl
                refine pure_ (i := 3) (N := some 21) (v := undef) (a' := ?_) #[true, true, true, true, false, false, false, false, false, false, false, false, false, false] rfl rfl (any_of HT_.out (by kernel_rfl)) (fun _ _ _ h => h) (Or.inr ⟨by rfl, rfl⟩) ?_ ?_
                rotate_left
                · simp only [Act.put, List.setIfInBounds_toArray, List.set_cons_zero, List.set_cons_succ, i64_w, i32_w]
                  rfl
                refine pure_ (i := 4) (N := some 22) (v := undef) (a' := ?_) #[true, true, true, true, true, false, false, false, false, false, false, false, false, false] rfl rfl (any_of HT_.out (by kernel_rfl)) (fun _ _ _ h => h) (Or.inr ⟨by rfl, rfl⟩) ?_ ?_
                rotate_left
                · simp only [Act.put, List.setIfInBounds_toArray, List.set_cons_zero, List.set_cons_succ, i64_w, i32_w]
                  rfl
                refine pure_ (i := 5) (N := some 23) (v := undef) (a' := ?_) #[true, true, true, true, true, true, false, false, false, false, false, false, false, false] rfl rfl (any_of HT_.out (by kernel_rfl)) (fun _ _ _ h => h) (Or.inr ⟨by rfl, rfl⟩) ?_ ?_
                rotate_left
                · simp only [Act.put, List.setIfInBounds_toArray, List.set_cons_zero, List.set_cons_succ, i64_w, i32_w]
                  rfl
                refine pure_ (i := 6) (N := some 24) (v := undef) (a' := ?_) #[true, true, true, true, true, true, true, false, false, false, false, false, false, false] rfl rfl (any_of HT_.out (by kernel_rfl)) (fun _ _ _ h => h) (Or.inr ⟨by rfl, rfl⟩) ?_ ?_
                rotate_left
                · simp only [Act.put, List.setIfInBounds_toArray, List.set_cons_zero, List.set_cons_succ, i64_w, i32_w]
                  rfl
                refine pure_ (i := 7) (N := some 25) (v := undef) (a' := ?_) #[true, true, true, true, true, true, true, true, false, false, false, false, false, false] rfl rfl (any_of HT_.out (by kernel_rfl)) (fun _ _ _ h => h) (Or.inr ⟨by rfl, rfl⟩) ?_ ?_
                rotate_left
                · simp only [Act.put, List.setIfInBounds_toArray, List.set_cons_zero, List.set_cons_succ, i64_w, i32_w]
                  rfl
                refine pure_ (i := 8) (N := some 26) (v := undef) (a' := ?_) #[true, true, true, true, true, true, true, true, true, false, false, false, false, false] rfl rfl (any_of HT_.out (by kernel_rfl)) (fun _ _ _ h => h) (Or.inr ⟨by rfl, rfl⟩) ?_ ?_
                rotate_left
                · simp only [Act.put, List.setIfInBounds_toArray, List.set_cons_zero, List.set_cons_succ, i64_w, i32_w]
                  rfl
                refine pure_ (i := 9) (N := some 27) (v := undef) (a' := ?_) #[true, true, true, true, true, true, true, true, true, true, false, false, false, false] rfl rfl (any_of HT_.out (by kernel_rfl)) (fun _ _ _ h => h) (Or.inr ⟨by rfl, rfl⟩) ?_ ?_
                rotate_left
                · simp only [Act.put, List.setIfInBounds_toArray, List.set_cons_zero, List.set_cons_succ, i64_w, i32_w]
                  rfl
                refine pure_ (i := 10) (N := some 28) (v := undef) (a' := ?_) #[true, true, true, true, true, true, true, true, true, true, true, false, false, false] rfl rfl (any_of HT_.out (by kernel_rfl)) (fun _ _ _ h => h) (Or.inr ⟨by rfl, rfl⟩) ?_ ?_
                rotate_left
                · simp only [Act.put, List.setIfInBounds_toArray, List.set_cons_zero, List.set_cons_succ, i64_w, i32_w]
                  rfl
                refine pure_ (i := 11) (N := some 29) (v := undef) (a' := ?_) #[true, true, true, true, true, true, true, true, true, true, true, true, false, false] rfl rfl (any_of HT_.out (by kernel_rfl)) (fun _ _ _ h => h) (Or.inr ⟨by rfl, rfl⟩) ?_ ?_
                rotate_left
                · simp only [Act.put, List.setIfInBounds_toArray, List.set_cons_zero, List.set_cons_succ, i64_w, i32_w]
                  rfl
                refine pure_ (i := 12) (N := some 30) (v := undef) (a' := ?_) #[true, true, true, true, true, true, true, true, true, true, true, true, true, false] rfl rfl (any_of HT_.out (by kernel_rfl)) (fun _ _ _ h => h) (Or.inr ⟨by rfl, rfl⟩) ?_ ?_
                rotate_left
                · simp only [Act.put, List.setIfInBounds_toArray, List.set_cons_zero, List.set_cons_succ, i64_w, i32_w]
                  rfl
                refine pure_ (i := 13) (N := some 31) (v := ?_) (a' := ?_) #[true, true, true, true, true, true, true, true, true, true, true, true, true, true] rfl rfl (any_of HT_.out (by kernel_rfl)) (fun _ _ _ h => h) (Or.inl ⟨by rfl, ?_⟩) ?_ ?_
                rotate_left
                · intro w'
                  go_simp
                  with_reducible rfl
                rotate_left
                · simp only [Act.put, List.setIfInBounds_toArray, List.set_cons_zero, List.set_cons_succ, i64_w, i32_w]
                  rfl
                refine done_ (done_of HT_.out (by kernel_rfl)) ?_
                have p582 : 0 ≤ (x4_1 : Int) := of_decide_eq_true (by first | (with_reducible assumption) | assumption)
                have q582 : x4_1 < (l0.length : Int) := of_decide_eq_true (by first | (with_reducible assumption) | assumption)
                obtain ⟨ad582, e582, hx582_0, hx582_1, hx582_2, hx582_3⟩ := at_T46 HR0.out x4_1 p582 q582
                cases e582
                replace hx582_0 := (HB.out.cell (World.block_lt_of_cell? w _ hx582_0)).trans hx582_0
                replace hx582_1 := (HB.out.cell (World.block_lt_of_cell? w _ hx582_1)).trans hx582_1
                replace hx582_2 := (HB.out.cell (World.block_lt_of_cell? w _ hx582_2)).trans hx582_2
                replace hx582_3 := (HB.out.cell (World.block_lt_of_cell? w _ hx582_3)).trans hx582_3
                replace p582 := eq_true p582
                replace q582 := eq_true q582
                try go_wp2_with (first | ((with_reducible refine gate_builtin (b := .append) (xs := #[.tmp 46, .tmp 51]) rfl ?_); at_builtin; refine Kd.R_append k46 (w0 := w) w.heap.size rfl (.tmp 46) (.tmp 51) 37 46 (.agg #[(.int .i64 0), (.int .i64 0), (.int .i64 0), (.int .i64 0)]) 32 rfl Try.underlying37 info46 rfl (by decide) (by omega) (.slice Ao28 x3_1.length co28) x3_1 (⟨(rd_T46 l0 x4_1).f0, (rd_T46 l0 x4_1).f1, (⟨(rd_T46 l0 x4_1).f2.f0, (rd_T46 l0 x4_1).f2.f1⟩ : S44)⟩ : S46) [.int .i64 ((rd_T46 l0 x4_1).f0), .int .i64 ((rd_T46 l0 x4_1).f1), .int .i64 ((rd_T46 l0 x4_1).f2.f0), .int .i64 ((rd_T46 l0 x4_1).f2.f1)] (fun _ => True) (fun _ => False) rfl rfl ?aP (fun _ hk => hk.elim) ?aF ?aO ?aB ?aS ?aL ?_; (case aP => exact k46_mkM _ _ _ (⟨(rd_T46 l0 x4_1).f0, (rd_T46 l0 x4_1).f1, (⟨(rd_T46 l0 x4_1).f2.f0, (rd_T46 l0 x4_1).f2.f1⟩ : S44)⟩ : S46)); (case aB => exact (by repeat (first | (with_reducible first | exact HB.out | apply below_alloc | apply pw_below_drewN | apply below_drew1) | exact HB.out))); (case aF => exact (fun _ _ => trivial)); (case aO => exact (by (with_reducible repeat (first | apply Kd.R_alloc | apply Kd.R_drewN | apply Kd.R_drew)); exact HO_3.out)); (case aS => exact (below_size (by repeat (first | (with_reducible first | exact HB.out | apply below_alloc | apply pw_below_drewN | apply below_drew1) | exact HB.out)))); (case aL => have := LMc27.out; omega); intro v584 w30 ho hb hg hat; rw [← Ny583.out] at ho; have n0_ := Aside0.mk (hb); have n1_ := Aside0.mk (ho); clear HB; clear HO_3; have HB := n0_; have HO585 := n1_; clear n0_ n1_; clear ho hb hg hat))
                go_roundg k1
                case measure => have := HK1.out; omega
                case rel => exact ⟨(y583), (wrap64 (x4_1 + 1)), (by first | rfl | (simp; done) | (simp [*]; done)), H', ⟨by have := HK1.out; omega⟩, ⟨by (with_reducible repeat (first | apply Kd.R_alloc | apply Kd.R_drewN | apply Kd.R_drew)); exact HO585.out⟩, ⟨by repeat (first | (with_reducible first | exact HB.out | apply below_alloc | apply pw_below_drewN | apply below_drew1) | exact HB.out)⟩⟩
              · rw [if_neg c27] at H
                exact absurd H (by simp)
            · rw [if_neg c26] at H
              exact absurd H (by simp)
        · rw [if_neg c7] at H
          have c7b0 : decide (x4_1 < (l0.length : Int)) = false := decide_eq_false c7
          clear c7
          obtain rfl := Option.some.inj H
          go_wp2
          go_ret
          exact ⟨_, by first | rfl | (simp [errW_none, errW_some] <;> rfl) | (simp [*, errW_none, errW_some] <;> rfl), by (with_reducible repeat (first | apply Kd.R_alloc | apply Kd.R_drewN | apply Kd.R_drew)); exact HO_3.out, by repeat (first | (with_reducible first | exact HB.out | apply below_alloc | apply pw_below_drewN | apply below_drew1) | exact HB.out)⟩
  · replace c3 := Bool.eq_false_iff.mpr c3
    subst c3
    have H1 : (some ([] : List (S46))) = some r := by rw [if_neg (show ¬ (false = true) by decide)] at H; exact H
    clear H
    have H := H1
    clear H1
    obtain rfl := Option.some.inj H
    go_enter Try.func61, Try.ntmps61
    go_wp2_with (first | ((with_reducible refine gate_callee (f := 104) rfl ?_); refine goesL_ (some 7) rfl rfl Try.func104 (by kernel_rfl) rfl #[.slice A0 l0.length c0] rfl (by (try simp only [List.map_toArray, List.map_cons, List.map_nil]); first | done | rfl | (simp only [List.length_drop, List.length_take]; rfl)) ?_; (with_reducible refine (masterdiscref33_Formed.calls k _ _ l0 false _ ?side1 ?side2 A2.out).mono ?_); (case side1 => repeat (first | exact HR0.out | (with_reducible refine Kd.C_alloc ?_ _) | (with_reducible refine Kd.C_drewN ?_ _) | (with_reducible refine Kd.C_drew ?_))); (case side2 => exact HC0.out); rintro e w31 ⟨rfl, hb⟩; refine ⟨_, rfl, ?_⟩; have n0_ := Aside0.mk (below_step (by repeat (first | (with_reducible first | exact HB.out | apply below_alloc | apply pw_below_drewN | apply below_drew1) | exact HB.out)) hb); clear HB; have HB := n0_; clear n0_; (try clear hb); (try clear hb2); (try clear hk); (try clear hi)))
    go_ret
    exact ⟨_, by first | rfl | (simp [errW_none, errW_some] <;> rfl) | (simp [*, errW_none, errW_some] <;> rfl), by first | exact Kd.R_nil _ _ _ _ _ | exact Kd.N_nil _ _ _ _ _ | exact Kd.V_nil _ _ _ _ _ | exact Kd.Q_nil _ _ _ _ _ | exact Kd.S_nil _ _ _ _ _, by repeat (first | (with_reducible first | exact HB.out | apply below_alloc | apply pw_below_drewN | apply below_drew1) | exact HB.out)⟩

end Go.Proofs.Ytijbfebbogiiiaa.Q
