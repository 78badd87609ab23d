/- Contracts of Go functions: each call returns what the Lean function of its name says. Written by wip/gen.py (a patched print) for this claim. -/
import Derived.Test.YtijbfebbogiiiaaQ0
import Derived.Test.YtijbfebbogiiiaaQ16
import Derived.Test.YtijbfebbogiiiaaQ17
namespace Go.Proofs.Ytijbfebbogiiiaa.Q
open Go.RowKit Go.Proofs.YtijbfebbogiiiaaW.PrintWords Go.Proofs.YtijbfebbogiiiaaW.PrintLast Go.Proofs.YtijbfebbogiiiaaW.PrintMore
attribute [local go_sem] max2_int min2_int max_two min_two max_three min_three max_four min_four   -- for this text's walks alone
set_option linter.unusedVariables false
set_option linter.unusedSimpArgs false

/-! ### masterdiscref33_short: function 105 -/
def masterdiscref33_short.f (k : Nat) (a0_0 : Int) (a0_1 : Int) (a0_2 : Int) (a0_3 : Int) : Option (ByteArray) := (masterdiscref01_Bytes.f k (wrap64 (a0_1 + (wrap64 (a0_0 * 1073741824)))) 4).bind fun t298 => ((masterdiscref01_Bytes.f k a0_2 4).bind fun t299 => (if t298.size + t299.size ≤ 9223372036854775807 then (some (t298 ++ t299)) else (none)))
theorem masterdiscref33_short.mono : ∀ a0 a1 a2 a3 k, LeO (masterdiscref33_short.f k a0 a1 a2 a3) (masterdiscref33_short.f (k + 1) a0 a1 a2 a3) := by
  intro a0 a1 a2 a3 k
  unfold masterdiscref33_short.f
  repeat' first
      | (with_reducible exact masterdiscref01_Bytes.mono _ _ _)
      | (with_reducible exact LeO.refl _)
      | (with_reducible exact LeO.none _)
      | (with_reducible refine LeO.ite ?_ ?_)
      | (with_reducible refine LeO.bind ?_ (fun _ => ?_))
      | exact masterdiscref01_Bytes.mono _ _ _
      | exact LeO.none _
      | refine LeO.ite ?_ ?_
      | refine LeO.bind ?_ (fun _ => ?_)
def masterdiscref33_short.T1 : Bool × List (List Nat × List Nat) := (true, [([], []), ([0], [0]), ([], []), ([2], [2]), ([3], [3]), ([1, 4], [1, 4]), ([5], [5]), ([], []), ([7], [7]), ([8], [8]), ([9, 6], [9]), ([6, 10], [6, 10]), ([11, 10, 0, 1, 2, 3, 4, 5, 6, 7, 8, 9, 10, 11], [11])])
def masterdiscref33_short.B1 : List Nat := [0, 1, 0, 4, 12, 31, 63, 0, 128, 384, 1023, 2047, 4095]
theorem masterdiscref33_short.tab1 : rtab .any (opsOf Try.f105 1) = masterdiscref33_short.T1 := by kernel_rfl
theorem masterdiscref33_short.bits1 : waitsOk masterdiscref33_short.T1.2 masterdiscref33_short.B1 = true := by kernel_rfl
set_option maxHeartbeats 8000000 in
set_option maxRecDepth 100000 in
theorem masterdiscref33_short.calls (k : Nat) (a0_0 : Int) (a0_1 : Int) (a0_2 : Int) (a0_3 : Int) (r : ByteArray) (w : World) (h : masterdiscref33_short.f k a0_0 a0_1 a0_2 a0_3 = some r) :
    Calls Try.prog 105 #[.agg #[.int .i64 a0_0, .int .i64 a0_1, .int .i64 a0_2, .int .i64 a0_3]] w fun e w' => e = .returned (.string r) ∧ Below w.heap.size w w' := by
  have hu46 := Try.underlying46
  have HB := Aside0.mk (Below.refl w.heap.size w)
  have H : ((masterdiscref01_Bytes.f k (wrap64 (a0_1 + (wrap64 (a0_0 * 1073741824)))) 4).bind fun t298 => ((masterdiscref01_Bytes.f k a0_2 4).bind fun t299 => (if t298.size + t299.size ≤ 9223372036854775807 then (some (t298 ++ t299)) else (none)))) = some r := h
  clear h
  replace H := Option.bind_eq_some_iff.mp H
  obtain ⟨t298, A20, H⟩ := H
  replace H : ((masterdiscref01_Bytes.f k a0_2 4).bind fun t299 => (if t298.size + t299.size ≤ 9223372036854775807 then (some (t298 ++ t299)) else (none))) = some r := H
  have A2 := Aside0.mk A20
  clear A20
  replace H := Option.bind_eq_some_iff.mp H
  obtain ⟨t299, A30, H⟩ := H
  replace H : (if t298.size + t299.size ≤ 9223372036854775807 then (some (t298 ++ t299)) else (none)) = some r := H
  have A3 := Aside0.mk A30
  clear A30
  by_cases c4 : t298.size + t299.size ≤ 9223372036854775807
  · rw [if_pos c4] at H
    have c4b0 := eq_true c4
    have c4b1 : decide (t298.size + t299.size ≤ 9223372036854775807) = true := decide_eq_true c4
    try have c4b2 : (9223372036854775807 < t298.size + t299.size) = False := eq_false (Nat.not_lt.2 c4)
    try (have c4b3 := c4b2; conv at c4b3 => lhs; simp [go_sem])
    obtain rfl := Option.some.inj H
    go_enter Try.func105, Try.ntmps105
    try go_wp2_with (first | ((with_reducible refine gate_dst (N := 1) rfl ?_); refine box_event ?hg (N := 1) ?hd (cs := #[.int .i64 a0_0, .int .i64 a0_1, .int .i64 a0_2, .int .i64 a0_3]) (t := 46) ?hr ?_; (case hd => rfl); (case hg => rfl); (case hr => first | (go_simp; done) | (go_simp; rfl)); intro gb297 hg w5 hbox hb; have n0_ := Aside0.mk (below_step (by repeat (first | (with_reducible first | exact HB.out | apply below_alloc | apply pw_below_drewN | apply below_drew1) | exact HB.out)) hb); have n1_ := Aside0.mk (hbox); have n2_ := Aside0.mk ((by rw [hg]; exact (below_size (by repeat (first | (with_reducible first | exact HB.out | apply below_alloc | apply pw_below_drewN | apply below_drew1) | exact HB.out))) : w.heap.size ≤ gb297)); have n3_ := Aside0.mk ((by rw [hg]; exact (below_size (by repeat (first | (with_reducible first | exact HB.out | apply below_alloc | apply pw_below_drewN | apply below_drew1) | exact HB.out))) : w.heap.size ≤ gb297)); clear HB; have HB := n0_; have BK297 := n1_; have GW297 := n2_; have GE297 := n3_; clear n0_ n1_ n2_ n3_; clear hb hbox hg))
    have n0_ := Aside0.mk (blk_drew BK297.out)
    have n1_ := Aside0.mk (below_drew1 HB.out)
    clear BK297
    clear HB
    have BK297 := n0_
    have HB := n1_
    clear n0_ n1_
    refine start_ (n := 13) (S := fun w' => w'.cell? ⟨gb297, 0, none⟩ = some (.int .i64 a0_0) ∧ w'.cell? ⟨gb297, 1, none⟩ = some (.int .i64 a0_1) ∧ w'.cell? ⟨gb297, 2, none⟩ = some (.int .i64 a0_2) ∧ w'.cell? ⟨gb297, 3, none⟩ = some (.int .i64 a0_3)) (ds := []) #[false, false, false, false, false, false, false, false, false, false, false, false, false] (by kernel_rfl) rfl rfl ⟨(blk_cell BK297.out 0).trans rfl, (blk_cell BK297.out 1).trans rfl, (blk_cell BK297.out 2).trans rfl, (blk_cell BK297.out 3).trans rfl⟩ (fun hHeld => ?_); refine with_tabW masterdiscref33_short.tab1 masterdiscref33_short.bits1 (fun HT_ HW_ => ?_)
    generalize w5.drew = w6 at BK297 HB hHeld ⊢
    refine pure_ (i := 0) (N := some 3) (v := ?_) (a' := ?_) #[true, false, false, false, false, false, false, false, false, false, false, false, false] rfl rfl (any_of HT_.out (by kernel_rfl)) (fun _ _ _ h => h) (Or.inl ⟨by rfl, ?_⟩) ?_ ?_
    rotate_left
    · intro w'
      go_simp
      with_reducible rfl
    rotate_left
    · simp only [Act.put, List.setIfInBounds_toArray, List.set_cons_zero, List.set_cons_succ, i64_w, i32_w]
      rfl
    refine pure_ (i := 2) (N := some 5) (v := ?_) (a' := ?_) #[true, false, true, false, false, false, false, false, false, false, false, false, false] rfl rfl (any_of HT_.out (by kernel_rfl)) (fun _ _ _ h => h) (Or.inl ⟨by rfl, ?_⟩) ?_ ?_
    rotate_left
    · intro w'
      go_simp
      with_reducible rfl
    rotate_left
    · simp only [Act.put, List.setIfInBounds_toArray, List.set_cons_zero, List.set_cons_succ, i64_w, i32_w]
      rfl
    refine pure_ (i := 7) (N := some 10) (v := ?_) (a' := ?_) #[true, false, true, false, false, false, false, true, false, false, false, false, false] rfl rfl (any_of HT_.out (by kernel_rfl)) (fun _ _ _ h => h) (Or.inl ⟨by rfl, ?_⟩) ?_ ?_
    rotate_left
    · intro w'
      go_simp
      with_reducible rfl
    rotate_left
    · simp only [Act.put, List.setIfInBounds_toArray, List.set_cons_zero, List.set_cons_succ, i64_w, i32_w]
      rfl
    refine pure_ (i := 8) (N := some 11) (v := ?_) (a' := ?_) #[true, false, true, false, false, false, false, true, true, false, false, false, false] rfl rfl (any_of HT_.out (by kernel_rfl)) (fun _ _ _ h => h) (Or.inl ⟨by rfl, ?_⟩) ?_ ?_
    rotate_left
    · intro w'
      go_simp
      with_reducible rfl
    rotate_left
    · simp only [Act.put, List.setIfInBounds_toArray, List.set_cons_zero, List.set_cons_succ, i64_w, i32_w]
      rfl
    refine take_ (i := 1) (N := some 4) (v := ?_) (a' := ?_) #[true, true, true, false, false, false, false, true, true, false, false, false, false] rfl rfl (take_ofW HT_.out HW_.out (by kernel_rfl)) (fun _ _ _ h => h) (Or.inl ⟨by rfl, ?_⟩) hHeld ?_ ?_
    rotate_left
    · rintro w' ⟨s0, s1, s2, s3⟩
      go_simp
      with_reducible rfl
    rotate_left
    · simp only [Act.put, List.setIfInBounds_toArray, List.set_cons_zero, List.set_cons_succ, i64_w, i32_w]
      rfl
    refine take_ (i := 3) (N := some 6) (v := ?_) (a' := ?_) #[true, true, true, true, false, false, false, true, true, false, false, false, false] rfl rfl (take_ofW HT_.out HW_.out (by kernel_rfl)) (fun _ _ _ h => h) (Or.inl ⟨by rfl, ?_⟩) hHeld ?_ ?_
    rotate_left
    · rintro w' ⟨s0, s1, s2, s3⟩
      go_simp
      with_reducible rfl
    rotate_left
    · simp only [Act.put, List.setIfInBounds_toArray, List.set_cons_zero, List.set_cons_succ, i64_w, i32_w]
      rfl
    refine pure_ (i := 4) (N := some 7) (v := ?_) (a' := ?_) #[true, true, true, true, true, false, false, true, true, false, false, false, false] rfl rfl (any_of HT_.out (by kernel_rfl)) (fun _ _ _ h => h) (Or.inl ⟨by rfl, ?_⟩) ?_ ?_
    rotate_left
    · intro w'
      go_simp
      with_reducible rfl
    rotate_left
    · simp only [Act.put, List.setIfInBounds_toArray, List.set_cons_zero, List.set_cons_succ, i64_w, i32_w]
      rfl
    refine pure_ (i := 5) (N := some 8) (v := ?_) (a' := ?_) #[true, true, true, true, true, true, false, true, true, false, false, false, false] rfl rfl (any_of HT_.out (by kernel_rfl)) (fun _ _ _ h => h) (Or.inl ⟨by rfl, ?_⟩) ?_ ?_
    rotate_left
    · intro w'
      go_simp
      with_reducible rfl
    rotate_left
    · simp only [Act.put, List.setIfInBounds_toArray, List.set_cons_zero, List.set_cons_succ, i64_w, i32_w]
      rfl
    refine take_ (i := 9) (N := some 12) (v := ?_) (a' := ?_) #[true, true, true, true, true, true, false, true, true, true, false, false, false] rfl rfl (take_ofW HT_.out HW_.out (by kernel_rfl)) (fun _ _ _ h => h) (Or.inl ⟨by rfl, ?_⟩) hHeld ?_ ?_
    rotate_left
    · rintro w' ⟨s0, s1, s2, s3⟩
      go_simp
      with_reducible rfl
    rotate_left
    · simp only [Act.put, List.setIfInBounds_toArray, List.set_cons_zero, List.set_cons_succ, i64_w, i32_w]
      rfl
    refine one_ (i := 6) (N := some 9) #[true, true, true, true, true, true, true, true, true, true, false, false, false] rfl rfl (one_of HT_.out (by kernel_rfl)) (by decide) (fun K hK => ?_)
    refine goes_ Try.func108 (by kernel_rfl) rfl #[.int .i64 (wrap64 (a0_1 + (wrap64 (a0_0 * 1073741824)))), .int .i64 4] (by rfl) rfl rfl (by (try simp only [List.map_toArray, List.map_cons, List.map_nil]); first | done | rfl | (simp only [List.length_drop, List.length_take]; rfl)) ?_
    with_reducible refine (masterdiscref01_Bytes.calls k (wrap64 (a0_1 + (wrap64 (a0_0 * 1073741824)))) 4 t298 _ A2.out).mono ?_
    rintro e w7 ⟨rfl, hb⟩
    refine ⟨_, rfl, ?_⟩
    have n0_ := Aside0.mk (blk_below (g := gb297) (o := .cells #[.int .i64 a0_0, .int .i64 a0_1, .int .i64 a0_2, .int .i64 a0_3] 46 (0, 0)) (by (with_reducible repeat (first | refine blk_drewN ?_ _ | refine blk_drew ?_ | refine blk_alloc ?_ _)); exact BK297.out) hb)
    have n1_ := Aside0.mk (below_step (by repeat (first | (with_reducible first | exact HB.out | apply below_alloc | apply pw_below_drewN | apply below_drew1 | refine below_set ?_ GE297.out) | exact HB.out)) hb)
    clear BK297
    clear HB
    have BK297 := n0_
    have HB := n1_
    clear n0_ n1_
    (try clear hb)
    (try clear hb2)
    (try clear hk)
    (try clear hi)
    refine hK.out _ _ ⟨(blk_cell BK297.out 0).trans rfl, (blk_cell BK297.out 1).trans rfl, (blk_cell BK297.out 2).trans rfl, (blk_cell BK297.out 3).trans rfl⟩ (fun hHeld => ?_)
    clear hK K
    refine norm_ (a' := ?_) ?_ ?_
    rotate_left
    · show Act.put _ (some 9) _ = _
      simp only [Act.put, List.setIfInBounds_toArray, List.set_cons_zero, List.set_cons_succ, i64_w, i32_w]
      rfl
    refine one_ (i := 10) (N := some 13) #[true, true, true, true, true, true, true, true, true, true, true, false, false] rfl rfl (one_of HT_.out (by kernel_rfl)) (by decide) (fun K hK => ?_)
    refine goes_ Try.func108 (by kernel_rfl) rfl #[.int .i64 a0_2, .int .i64 4] (by rfl) rfl rfl (by (try simp only [List.map_toArray, List.map_cons, List.map_nil]); first | done | rfl | (simp only [List.length_drop, List.length_take]; rfl)) ?_
    with_reducible refine (masterdiscref01_Bytes.calls k a0_2 4 t299 _ A3.out).mono ?_
    rintro e w8 ⟨rfl, hb⟩
    refine ⟨_, rfl, ?_⟩
    have n0_ := Aside0.mk (blk_below (g := gb297) (o := .cells #[.int .i64 a0_0, .int .i64 a0_1, .int .i64 a0_2, .int .i64 a0_3] 46 (0, 0)) (by (with_reducible repeat (first | refine blk_drewN ?_ _ | refine blk_drew ?_ | refine blk_alloc ?_ _)); exact BK297.out) hb)
    have n1_ := Aside0.mk (below_step (by repeat (first | (with_reducible first | exact HB.out | apply below_alloc | apply pw_below_drewN | apply below_drew1 | refine below_set ?_ GE297.out) | exact HB.out)) hb)
    clear BK297
    clear HB
    have BK297 := n0_
    have HB := n1_
    clear n0_ n1_
    (try clear hb)
    (try clear hb2)
    (try clear hk)
    (try clear hi)
    refine hK.out _ _ ⟨(blk_cell BK297.out 0).trans rfl, (blk_cell BK297.out 1).trans rfl, (blk_cell BK297.out 2).trans rfl, (blk_cell BK297.out 3).trans rfl⟩ (fun hHeld => ?_)
    clear hK K
    refine norm_ (a' := ?_) ?_ ?_
    rotate_left
    · show Act.put _ (some 13) _ = _
      simp only [Act.put, List.setIfInBounds_toArray, List.set_cons_zero, List.set_cons_succ, i64_w, i32_w]
      rfl
    refine pure_ (i := 11) (N := some 14) (v := ?_) (a' := ?_) #[true, true, true, true, true, true, true, true, true, true, true, true, false] rfl rfl (any_of HT_.out (by kernel_rfl)) (fun _ _ _ h => h) (Or.inl ⟨by rfl, ?_⟩) ?_ ?_
    rotate_left
    · intro w'
      go_simp
      with_reducible rfl
    rotate_left
    · simp only [Act.put, List.setIfInBounds_toArray, List.set_cons_zero, List.set_cons_succ, i64_w, i32_w]
      rfl
    refine pure_ (i := 12) (N := some 2) (v := ?_) (a' := ?_) #[true, true, true, true, true, true, true, true, true, true, true, true, true] rfl rfl (any_of HT_.out (by kernel_rfl)) (fun _ _ _ h => h) (Or.inl ⟨by rfl, ?_⟩) ?_ ?_
    rotate_left
    · intro w'
      go_simp
      with_reducible rfl
    rotate_left
    · simp only [Act.put, List.setIfInBounds_toArray, List.set_cons_zero, List.set_cons_succ, i64_w, i32_w]
      rfl
    refine done_ (done_of HT_.out (by kernel_rfl)) ?_
    try go_wp2
    go_ret
    exact ⟨by first | rfl | (simp [errW_none, errW_some] <;> rfl) | (simp [*, errW_none, errW_some] <;> rfl), by repeat (first | (with_reducible first | exact HB.out | apply below_alloc | apply pw_below_drewN | apply below_drew1 | refine below_set ?_ GE297.out) | exact HB.out)⟩
  · rw [if_neg c4] at H
    exact absurd H (by simp)

/-! ### masterdiscref33_EncodeShort: function 35 -/
def masterdiscref33_EncodeShort.l0 : Nat → List (S46) → ByteArray → Int → Option (ByteArray × Int)
  | 0, _, _, _ => none
  | k + 1, x0, x4, x5 => if x5 < (x0.length : Int) then (if 0 ≤ x5 then (if 0 < (x0.length : Int) then (if ((rd_T46 x0 x5).f2.f1) = ((rd_T46 x0 0).f2.f1) then ((masterdiscref33_short.f k ((rd_T46 x0 x5).f0) ((rd_T46 x0 x5).f1) ((rd_T46 x0 x5).f2.f0) ((rd_T46 x0 x5).f2.f1)).bind fun t304 => (if x4.size + t304.size ≤ 9223372036854775807 then (masterdiscref33_EncodeShort.l0 k x0 (x4 ++ t304) (wrap64 (x5 + 1))) else (none))) else (some ((⟨#[]⟩ : ByteArray), 2))) else (none)) else (none)) else (some (x4, 0))
def masterdiscref33_EncodeShort.f (k : Nat) (l0 : List (S46)) : Option (ByteArray × Int) := (masterdiscref33_Formed.f k l0).bind fun t300 => (if t300 = true then (masterdiscref33_EncodeShort.l0 k l0 (⟨#[]⟩ : ByteArray) 0) else (some ((⟨#[]⟩ : ByteArray), 1)))
theorem masterdiscref33_EncodeShort.mono_l : ∀ k, (∀ y0 y1 y2, LeO (masterdiscref33_EncodeShort.l0 k y0 y1 y2) (masterdiscref33_EncodeShort.l0 (k + 1) y0 y1 y2))
  | 0 => fun _ _ _ r h => by simp [masterdiscref33_EncodeShort.l0] at h
  | k + 1 => by
    have ih0 := masterdiscref33_EncodeShort.mono_l k
    · intro y0 y1 y2
      unfold masterdiscref33_EncodeShort.l0
      repeat' first
      | (with_reducible exact ih0 _ _ _)
      | (with_reducible exact masterdiscref33_Formed.mono _ _)
      | (with_reducible exact masterdiscref33_short.mono _ _ _ _ _)
      | (with_reducible exact LeO.refl _)
      | (with_reducible exact LeO.none _)
      | (with_reducible refine LeO.ite ?_ ?_)
      | (with_reducible refine LeO.bind ?_ (fun _ => ?_))
      | exact ih0 _ _ _
      | exact masterdiscref33_Formed.mono _ _
      | exact masterdiscref33_short.mono _ _ _ _ _
      | exact LeO.none _
      | refine LeO.ite ?_ ?_
      | refine LeO.bind ?_ (fun _ => ?_)
theorem masterdiscref33_EncodeShort.mono : ∀ a0 k, LeO (masterdiscref33_EncodeShort.f k a0) (masterdiscref33_EncodeShort.f (k + 1) a0) := by
  intro a0 k
  have ih0 := masterdiscref33_EncodeShort.mono_l k
  unfold masterdiscref33_EncodeShort.f
  repeat' first
      | (with_reducible exact ih0 _ _ _)
      | (with_reducible exact masterdiscref33_Formed.mono _ _)
      | (with_reducible exact masterdiscref33_short.mono _ _ _ _ _)
      | (with_reducible exact LeO.refl _)
      | (with_reducible exact LeO.none _)
      | (with_reducible refine LeO.ite ?_ ?_)
      | (with_reducible refine LeO.bind ?_ (fun _ => ?_))
      | exact ih0 _ _ _
      | exact masterdiscref33_Formed.mono _ _
      | exact masterdiscref33_short.mono _ _ _ _ _
      | exact LeO.none _
      | refine LeO.ite ?_ ?_
      | refine LeO.bind ?_ (fun _ => ?_)
set_option maxHeartbeats 8000000 in
set_option maxRecDepth 100000 in
theorem masterdiscref33_EncodeShort.calls (k : Nat) (A0 : Option Addr) (c0 : Nat) (l0 : List (S46)) (r1 : ByteArray) (r2 : Int) (w : World) (hr0 : Kd.C k46 w A0 l0.length l0) (hc0 : l0.length ≤ c0) (h : masterdiscref33_EncodeShort.f k l0 = some (r1, r2)) :
    Calls Try.prog 35 #[.slice A0 l0.length c0] w fun e w' => e = .returned (.tuple #[.string r1, .int .i64 r2]) ∧ Below w.heap.size w w' := by
  have hu46 := Try.underlying46
  have HR0 := Aside0.mk hr0
  have HC0 := Aside0.mk hc0
  clear hr0 hc0
  have HB := Aside0.mk (Below.refl w.heap.size w)
  have H : ((masterdiscref33_Formed.f k l0).bind fun t300 => (if t300 = true then (masterdiscref33_EncodeShort.l0 k l0 (⟨#[]⟩ : ByteArray) 0) else (some ((⟨#[]⟩ : ByteArray), 1)))) = some (r1, r2) := h
  clear h
  replace H := Option.bind_eq_some_iff.mp H
  obtain ⟨t300, A20, H⟩ := H
  replace H : (if t300 = true then (masterdiscref33_EncodeShort.l0 k l0 (⟨#[]⟩ : ByteArray) 0) else (some ((⟨#[]⟩ : ByteArray), 1))) = some (r1, r2) := H
  have A2 := Aside0.mk A20
  clear A20
  by_cases c3 : t300 = true
  · subst c3
    have H1 : (masterdiscref33_EncodeShort.l0 k l0 (⟨#[]⟩ : ByteArray) 0) = some (r1, r2) := by rw [if_pos rfl] at H; exact H
    clear H
    have H := H1
    clear H1
    have H' := Aside0.mk H
    clear H
    go_enter Try.func35, Try.ntmps35
    go_wp2_with (first | (go_at_call 104; (with_reducible refine (masterdiscref33_Formed.calls k _ _ l0 true _ ?side1 ?side2 A2.out).mono ?_); (case side1 => repeat (first | exact HR0.out | (with_reducible refine Kd.C_alloc ?_ _) | (with_reducible refine Kd.C_drewN ?_ _) | (with_reducible refine Kd.C_drew ?_))); (case side2 => exact HC0.out); rintro e w4 ⟨rfl, hb⟩; have n0_ := Aside0.mk (below_step (by repeat (first | (with_reducible first | exact HB.out | apply below_alloc | apply pw_below_drewN | apply below_drew1) | exact HB.out)) hb); clear HB; have HB := n0_; clear n0_; (try clear hb); (try clear hb2); (try clear hk); (try clear hi)))
    repeat (go_quiet (first | (go_at_call 104; (with_reducible refine (masterdiscref33_Formed.calls k _ _ l0 true _ ?side1 ?side2 A2.out).mono ?_); (case side1 => repeat (first | exact HR0.out | (with_reducible refine Kd.C_alloc ?_ _) | (with_reducible refine Kd.C_drewN ?_ _) | (with_reducible refine Kd.C_drew ?_))); (case side2 => exact HC0.out); rintro e w4 ⟨rfl, hb⟩; have n0_ := Aside0.mk (below_step (by repeat (first | (with_reducible first | exact HB.out | apply below_alloc | apply pw_below_drewN | apply below_drew1) | exact HB.out)) hb); clear HB; have HB := n0_; clear n0_; (try clear hb); (try clear hb2); (try clear hk); (try clear hi))); try go_wp2_with (first | (go_at_call 104; (with_reducible refine (masterdiscref33_Formed.calls k _ _ l0 true _ ?side1 ?side2 A2.out).mono ?_); (case side1 => repeat (first | exact HR0.out | (with_reducible refine Kd.C_alloc ?_ _) | (with_reducible refine Kd.C_drewN ?_ _) | (with_reducible refine Kd.C_drew ?_))); (case side2 => exact HC0.out); rintro e w4 ⟨rfl, hb⟩; have n0_ := Aside0.mk (below_step (by repeat (first | (with_reducible first | exact HB.out | apply below_alloc | apply pw_below_drewN | apply below_drew1) | exact HB.out)) hb); clear HB; have HB := n0_; clear n0_; (try clear hb); (try clear hb2); (try clear hk); (try clear hi))))
    go_loopg [4, 5] k (fun kq v4 v5 w' => ∃ (x4_1 : ByteArray) (x5_1 : Int), v4 = .string x4_1 ∧ v5 = .int .i64 x5_1 ∧ Aside0 (masterdiscref33_EncodeShort.l0 kq l0 x4_1 x5_1 = some (r1, r2)) ∧ Aside0 (kq ≤ k) ∧ Aside0 (Below w.heap.size w w'))
    case atStart => exact ⟨((⟨#[]⟩ : ByteArray)), (0), (by first | rfl | (simp; done) | (simp [*]; done)), (by first | rfl | (simp; done) | (simp [*]; done)), H', ⟨Nat.le_refl _⟩, ⟨by repeat (first | (with_reducible first | exact HB.out | apply below_alloc | apply pw_below_drewN | apply below_drew1) | exact HB.out)⟩⟩
    case round =>
      clear H'
      try clear p2
      try clear c3
      obtain ⟨x4_1, x5_1, rfl, rfl, HA, HK1, HB⟩ := hrel
      cases gk with
      | zero => exact absurd HA.out (by simp [masterdiscref33_EncodeShort.l0])
      | succ k1 =>
        have H := HA.out
        clear HA
        simp only [masterdiscref33_EncodeShort.l0] at H
        by_cases c5 : x5_1 < (l0.length : Int)
        · rw [if_pos c5] at H
          have c5b0 : decide (x5_1 < (l0.length : Int)) = true := decide_eq_true c5
          clear c5
          by_cases c6 : 0 ≤ x5_1
          · rw [if_pos c6] at H
            have c6b0 : decide (0 ≤ x5_1) = true := decide_eq_true c6
            clear c6
            by_cases c7 : 0 < (l0.length : Int)
            · rw [if_pos c7] at H
              have c7b0 : decide (0 < (l0.length : Int)) = true := decide_eq_true c7
              have c7b1 : decide (0 < l0.length) = true := decide_eq_true (by omega)
              clear c7
              by_cases c8 : ((rd_T46 l0 x5_1).f2.f1) = ((rd_T46 l0 0).f2.f1)
              · rw [if_pos c8] at H
                have c8b0 : (((rd_T46 l0 x5_1).f2.f1) == ((rd_T46 l0 0).f2.f1)) = true := beq_iff_eq.mpr c8
                have c8b1 : (((rd_T46 l0 x5_1).f2.f1) != ((rd_T46 l0 0).f2.f1)) = false := bne_eq_false_iff_eq.mpr c8
                clear c8
                replace H := Option.bind_eq_some_iff.mp H
                obtain ⟨t304, A90, H⟩ := H
                replace H : (if x4_1.size + t304.size ≤ 9223372036854775807 then (masterdiscref33_EncodeShort.l0 k1 l0 (x4_1 ++ t304) (wrap64 (x5_1 + 1))) else (none)) = some (r1, r2) := H
                have A9 := Aside0.mk A90
                clear A90
                by_cases c10 : x4_1.size + t304.size ≤ 9223372036854775807
                · rw [if_pos c10] at H
                  have c10b0 := eq_true c10
                  have c10b1 : decide (x4_1.size + t304.size ≤ 9223372036854775807) = true := decide_eq_true c10
                  try have c10b2 : (9223372036854775807 < x4_1.size + t304.size) = False := eq_false (Nat.not_lt.2 c10)
                  try (have c10b3 := c10b2; conv at c10b3 => lhs; simp [go_sem])
                  have H' := Aside0.mk H
                  clear H
                  have p301 : 0 ≤ (x5_1 : Int) := of_decide_eq_true (by first | (with_reducible assumption) | assumption)
                  have q301 : x5_1 < (l0.length : Int) := of_decide_eq_true (by first | (with_reducible assumption) | assumption)
                  obtain ⟨ad301, e301, hx301_0, hx301_1, hx301_2, hx301_3⟩ := at_T46 HR0.out x5_1 p301 q301
                  cases e301
                  replace hx301_0 := (HB.out.cell (World.block_lt_of_cell? w _ hx301_0)).trans hx301_0
                  replace hx301_1 := (HB.out.cell (World.block_lt_of_cell? w _ hx301_1)).trans hx301_1
                  replace hx301_2 := (HB.out.cell (World.block_lt_of_cell? w _ hx301_2)).trans hx301_2
                  replace hx301_3 := (HB.out.cell (World.block_lt_of_cell? w _ hx301_3)).trans hx301_3
                  replace p301 := eq_true p301
                  replace q301 := eq_true q301
                  have p302 : 0 ≤ (0 : Int) := (by omega)
                  have q302 : 0 < (l0.length : Int) := of_decide_eq_true (by first | (with_reducible assumption) | assumption)
                  obtain ⟨ad302, e302, hx302_0, hx302_1, hx302_2, hx302_3⟩ := at_T46 HR0.out 0 p302 q302
                  obtain rfl : ad301 = ad302 := (by injection e302)
                  have qi302 : (0 < l0.length) = True := eq_true (by omega)
                  (try rw [show ((0 : Int)).toNat = 0 from rfl] at hx302_0)
                  (try rw [show 0 * 4 = 0 from rfl] at hx302_0)
                  (try rw [Addr.add_zero'] at hx302_0)
                  (try rw [show ((0 : Int)).toNat = 0 from rfl] at hx302_1)
                  (try rw [show 0 * 4 = 0 from rfl] at hx302_1)
                  (try rw [Addr.add_zero'] at hx302_1)
                  (try rw [show ((0 : Int)).toNat = 0 from rfl] at hx302_2)
                  (try rw [show 0 * 4 = 0 from rfl] at hx302_2)
                  (try rw [Addr.add_zero'] at hx302_2)
                  (try rw [show ((0 : Int)).toNat = 0 from rfl] at hx302_3)
                  (try rw [show 0 * 4 = 0 from rfl] at hx302_3)
                  (try rw [Addr.add_zero'] at hx302_3)
                  replace hx302_0 := (HB.out.cell (World.block_lt_of_cell? w _ hx302_0)).trans hx302_0
                  replace hx302_1 := (HB.out.cell (World.block_lt_of_cell? w _ hx302_1)).trans hx302_1
                  replace hx302_2 := (HB.out.cell (World.block_lt_of_cell? w _ hx302_2)).trans hx302_2
                  replace hx302_3 := (HB.out.cell (World.block_lt_of_cell? w _ hx302_3)).trans hx302_3
                  replace p302 := eq_true p302
                  replace q302 := eq_true q302
                  have p303 : 0 ≤ (x5_1 : Int) := of_decide_eq_true (by first | (with_reducible assumption) | assumption)
                  have q303 : x5_1 < (l0.length : Int) := of_decide_eq_true (by first | (with_reducible assumption) | assumption)
                  obtain ⟨ad303, e303, hx303_0, hx303_1, hx303_2, hx303_3⟩ := at_T46 HR0.out x5_1 p303 q303
                  obtain rfl : ad301 = ad303 := (by injection e303)
                  replace hx303_0 := (HB.out.cell (World.block_lt_of_cell? w _ hx303_0)).trans hx303_0
                  replace hx303_1 := (HB.out.cell (World.block_lt_of_cell? w _ hx303_1)).trans hx303_1
                  replace hx303_2 := (HB.out.cell (World.block_lt_of_cell? w _ hx303_2)).trans hx303_2
                  replace hx303_3 := (HB.out.cell (World.block_lt_of_cell? w _ hx303_3)).trans hx303_3
                  replace p303 := eq_true p303
                  replace q303 := eq_true q303
                  go_wp2_with (first | (go_at_call 105; (with_reducible refine (masterdiscref33_short.calls k1 ((rd_T46 l0 x5_1).f0) ((rd_T46 l0 x5_1).f1) ((rd_T46 l0 x5_1).f2.f0) ((rd_T46 l0 x5_1).f2.f1) t304 _ A9.out).mono ?_); rintro e w11 ⟨rfl, hb⟩; have n0_ := Aside0.mk (below_step (by repeat (first | (with_reducible first | exact HB.out | apply below_alloc | apply pw_below_drewN | apply below_drew1) | exact HB.out)) hb); clear HB; have HB := n0_; clear n0_; (try clear hb); (try clear hb2); (try clear hk); (try clear hi)))
                  repeat (go_quiet (first | (go_at_call 105; (with_reducible refine (masterdiscref33_short.calls k1 ((rd_T46 l0 x5_1).f0) ((rd_T46 l0 x5_1).f1) ((rd_T46 l0 x5_1).f2.f0) ((rd_T46 l0 x5_1).f2.f1) t304 _ A9.out).mono ?_); rintro e w11 ⟨rfl, hb⟩; have n0_ := Aside0.mk (below_step (by repeat (first | (with_reducible first | exact HB.out | apply below_alloc | apply pw_below_drewN | apply below_drew1) | exact HB.out)) hb); clear HB; have HB := n0_; clear n0_; (try clear hb); (try clear hb2); (try clear hk); (try clear hi))); try go_wp2_with (first | (go_at_call 105; (with_reducible refine (masterdiscref33_short.calls k1 ((rd_T46 l0 x5_1).f0) ((rd_T46 l0 x5_1).f1) ((rd_T46 l0 x5_1).f2.f0) ((rd_T46 l0 x5_1).f2.f1) t304 _ A9.out).mono ?_); rintro e w11 ⟨rfl, hb⟩; have n0_ := Aside0.mk (below_step (by repeat (first | (with_reducible first | exact HB.out | apply below_alloc | apply pw_below_drewN | apply below_drew1) | exact HB.out)) hb); clear HB; have HB := n0_; clear n0_; (try clear hb); (try clear hb2); (try clear hk); (try clear hi))))
                  go_roundg k1
                  case measure => have := HK1.out; omega
                  case rel => exact ⟨(x4_1 ++ t304), (wrap64 (x5_1 + 1)), (by first | rfl | (simp; done) | (simp [*]; done)), (by first | rfl | (simp; done) | (simp [*]; done)), H', ⟨by have := HK1.out; omega⟩, ⟨by repeat (first | (with_reducible first | exact HB.out | apply below_alloc | apply pw_below_drewN | apply below_drew1) | exact HB.out)⟩⟩
                · rw [if_neg c10] at H
                  exact absurd H (by simp)
              · rw [if_neg c8] at H
                have c8b0 : (((rd_T46 l0 x5_1).f2.f1) == ((rd_T46 l0 0).f2.f1)) = false := beq_eq_false_iff_ne.mpr c8
                have c8b1 : (((rd_T46 l0 x5_1).f2.f1) != ((rd_T46 l0 0).f2.f1)) = true := bne_iff_ne.mpr c8
                simp only [Option.some.injEq, Prod.mk.injEq] at H
                obtain ⟨rfl, rfl⟩ := H
                have p301 : 0 ≤ (x5_1 : Int) := of_decide_eq_true (by first | (with_reducible assumption) | assumption)
                have q301 : x5_1 < (l0.length : Int) := of_decide_eq_true (by first | (with_reducible assumption) | assumption)
                obtain ⟨ad301, e301, hx301_0, hx301_1, hx301_2, hx301_3⟩ := at_T46 HR0.out x5_1 p301 q301
                cases e301
                replace hx301_0 := (HB.out.cell (World.block_lt_of_cell? w _ hx301_0)).trans hx301_0
                replace hx301_1 := (HB.out.cell (World.block_lt_of_cell? w _ hx301_1)).trans hx301_1
                replace hx301_2 := (HB.out.cell (World.block_lt_of_cell? w _ hx301_2)).trans hx301_2
                replace hx301_3 := (HB.out.cell (World.block_lt_of_cell? w _ hx301_3)).trans hx301_3
                replace p301 := eq_true p301
                replace q301 := eq_true q301
                have p302 : 0 ≤ (0 : Int) := (by omega)
                have q302 : 0 < (l0.length : Int) := of_decide_eq_true (by first | (with_reducible assumption) | assumption)
                obtain ⟨ad302, e302, hx302_0, hx302_1, hx302_2, hx302_3⟩ := at_T46 HR0.out 0 p302 q302
                obtain rfl : ad301 = ad302 := (by injection e302)
                have qi302 : (0 < l0.length) = True := eq_true (by omega)
                (try rw [show ((0 : Int)).toNat = 0 from rfl] at hx302_0)
                (try rw [show 0 * 4 = 0 from rfl] at hx302_0)
                (try rw [Addr.add_zero'] at hx302_0)
                (try rw [show ((0 : Int)).toNat = 0 from rfl] at hx302_1)
                (try rw [show 0 * 4 = 0 from rfl] at hx302_1)
                (try rw [Addr.add_zero'] at hx302_1)
                (try rw [show ((0 : Int)).toNat = 0 from rfl] at hx302_2)
                (try rw [show 0 * 4 = 0 from rfl] at hx302_2)
                (try rw [Addr.add_zero'] at hx302_2)
                (try rw [show ((0 : Int)).toNat = 0 from rfl] at hx302_3)
                (try rw [show 0 * 4 = 0 from rfl] at hx302_3)
                (try rw [Addr.add_zero'] at hx302_3)
                replace hx302_0 := (HB.out.cell (World.block_lt_of_cell? w _ hx302_0)).trans hx302_0
                replace hx302_1 := (HB.out.cell (World.block_lt_of_cell? w _ hx302_1)).trans hx302_1
                replace hx302_2 := (HB.out.cell (World.block_lt_of_cell? w _ hx302_2)).trans hx302_2
                replace hx302_3 := (HB.out.cell (World.block_lt_of_cell? w _ hx302_3)).trans hx302_3
                replace p302 := eq_true p302
                replace q302 := eq_true q302
                go_wp2
                repeat (go_quiet (fail); try go_wp2)
                go_ret2
                exact ⟨by first | rfl | (simp [errW_none, errW_some] <;> rfl) | (simp [*, errW_none, errW_some] <;> rfl), by repeat (first | (with_reducible first | exact HB.out | apply below_alloc | apply pw_below_drewN | apply below_drew1) | exact HB.out)⟩
            · rw [if_neg c7] at H
              exact absurd H (by simp)
          · rw [if_neg c6] at H
            exact absurd H (by simp)
        · rw [if_neg c5] at H
          have c5b0 : decide (x5_1 < (l0.length : Int)) = false := decide_eq_false c5
          clear c5
          simp only [Option.some.injEq, Prod.mk.injEq] at H
          obtain ⟨rfl, rfl⟩ := H
          go_wp2
          repeat (go_quiet (fail); try go_wp2)
          go_ret2
          exact ⟨by first | rfl | (simp [errW_none, errW_some] <;> rfl) | (simp [*, errW_none, errW_some] <;> rfl), by repeat (first | (with_reducible first | exact HB.out | apply below_alloc | apply pw_below_drewN | apply below_drew1) | exact HB.out)⟩
  · replace c3 := Bool.eq_false_iff.mpr c3
    subst c3
    have H1 : (some ((⟨#[]⟩ : ByteArray), 1)) = some (r1, r2) := by rw [if_neg (show ¬ (false = true) by decide)] at H; exact H
    clear H
    have H := H1
    clear H1
    simp only [Option.some.injEq, Prod.mk.injEq] at H
    obtain ⟨rfl, rfl⟩ := H
    go_enter Try.func35, Try.ntmps35
    go_wp2_with (first | (go_at_call 104; (with_reducible refine (masterdiscref33_Formed.calls k _ _ l0 false _ ?side1 ?side2 A2.out).mono ?_); (case side1 => repeat (first | exact HR0.out | (with_reducible refine Kd.C_alloc ?_ _) | (with_reducible refine Kd.C_drewN ?_ _) | (with_reducible refine Kd.C_drew ?_))); (case side2 => exact HC0.out); rintro e w12 ⟨rfl, hb⟩; have n0_ := Aside0.mk (below_step (by repeat (first | (with_reducible first | exact HB.out | apply below_alloc | apply pw_below_drewN | apply below_drew1) | exact HB.out)) hb); clear HB; have HB := n0_; clear n0_; (try clear hb); (try clear hb2); (try clear hk); (try clear hi)))
    repeat (go_quiet (first | (go_at_call 104; (with_reducible refine (masterdiscref33_Formed.calls k _ _ l0 false _ ?side1 ?side2 A2.out).mono ?_); (case side1 => repeat (first | exact HR0.out | (with_reducible refine Kd.C_alloc ?_ _) | (with_reducible refine Kd.C_drewN ?_ _) | (with_reducible refine Kd.C_drew ?_))); (case side2 => exact HC0.out); rintro e w12 ⟨rfl, hb⟩; have n0_ := Aside0.mk (below_step (by repeat (first | (with_reducible first | exact HB.out | apply below_alloc | apply pw_below_drewN | apply below_drew1) | exact HB.out)) hb); clear HB; have HB := n0_; clear n0_; (try clear hb); (try clear hb2); (try clear hk); (try clear hi))); try go_wp2_with (first | (go_at_call 104; (with_reducible refine (masterdiscref33_Formed.calls k _ _ l0 false _ ?side1 ?side2 A2.out).mono ?_); (case side1 => repeat (first | exact HR0.out | (with_reducible refine Kd.C_alloc ?_ _) | (with_reducible refine Kd.C_drewN ?_ _) | (with_reducible refine Kd.C_drew ?_))); (case side2 => exact HC0.out); rintro e w12 ⟨rfl, hb⟩; have n0_ := Aside0.mk (below_step (by repeat (first | (with_reducible first | exact HB.out | apply below_alloc | apply pw_below_drewN | apply below_drew1) | exact HB.out)) hb); clear HB; have HB := n0_; clear n0_; (try clear hb); (try clear hb2); (try clear hk); (try clear hi))))
    go_ret2
    exact ⟨by first | rfl | (simp [errW_none, errW_some] <;> rfl) | (simp [*, errW_none, errW_some] <;> rfl), by repeat (first | (with_reducible first | exact HB.out | apply below_alloc | apply pw_below_drewN | apply below_drew1) | exact HB.out)⟩

end Go.Proofs.Ytijbfebbogiiiaa.Q
