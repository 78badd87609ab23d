/- Contracts of Go functions: each call returns what the Lean function of its name says. Written by wip/gen.py (a patched print) for this claim. -/
import Derived.Test.YtijbfebbogiiiaaHBase
import Derived.Test.YtijbfebbogiiiaaQ0
import Derived.Test.YtijbfebbogiiiaaQ6
namespace Go.Proofs.Ytijbfebbogiiiaa.Q
open Go.RowKit Go.Proofs.YtijbfebbogiiiaaW.PrintWords Go.Proofs.YtijbfebbogiiiaaW.PrintLast Go.Proofs.YtijbfebbogiiiaaW.PrintMore
attribute [local go_sem] max2_int min2_int max_two min_two max_three min_three max_four min_four   -- for this text's walks alone
set_option linter.unusedVariables false
set_option linter.unusedSimpArgs false

/-! ### udftag_little: function 116 -/
def udftag_little.f (a0 : Int) (a1 : Int) : Option (ByteArray) := (endian_Little.f a0 a1).bind fun bt103 => (some bt103.1)
set_option maxHeartbeats 8000000 in
set_option maxRecDepth 100000 in
theorem udftag_little.calls (a0 : Int) (a1 : Int) (r : ByteArray) (w : World) (h : udftag_little.f a0 a1 = some r) :
    Calls Try.prog 116 #[.int .i64 a0, .int .i64 a1] w fun e w' => e = .returned (.string r) ∧ Below w.heap.size w w' := by
  have HB := Aside0.mk (Below.refl w.heap.size w)
  have H : ((endian_Little.f a0 a1).bind fun bt103 => (some bt103.1)) = some r := h
  clear h
  replace H := Option.bind_eq_some_iff.mp H
  obtain ⟨⟨t103, t104⟩, A30, H⟩ := H
  replace H : (some t103) = some r := H
  have A3 := Aside0.mk A30
  clear A30
  obtain rfl := Option.some.inj H
  go_enter Try.func116, Try.ntmps116
  go_wp2_with (first | ((with_reducible refine gate_callee (f := 140) rfl ?_); refine goesL_ (some 10) rfl rfl Try.func140 (by kernel_rfl) rfl #[.int .i64 a0, .int .i64 a1] rfl (by (try simp only [List.map_toArray, List.map_cons, List.map_nil]); first | done | rfl | (simp only [List.length_drop, List.length_take]; rfl)) ?_; (with_reducible refine (endian_Little.calls a0 a1 t103 t104 _ A3.out).mono ?_); rintro e w4 ⟨rfl, hb⟩; refine ⟨_, rfl, ?_⟩; have n0_ := Aside0.mk (below_step (by repeat (first | (with_reducible first | exact HB.out | apply below_alloc | apply pw_below_drewN | apply below_drew1) | exact HB.out)) hb); clear HB; have HB := n0_; clear n0_; (try clear hb); (try clear hb2); (try clear hk); (try clear hi)))
  go_ret
  exact ⟨by first | rfl | (simp [errW_none, errW_some] <;> rfl) | (simp [*, errW_none, errW_some] <;> rfl), by repeat (first | (with_reducible first | exact HB.out | apply below_alloc | apply pw_below_drewN | apply below_drew1) | exact HB.out)⟩

/-! ### checksum_Sum8: function 142 -/
def checksum_Sum8.l0 : Nat → ByteArray → Int → Int → Int → Option (Int)
  | 0, _, _, _, _ => none
  | k + 1, x0, x3, x6, x7 => if x7 < x6 then (if 0 ≤ x7 then (if x7 < (x0.size : Int) then (checksum_Sum8.l0 k x0 ((x3 + (bt x0 x7)) % 256) x6 (wrap64 (x7 + 1))) else (none)) else (none)) else (some x3)
def checksum_Sum8.f (k : Nat) (a0 : ByteArray) : Option (Int) := checksum_Sum8.l0 k a0 0 (a0.size : Int) 0
theorem checksum_Sum8.mono_l : ∀ k, (∀ y0 y1 y2 y3, LeO (checksum_Sum8.l0 k y0 y1 y2 y3) (checksum_Sum8.l0 (k + 1) y0 y1 y2 y3))
  | 0 => fun _ _ _ _ r h => by simp [checksum_Sum8.l0] at h
  | k + 1 => by
    have ih0 := checksum_Sum8.mono_l k
    · intro y0 y1 y2 y3
      unfold checksum_Sum8.l0
      repeat' first
      | (with_reducible exact ih0 _ _ _ _)
      | (with_reducible exact LeO.refl _)
      | (with_reducible exact LeO.none _)
      | (with_reducible refine LeO.ite ?_ ?_)
      | (with_reducible refine LeO.bind ?_ (fun _ => ?_))
      | exact ih0 _ _ _ _
      | exact LeO.none _
      | refine LeO.ite ?_ ?_
      | refine LeO.bind ?_ (fun _ => ?_)
theorem checksum_Sum8.mono : ∀ a0 k, LeO (checksum_Sum8.f k a0) (checksum_Sum8.f (k + 1) a0) := by
  intro a0 k
  have ih0 := checksum_Sum8.mono_l k
  unfold checksum_Sum8.f
  repeat' first
      | (with_reducible exact ih0 _ _ _ _)
      | (with_reducible exact LeO.refl _)
      | (with_reducible exact LeO.none _)
      | (with_reducible refine LeO.ite ?_ ?_)
      | (with_reducible refine LeO.bind ?_ (fun _ => ?_))
      | exact ih0 _ _ _ _
      | exact LeO.none _
      | refine LeO.ite ?_ ?_
      | refine LeO.bind ?_ (fun _ => ?_)
set_option maxHeartbeats 8000000 in
set_option maxRecDepth 100000 in
theorem checksum_Sum8.calls (k : Nat) (a0 : ByteArray) (r : Int) (w : World) (h : checksum_Sum8.f k a0 = some r) :
    Calls Try.prog 142 #[.string a0] w fun e w' => e = .returned (.int .u8 r) ∧ Drawn0 w w' := by
  have H : (checksum_Sum8.l0 k a0 0 (a0.size : Int) 0) = some r := h
  clear h
  have H' := Aside0.mk H
  clear H
  go_enter Try.func142, Try.ntmps142
  go_wp2
  go_loopg [3, 7] k (fun kq v3 v7 w' => ∃ (x3_1 : Int) (x7_1 : Int), v3 = .int .u8 x3_1 ∧ v7 = .int .i64 x7_1 ∧ Aside0 (checksum_Sum8.l0 kq a0 x3_1 (a0.size : Int) x7_1 = some r) ∧ Aside0 (kq ≤ k) ∧ Drawn0 w w')
  case atStart => exact ⟨(0), (0), (by first | rfl | (simp; done) | (simp [*]; done)), (by first | rfl | (simp; done) | (simp [*]; done)), H', ⟨Nat.le_refl _⟩, by repeat (first | exact Drawn0.refl _ | apply Drawn0.step)⟩
  case round =>
    clear H'
    try clear c1
    obtain ⟨x3_1, x7_1, rfl, rfl, HA, HK1, ⟨m1, rfl⟩⟩ := hrel
    cases gk with
    | zero => exact absurd HA.out (by simp [checksum_Sum8.l0])
    | succ k1 =>
      have H := HA.out
      clear HA
      simp only [checksum_Sum8.l0] at H
      by_cases c2 : x7_1 < (a0.size : Int)
      · rw [if_pos c2] at H
        have c2b0 : decide (x7_1 < (a0.size : Int)) = true := decide_eq_true c2
        clear c2
        by_cases c3 : 0 ≤ x7_1
        · rw [if_pos c3] at H
          have c3b0 : decide (0 ≤ x7_1) = true := decide_eq_true c3
          clear c3
          by_cases c4 : x7_1 < (a0.size : Int)
          · rw [if_pos c4] at H
            have c4b0 : decide (x7_1 < (a0.size : Int)) = true := decide_eq_true c4
            clear c4
            have H' := Aside0.mk H
            clear H
            have p5 : 0 ≤ (x7_1 : Int) := of_decide_eq_true (by first | (with_reducible assumption) | assumption)
            have q5 : x7_1 < (a0.size : Int) := of_decide_eq_true (by first | (with_reducible assumption) | assumption)
            have hx5 := bt_at a0 x7_1
            replace p5 := eq_true p5
            replace q5 := eq_true q5
            go_wp2
            go_roundg k1
            case measure => have := HK1.out; omega
            case rel => exact ⟨((x3_1 + (bt a0 x7_1)) % 256), (wrap64 (x7_1 + 1)), (by first | rfl | (simp; done) | (simp [*]; done)), (by first | rfl | (simp; done) | (simp [*]; done)), H', ⟨by have := HK1.out; omega⟩, by repeat (first | exact Drawn0.refl _ | apply Drawn0.step)⟩
          · rw [if_neg c4] at H
            exact absurd H (by simp)
        · rw [if_neg c3] at H
          exact absurd H (by simp)
      · rw [if_neg c2] at H
        have c2b0 : decide (x7_1 < (a0.size : Int)) = false := decide_eq_false c2
        clear c2
        obtain rfl := Option.some.inj H
        go_wp2
        go_ret
        exact ⟨by first | rfl | (simp; done) | (simp [*]; done), by repeat (first | exact Drawn0.refl _ | apply Drawn0.step)⟩

/-! ### udftag_sum: function 96 -/
def udftag_sum.f (k : Nat) (a0 : ByteArray) : Option (Int) := if 0 ≤ 4 then (if 4 ≤ (a0.size : Int) then (if 5 ≤ 16 then (if 16 ≤ (a0.size : Int) then (if (a0.extract 0 4).size + (a0.extract 5 16).size ≤ 9223372036854775807 then ((checksum_Sum8.f k ((a0.extract 0 4) ++ (a0.extract 5 16))).bind fun t105 => (some t105)) else (none)) else (none)) else (none)) else (none)) else (none)
theorem udftag_sum.mono : ∀ a0 k, LeO (udftag_sum.f k a0) (udftag_sum.f (k + 1) a0) := by
  intro a0 k
  unfold udftag_sum.f
  repeat' first
      | (with_reducible exact checksum_Sum8.mono _ _)
      | (with_reducible exact LeO.refl _)
      | (with_reducible exact LeO.none _)
      | (with_reducible refine LeO.ite ?_ ?_)
      | (with_reducible refine LeO.bind ?_ (fun _ => ?_))
      | exact checksum_Sum8.mono _ _
      | exact LeO.none _
      | refine LeO.ite ?_ ?_
      | refine LeO.bind ?_ (fun _ => ?_)
set_option maxHeartbeats 8000000 in
set_option maxRecDepth 100000 in
theorem udftag_sum.calls (k : Nat) (a0 : ByteArray) (r : Int) (w : World) (h : udftag_sum.f k a0 = some r) :
    Calls Try.prog 96 #[.string a0] w fun e w' => e = .returned (.int .u8 r) ∧ Drawn0 w w' := by
  have H : (if 0 ≤ 4 then (if 4 ≤ (a0.size : Int) then (if 5 ≤ 16 then (if 16 ≤ (a0.size : Int) then (if (a0.extract 0 4).size + (a0.extract 5 16).size ≤ 9223372036854775807 then ((checksum_Sum8.f k ((a0.extract 0 4) ++ (a0.extract 5 16))).bind fun t105 => (some t105)) else (none)) else (none)) else (none)) else (none)) else (none)) = some r := h
  clear h
  by_cases c2 : 0 ≤ 4
  · rw [if_pos c2] at H
    have c2b0 := eq_true c2
    have c2b1 : decide (0 ≤ 4) = true := decide_eq_true c2
    clear c2
    by_cases c3 : 4 ≤ (a0.size : Int)
    · rw [if_pos c3] at H
      have c3b0 := eq_true c3
      have c3b1 : decide (4 ≤ (a0.size : Int)) = true := decide_eq_true c3
      clear c3
      by_cases c4 : 5 ≤ 16
      · rw [if_pos c4] at H
        have c4b0 := eq_true c4
        have c4b1 : decide (5 ≤ 16) = true := decide_eq_true c4
        clear c4
        by_cases c5 : 16 ≤ (a0.size : Int)
        · rw [if_pos c5] at H
          have c5b0 := eq_true c5
          have c5b1 : decide (16 ≤ (a0.size : Int)) = true := decide_eq_true c5
          clear c5
          by_cases c6 : (a0.extract 0 4).size + (a0.extract 5 16).size ≤ 9223372036854775807
          · rw [if_pos c6] at H
            have c6b0 := eq_true c6
            have c6b1 : decide ((a0.extract 0 4).size + (a0.extract 5 16).size ≤ 9223372036854775807) = true := decide_eq_true c6
            try have c6b2 : (9223372036854775807 < (a0.extract 0 4).size + (a0.extract 5 16).size) = False := eq_false (Nat.not_lt.2 c6)
            try (have c6b3 := c6b2; conv at c6b3 => lhs; simp [go_sem])
            replace H := Option.bind_eq_some_iff.mp H
            obtain ⟨t105, A70, H⟩ := H
            replace H : (some t105) = some r := H
            have A7 := Aside0.mk A70
            clear A70
            obtain rfl := Option.some.inj H
            go_enter Try.func96, Try.ntmps96
            go_wp2_with (first | (go_at_call 142; (with_reducible refine (checksum_Sum8.calls k ((a0.extract 0 4) ++ (a0.extract 5 16)) t105 _ A7.out).mono ?_); rintro e w' ⟨rfl, ⟨nd, rfl⟩⟩; (try first | exact ⟨rfl, _, World.drewN_drewN _ _ _⟩ | exact ⟨rfl, _, Eq.trans (World.drewN_drewN _ _ _) (congrArg (World.drewN _) (Nat.add_assoc _ _ _))⟩)))
            repeat (go_quiet (first | (go_at_call 142; (with_reducible refine (checksum_Sum8.calls k ((a0.extract 0 4) ++ (a0.extract 5 16)) t105 _ A7.out).mono ?_); rintro e w' ⟨rfl, ⟨nd, rfl⟩⟩; (try first | exact ⟨rfl, _, World.drewN_drewN _ _ _⟩ | exact ⟨rfl, _, Eq.trans (World.drewN_drewN _ _ _) (congrArg (World.drewN _) (Nat.add_assoc _ _ _))⟩))); try go_wp2_with (first | (go_at_call 142; (with_reducible refine (checksum_Sum8.calls k ((a0.extract 0 4) ++ (a0.extract 5 16)) t105 _ A7.out).mono ?_); rintro e w' ⟨rfl, ⟨nd, rfl⟩⟩; (try first | exact ⟨rfl, _, World.drewN_drewN _ _ _⟩ | exact ⟨rfl, _, Eq.trans (World.drewN_drewN _ _ _) (congrArg (World.drewN _) (Nat.add_assoc _ _ _))⟩))))
            go_ret
            exact ⟨by first | rfl | (simp; done) | (simp [*]; done), by repeat (first | exact Drawn0.refl _ | apply Drawn0.step)⟩
          · rw [if_neg c6] at H
            exact absurd H (by simp)
        · rw [if_neg c5] at H
          exact absurd H (by simp)
      · rw [if_neg c4] at H
        exact absurd H (by simp)
    · rw [if_neg c3] at H
      exact absurd H (by simp)
  · rw [if_neg c2] at H
    exact absurd H (by simp)

/-! ### udftag_summed: function 117 -/
def udftag_summed.f (k : Nat) (a0 : ByteArray) : Option (ByteArray) := if 0 ≤ 4 then (if 4 ≤ (a0.size : Int) then ((udftag_sum.f k a0).bind fun t106 => ((some (([t106] : List Int) : List Int)).bind fun y107 => (if (a0.extract 0 4).size + (strOfNums y107).size ≤ 9223372036854775807 then (if 5 ≤ (a0.size : Int) then (if ((a0.extract 0 4) ++ (strOfNums y107)).size + (a0.extract 5 a0.size).size ≤ 9223372036854775807 then (some (((a0.extract 0 4) ++ (strOfNums y107)) ++ (a0.extract 5 a0.size))) else (none)) else (none)) else (none)))) else (none)) else (none)
theorem udftag_summed.mono : ∀ a0 k, LeO (udftag_summed.f k a0) (udftag_summed.f (k + 1) a0) := by
  intro a0 k
  unfold udftag_summed.f
  repeat' first
      | (with_reducible exact udftag_sum.mono _ _)
      | (with_reducible exact LeO.refl _)
      | (with_reducible exact LeO.none _)
      | (with_reducible refine LeO.ite ?_ ?_)
      | (with_reducible refine LeO.bind ?_ (fun _ => ?_))
      | exact udftag_sum.mono _ _
      | exact LeO.none _
      | refine LeO.ite ?_ ?_
      | refine LeO.bind ?_ (fun _ => ?_)
def udftag_summed.T1 : Bool × List (List Nat × List Nat) := (true, [([], []), ([0], [0]), ([], []), ([2], [2]), ([3], [3]), ([4], [4]), ([1, 5], [1, 5]), ([], []), ([7], [7]), ([6, 8], [6, 8]), ([9, 3, 0, 1, 2, 3, 4, 5, 6, 7, 8, 9], [9])])
def udftag_summed.B1 : List Nat := [0, 1, 0, 4, 12, 28, 63, 0, 128, 511, 1023]
theorem udftag_summed.tab1 : rtab .any (opsOf Try.f117 1) = udftag_summed.T1 := by kernel_rfl
theorem udftag_summed.bits1 : waitsOk udftag_summed.T1.2 udftag_summed.B1 = true := by kernel_rfl
set_option maxHeartbeats 8000000 in
set_option maxRecDepth 100000 in
theorem udftag_summed.calls (k : Nat) (a0 : ByteArray) (r : ByteArray) (w : World) (h : udftag_summed.f k a0 = some r) :
    Calls Try.prog 117 #[.string a0] w fun e w' => e = .returned (.string r) ∧ Below w.heap.size w w' := by
  have HB := Aside0.mk (Below.refl w.heap.size w)
  have H : (if 0 ≤ 4 then (if 4 ≤ (a0.size : Int) then ((udftag_sum.f k a0).bind fun t106 => ((some (([t106] : List Int) : List Int)).bind fun y107 => (if (a0.extract 0 4).size + (strOfNums y107).size ≤ 9223372036854775807 then (if 5 ≤ (a0.size : Int) then (if ((a0.extract 0 4) ++ (strOfNums y107)).size + (a0.extract 5 a0.size).size ≤ 9223372036854775807 then (some (((a0.extract 0 4) ++ (strOfNums y107)) ++ (a0.extract 5 a0.size))) else (none)) else (none)) else (none)))) else (none)) else (none)) = some r := h
  clear h
  by_cases c2 : 0 ≤ 4
  · rw [if_pos c2] at H
    have c2b0 := eq_true c2
    have c2b1 : decide (0 ≤ 4) = true := decide_eq_true c2
    clear c2
    by_cases c3 : 4 ≤ (a0.size : Int)
    · rw [if_pos c3] at H
      have c3b0 := eq_true c3
      have c3b1 : decide (4 ≤ (a0.size : Int)) = true := decide_eq_true c3
      clear c3
      replace H := Option.bind_eq_some_iff.mp H
      obtain ⟨t106, A40, H⟩ := H
      replace H : ((some (([t106] : List Int) : List Int)).bind fun y107 => (if (a0.extract 0 4).size + (strOfNums y107).size ≤ 9223372036854775807 then (if 5 ≤ (a0.size : Int) then (if ((a0.extract 0 4) ++ (strOfNums y107)).size + (a0.extract 5 a0.size).size ≤ 9223372036854775807 then (some (((a0.extract 0 4) ++ (strOfNums y107)) ++ (a0.extract 5 a0.size))) else (none)) else (none)) else (none))) = some r := H
      have A4 := Aside0.mk A40
      clear A40
      obtain ⟨y107, hy107⟩ : ∃ y_ : List Int, y_ = (([t106] : List Int)) := ⟨_, rfl⟩
      replace H : (if (a0.extract 0 4).size + (strOfNums y107).size ≤ 9223372036854775807 then (if 5 ≤ (a0.size : Int) then (if ((a0.extract 0 4) ++ (strOfNums y107)).size + (a0.extract 5 a0.size).size ≤ 9223372036854775807 then (some (((a0.extract 0 4) ++ (strOfNums y107)) ++ (a0.extract 5 a0.size))) else (none)) else (none)) else (none)) = some r := by first | (rw [hy107]; with_reducible exact H) | (have H2_ := (Option.bind_some _ _).symm.trans H; rw [hy107]; with_reducible exact H2_) | (have H2_ := (Option.bind_some _ _).symm.trans H; with_reducible exact H2_) | with_reducible exact H | (rw [hy107]; exact H) | exact H
      have Ny107 := Aside0.mk hy107
      clear hy107
      by_cases c5 : (a0.extract 0 4).size + (strOfNums y107).size ≤ 9223372036854775807
      · rw [if_pos c5] at H
        have c5b0 := eq_true c5
        have c5b1 : decide ((a0.extract 0 4).size + (strOfNums y107).size ≤ 9223372036854775807) = true := decide_eq_true c5
        try have c5b2 : (9223372036854775807 < (a0.extract 0 4).size + (strOfNums y107).size) = False := eq_false (Nat.not_lt.2 c5)
        try (have c5b3 := c5b2; conv at c5b3 => lhs; simp [go_sem])
        by_cases c6 : 5 ≤ (a0.size : Int)
        · rw [if_pos c6] at H
          have c6b0 := eq_true c6
          have c6b1 : decide (5 ≤ (a0.size : Int)) = true := decide_eq_true c6
          clear c6
          by_cases c7 : ((a0.extract 0 4) ++ (strOfNums y107)).size + (a0.extract 5 a0.size).size ≤ 9223372036854775807
          · rw [if_pos c7] at H
            have c7b0 := eq_true c7
            have c7b1 : decide (((a0.extract 0 4) ++ (strOfNums y107)).size + (a0.extract 5 a0.size).size ≤ 9223372036854775807) = true := decide_eq_true c7
            try have c7b2 : (9223372036854775807 < ((a0.extract 0 4) ++ (strOfNums y107)).size + (a0.extract 5 a0.size).size) = False := eq_false (Nat.not_lt.2 c7)
            try (have c7b3 := c7b2; conv at c7b3 => lhs; simp [go_sem])
            obtain rfl := Option.some.inj H
            go_enter Try.func117, Try.ntmps117
            try go_wp2
            have n0_ := Aside0.mk (below_drew1 HB.out)
            clear HB
            have HB := n0_
            clear n0_
            refine start_ (n := 11) (S := fun w' => True) (ds := []) #[false, false, false, false, false, false, false, false, false, false, false] (by kernel_rfl) rfl rfl trivial (fun hHeld => ?_); refine with_tabW udftag_summed.tab1 udftag_summed.bits1 (fun HT_ HW_ => ?_)
            generalize w.drew = w8 at HB hHeld ⊢
            refine pure_ (i := 0) (N := some 3) (v := ?_) (a' := ?_) #[true, false, false, false, false, false, false, false, false, false, false] rfl rfl (any_of HT_.out (by kernel_rfl)) (fun _ _ _ h => h) (Or.inl ⟨by rfl, ?_⟩) ?_ ?_
            rotate_left
            · intro w'
              go_simp
              with_reducible rfl
            rotate_left
            · simp only [Act.put, List.setIfInBounds_toArray, List.set_cons_zero, List.set_cons_succ, i64_w, i32_w]
              rfl
            refine pure_ (i := 1) (N := some 4) (v := ?_) (a' := ?_) #[true, true, false, false, false, false, false, false, false, false, false] rfl rfl (any_of HT_.out (by kernel_rfl)) (fun _ _ _ h => h) (Or.inl ⟨by rfl, ?_⟩) ?_ ?_
            rotate_left
            · intro w'
              go_simp
              with_reducible rfl
            rotate_left
            · simp only [Act.put, List.setIfInBounds_toArray, List.set_cons_zero, List.set_cons_succ, i64_w, i32_w]
              rfl
            refine pure_ (i := 2) (N := some 5) (v := ?_) (a' := ?_) #[true, true, true, false, false, false, false, false, false, false, false] rfl rfl (any_of HT_.out (by kernel_rfl)) (fun _ _ _ h => h) (Or.inl ⟨by rfl, ?_⟩) ?_ ?_
            rotate_left
            · intro w'
              go_simp
              with_reducible rfl
            rotate_left
            · simp only [Act.put, List.setIfInBounds_toArray, List.set_cons_zero, List.set_cons_succ, i64_w, i32_w]
              rfl
            refine pure_ (i := 7) (N := some 10) (v := ?_) (a' := ?_) #[true, true, true, false, false, false, false, true, false, false, false] rfl rfl (any_of HT_.out (by kernel_rfl)) (fun _ _ _ h => h) (Or.inl ⟨by rfl, ?_⟩) ?_ ?_
            rotate_left
            · intro w'
              go_simp
              with_reducible rfl
            rotate_left
            · simp only [Act.put, List.setIfInBounds_toArray, List.set_cons_zero, List.set_cons_succ, i64_w, i32_w]
              rfl
            refine pure_ (i := 8) (N := some 11) (v := ?_) (a' := ?_) #[true, true, true, false, false, false, false, true, true, false, false] rfl rfl (any_of HT_.out (by kernel_rfl)) (fun _ _ _ h => h) (Or.inl ⟨by rfl, ?_⟩) ?_ ?_
            rotate_left
            · intro w'
              go_simp
              with_reducible rfl
            rotate_left
            · simp only [Act.put, List.setIfInBounds_toArray, List.set_cons_zero, List.set_cons_succ, i64_w, i32_w]
              rfl
            refine one_ (i := 3) (N := some 6) #[true, true, true, true, false, false, false, true, true, false, false] rfl rfl (one_of HT_.out (by kernel_rfl)) (by decide) (fun K hK => ?_)
            refine goes_ Try.func96 (by kernel_rfl) rfl #[.string a0] (by rfl) rfl rfl (by (try simp only [List.map_toArray, List.map_cons, List.map_nil]); first | done | rfl | (simp only [List.length_drop, List.length_take]; rfl)) ?_
            with_reducible refine (udftag_sum.calls k a0 t106 _ A4.out).mono ?_
            rintro e w' ⟨rfl, ⟨nd, rfl⟩⟩
            refine ⟨_, rfl, ?_⟩
            refine hK.out _ _ trivial (fun hHeld => ?_)
            clear hK K
            refine norm_ (a' := ?_) ?_ ?_
            rotate_left
            · show Act.put _ (some 6) _ = _
              simp only [Act.put, List.setIfInBounds_toArray, List.set_cons_zero, List.set_cons_succ, i64_w, i32_w]
              rfl
            refine one_ (i := 4) (N := some 7) #[true, true, true, true, true, false, false, true, true, false, false] rfl rfl (one_of HT_.out (by kernel_rfl)) (by decide) (fun K hK => ?_)
            refine Kd.R_lit_step (Kd.int .u8) _ 5 ?hg (N := 7) ?hd (xs := ([t106] : List Int)) (inner := [.int .u8 t106]) (ok := fun _ => True) (okp := fun _ => True) ?hr ?hp (fun _ hk => hk) trivial (Below.refl _ _) (Nat.le_refl _) (by simp) ?_; (case hd => rfl); (case hg => rfl); (case hr => first | (go_simp; done) | (go_simp; rfl)); (case hp => exact (Reps.one (show Kd.M (Kd.int .u8) _ _ _ t106 [.int .u8 t106] from rfl) (Reps.none _ _)))
            intro v108 w9 ho10 hb hg_ hnew_
            clear hg_ hnew_
            (first | rw [← Ny107.out] at ho10 | (simp only [Int.reduceToNat] at ho10; rw [← Ny107.out] at ho10))
            have n0_ := Aside0.mk (Kd.R_lower ho10 (below_size (by repeat (first | (with_reducible first | exact HB.out | apply below_alloc | apply pw_below_drewN | apply below_drew1) | exact HB.out))))
            have n1_ := Aside0.mk (below_step (by repeat (first | (with_reducible first | exact HB.out | apply below_alloc | apply pw_below_drewN | apply below_drew1) | exact HB.out)) hb)
            clear HB
            have HO109 := n0_
            have HB := n1_
            clear n0_ n1_
            clear hb ho10
            refine hK.out _ _ trivial (fun hHeld => ?_)
            clear hK K
            refine norm_ (a' := ?_) ?_ ?_
            rotate_left
            · show Act.put _ (some 7) _ = _
              simp only [Act.put, List.setIfInBounds_toArray, List.set_cons_zero, List.set_cons_succ, i64_w, i32_w]
              rfl
            refine one_ (i := 5) (N := some 8) #[true, true, true, true, true, true, false, true, true, false, false] rfl rfl (one_of HT_.out (by kernel_rfl)) (by decide) (fun K hK => ?_)
            have hcv11 := own_string (P := Try.prog) Try.underlying29 Try.underlying5 Try.underlying9 (Kd.own_of_R HO109.out)
            refine value_ (w1 := ?_) (v := ?_) (by rfl) rfl ?_ ?_
            rotate_left 2
            · go_simp
              constructor
              · rfl
              · rfl
            clear hcv11
            refine hK.out _ _ trivial (fun hHeld => ?_)
            clear hK K
            refine norm_ (a' := ?_) ?_ ?_
            rotate_left
            · show Act.put _ (some 8) _ = _
              simp only [Act.put, List.setIfInBounds_toArray, List.set_cons_zero, List.set_cons_succ, i64_w, i32_w]
              rfl
            refine pure_ (i := 6) (N := some 9) (v := ?_) (a' := ?_) #[true, true, true, true, true, true, true, true, true, false, false] rfl rfl (any_of HT_.out (by kernel_rfl)) (fun _ _ _ h => h) (Or.inl ⟨by rfl, ?_⟩) ?_ ?_
            rotate_left
            · intro w'
              go_simp
              with_reducible rfl
            rotate_left
            · simp only [Act.put, List.setIfInBounds_toArray, List.set_cons_zero, List.set_cons_succ, i64_w, i32_w]
              rfl
            refine pure_ (i := 9) (N := some 12) (v := ?_) (a' := ?_) #[true, true, true, true, true, true, true, true, true, true, false] rfl rfl (any_of HT_.out (by kernel_rfl)) (fun _ _ _ h => h) (Or.inl ⟨by rfl, ?_⟩) ?_ ?_
            rotate_left
            · intro w'
              go_simp
              with_reducible rfl
            rotate_left
            · simp only [Act.put, List.setIfInBounds_toArray, List.set_cons_zero, List.set_cons_succ, i64_w, i32_w]
              rfl
            refine pure_ (i := 10) (N := some 2) (v := ?_) (a' := ?_) #[true, true, true, true, true, true, true, true, true, true, true] rfl rfl (any_of HT_.out (by kernel_rfl)) (fun _ _ _ h => h) (Or.inl ⟨by rfl, ?_⟩) ?_ ?_
            rotate_left
            · intro w'
              go_simp
              with_reducible rfl
            rotate_left
            · simp only [Act.put, List.setIfInBounds_toArray, List.set_cons_zero, List.set_cons_succ, i64_w, i32_w]
              rfl
            refine done_ (done_of HT_.out (by kernel_rfl)) ?_
            try go_wp2
            go_ret
            exact ⟨by first | rfl | (simp [errW_none, errW_some] <;> rfl) | (simp [*, errW_none, errW_some] <;> rfl), by repeat (first | (with_reducible first | exact HB.out | apply below_alloc | apply pw_below_drewN | apply below_drew1) | exact HB.out)⟩
          · rw [if_neg c7] at H
            exact absurd H (by simp)
        · rw [if_neg c6] at H
          exact absurd H (by simp)
      · rw [if_neg c5] at H
        exact absurd H (by simp)
    · rw [if_neg c3] at H
      exact absurd H (by simp)
  · rw [if_neg c2] at H
    exact absurd H (by simp)

/-! ### udftag_seal: function 91 -/
def udftag_seal.j0 : Nat → Int → Int → Int → ByteArray → Int → Bool → Option (ByteArray × Int)
  | 0, _, _, _, _, _, _ => none
  | k + 1, x0, x1, x2, x3, x4, x13 => if x13 = true then (some ((⟨#[]⟩ : ByteArray), 2)) else (if (x3.size : Int) > x4 then (some ((⟨#[]⟩ : ByteArray), 7)) else ((udftag_little.f x0 2).bind fun t113 => ((udftag_little.f 3 2).bind fun t114 => (if t113.size + t114.size ≤ 9223372036854775807 then (if (t113 ++ t114).size + 2 ≤ 9223372036854775807 then ((udftag_little.f x1 2).bind fun t115 => (if ((t113 ++ t114) ++ (⟨#[0, 0]⟩ : ByteArray)).size + t115.size ≤ 9223372036854775807 then ((checksum_CRC16.f x3).bind fun t116 => ((udftag_little.f (wrap64 (t116)) 2).bind fun t117 => (if (((t113 ++ t114) ++ (⟨#[0, 0]⟩ : ByteArray)) ++ t115).size + t117.size ≤ 9223372036854775807 then ((udftag_little.f (x3.size : Int) 2).bind fun t118 => (if ((((t113 ++ t114) ++ (⟨#[0, 0]⟩ : ByteArray)) ++ t115) ++ t117).size + t118.size ≤ 9223372036854775807 then ((udftag_little.f x2 4).bind fun t119 => (if (((((t113 ++ t114) ++ (⟨#[0, 0]⟩ : ByteArray)) ++ t115) ++ t117) ++ t118).size + t119.size ≤ 9223372036854775807 then ((udftag_summed.f k ((((((t113 ++ t114) ++ (⟨#[0, 0]⟩ : ByteArray)) ++ t115) ++ t117) ++ t118) ++ t119)).bind fun t120 => (if t120.size + x3.size ≤ 9223372036854775807 then (some (t120 ++ x3, 0)) else (none))) else (none))) else (none))) else (none)))) else (none))) else (none)) else (none)))))
def udftag_seal.f (k : Nat) (a0 : Int) (a1 : Int) (a2 : Int) (a3 : ByteArray) (a4 : Int) : Option (ByteArray × Int) := (udftag_fits.f a0 2).bind fun t110 => (if t110 = true then ((udftag_fits.f a1 2).bind fun t111 => (if t111 = true then ((udftag_fits.f a2 4).bind fun t112 => (udftag_seal.j0 k a0 a1 a2 a3 a4 (!t112))) else (udftag_seal.j0 k a0 a1 a2 a3 a4 true))) else (udftag_seal.j0 k a0 a1 a2 a3 a4 true))
theorem udftag_seal.mono_l : ∀ k, (∀ y0 y1 y2 y3 y4 y5, LeO (udftag_seal.j0 k y0 y1 y2 y3 y4 y5) (udftag_seal.j0 (k + 1) y0 y1 y2 y3 y4 y5))
  | 0 => fun _ _ _ _ _ _ r h => by simp [udftag_seal.j0] at h
  | k + 1 => by
    have ih0 := udftag_seal.mono_l k
    · intro y0 y1 y2 y3 y4 y5
      unfold udftag_seal.j0
      repeat' first
      | (with_reducible exact ih0 _ _ _ _ _ _)
      | (with_reducible exact udftag_summed.mono _ _)
      | (with_reducible exact LeO.refl _)
      | (with_reducible exact LeO.none _)
      | (with_reducible refine LeO.ite ?_ ?_)
      | (with_reducible refine LeO.bind ?_ (fun _ => ?_))
      | exact ih0 _ _ _ _ _ _
      | exact udftag_summed.mono _ _
      | exact LeO.none _
      | refine LeO.ite ?_ ?_
      | refine LeO.bind ?_ (fun _ => ?_)
theorem udftag_seal.mono : ∀ a0 a1 a2 a3 a4 k, LeO (udftag_seal.f k a0 a1 a2 a3 a4) (udftag_seal.f (k + 1) a0 a1 a2 a3 a4) := by
  intro a0 a1 a2 a3 a4 k
  have ih0 := udftag_seal.mono_l k
  unfold udftag_seal.f
  repeat' first
      | (with_reducible exact ih0 _ _ _ _ _ _)
      | (with_reducible exact udftag_summed.mono _ _)
      | (with_reducible exact LeO.refl _)
      | (with_reducible exact LeO.none _)
      | (with_reducible refine LeO.ite ?_ ?_)
      | (with_reducible refine LeO.bind ?_ (fun _ => ?_))
      | exact ih0 _ _ _ _ _ _
      | exact udftag_summed.mono _ _
      | exact LeO.none _
      | refine LeO.ite ?_ ?_
      | refine LeO.bind ?_ (fun _ => ?_)
set_option maxHeartbeats 8000000 in
set_option maxRecDepth 100000 in
theorem udftag_seal.calls (k : Nat) (a0 : Int) (a1 : Int) (a2 : Int) (a3 : ByteArray) (a4 : Int) (r1 : ByteArray) (r2 : Int) (w : World) (h : udftag_seal.f k a0 a1 a2 a3 a4 = some (r1, r2)) :
    Calls Try.prog 91 #[.int .i64 a0, .int .i64 a1, .int .i64 a2, .string a3, .int .i64 a4] w fun e w' => e = .returned (.tuple #[.string r1, .int .i64 r2]) ∧ Below w.heap.size w w' := by
  have HB := Aside0.mk (Below.refl w.heap.size w)
  have H : ((udftag_fits.f a0 2).bind fun t110 => (if t110 = true then ((udftag_fits.f a1 2).bind fun t111 => (if t111 = true then ((udftag_fits.f a2 4).bind fun t112 => (udftag_seal.j0 k a0 a1 a2 a3 a4 (!t112))) else (udftag_seal.j0 k a0 a1 a2 a3 a4 true))) else (udftag_seal.j0 k a0 a1 a2 a3 a4 true))) = some (r1, r2) := h
  clear h
  have HC6 := Aside0.mk H
  clear H
  go_enter Try.func91, Try.ntmps91
  go_upto_region 1 with (fail)
  go_cut [13] (fun v13 wc => ∃ (kq : Nat) (x13_5 : Bool), v13 = .bool x13_5 ∧ Aside0 (udftag_seal.j0 kq a0 a1 a2 a3 a4 x13_5 = some (r1, r2)) ∧ Aside0 (kq ≤ k) ∧ Aside0 (Below w.heap.size w wc))
  case first =>
    have H := HC6.out
    clear HC6
    replace H := Option.bind_eq_some_iff.mp H
    obtain ⟨t110, A70, H⟩ := H
    replace H : (if t110 = true then ((udftag_fits.f a1 2).bind fun t111 => (if t111 = true then ((udftag_fits.f a2 4).bind fun t112 => (udftag_seal.j0 k a0 a1 a2 a3 a4 (!t112))) else (udftag_seal.j0 k a0 a1 a2 a3 a4 true))) else (udftag_seal.j0 k a0 a1 a2 a3 a4 true)) = some (r1, r2) := H
    have A7 := Aside0.mk A70
    clear A70
    by_cases c8 : t110 = true
    · subst c8
      have H1 : ((udftag_fits.f a1 2).bind fun t111 => (if t111 = true then ((udftag_fits.f a2 4).bind fun t112 => (udftag_seal.j0 k a0 a1 a2 a3 a4 (!t112))) else (udftag_seal.j0 k a0 a1 a2 a3 a4 true))) = some (r1, r2) := by rw [if_pos rfl] at H; exact H
      clear H
      have H := H1
      clear H1
      replace H := Option.bind_eq_some_iff.mp H
      obtain ⟨t111, A90, H⟩ := H
      replace H : (if t111 = true then ((udftag_fits.f a2 4).bind fun t112 => (udftag_seal.j0 k a0 a1 a2 a3 a4 (!t112))) else (udftag_seal.j0 k a0 a1 a2 a3 a4 true)) = some (r1, r2) := H
      have A9 := Aside0.mk A90
      clear A90
      by_cases c10 : t111 = true
      · subst c10
        have H1 : ((udftag_fits.f a2 4).bind fun t112 => (udftag_seal.j0 k a0 a1 a2 a3 a4 (!t112))) = some (r1, r2) := by rw [if_pos rfl] at H; exact H
        clear H
        have H := H1
        clear H1
        replace H := Option.bind_eq_some_iff.mp H
        obtain ⟨t112, A110, H⟩ := H
        replace H : (udftag_seal.j0 k a0 a1 a2 a3 a4 (!t112)) = some (r1, r2) := H
        have A11 := Aside0.mk A110
        clear A110
        have H' := Aside0.mk H
        clear H
        go_wp2_with (first | ((with_reducible refine gate_callee (f := 114) rfl ?_); refine goesL_ (some 15) rfl rfl Try.func114 (by kernel_rfl) rfl #[.int .i64 a0, .int .i64 2] rfl (by (try simp only [List.map_toArray, List.map_cons, List.map_nil]); first | done | rfl | (simp only [List.length_drop, List.length_take]; rfl)) ?_; (with_reducible refine (udftag_fits.calls a0 2 true _ A7.out).mono ?_); rintro e w' ⟨rfl, ⟨nd, rfl⟩⟩; refine ⟨_, rfl, ?_⟩) | (go_at_call 114; (with_reducible refine (udftag_fits.calls a1 2 true _ A9.out).mono ?_); rintro e w' ⟨rfl, ⟨nd, rfl⟩⟩) | (go_at_call 114; (with_reducible refine (udftag_fits.calls a2 4 t112 _ A11.out).mono ?_); rintro e w' ⟨rfl, ⟨nd, rfl⟩⟩))
        go_meet
        case rel => exact ⟨_, (!t112), (by first | rfl | (simp; done) | (simp [*]; done)), H', ⟨by first | omega | exact Nat.le_refl _⟩, ⟨by repeat (first | (with_reducible first | exact HB.out | apply below_alloc | apply pw_below_drewN | apply below_drew1) | exact HB.out)⟩⟩
      · replace c10 := Bool.eq_false_iff.mpr c10
        subst c10
        have H1 : (udftag_seal.j0 k a0 a1 a2 a3 a4 true) = some (r1, r2) := by rw [if_neg (show ¬ (false = true) by decide)] at H; exact H
        clear H
        have H := H1
        clear H1
        have H' := Aside0.mk H
        clear H
        go_wp2_with (first | ((with_reducible refine gate_callee (f := 114) rfl ?_); refine goesL_ (some 15) rfl rfl Try.func114 (by kernel_rfl) rfl #[.int .i64 a0, .int .i64 2] rfl (by (try simp only [List.map_toArray, List.map_cons, List.map_nil]); first | done | rfl | (simp only [List.length_drop, List.length_take]; rfl)) ?_; (with_reducible refine (udftag_fits.calls a0 2 true _ A7.out).mono ?_); rintro e w' ⟨rfl, ⟨nd, rfl⟩⟩; refine ⟨_, rfl, ?_⟩) | (go_at_call 114; (with_reducible refine (udftag_fits.calls a1 2 false _ A9.out).mono ?_); rintro e w' ⟨rfl, ⟨nd, rfl⟩⟩))
        go_meet
        case rel => exact ⟨_, (true), (by first | rfl | (simp; done) | (simp [*]; done)), H', ⟨by first | omega | exact Nat.le_refl _⟩, ⟨by repeat (first | (with_reducible first | exact HB.out | apply below_alloc | apply pw_below_drewN | apply below_drew1) | exact HB.out)⟩⟩
    · replace c8 := Bool.eq_false_iff.mpr c8
      subst c8
      have H1 : (udftag_seal.j0 k a0 a1 a2 a3 a4 true) = some (r1, r2) := by rw [if_neg (show ¬ (false = true) by decide)] at H; exact H
      clear H
      have H := H1
      clear H1
      have H' := Aside0.mk H
      clear H
      go_wp2_with (first | ((with_reducible refine gate_callee (f := 114) rfl ?_); refine goesL_ (some 15) rfl rfl Try.func114 (by kernel_rfl) rfl #[.int .i64 a0, .int .i64 2] rfl (by (try simp only [List.map_toArray, List.map_cons, List.map_nil]); first | done | rfl | (simp only [List.length_drop, List.length_take]; rfl)) ?_; (with_reducible refine (udftag_fits.calls a0 2 false _ A7.out).mono ?_); rintro e w' ⟨rfl, ⟨nd, rfl⟩⟩; refine ⟨_, rfl, ?_⟩))
      go_meet
      case rel => exact ⟨_, (true), (by first | rfl | (simp; done) | (simp [*]; done)), H', ⟨by first | omega | exact Nat.le_refl _⟩, ⟨by repeat (first | (with_reducible first | exact HB.out | apply below_alloc | apply pw_below_drewN | apply below_drew1) | exact HB.out)⟩⟩
  case rest =>
    clear HC6
    try clear c1
    try clear p2
    try clear c8
    try clear c9
    try clear c10
    try clear c11
    obtain ⟨kq, x13_5, rfl, HA, HJ5, HB⟩ := hcut
    cases kq with
    | zero => exact absurd HA.out (by simp [udftag_seal.j0])
    | succ kj5 =>
      have H := HA.out
      clear HA
      simp only [udftag_seal.j0] at H
      by_cases c12 : x13_5 = true
      · subst c12
        have H1 : (some ((⟨#[]⟩ : ByteArray), 2)) = some (r1, r2) := by rw [if_pos rfl] at H; exact H
        clear H
        have H := H1
        clear H1
        simp only [Option.some.injEq, Prod.mk.injEq] at H
        obtain ⟨rfl, rfl⟩ := H
        go_wp2
        go_ret2
        exact ⟨by first | rfl | (simp [errW_none, errW_some] <;> rfl) | (simp [*, errW_none, errW_some] <;> rfl), by repeat (first | (with_reducible first | exact HB.out | apply below_alloc | apply pw_below_drewN | apply below_drew1) | exact HB.out)⟩
      · replace c12 := Bool.eq_false_iff.mpr c12
        subst c12
        have H1 : (if (a3.size : Int) > a4 then (some ((⟨#[]⟩ : ByteArray), 7)) else ((udftag_little.f a0 2).bind fun t113 => ((udftag_little.f 3 2).bind fun t114 => (if t113.size + t114.size ≤ 9223372036854775807 then (if (t113 ++ t114).size + 2 ≤ 9223372036854775807 then ((udftag_little.f a1 2).bind fun t115 => (if ((t113 ++ t114) ++ (⟨#[0, 0]⟩ : ByteArray)).size + t115.size ≤ 9223372036854775807 then ((checksum_CRC16.f a3).bind fun t116 => ((udftag_little.f (wrap64 (t116)) 2).bind fun t117 => (if (((t113 ++ t114) ++ (⟨#[0, 0]⟩ : ByteArray)) ++ t115).size + t117.size ≤ 9223372036854775807 then ((udftag_little.f (a3.size : Int) 2).bind fun t118 => (if ((((t113 ++ t114) ++ (⟨#[0, 0]⟩ : ByteArray)) ++ t115) ++ t117).size + t118.size ≤ 9223372036854775807 then ((udftag_little.f a2 4).bind fun t119 => (if (((((t113 ++ t114) ++ (⟨#[0, 0]⟩ : ByteArray)) ++ t115) ++ t117) ++ t118).size + t119.size ≤ 9223372036854775807 then ((udftag_summed.f kj5 ((((((t113 ++ t114) ++ (⟨#[0, 0]⟩ : ByteArray)) ++ t115) ++ t117) ++ t118) ++ t119)).bind fun t120 => (if t120.size + a3.size ≤ 9223372036854775807 then (some (t120 ++ a3, 0)) else (none))) else (none))) else (none))) else (none)))) else (none))) else (none)) else (none))))) = some (r1, r2) := by rw [if_neg (show ¬ (false = true) by decide)] at H; exact H
        clear H
        have H := H1
        clear H1
        by_cases c13 : (a3.size : Int) > a4
        · rw [if_pos c13] at H
          have c13b0 : decide (a4 < (a3.size : Int)) = true := decide_eq_true c13
          clear c13
          simp only [Option.some.injEq, Prod.mk.injEq] at H
          obtain ⟨rfl, rfl⟩ := H
          go_wp2
          go_ret2
          exact ⟨by first | rfl | (simp [errW_none, errW_some] <;> rfl) | (simp [*, errW_none, errW_some] <;> rfl), by repeat (first | (with_reducible first | exact HB.out | apply below_alloc | apply pw_below_drewN | apply below_drew1) | exact HB.out)⟩
        · rw [if_neg c13] at H
          have c13b0 : decide (a4 < (a3.size : Int)) = false := decide_eq_false c13
          clear c13
          replace H := Option.bind_eq_some_iff.mp H
          obtain ⟨t113, A140, H⟩ := H
          replace H : ((udftag_little.f 3 2).bind fun t114 => (if t113.size + t114.size ≤ 9223372036854775807 then (if (t113 ++ t114).size + 2 ≤ 9223372036854775807 then ((udftag_little.f a1 2).bind fun t115 => (if ((t113 ++ t114) ++ (⟨#[0, 0]⟩ : ByteArray)).size + t115.size ≤ 9223372036854775807 then ((checksum_CRC16.f a3).bind fun t116 => ((udftag_little.f (wrap64 (t116)) 2).bind fun t117 => (if (((t113 ++ t114) ++ (⟨#[0, 0]⟩ : ByteArray)) ++ t115).size + t117.size ≤ 9223372036854775807 then ((udftag_little.f (a3.size : Int) 2).bind fun t118 => (if ((((t113 ++ t114) ++ (⟨#[0, 0]⟩ : ByteArray)) ++ t115) ++ t117).size + t118.size ≤ 9223372036854775807 then ((udftag_little.f a2 4).bind fun t119 => (if (((((t113 ++ t114) ++ (⟨#[0, 0]⟩ : ByteArray)) ++ t115) ++ t117) ++ t118).size + t119.size ≤ 9223372036854775807 then ((udftag_summed.f kj5 ((((((t113 ++ t114) ++ (⟨#[0, 0]⟩ : ByteArray)) ++ t115) ++ t117) ++ t118) ++ t119)).bind fun t120 => (if t120.size + a3.size ≤ 9223372036854775807 then (some (t120 ++ a3, 0)) else (none))) else (none))) else (none))) else (none)))) else (none))) else (none)) else (none))) = some (r1, r2) := H
          have A14 := Aside0.mk A140
          clear A140
          replace H := Option.bind_eq_some_iff.mp H
          obtain ⟨t114, A150, H⟩ := H
          replace H : (if t113.size + t114.size ≤ 9223372036854775807 then (if (t113 ++ t114).size + 2 ≤ 9223372036854775807 then ((udftag_little.f a1 2).bind fun t115 => (if ((t113 ++ t114) ++ (⟨#[0, 0]⟩ : ByteArray)).size + t115.size ≤ 9223372036854775807 then ((checksum_CRC16.f a3).bind fun t116 => ((udftag_little.f (wrap64 (t116)) 2).bind fun t117 => (if (((t113 ++ t114) ++ (⟨#[0, 0]⟩ : ByteArray)) ++ t115).size + t117.size ≤ 9223372036854775807 then ((udftag_little.f (a3.size : Int) 2).bind fun t118 => (if ((((t113 ++ t114) ++ (⟨#[0, 0]⟩ : ByteArray)) ++ t115) ++ t117).size + t118.size ≤ 9223372036854775807 then ((udftag_little.f a2 4).bind fun t119 => (if (((((t113 ++ t114) ++ (⟨#[0, 0]⟩ : ByteArray)) ++ t115) ++ t117) ++ t118).size + t119.size ≤ 9223372036854775807 then ((udftag_summed.f kj5 ((((((t113 ++ t114) ++ (⟨#[0, 0]⟩ : ByteArray)) ++ t115) ++ t117) ++ t118) ++ t119)).bind fun t120 => (if t120.size + a3.size ≤ 9223372036854775807 then (some (t120 ++ a3, 0)) else (none))) else (none))) else (none))) else (none)))) else (none))) else (none)) else (none)) = some (r1, r2) := H
          have A15 := Aside0.mk A150
          clear A150
          by_cases c16 : t113.size + t114.size ≤ 9223372036854775807
          · rw [if_pos c16] at H
            have c16b0 := eq_true c16
            have c16b1 : decide (t113.size + t114.size ≤ 9223372036854775807) = true := decide_eq_true c16
            try have c16b2 : (9223372036854775807 < t113.size + t114.size) = False := eq_false (Nat.not_lt.2 c16)
            try (have c16b3 := c16b2; conv at c16b3 => lhs; simp [go_sem])
            by_cases c17 : (t113 ++ t114).size + 2 ≤ 9223372036854775807
            · rw [if_pos c17] at H
              have c17b0 := eq_true c17
              have c17b1 : decide ((t113 ++ t114).size + 2 ≤ 9223372036854775807) = true := decide_eq_true c17
              try have c17b2 : (9223372036854775807 < (t113 ++ t114).size + 2) = False := eq_false (Nat.not_lt.2 c17)
              try (have c17b3 := c17b2; conv at c17b3 => lhs; simp [go_sem])
              replace H := Option.bind_eq_some_iff.mp H
              obtain ⟨t115, A180, H⟩ := H
              replace H : (if ((t113 ++ t114) ++ (⟨#[0, 0]⟩ : ByteArray)).size + t115.size ≤ 9223372036854775807 then ((checksum_CRC16.f a3).bind fun t116 => ((udftag_little.f (wrap64 (t116)) 2).bind fun t117 => (if (((t113 ++ t114) ++ (⟨#[0, 0]⟩ : ByteArray)) ++ t115).size + t117.size ≤ 9223372036854775807 then ((udftag_little.f (a3.size : Int) 2).bind fun t118 => (if ((((t113 ++ t114) ++ (⟨#[0, 0]⟩ : ByteArray)) ++ t115) ++ t117).size + t118.size ≤ 9223372036854775807 then ((udftag_little.f a2 4).bind fun t119 => (if (((((t113 ++ t114) ++ (⟨#[0, 0]⟩ : ByteArray)) ++ t115) ++ t117) ++ t118).size + t119.size ≤ 9223372036854775807 then ((udftag_summed.f kj5 ((((((t113 ++ t114) ++ (⟨#[0, 0]⟩ : ByteArray)) ++ t115) ++ t117) ++ t118) ++ t119)).bind fun t120 => (if t120.size + a3.size ≤ 9223372036854775807 then (some (t120 ++ a3, 0)) else (none))) else (none))) else (none))) else (none)))) else (none)) = some (r1, r2) := H
              have A18 := Aside0.mk A180
              clear A180
              by_cases c19 : ((t113 ++ t114) ++ (⟨#[0, 0]⟩ : ByteArray)).size + t115.size ≤ 9223372036854775807
              · rw [if_pos c19] at H
                have c19b0 := eq_true c19
                have c19b1 : decide (((t113 ++ t114) ++ (⟨#[0, 0]⟩ : ByteArray)).size + t115.size ≤ 9223372036854775807) = true := decide_eq_true c19
                try have c19b2 : (9223372036854775807 < ((t113 ++ t114) ++ (⟨#[0, 0]⟩ : ByteArray)).size + t115.size) = False := eq_false (Nat.not_lt.2 c19)
                try (have c19b3 := c19b2; conv at c19b3 => lhs; simp [go_sem])
                replace H := Option.bind_eq_some_iff.mp H
                obtain ⟨t116, A200, H⟩ := H
                replace H : ((udftag_little.f (wrap64 (t116)) 2).bind fun t117 => (if (((t113 ++ t114) ++ (⟨#[0, 0]⟩ : ByteArray)) ++ t115).size + t117.size ≤ 9223372036854775807 then ((udftag_little.f (a3.size : Int) 2).bind fun t118 => (if ((((t113 ++ t114) ++ (⟨#[0, 0]⟩ : ByteArray)) ++ t115) ++ t117).size + t118.size ≤ 9223372036854775807 then ((udftag_little.f a2 4).bind fun t119 => (if (((((t113 ++ t114) ++ (⟨#[0, 0]⟩ : ByteArray)) ++ t115) ++ t117) ++ t118).size + t119.size ≤ 9223372036854775807 then ((udftag_summed.f kj5 ((((((t113 ++ t114) ++ (⟨#[0, 0]⟩ : ByteArray)) ++ t115) ++ t117) ++ t118) ++ t119)).bind fun t120 => (if t120.size + a3.size ≤ 9223372036854775807 then (some (t120 ++ a3, 0)) else (none))) else (none))) else (none))) else (none))) = some (r1, r2) := H
                have A20 := Aside0.mk A200
                clear A200
                replace H := Option.bind_eq_some_iff.mp H
                obtain ⟨t117, A210, H⟩ := H
                replace H : (if (((t113 ++ t114) ++ (⟨#[0, 0]⟩ : ByteArray)) ++ t115).size + t117.size ≤ 9223372036854775807 then ((udftag_little.f (a3.size : Int) 2).bind fun t118 => (if ((((t113 ++ t114) ++ (⟨#[0, 0]⟩ : ByteArray)) ++ t115) ++ t117).size + t118.size ≤ 9223372036854775807 then ((udftag_little.f a2 4).bind fun t119 => (if (((((t113 ++ t114) ++ (⟨#[0, 0]⟩ : ByteArray)) ++ t115) ++ t117) ++ t118).size + t119.size ≤ 9223372036854775807 then ((udftag_summed.f kj5 ((((((t113 ++ t114) ++ (⟨#[0, 0]⟩ : ByteArray)) ++ t115) ++ t117) ++ t118) ++ t119)).bind fun t120 => (if t120.size + a3.size ≤ 9223372036854775807 then (some (t120 ++ a3, 0)) else (none))) else (none))) else (none))) else (none)) = some (r1, r2) := H
                have A21 := Aside0.mk A210
                clear A210
                by_cases c22 : (((t113 ++ t114) ++ (⟨#[0, 0]⟩ : ByteArray)) ++ t115).size + t117.size ≤ 9223372036854775807
                · rw [if_pos c22] at H
                  have c22b0 := eq_true c22
                  have c22b1 : decide ((((t113 ++ t114) ++ (⟨#[0, 0]⟩ : ByteArray)) ++ t115).size + t117.size ≤ 9223372036854775807) = true := decide_eq_true c22
                  try have c22b2 : (9223372036854775807 < (((t113 ++ t114) ++ (⟨#[0, 0]⟩ : ByteArray)) ++ t115).size + t117.size) = False := eq_false (Nat.not_lt.2 c22)
                  try (have c22b3 := c22b2; conv at c22b3 => lhs; simp [go_sem])
                  replace H := Option.bind_eq_some_iff.mp H
                  obtain ⟨t118, A230, H⟩ := H
                  replace H : (if ((((t113 ++ t114) ++ (⟨#[0, 0]⟩ : ByteArray)) ++ t115) ++ t117).size + t118.size ≤ 9223372036854775807 then ((udftag_little.f a2 4).bind fun t119 => (if (((((t113 ++ t114) ++ (⟨#[0, 0]⟩ : ByteArray)) ++ t115) ++ t117) ++ t118).size + t119.size ≤ 9223372036854775807 then ((udftag_summed.f kj5 ((((((t113 ++ t114) ++ (⟨#[0, 0]⟩ : ByteArray)) ++ t115) ++ t117) ++ t118) ++ t119)).bind fun t120 => (if t120.size + a3.size ≤ 9223372036854775807 then (some (t120 ++ a3, 0)) else (none))) else (none))) else (none)) = some (r1, r2) := H
                  have A23 := Aside0.mk A230
                  clear A230
                  by_cases c24 : ((((t113 ++ t114) ++ (⟨#[0, 0]⟩ : ByteArray)) ++ t115) ++ t117).size + t118.size ≤ 9223372036854775807
                  · rw [if_pos c24] at H
                    have c24b0 := eq_true c24
                    have c24b1 : decide (((((t113 ++ t114) ++ (⟨#[0, 0]⟩ : ByteArray)) ++ t115) ++ t117).size + t118.size ≤ 9223372036854775807) = true := decide_eq_true c24
                    try have c24b2 : (9223372036854775807 < ((((t113 ++ t114) ++ (⟨#[0, 0]⟩ : ByteArray)) ++ t115) ++ t117).size + t118.size) = False := eq_false (Nat.not_lt.2 c24)
                    try (have c24b3 := c24b2; conv at c24b3 => lhs; simp [go_sem])
                    replace H := Option.bind_eq_some_iff.mp H
                    obtain ⟨t119, A250, H⟩ := H
                    replace H : (if (((((t113 ++ t114) ++ (⟨#[0, 0]⟩ : ByteArray)) ++ t115) ++ t117) ++ t118).size + t119.size ≤ 9223372036854775807 then ((udftag_summed.f kj5 ((((((t113 ++ t114) ++ (⟨#[0, 0]⟩ : ByteArray)) ++ t115) ++ t117) ++ t118) ++ t119)).bind fun t120 => (if t120.size + a3.size ≤ 9223372036854775807 then (some (t120 ++ a3, 0)) else (none))) else (none)) = some (r1, r2) := H
                    have A25 := Aside0.mk A250
                    clear A250
                    by_cases c26 : (((((t113 ++ t114) ++ (⟨#[0, 0]⟩ : ByteArray)) ++ t115) ++ t117) ++ t118).size + t119.size ≤ 9223372036854775807
                    · rw [if_pos c26] at H
                      have c26b0 := eq_true c26
                      have c26b1 : decide ((((((t113 ++ t114) ++ (⟨#[0, 0]⟩ : ByteArray)) ++ t115) ++ t117) ++ t118).size + t119.size ≤ 9223372036854775807) = true := decide_eq_true c26
                      try have c26b2 : (9223372036854775807 < (((((t113 ++ t114) ++ (⟨#[0, 0]⟩ : ByteArray)) ++ t115) ++ t117) ++ t118).size + t119.size) = False := eq_false (Nat.not_lt.2 c26)
                      try (have c26b3 := c26b2; conv at c26b3 => lhs; simp [go_sem])
                      replace H := Option.bind_eq_some_iff.mp H
                      obtain ⟨t120, A270, H⟩ := H
                      replace H : (if t120.size + a3.size ≤ 9223372036854775807 then (some (t120 ++ a3, 0)) else (none)) = some (r1, r2) := H
                      have A27 := Aside0.mk A270
                      clear A270
                      by_cases c28 : t120.size + a3.size ≤ 9223372036854775807
                      · rw [if_pos c28] at H
                        have c28b0 := eq_true c28
                        have c28b1 : decide (t120.size + a3.size ≤ 9223372036854775807) = true := decide_eq_true c28
                        try have c28b2 : (9223372036854775807 < t120.size + a3.size) = False := eq_false (Nat.not_lt.2 c28)
                        try (have c28b3 := c28b2; conv at c28b3 => lhs; simp [go_sem])
                        simp only [Option.some.injEq, Prod.mk.injEq] at H
                        obtain ⟨rfl, rfl⟩ := H
                        go_wp2_with (first | ((with_reducible refine gate_callee (f := 116) rfl ?_); refine goesL_ (some 33) rfl rfl Try.func116 (by kernel_rfl) rfl #[.int .i64 a0, .int .i64 2] rfl (by (try simp only [List.map_toArray, List.map_cons, List.map_nil]); first | done | rfl | (simp only [List.length_drop, List.length_take]; rfl)) ?_; (with_reducible refine (udftag_little.calls a0 2 t113 _ A14.out).mono ?_); rintro e w29 ⟨rfl, hb⟩; refine ⟨_, rfl, ?_⟩; have n0_ := Aside0.mk (below_step (by repeat (first | (with_reducible first | exact HB.out | apply below_alloc | apply pw_below_drewN | apply below_drew1) | exact HB.out)) hb); clear HB; have HB := n0_; clear n0_; (try clear hb); (try clear hb2); (try clear hk); (try clear hi)) | ((with_reducible refine gate_callee (f := 116) rfl ?_); refine goesL_ (some 34) rfl rfl Try.func116 (by kernel_rfl) rfl #[.int .i64 3, .int .i64 2] rfl (by (try simp only [List.map_toArray, List.map_cons, List.map_nil]); first | done | rfl | (simp only [List.length_drop, List.length_take]; rfl)) ?_; (with_reducible refine (udftag_little.calls 3 2 t114 _ A15.out).mono ?_); rintro e w30 ⟨rfl, hb⟩; refine ⟨_, rfl, ?_⟩; have n0_ := Aside0.mk (below_step (by repeat (first | (with_reducible first | exact HB.out | apply below_alloc | apply pw_below_drewN | apply below_drew1) | exact HB.out)) hb); clear HB; have HB := n0_; clear n0_; (try clear hb); (try clear hb2); (try clear hk); (try clear hi)) | ((with_reducible refine gate_callee (f := 116) rfl ?_); refine goesL_ (some 38) rfl rfl Try.func116 (by kernel_rfl) rfl #[.int .i64 a1, .int .i64 2] rfl (by (try simp only [List.map_toArray, List.map_cons, List.map_nil]); first | done | rfl | (simp only [List.length_drop, List.length_take]; rfl)) ?_; (with_reducible refine (udftag_little.calls a1 2 t115 _ A18.out).mono ?_); rintro e w31 ⟨rfl, hb⟩; refine ⟨_, rfl, ?_⟩; have n0_ := Aside0.mk (below_step (by repeat (first | (with_reducible first | exact HB.out | apply below_alloc | apply pw_below_drewN | apply below_drew1) | exact HB.out)) hb); clear HB; have HB := n0_; clear n0_; (try clear hb); (try clear hb2); (try clear hk); (try clear hi)) | ((with_reducible refine gate_callee (f := 97) rfl ?_); refine goesL_ (some 41) rfl rfl Try.func97 (by kernel_rfl) rfl #[.string a3] rfl (by (try simp only [List.map_toArray, List.map_cons, List.map_nil]); first | done | rfl | (simp only [List.length_drop, List.length_take]; rfl)) ?_; (with_reducible refine (checksum_CRC16.calls a3 t116 _ A20.out).mono ?_); rintro e w32 ⟨rfl, hb⟩; refine ⟨_, rfl, ?_⟩; have n0_ := Aside0.mk (below_step (by repeat (first | (with_reducible first | exact HB.out | apply below_alloc | apply pw_below_drewN | apply below_drew1) | exact HB.out)) hb); clear HB; have HB := n0_; clear n0_; (try clear hb); (try clear hb2); (try clear hk); (try clear hi)) | ((with_reducible refine gate_callee (f := 116) rfl ?_); refine goesL_ (some 43) rfl rfl Try.func116 (by kernel_rfl) rfl #[.int .i64 (wrap64 (t116)), .int .i64 2] rfl (by (try simp only [List.map_toArray, List.map_cons, List.map_nil]); first | done | rfl | (simp only [List.length_drop, List.length_take]; rfl)) ?_; (with_reducible refine (udftag_little.calls (wrap64 (t116)) 2 t117 _ A21.out).mono ?_); rintro e w33 ⟨rfl, hb⟩; refine ⟨_, rfl, ?_⟩; have n0_ := Aside0.mk (below_step (by repeat (first | (with_reducible first | exact HB.out | apply below_alloc | apply pw_below_drewN | apply below_drew1) | exact HB.out)) hb); clear HB; have HB := n0_; clear n0_; (try clear hb); (try clear hb2); (try clear hk); (try clear hi)) | ((with_reducible refine gate_callee (f := 116) rfl ?_); refine goesL_ (some 47) rfl rfl Try.func116 (by kernel_rfl) rfl #[.int .i64 (a3.size : Int), .int .i64 2] rfl (by (try simp only [List.map_toArray, List.map_cons, List.map_nil]); first | done | rfl | (simp only [List.length_drop, List.length_take]; rfl)) ?_; (with_reducible refine (udftag_little.calls (a3.size : Int) 2 t118 _ A23.out).mono ?_); rintro e w34 ⟨rfl, hb⟩; refine ⟨_, rfl, ?_⟩; have n0_ := Aside0.mk (below_step (by repeat (first | (with_reducible first | exact HB.out | apply below_alloc | apply pw_below_drewN | apply below_drew1) | exact HB.out)) hb); clear HB; have HB := n0_; clear n0_; (try clear hb); (try clear hb2); (try clear hk); (try clear hi)) | ((with_reducible refine gate_callee (f := 116) rfl ?_); refine goesL_ (some 50) rfl rfl Try.func116 (by kernel_rfl) rfl #[.int .i64 a2, .int .i64 4] rfl (by (try simp only [List.map_toArray, List.map_cons, List.map_nil]); first | done | rfl | (simp only [List.length_drop, List.length_take]; rfl)) ?_; (with_reducible refine (udftag_little.calls a2 4 t119 _ A25.out).mono ?_); rintro e w35 ⟨rfl, hb⟩; refine ⟨_, rfl, ?_⟩; have n0_ := Aside0.mk (below_step (by repeat (first | (with_reducible first | exact HB.out | apply below_alloc | apply pw_below_drewN | apply below_drew1) | exact HB.out)) hb); clear HB; have HB := n0_; clear n0_; (try clear hb); (try clear hb2); (try clear hk); (try clear hi)) | ((with_reducible refine gate_callee (f := 117) rfl ?_); refine goesL_ (some 53) rfl rfl Try.func117 (by kernel_rfl) rfl #[.string ((((((t113 ++ t114) ++ (⟨#[0, 0]⟩ : ByteArray)) ++ t115) ++ t117) ++ t118) ++ t119)] rfl (by (try simp only [List.map_toArray, List.map_cons, List.map_nil]); first | done | rfl | (simp only [List.length_drop, List.length_take]; rfl)) ?_; (with_reducible refine (udftag_summed.calls kj5 ((((((t113 ++ t114) ++ (⟨#[0, 0]⟩ : ByteArray)) ++ t115) ++ t117) ++ t118) ++ t119) t120 _ A27.out).mono ?_); rintro e w36 ⟨rfl, hb⟩; refine ⟨_, rfl, ?_⟩; have n0_ := Aside0.mk (below_step (by repeat (first | (with_reducible first | exact HB.out | apply below_alloc | apply pw_below_drewN | apply below_drew1) | exact HB.out)) hb); clear HB; have HB := n0_; clear n0_; (try clear hb); (try clear hb2); (try clear hk); (try clear hi)))
                        go_ret2
                        exact ⟨by first | rfl | (simp [errW_none, errW_some] <;> rfl) | (simp [*, errW_none, errW_some] <;> rfl), by repeat (first | (with_reducible first | exact HB.out | apply below_alloc | apply pw_below_drewN | apply below_drew1) | exact HB.out)⟩
                      · rw [if_neg c28] at H
                        exact absurd H (by simp)
                    · rw [if_neg c26] at H
                      exact absurd H (by simp)
                  · rw [if_neg c24] at H
                    exact absurd H (by simp)
                · rw [if_neg c22] at H
                  exact absurd H (by simp)
              · rw [if_neg c19] at H
                exact absurd H (by simp)
            · rw [if_neg c17] at H
              exact absurd H (by simp)
          · rw [if_neg c16] at H
            exact absurd H (by simp)

/-! ### udftag_Seal: function 27 -/
def udftag_Seal.f (k : Nat) (a0 : Int) (a1 : Int) (a2 : Int) (a3 : ByteArray) : Option (ByteArray × Int) := (udftag_most.f 2).bind fun t121 => ((udftag_seal.f k a0 a1 a2 a3 t121).bind fun bt122 => (some (bt122.1, bt122.2)))
theorem udftag_Seal.mono : ∀ a0 a1 a2 a3 k, LeO (udftag_Seal.f k a0 a1 a2 a3) (udftag_Seal.f (k + 1) a0 a1 a2 a3) := by
  intro a0 a1 a2 a3 k
  unfold udftag_Seal.f
  repeat' first
      | (with_reducible exact udftag_seal.mono _ _ _ _ _ _)
      | (with_reducible exact LeO.refl _)
      | (with_reducible exact LeO.none _)
      | (with_reducible refine LeO.ite ?_ ?_)
      | (with_reducible refine LeO.bind ?_ (fun _ => ?_))
      | exact udftag_seal.mono _ _ _ _ _ _
      | exact LeO.none _
      | refine LeO.ite ?_ ?_
      | refine LeO.bind ?_ (fun _ => ?_)
set_option maxHeartbeats 8000000 in
set_option maxRecDepth 100000 in
theorem udftag_Seal.calls (k : Nat) (a0 : Int) (a1 : Int) (a2 : Int) (a3 : ByteArray) (r1 : ByteArray) (r2 : Int) (w : World) (h : udftag_Seal.f k a0 a1 a2 a3 = some (r1, r2)) :
    Calls Try.prog 27 #[.int .i64 a0, .int .i64 a1, .int .i64 a2, .string a3] w fun e w' => e = .returned (.tuple #[.string r1, .int .i64 r2]) ∧ Below w.heap.size w w' := by
  have HB := Aside0.mk (Below.refl w.heap.size w)
  have H : ((udftag_most.f 2).bind fun t121 => ((udftag_seal.f k a0 a1 a2 a3 t121).bind fun bt122 => (some (bt122.1, bt122.2)))) = some (r1, r2) := h
  clear h
  replace H := Option.bind_eq_some_iff.mp H
  obtain ⟨t121, A50, H⟩ := H
  replace H : ((udftag_seal.f k a0 a1 a2 a3 t121).bind fun bt122 => (some (bt122.1, bt122.2))) = some (r1, r2) := H
  have A5 := Aside0.mk A50
  clear A50
  replace H := Option.bind_eq_some_iff.mp H
  obtain ⟨⟨t122, t123⟩, A60, H⟩ := H
  replace H : (some (t122, t123)) = some (r1, r2) := H
  have A6 := Aside0.mk A60
  clear A60
  simp only [Option.some.injEq, Prod.mk.injEq] at H
  obtain ⟨rfl, rfl⟩ := H
  go_enter Try.func27, Try.ntmps27
  go_wp2_with (first | ((with_reducible refine gate_callee (f := 92) rfl ?_); refine goesL_ (some 14) rfl rfl Try.func92 (by kernel_rfl) rfl #[.int .i64 2] rfl (by (try simp only [List.map_toArray, List.map_cons, List.map_nil]); first | done | rfl | (simp only [List.length_drop, List.length_take]; rfl)) ?_; (with_reducible refine (udftag_most.calls 2 t121 _ A5.out).mono ?_); rintro e w' ⟨rfl, ⟨nd, rfl⟩⟩; refine ⟨_, rfl, ?_⟩) | ((with_reducible refine gate_callee (f := 91) rfl ?_); refine goesL_ (some 15) rfl rfl Try.func91 (by kernel_rfl) rfl #[.int .i64 a0, .int .i64 a1, .int .i64 a2, .string a3, .int .i64 t121] rfl (by (try simp only [List.map_toArray, List.map_cons, List.map_nil]); first | done | rfl | (simp only [List.length_drop, List.length_take]; rfl)) ?_; (with_reducible refine (udftag_seal.calls k a0 a1 a2 a3 t121 t122 t123 _ A6.out).mono ?_); rintro e w7 ⟨rfl, hb⟩; refine ⟨_, rfl, ?_⟩; have n0_ := Aside0.mk (below_step (by repeat (first | (with_reducible first | exact HB.out | apply below_alloc | apply pw_below_drewN | apply below_drew1) | exact HB.out)) hb); clear HB; have HB := n0_; clear n0_; (try clear hb); (try clear hb2); (try clear hk); (try clear hi)))
  go_ret2
  exact ⟨by first | rfl | (simp [errW_none, errW_some] <;> rfl) | (simp [*, errW_none, errW_some] <;> rfl), by repeat (first | (with_reducible first | exact HB.out | apply below_alloc | apply pw_below_drewN | apply below_drew1) | exact HB.out)⟩

/-! ### endian_inside: function 147 -/
def endian_inside.f (a0 : ByteArray) (a1 : Int) (a2 : Int) : Option (Bool) := if a1 ≥ 0 then (some (decide (a1 ≤ (wrap64 ((a0.size : Int) - a2))))) else (some false)
set_option maxHeartbeats 8000000 in
set_option maxRecDepth 100000 in
theorem endian_inside.calls (a0 : ByteArray) (a1 : Int) (a2 : Int) (r : Bool) (w : World) (h : endian_inside.f a0 a1 a2 = some r) :
    Calls Try.prog 147 #[.string a0, .int .i64 a1, .int .i64 a2] w fun e w' => e = .returned (.bool r) ∧ Drawn0 w w' := by
  have H : (if a1 ≥ 0 then (some (decide (a1 ≤ (wrap64 ((a0.size : Int) - a2))))) else (some false)) = some r := h
  clear h
  by_cases c4 : a1 ≥ 0
  · rw [if_pos c4] at H
    have c4b0 : decide (0 ≤ a1) = true := decide_eq_true c4
    clear c4
    obtain rfl := Option.some.inj H
    go_enter Try.func147, Try.ntmps147
    go_wp2
    go_ret
    exact ⟨by first | rfl | (simp; done) | (simp [*]; done), by repeat (first | exact Drawn0.refl _ | apply Drawn0.step)⟩
  · rw [if_neg c4] at H
    have c4b0 : decide (0 ≤ a1) = false := decide_eq_false c4
    clear c4
    obtain rfl := Option.some.inj H
    go_enter Try.func147, Try.ntmps147
    go_wp2
    go_ret
    exact ⟨by first | rfl | (simp; done) | (simp [*]; done), by repeat (first | exact Drawn0.refl _ | apply Drawn0.step)⟩

-- NOT PRINTED: function 163 (endian_read)

end Go.Proofs.Ytijbfebbogiiiaa.Q
