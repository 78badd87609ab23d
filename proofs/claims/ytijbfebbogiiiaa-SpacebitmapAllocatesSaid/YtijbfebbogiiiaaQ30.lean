/- Contracts of Go functions: each call returns what the Lean function of its name says. Written by wip/gen.py (a patched print) for this claim. -/
import Derived.Test.YtijbfebbogiiiaaHBase
import Derived.Test.YtijbfebbogiiiaaQ0
import Derived.Test.YtijbfebbogiiiaaQ24
import Derived.Test.YtijbfebbogiiiaaQ29
import Derived.Test.YtijbfebbogiiiaaQ9
namespace Go.Proofs.Ytijbfebbogiiiaa.Q
open Go.RowKit Go.Proofs.YtijbfebbogiiiaaW.PrintWords Go.Proofs.YtijbfebbogiiiaaW.PrintLast Go.Proofs.YtijbfebbogiiiaaW.PrintMore
attribute [local go_sem] max2_int min2_int max_two min_two max_three min_three max_four min_four   -- for this text's walks alone
set_option linter.unusedVariables false
set_option linter.unusedSimpArgs false

/-! ### spacebitmap_Encode: function 87 -/
def spacebitmap_Encode.j0 : Nat → ByteArray → Int → Int → Bool → Option (ByteArray × Int)
  | 0, _, _, _, _ => none
  | k + 1, x0, x1, x2, x17 => if x17 = true then (some ((⟨#[]⟩ : ByteArray), 2)) else ((endian_Little.f x1 4).bind fun bt360 => ((endian_Little.f (x0.size : Int) 4).bind fun bt362 => (if bt360.1.size + bt362.1.size ≤ 9223372036854775807 then (if (bt360.1 ++ bt362.1).size + x0.size ≤ 9223372036854775807 then ((udftag_Block.f k 264 1 x2 ((bt360.1 ++ bt362.1) ++ x0)).bind fun bt364 => (some (bt364.1, bt364.2))) else (none)) else (none))))
def spacebitmap_Encode.f (k : Nat) (a0 : ByteArray) (a1 : Int) (a2 : Int) : Option (ByteArray × Int) := (spacebitmap_valid.f a0 a1).bind fun t359 => (if t359 = true then (if a2 < 0 then (spacebitmap_Encode.j0 k a0 a1 a2 true) else (spacebitmap_Encode.j0 k a0 a1 a2 (decide (a2 ≥ 4294967296)))) else (some ((⟨#[]⟩ : ByteArray), 1)))
theorem spacebitmap_Encode.mono_l : ∀ k, (∀ y0 y1 y2 y3, LeO (spacebitmap_Encode.j0 k y0 y1 y2 y3) (spacebitmap_Encode.j0 (k + 1) y0 y1 y2 y3))
  | 0 => fun _ _ _ _ r h => by simp [spacebitmap_Encode.j0] at h
  | k + 1 => by
    have ih0 := spacebitmap_Encode.mono_l k
    · intro y0 y1 y2 y3
      unfold spacebitmap_Encode.j0
      repeat' first
      | (with_reducible exact ih0 _ _ _ _)
      | (with_reducible exact udftag_Block.mono _ _ _ _ _)
      | (with_reducible exact LeO.refl _)
      | (with_reducible exact LeO.none _)
      | (with_reducible refine LeO.ite ?_ ?_)
      | (with_reducible refine LeO.bind ?_ (fun _ => ?_))
      | exact ih0 _ _ _ _
      | exact udftag_Block.mono _ _ _ _ _
      | exact LeO.none _
      | refine LeO.ite ?_ ?_
      | refine LeO.bind ?_ (fun _ => ?_)
theorem spacebitmap_Encode.mono : ∀ a0 a1 a2 k, LeO (spacebitmap_Encode.f k a0 a1 a2) (spacebitmap_Encode.f (k + 1) a0 a1 a2) := by
  intro a0 a1 a2 k
  have ih0 := spacebitmap_Encode.mono_l k
  unfold spacebitmap_Encode.f
  repeat' first
      | (with_reducible exact ih0 _ _ _ _)
      | (with_reducible exact udftag_Block.mono _ _ _ _ _)
      | (with_reducible exact LeO.refl _)
      | (with_reducible exact LeO.none _)
      | (with_reducible refine LeO.ite ?_ ?_)
      | (with_reducible refine LeO.bind ?_ (fun _ => ?_))
      | exact ih0 _ _ _ _
      | exact udftag_Block.mono _ _ _ _ _
      | exact LeO.none _
      | refine LeO.ite ?_ ?_
      | refine LeO.bind ?_ (fun _ => ?_)
set_option maxHeartbeats 8000000 in
set_option maxRecDepth 100000 in
theorem spacebitmap_Encode.calls (k : Nat) (a0 : ByteArray) (a1 : Int) (a2 : Int) (r1 : ByteArray) (r2 : Int) (w : World) (h : spacebitmap_Encode.f k a0 a1 a2 = some (r1, r2)) :
    Calls Try.prog 87 #[.string a0, .int .i64 a1, .int .i64 a2] w fun e w' => e = .returned (.tuple #[.string r1, .int .i64 r2]) ∧ Below w.heap.size w w' := by
  have HB := Aside0.mk (Below.refl w.heap.size w)
  have H : ((spacebitmap_valid.f a0 a1).bind fun t359 => (if t359 = true then (if a2 < 0 then (spacebitmap_Encode.j0 k a0 a1 a2 true) else (spacebitmap_Encode.j0 k a0 a1 a2 (decide (a2 ≥ 4294967296)))) else (some ((⟨#[]⟩ : ByteArray), 1)))) = some (r1, r2) := h
  clear h
  replace H := Option.bind_eq_some_iff.mp H
  obtain ⟨t359, A40, H⟩ := H
  replace H : (if t359 = true then (if a2 < 0 then (spacebitmap_Encode.j0 k a0 a1 a2 true) else (spacebitmap_Encode.j0 k a0 a1 a2 (decide (a2 ≥ 4294967296)))) else (some ((⟨#[]⟩ : ByteArray), 1))) = some (r1, r2) := H
  have A4 := Aside0.mk A40
  clear A40
  by_cases c5 : t359 = true
  · subst c5
    have H1 : (if a2 < 0 then (spacebitmap_Encode.j0 k a0 a1 a2 true) else (spacebitmap_Encode.j0 k a0 a1 a2 (decide (a2 ≥ 4294967296)))) = some (r1, r2) := by rw [if_pos rfl] at H; exact H
    clear H
    have H := H1
    clear H1
    have HC6 := Aside0.mk H
    clear H
    go_enter Try.func87, Try.ntmps87
    go_upto_region 3 with (first | ((with_reducible refine gate_callee (f := 134) rfl ?_); refine goesL_ (some 15) rfl rfl Try.func134 (by kernel_rfl) rfl #[.string a0, .int .i64 a1] rfl (by (try simp only [List.map_toArray, List.map_cons, List.map_nil]); first | done | rfl | (simp only [List.length_drop, List.length_take]; rfl)) ?_; (with_reducible refine (spacebitmap_valid.calls a0 a1 true _ A4.out).mono ?_); rintro e w' ⟨rfl, ⟨nd, rfl⟩⟩; refine ⟨_, rfl, ?_⟩))
    (try simp only [Act.put, List.setIfInBounds_toArray, List.set_cons_zero, List.set_cons_succ])
    go_cut [17] (fun v17 wc => ∃ (kq : Nat) (x17_5 : Bool), v17 = .bool x17_5 ∧ Aside0 (spacebitmap_Encode.j0 kq a0 a1 a2 x17_5 = some (r1, r2)) ∧ Aside0 (kq ≤ k) ∧ Aside0 (Below w.heap.size w wc))
    case first =>
      have H := HC6.out
      clear HC6
      by_cases c7 : a2 < 0
      · rw [if_pos c7] at H
        have c7b0 : decide (a2 < 0) = true := decide_eq_true c7
        clear c7
        (first | rw [c7b0] | (simp only [i64_w, i32_w]; rw [c7b0]) | skip)
        have H' := Aside0.mk H
        clear H
        go_wp2
        go_meet
        case rel => exact ⟨_, (true), (by first | rfl | (simp; done) | (simp [*]; done)), H', ⟨by first | omega | exact Nat.le_refl _⟩, ⟨by repeat (first | (with_reducible first | exact HB.out | apply below_alloc | apply pw_below_drewN | apply below_drew1) | exact HB.out)⟩⟩
      · rw [if_neg c7] at H
        have c7b0 : decide (a2 < 0) = false := decide_eq_false c7
        clear c7
        (first | rw [c7b0] | (simp only [i64_w, i32_w]; rw [c7b0]) | skip)
        have H' := Aside0.mk H
        clear H
        go_wp2
        go_meet
        case rel => exact ⟨_, (decide (a2 ≥ 4294967296)), (by first | rfl | (simp; done) | (simp [*]; done)), H', ⟨by first | omega | exact Nat.le_refl _⟩, ⟨by repeat (first | (with_reducible first | exact HB.out | apply below_alloc | apply pw_below_drewN | apply below_drew1) | exact HB.out)⟩⟩
    case rest =>
      clear HC6
      try clear c1
      try clear p2
      try clear c5
      try clear c7
      try clear c7b0
      obtain ⟨kq, x17_5, rfl, HA, HJ5, HB⟩ := hcut
      cases kq with
      | zero => exact absurd HA.out (by simp [spacebitmap_Encode.j0])
      | succ kj5 =>
        have H := HA.out
        clear HA
        simp only [spacebitmap_Encode.j0] at H
        by_cases c8 : x17_5 = true
        · subst c8
          have H1 : (some ((⟨#[]⟩ : ByteArray), 2)) = some (r1, r2) := by rw [if_pos rfl] at H; exact H
          clear H
          have H := H1
          clear H1
          simp only [Option.some.injEq, Prod.mk.injEq] at H
          obtain ⟨rfl, rfl⟩ := H
          go_wp2
          go_ret2
          exact ⟨by first | rfl | (simp [errW_none, errW_some] <;> rfl) | (simp [*, errW_none, errW_some] <;> rfl), by repeat (first | (with_reducible first | exact HB.out | apply below_alloc | apply pw_below_drewN | apply below_drew1) | exact HB.out)⟩
        · replace c8 := Bool.eq_false_iff.mpr c8
          subst c8
          have H1 : ((endian_Little.f a1 4).bind fun bt360 => ((endian_Little.f (a0.size : Int) 4).bind fun bt362 => (if bt360.1.size + bt362.1.size ≤ 9223372036854775807 then (if (bt360.1 ++ bt362.1).size + a0.size ≤ 9223372036854775807 then ((udftag_Block.f kj5 264 1 a2 ((bt360.1 ++ bt362.1) ++ a0)).bind fun bt364 => (some (bt364.1, bt364.2))) else (none)) else (none)))) = some (r1, r2) := by rw [if_neg (show ¬ (false = true) by decide)] at H; exact H
          clear H
          have H := H1
          clear H1
          replace H := Option.bind_eq_some_iff.mp H
          obtain ⟨⟨t360, t361⟩, A90, H⟩ := H
          replace H : ((endian_Little.f (a0.size : Int) 4).bind fun bt362 => (if t360.size + bt362.1.size ≤ 9223372036854775807 then (if (t360 ++ bt362.1).size + a0.size ≤ 9223372036854775807 then ((udftag_Block.f kj5 264 1 a2 ((t360 ++ bt362.1) ++ a0)).bind fun bt364 => (some (bt364.1, bt364.2))) else (none)) else (none))) = some (r1, r2) := H
          have A9 := Aside0.mk A90
          clear A90
          replace H := Option.bind_eq_some_iff.mp H
          obtain ⟨⟨t362, t363⟩, A100, H⟩ := H
          replace H : (if t360.size + t362.size ≤ 9223372036854775807 then (if (t360 ++ t362).size + a0.size ≤ 9223372036854775807 then ((udftag_Block.f kj5 264 1 a2 ((t360 ++ t362) ++ a0)).bind fun bt364 => (some (bt364.1, bt364.2))) else (none)) else (none)) = some (r1, r2) := H
          have A10 := Aside0.mk A100
          clear A100
          by_cases c11 : t360.size + t362.size ≤ 9223372036854775807
          · rw [if_pos c11] at H
            have c11b0 := eq_true c11
            have c11b1 : decide (t360.size + t362.size ≤ 9223372036854775807) = true := decide_eq_true c11
            try have c11b2 : (9223372036854775807 < t360.size + t362.size) = False := eq_false (Nat.not_lt.2 c11)
            try (have c11b3 := c11b2; conv at c11b3 => lhs; simp [go_sem])
            by_cases c12 : (t360 ++ t362).size + a0.size ≤ 9223372036854775807
            · rw [if_pos c12] at H
              have c12b0 := eq_true c12
              have c12b1 : decide ((t360 ++ t362).size + a0.size ≤ 9223372036854775807) = true := decide_eq_true c12
              try have c12b2 : (9223372036854775807 < (t360 ++ t362).size + a0.size) = False := eq_false (Nat.not_lt.2 c12)
              try (have c12b3 := c12b2; conv at c12b3 => lhs; simp [go_sem])
              replace H := Option.bind_eq_some_iff.mp H
              obtain ⟨⟨t364, t365⟩, A130, H⟩ := H
              replace H : (some (t364, t365)) = some (r1, r2) := H
              have A13 := Aside0.mk A130
              clear A130
              simp only [Option.some.injEq, Prod.mk.injEq] at H
              obtain ⟨rfl, rfl⟩ := H
              go_wp2_with (first | ((with_reducible refine gate_callee (f := 140) rfl ?_); refine goesL_ (some 26) rfl rfl Try.func140 (by kernel_rfl) rfl #[.int .i64 a1, .int .i64 4] rfl (by (try simp only [List.map_toArray, List.map_cons, List.map_nil]); first | done | rfl | (simp only [List.length_drop, List.length_take]; rfl)) ?_; (with_reducible refine (endian_Little.calls a1 4 t360 t361 _ A9.out).mono ?_); rintro e w14 ⟨rfl, hb⟩; refine ⟨_, rfl, ?_⟩; have n0_ := Aside0.mk (below_step (by repeat (first | (with_reducible first | exact HB.out | apply below_alloc | apply pw_below_drewN | apply below_drew1) | exact HB.out)) hb); clear HB; have HB := n0_; clear n0_; (try clear hb); (try clear hb2); (try clear hk); (try clear hi)) | ((with_reducible refine gate_callee (f := 140) rfl ?_); refine goesL_ (some 32) rfl rfl Try.func140 (by kernel_rfl) rfl #[.int .i64 (a0.size : Int), .int .i64 4] rfl (by (try simp only [List.map_toArray, List.map_cons, List.map_nil]); first | done | rfl | (simp only [List.length_drop, List.length_take]; rfl)) ?_; (with_reducible refine (endian_Little.calls (a0.size : Int) 4 t362 t363 _ A10.out).mono ?_); rintro e w15 ⟨rfl, hb⟩; refine ⟨_, rfl, ?_⟩; have n0_ := Aside0.mk (below_step (by repeat (first | (with_reducible first | exact HB.out | apply below_alloc | apply pw_below_drewN | apply below_drew1) | exact HB.out)) hb); clear HB; have HB := n0_; clear n0_; (try clear hb); (try clear hb2); (try clear hk); (try clear hi)) | ((with_reducible refine gate_callee (f := 73) rfl ?_); refine goesL_ (some 41) rfl rfl Try.func73 (by kernel_rfl) rfl #[.int .i64 264, .int .i64 1, .int .i64 a2, .string ((t360 ++ t362) ++ a0)] rfl (by (try simp only [List.map_toArray, List.map_cons, List.map_nil]); first | done | rfl | (simp only [List.length_drop, List.length_take]; rfl)) ?_; (with_reducible refine (udftag_Block.calls kj5 264 1 a2 ((t360 ++ t362) ++ a0) t364 t365 _ A13.out).mono ?_); rintro e w16 ⟨rfl, hb⟩; refine ⟨_, rfl, ?_⟩; have n0_ := Aside0.mk (below_step (by repeat (first | (with_reducible first | exact HB.out | apply below_alloc | apply pw_below_drewN | apply below_drew1) | exact HB.out)) hb); clear HB; have HB := n0_; clear n0_; (try clear hb); (try clear hb2); (try clear hk); (try clear hi)))
              go_ret2
              exact ⟨by first | rfl | (simp [errW_none, errW_some] <;> rfl) | (simp [*, errW_none, errW_some] <;> rfl), by repeat (first | (with_reducible first | exact HB.out | apply below_alloc | apply pw_below_drewN | apply below_drew1) | exact HB.out)⟩
            · rw [if_neg c12] at H
              exact absurd H (by simp)
          · rw [if_neg c11] at H
            exact absurd H (by simp)
  · replace c5 := Bool.eq_false_iff.mpr c5
    subst c5
    have H1 : (some ((⟨#[]⟩ : ByteArray), 1)) = some (r1, r2) := by rw [if_neg (show ¬ (false = true) by decide)] at H; exact H
    clear H
    have H := H1
    clear H1
    simp only [Option.some.injEq, Prod.mk.injEq] at H
    obtain ⟨rfl, rfl⟩ := H
    go_enter Try.func87, Try.ntmps87
    go_wp2_with (first | ((with_reducible refine gate_callee (f := 134) rfl ?_); refine goesL_ (some 15) rfl rfl Try.func134 (by kernel_rfl) rfl #[.string a0, .int .i64 a1] rfl (by (try simp only [List.map_toArray, List.map_cons, List.map_nil]); first | done | rfl | (simp only [List.length_drop, List.length_take]; rfl)) ?_; (with_reducible refine (spacebitmap_valid.calls a0 a1 false _ A4.out).mono ?_); rintro e w' ⟨rfl, ⟨nd, rfl⟩⟩; refine ⟨_, rfl, ?_⟩))
    go_ret2
    exact ⟨by first | rfl | (simp [errW_none, errW_some] <;> rfl) | (simp [*, errW_none, errW_some] <;> rfl), by repeat (first | (with_reducible first | exact HB.out | apply below_alloc | apply pw_below_drewN | apply below_drew1) | exact HB.out)⟩

/-! ### spacebitmap_Decode: function 89 -/
def spacebitmap_Decode.j0 : Nat → ByteArray → Bool → Option (ByteArray × Int × Int)
  | 0, _, _ => none
  | k + 1, x0, x19 => if x19 = true then (some ((⟨#[]⟩ : ByteArray), 0, 10)) else ((endian_ReadLittle.f x0 16 4).bind fun bt367 => ((endian_ReadLittle.f x0 20 4).bind fun bt369 => (if bt369.1 > 2024 then (some ((⟨#[]⟩ : ByteArray), 0, 10)) else (if 24 ≤ (wrap64 (24 + bt369.1)) then (if (wrap64 (24 + bt369.1)) ≤ (x0.size : Int) then ((spacebitmap_valid.f (x0.extract 24 ((wrap64 (24 + bt369.1)) : Int).toNat) bt367.1).bind fun t371 => (if t371 = true then (some (x0.extract 24 ((wrap64 (24 + bt369.1)) : Int).toNat, bt367.1, 0)) else (some ((⟨#[]⟩ : ByteArray), 0, 10)))) else (none)) else (none)))))
def spacebitmap_Decode.f (k : Nat) (a0 : ByteArray) (a1 : Int) : Option (ByteArray × Int × Int) := if (a0.size : Int) = 2048 then ((udftag_Is.f a0 264 a1).bind fun t366 => (spacebitmap_Decode.j0 k a0 (!t366))) else (spacebitmap_Decode.j0 k a0 true)
theorem spacebitmap_Decode.mono_l : ∀ k, (∀ y0 y1, LeO (spacebitmap_Decode.j0 k y0 y1) (spacebitmap_Decode.j0 (k + 1) y0 y1))
  | 0 => fun _ _ r h => by simp [spacebitmap_Decode.j0] at h
  | k + 1 => by
    have ih0 := spacebitmap_Decode.mono_l k
    · intro y0 y1
      unfold spacebitmap_Decode.j0
      repeat' first
      | (with_reducible exact ih0 _ _)
      | (with_reducible exact LeO.refl _)
      | (with_reducible exact LeO.none _)
      | (with_reducible refine LeO.ite ?_ ?_)
      | (with_reducible refine LeO.bind ?_ (fun _ => ?_))
      | exact ih0 _ _
      | exact LeO.none _
      | refine LeO.ite ?_ ?_
      | refine LeO.bind ?_ (fun _ => ?_)
theorem spacebitmap_Decode.mono : ∀ a0 a1 k, LeO (spacebitmap_Decode.f k a0 a1) (spacebitmap_Decode.f (k + 1) a0 a1) := by
  intro a0 a1 k
  have ih0 := spacebitmap_Decode.mono_l k
  unfold spacebitmap_Decode.f
  repeat' first
      | (with_reducible exact ih0 _ _)
      | (with_reducible exact LeO.refl _)
      | (with_reducible exact LeO.none _)
      | (with_reducible refine LeO.ite ?_ ?_)
      | (with_reducible refine LeO.bind ?_ (fun _ => ?_))
      | exact ih0 _ _
      | exact LeO.none _
      | refine LeO.ite ?_ ?_
      | refine LeO.bind ?_ (fun _ => ?_)
set_option maxHeartbeats 8000000 in
set_option maxRecDepth 100000 in
theorem spacebitmap_Decode.calls (k : Nat) (a0 : ByteArray) (a1 : Int) (r1 : ByteArray) (r2 : Int) (r3 : Int) (w : World) (h : spacebitmap_Decode.f k a0 a1 = some (r1, r2, r3)) :
    Calls Try.prog 89 #[.string a0, .int .i64 a1] w fun e w' => e = .returned (.tuple #[.string r1, .int .i64 r2, .int .i64 r3]) ∧ Below w.heap.size w w' := by
  have HB := Aside0.mk (Below.refl w.heap.size w)
  have H : (if (a0.size : Int) = 2048 then ((udftag_Is.f a0 264 a1).bind fun t366 => (spacebitmap_Decode.j0 k a0 (!t366))) else (spacebitmap_Decode.j0 k a0 true)) = some (r1, r2, r3) := h
  clear h
  have HC3 := Aside0.mk H
  clear H
  go_enter Try.func89, Try.ntmps89
  go_upto_region 1 with (fail)
  go_cut [19] (fun v19 wc => ∃ (kq : Nat) (x19_2 : Bool), v19 = .bool x19_2 ∧ Aside0 (spacebitmap_Decode.j0 kq a0 x19_2 = some (r1, r2, r3)) ∧ Aside0 (kq ≤ k) ∧ Aside0 (Below w.heap.size w wc))
  case first =>
    have H := HC3.out
    clear HC3
    by_cases c4 : (a0.size : Int) = 2048
    · rw [if_pos c4] at H
      have c4b0 : ((a0.size : Int) == 2048) = true := beq_iff_eq.mpr c4
      have c4b1 : ((a0.size : Int) != 2048) = false := bne_eq_false_iff_eq.mpr c4
      clear c4
      (first | rw [c4b0] | (simp only [i64_w, i32_w]; rw [c4b0]) | skip)
      replace H := Option.bind_eq_some_iff.mp H
      obtain ⟨t366, A50, H⟩ := H
      replace H : (spacebitmap_Decode.j0 k a0 (!t366)) = some (r1, r2, r3) := H
      have A5 := Aside0.mk A50
      clear A50
      have H' := Aside0.mk H
      clear H
      go_wp2_with (first | (go_at_call 31; (with_reducible refine (udftag_Is.calls a0 264 a1 t366 _ A5.out).mono ?_); rintro e w6 ⟨rfl, hb⟩; have n0_ := Aside0.mk (below_step (by repeat (first | (with_reducible first | exact HB.out | apply below_alloc | apply pw_below_drewN | apply below_drew1) | exact HB.out)) hb); clear HB; have HB := n0_; clear n0_; (try clear hb); (try clear hb2); (try clear hk); (try clear hi)))
      go_meet
      case rel => exact ⟨_, (!t366), (by first | rfl | (simp; done) | (simp [*]; done)), H', ⟨by first | omega | exact Nat.le_refl _⟩, ⟨by repeat (first | (with_reducible first | exact HB.out | apply below_alloc | apply pw_below_drewN | apply below_drew1) | exact HB.out)⟩⟩
    · rw [if_neg c4] at H
      have c4b0 : ((a0.size : Int) == 2048) = false := beq_eq_false_iff_ne.mpr c4
      have c4b1 : ((a0.size : Int) != 2048) = true := bne_iff_ne.mpr c4
      (first | rw [c4b0] | (simp only [i64_w, i32_w]; rw [c4b0]) | skip)
      have H' := Aside0.mk H
      clear H
      go_wp2
      go_meet
      case rel => exact ⟨_, (true), (by first | rfl | (simp; done) | (simp [*]; done)), H', ⟨by first | omega | exact Nat.le_refl _⟩, ⟨by repeat (first | (with_reducible first | exact HB.out | apply below_alloc | apply pw_below_drewN | apply below_drew1) | exact HB.out)⟩⟩
  case rest =>
    clear HC3
    try clear p2
    try clear c4
    try clear c4b0
    try clear c4b1
    obtain ⟨kq, x19_2, rfl, HA, HJ2, HB⟩ := hcut
    cases kq with
    | zero => exact absurd HA.out (by simp [spacebitmap_Decode.j0])
    | succ kj2 =>
      have H := HA.out
      clear HA
      simp only [spacebitmap_Decode.j0] at H
      by_cases c7 : x19_2 = true
      · subst c7
        have H1 : (some ((⟨#[]⟩ : ByteArray), 0, 10)) = some (r1, r2, r3) := by rw [if_pos rfl] at H; exact H
        clear H
        have H := H1
        clear H1
        simp only [Option.some.injEq, Prod.mk.injEq] at H
        obtain ⟨rfl, rfl, rfl⟩ := H
        go_wp2
        go_ret3
        exact ⟨by first | rfl | (simp [errW_none, errW_some] <;> rfl) | (simp [*, errW_none, errW_some] <;> rfl), by repeat (first | (with_reducible first | exact HB.out | apply below_alloc | apply pw_below_drewN | apply below_drew1) | exact HB.out)⟩
      · replace c7 := Bool.eq_false_iff.mpr c7
        subst c7
        have H1 : ((endian_ReadLittle.f a0 16 4).bind fun bt367 => ((endian_ReadLittle.f a0 20 4).bind fun bt369 => (if bt369.1 > 2024 then (some ((⟨#[]⟩ : ByteArray), 0, 10)) else (if 24 ≤ (wrap64 (24 + bt369.1)) then (if (wrap64 (24 + bt369.1)) ≤ (a0.size : Int) then ((spacebitmap_valid.f (a0.extract 24 ((wrap64 (24 + bt369.1)) : Int).toNat) bt367.1).bind fun t371 => (if t371 = true then (some (a0.extract 24 ((wrap64 (24 + bt369.1)) : Int).toNat, bt367.1, 0)) else (some ((⟨#[]⟩ : ByteArray), 0, 10)))) else (none)) else (none))))) = some (r1, r2, r3) := by rw [if_neg (show ¬ (false = true) by decide)] at H; exact H
        clear H
        have H := H1
        clear H1
        replace H := Option.bind_eq_some_iff.mp H
        obtain ⟨⟨t367, t368⟩, A80, H⟩ := H
        replace H : ((endian_ReadLittle.f a0 20 4).bind fun bt369 => (if bt369.1 > 2024 then (some ((⟨#[]⟩ : ByteArray), 0, 10)) else (if 24 ≤ (wrap64 (24 + bt369.1)) then (if (wrap64 (24 + bt369.1)) ≤ (a0.size : Int) then ((spacebitmap_valid.f (a0.extract 24 ((wrap64 (24 + bt369.1)) : Int).toNat) t367).bind fun t371 => (if t371 = true then (some (a0.extract 24 ((wrap64 (24 + bt369.1)) : Int).toNat, t367, 0)) else (some ((⟨#[]⟩ : ByteArray), 0, 10)))) else (none)) else (none)))) = some (r1, r2, r3) := H
        have A8 := Aside0.mk A80
        clear A80
        replace H := Option.bind_eq_some_iff.mp H
        obtain ⟨⟨t369, t370⟩, A90, H⟩ := H
        replace H : (if t369 > 2024 then (some ((⟨#[]⟩ : ByteArray), 0, 10)) else (if 24 ≤ (wrap64 (24 + t369)) then (if (wrap64 (24 + t369)) ≤ (a0.size : Int) then ((spacebitmap_valid.f (a0.extract 24 ((wrap64 (24 + t369)) : Int).toNat) t367).bind fun t371 => (if t371 = true then (some (a0.extract 24 ((wrap64 (24 + t369)) : Int).toNat, t367, 0)) else (some ((⟨#[]⟩ : ByteArray), 0, 10)))) else (none)) else (none))) = some (r1, r2, r3) := H
        have A9 := Aside0.mk A90
        clear A90
        by_cases c10 : t369 > 2024
        · rw [if_pos c10] at H
          have c10b0 : decide (2024 < t369) = true := decide_eq_true c10
          clear c10
          simp only [Option.some.injEq, Prod.mk.injEq] at H
          obtain ⟨rfl, rfl, rfl⟩ := H
          go_wp2_with (first | ((with_reducible refine gate_callee (f := 141) rfl ?_); refine goesL_ (some 22) rfl rfl Try.func141 (by kernel_rfl) rfl #[.string a0, .int .i64 16, .int .i64 4] rfl (by (try simp only [List.map_toArray, List.map_cons, List.map_nil]); first | done | rfl | (simp only [List.length_drop, List.length_take]; rfl)) ?_; (with_reducible refine (endian_ReadLittle.calls a0 16 4 t367 t368 _ A8.out).mono ?_); rintro e w' ⟨rfl, ⟨nd, rfl⟩⟩; refine ⟨_, rfl, ?_⟩) | ((with_reducible refine gate_callee (f := 141) rfl ?_); refine goesL_ (some 27) rfl rfl Try.func141 (by kernel_rfl) rfl #[.string a0, .int .i64 20, .int .i64 4] rfl (by (try simp only [List.map_toArray, List.map_cons, List.map_nil]); first | done | rfl | (simp only [List.length_drop, List.length_take]; rfl)) ?_; (with_reducible refine (endian_ReadLittle.calls a0 20 4 t369 t370 _ A9.out).mono ?_); rintro e w' ⟨rfl, ⟨nd, rfl⟩⟩; refine ⟨_, rfl, ?_⟩))
          go_ret3
          exact ⟨by first | rfl | (simp [errW_none, errW_some] <;> rfl) | (simp [*, errW_none, errW_some] <;> rfl), by repeat (first | (with_reducible first | exact HB.out | apply below_alloc | apply pw_below_drewN | apply below_drew1) | exact HB.out)⟩
        · rw [if_neg c10] at H
          have c10b0 : decide (2024 < t369) = false := decide_eq_false c10
          clear c10
          by_cases c11 : 24 ≤ (wrap64 (24 + t369))
          · rw [if_pos c11] at H
            have c11b0 := eq_true c11
            have c11b1 : decide (24 ≤ (wrap64 (24 + t369))) = true := decide_eq_true c11
            by_cases c12 : (wrap64 (24 + t369)) ≤ (a0.size : Int)
            · rw [if_pos c12] at H
              have c12b0 := eq_true c12
              have c12b1 : decide ((wrap64 (24 + t369)) ≤ (a0.size : Int)) = true := decide_eq_true c12
              replace H := Option.bind_eq_some_iff.mp H
              obtain ⟨t371, A130, H⟩ := H
              replace H : (if t371 = true then (some (a0.extract 24 ((wrap64 (24 + t369)) : Int).toNat, t367, 0)) else (some ((⟨#[]⟩ : ByteArray), 0, 10))) = some (r1, r2, r3) := H
              have A13 := Aside0.mk A130
              clear A130
              by_cases c14 : t371 = true
              · subst c14
                have H1 : (some (a0.extract 24 ((wrap64 (24 + t369)) : Int).toNat, t367, 0)) = some (r1, r2, r3) := by rw [if_pos rfl] at H; exact H
                clear H
                have H := H1
                clear H1
                have c15b0 := eq_true (of_decide_eq_true (by first | (with_reducible assumption) | assumption) : 24 ≤ (wrap64 (24 + t369)))
                have c16b0 := eq_true (of_decide_eq_true (by first | (with_reducible assumption) | assumption) : (wrap64 (24 + t369)) ≤ (a0.size : Int))
                simp only [Option.some.injEq, Prod.mk.injEq] at H
                obtain ⟨rfl, rfl, rfl⟩ := H
                go_wp2_with (first | ((with_reducible refine gate_callee (f := 141) rfl ?_); refine goesL_ (some 22) rfl rfl Try.func141 (by kernel_rfl) rfl #[.string a0, .int .i64 16, .int .i64 4] rfl (by (try simp only [List.map_toArray, List.map_cons, List.map_nil]); first | done | rfl | (simp only [List.length_drop, List.length_take]; rfl)) ?_; (with_reducible refine (endian_ReadLittle.calls a0 16 4 t367 t368 _ A8.out).mono ?_); rintro e w' ⟨rfl, ⟨nd, rfl⟩⟩; refine ⟨_, rfl, ?_⟩) | ((with_reducible refine gate_callee (f := 141) rfl ?_); refine goesL_ (some 27) rfl rfl Try.func141 (by kernel_rfl) rfl #[.string a0, .int .i64 20, .int .i64 4] rfl (by (try simp only [List.map_toArray, List.map_cons, List.map_nil]); first | done | rfl | (simp only [List.length_drop, List.length_take]; rfl)) ?_; (with_reducible refine (endian_ReadLittle.calls a0 20 4 t369 t370 _ A9.out).mono ?_); rintro e w' ⟨rfl, ⟨nd, rfl⟩⟩; refine ⟨_, rfl, ?_⟩) | (go_at_call 134; (with_reducible refine (spacebitmap_valid.calls (a0.extract 24 ((wrap64 (24 + t369)) : Int).toNat) t367 true _ A13.out).mono ?_); rintro e w' ⟨rfl, ⟨nd, rfl⟩⟩))
                go_ret3
                exact ⟨by first | rfl | (simp [errW_none, errW_some] <;> rfl) | (simp [*, errW_none, errW_some] <;> rfl), by repeat (first | (with_reducible first | exact HB.out | apply below_alloc | apply pw_below_drewN | apply below_drew1) | exact HB.out)⟩
              · replace c14 := Bool.eq_false_iff.mpr c14
                subst c14
                have H1 : (some ((⟨#[]⟩ : ByteArray), 0, 10)) = some (r1, r2, r3) := by rw [if_neg (show ¬ (false = true) by decide)] at H; exact H
                clear H
                have H := H1
                clear H1
                simp only [Option.some.injEq, Prod.mk.injEq] at H
                obtain ⟨rfl, rfl, rfl⟩ := H
                go_wp2_with (first | ((with_reducible refine gate_callee (f := 141) rfl ?_); refine goesL_ (some 22) rfl rfl Try.func141 (by kernel_rfl) rfl #[.string a0, .int .i64 16, .int .i64 4] rfl (by (try simp only [List.map_toArray, List.map_cons, List.map_nil]); first | done | rfl | (simp only [List.length_drop, List.length_take]; rfl)) ?_; (with_reducible refine (endian_ReadLittle.calls a0 16 4 t367 t368 _ A8.out).mono ?_); rintro e w' ⟨rfl, ⟨nd, rfl⟩⟩; refine ⟨_, rfl, ?_⟩) | ((with_reducible refine gate_callee (f := 141) rfl ?_); refine goesL_ (some 27) rfl rfl Try.func141 (by kernel_rfl) rfl #[.string a0, .int .i64 20, .int .i64 4] rfl (by (try simp only [List.map_toArray, List.map_cons, List.map_nil]); first | done | rfl | (simp only [List.length_drop, List.length_take]; rfl)) ?_; (with_reducible refine (endian_ReadLittle.calls a0 20 4 t369 t370 _ A9.out).mono ?_); rintro e w' ⟨rfl, ⟨nd, rfl⟩⟩; refine ⟨_, rfl, ?_⟩) | (go_at_call 134; (with_reducible refine (spacebitmap_valid.calls (a0.extract 24 ((wrap64 (24 + t369)) : Int).toNat) t367 false _ A13.out).mono ?_); rintro e w' ⟨rfl, ⟨nd, rfl⟩⟩))
                go_ret3
                exact ⟨by first | rfl | (simp [errW_none, errW_some] <;> rfl) | (simp [*, errW_none, errW_some] <;> rfl), by repeat (first | (with_reducible first | exact HB.out | apply below_alloc | apply pw_below_drewN | apply below_drew1) | exact HB.out)⟩
            · rw [if_neg c12] at H
              exact absurd H (by simp)
          · rw [if_neg c11] at H
            exact absurd H (by simp)

end Go.Proofs.Ytijbfebbogiiiaa.Q
