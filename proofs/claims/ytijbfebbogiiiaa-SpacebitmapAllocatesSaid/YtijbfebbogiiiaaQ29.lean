/- Contracts of Go functions: each call returns what the Lean function of its name says. Written by wip/gen.py (a patched print) for this claim. -/
import Derived.Test.YtijbfebbogiiiaaHBase
import Derived.Test.YtijbfebbogiiiaaQ0
import Derived.Test.YtijbfebbogiiiaaQ7
namespace Go.Proofs.Ytijbfebbogiiiaa.Q
open Go.RowKit Go.Proofs.YtijbfebbogiiiaaW.PrintWords Go.Proofs.YtijbfebbogiiiaaW.PrintLast Go.Proofs.YtijbfebbogiiiaaW.PrintMore
attribute [local go_sem] max2_int min2_int max_two min_two max_three min_three max_four min_four   -- for this text's walks alone
set_option linter.unusedVariables false
set_option linter.unusedSimpArgs false

/-! ### udftag_Block: function 73 -/
def udftag_Block.f (k : Nat) (a0 : Int) (a1 : Int) (a2 : Int) (a3 : ByteArray) : Option (ByteArray × Int) := (udftag_seal.f k a0 a1 a2 a3 2032).bind fun bt356 => (if bt356.2 = 0 then ((strings_Repeat.f (⟨#[0]⟩ : ByteArray) (wrap64 (2048 - (bt356.1.size : Int)))).bind fun t358 => (if bt356.1.size + t358.size ≤ 9223372036854775807 then (some (bt356.1 ++ t358, 0)) else (none))) else (some ((⟨#[]⟩ : ByteArray), bt356.2)))
theorem udftag_Block.mono : ∀ a0 a1 a2 a3 k, LeO (udftag_Block.f k a0 a1 a2 a3) (udftag_Block.f (k + 1) a0 a1 a2 a3) := by
  intro a0 a1 a2 a3 k
  unfold udftag_Block.f
  repeat' first
      | (with_reducible exact udftag_seal.mono _ _ _ _ _ _)
      | (with_reducible exact LeO.refl _)
      | (with_reducible exact LeO.none _)
      | (with_reducible refine LeO.ite ?_ ?_)
      | (with_reducible refine LeO.bind ?_ (fun _ => ?_))
      | exact udftag_seal.mono _ _ _ _ _ _
      | exact LeO.none _
      | refine LeO.ite ?_ ?_
      | refine LeO.bind ?_ (fun _ => ?_)
set_option maxHeartbeats 8000000 in
set_option maxRecDepth 100000 in
theorem udftag_Block.calls (k : Nat) (a0 : Int) (a1 : Int) (a2 : Int) (a3 : ByteArray) (r1 : ByteArray) (r2 : Int) (w : World) (h : udftag_Block.f k a0 a1 a2 a3 = some (r1, r2)) :
    Calls Try.prog 73 #[.int .i64 a0, .int .i64 a1, .int .i64 a2, .string a3] w fun e w' => e = .returned (.tuple #[.string r1, .int .i64 r2]) ∧ Below w.heap.size w w' := by
  have HB := Aside0.mk (Below.refl w.heap.size w)
  have H : ((udftag_seal.f k a0 a1 a2 a3 2032).bind fun bt356 => (if bt356.2 = 0 then ((strings_Repeat.f (⟨#[0]⟩ : ByteArray) (wrap64 (2048 - (bt356.1.size : Int)))).bind fun t358 => (if bt356.1.size + t358.size ≤ 9223372036854775807 then (some (bt356.1 ++ t358, 0)) else (none))) else (some ((⟨#[]⟩ : ByteArray), bt356.2)))) = some (r1, r2) := h
  clear h
  replace H := Option.bind_eq_some_iff.mp H
  obtain ⟨⟨t356, t357⟩, A50, H⟩ := H
  replace H : (if t357 = 0 then ((strings_Repeat.f (⟨#[0]⟩ : ByteArray) (wrap64 (2048 - (t356.size : Int)))).bind fun t358 => (if t356.size + t358.size ≤ 9223372036854775807 then (some (t356 ++ t358, 0)) else (none))) else (some ((⟨#[]⟩ : ByteArray), t357))) = some (r1, r2) := H
  have A5 := Aside0.mk A50
  clear A50
  by_cases c6 : t357 = 0
  · rw [if_pos c6] at H
    have c6b0 : (t357 == 0) = true := beq_iff_eq.mpr c6
    have c6b1 : (t357 != 0) = false := bne_eq_false_iff_eq.mpr c6
    clear c6
    replace H := Option.bind_eq_some_iff.mp H
    obtain ⟨t358, A70, H⟩ := H
    replace H : (if t356.size + t358.size ≤ 9223372036854775807 then (some (t356 ++ t358, 0)) else (none)) = some (r1, r2) := H
    have A7 := Aside0.mk A70
    clear A70
    by_cases c8 : t356.size + t358.size ≤ 9223372036854775807
    · rw [if_pos c8] at H
      have c8b0 := eq_true c8
      have c8b1 : decide (t356.size + t358.size ≤ 9223372036854775807) = true := decide_eq_true c8
      try have c8b2 : (9223372036854775807 < t356.size + t358.size) = False := eq_false (Nat.not_lt.2 c8)
      try (have c8b3 := c8b2; conv at c8b3 => lhs; simp [go_sem])
      clear c8
      simp only [Option.some.injEq, Prod.mk.injEq] at H
      obtain ⟨rfl, rfl⟩ := H
      go_enter Try.func73, Try.ntmps73
      go_wp2_with (first | ((with_reducible refine gate_callee (f := 91) rfl ?_); refine goesL_ (some 17) rfl rfl Try.func91 (by kernel_rfl) rfl #[.int .i64 a0, .int .i64 a1, .int .i64 a2, .string a3, .int .i64 2032] rfl (by (try simp only [List.map_toArray, List.map_cons, List.map_nil]); first | done | rfl | (simp only [List.length_drop, List.length_take]; rfl)) ?_; (with_reducible refine (udftag_seal.calls k a0 a1 a2 a3 2032 t356 t357 _ A5.out).mono ?_); rintro e w9 ⟨rfl, hb⟩; refine ⟨_, rfl, ?_⟩; have n0_ := Aside0.mk (below_step (by repeat (first | (with_reducible first | exact HB.out | apply below_alloc | apply pw_below_drewN | apply below_drew1) | exact HB.out)) hb); clear HB; have HB := n0_; clear n0_; (try clear hb); (try clear hb2); (try clear hk); (try clear hi)) | ((with_reducible refine gate_callee (f := 132) rfl ?_); refine goesL_ (some 27) rfl rfl Try.func132 (by kernel_rfl) rfl #[.string (⟨#[0]⟩ : ByteArray), .int .i64 (wrap64 (2048 - (t356.size : Int)))] rfl (by (try simp only [List.map_toArray, List.map_cons, List.map_nil]); first | done | rfl | (simp only [List.length_drop, List.length_take]; rfl)) ?_; (with_reducible refine (strings_Repeat.calls (⟨#[0]⟩ : ByteArray) (wrap64 (2048 - (t356.size : Int))) t358 _ A7.out).mono ?_); rintro e w10 ⟨rfl, hb⟩; refine ⟨_, rfl, ?_⟩; have n0_ := Aside0.mk (below_step (by repeat (first | (with_reducible first | exact HB.out | apply below_alloc | apply pw_below_drewN | apply below_drew1) | exact HB.out)) hb); clear HB; have HB := n0_; clear n0_; (try clear hb); (try clear hb2); (try clear hk); (try clear hi)))
      go_ret2
      exact ⟨by first | rfl | (simp [errW_none, errW_some] <;> rfl) | (simp [*, errW_none, errW_some] <;> rfl), by repeat (first | (with_reducible first | exact HB.out | apply below_alloc | apply pw_below_drewN | apply below_drew1) | exact HB.out)⟩
    · rw [if_neg c8] at H
      exact absurd H (by simp)
  · rw [if_neg c6] at H
    have c6b0 : (t357 == 0) = false := beq_eq_false_iff_ne.mpr c6
    have c6b1 : (t357 != 0) = true := bne_iff_ne.mpr c6
    simp only [Option.some.injEq, Prod.mk.injEq] at H
    obtain ⟨rfl, rfl⟩ := H
    go_enter Try.func73, Try.ntmps73
    go_wp2_with (first | ((with_reducible refine gate_callee (f := 91) rfl ?_); refine goesL_ (some 17) rfl rfl Try.func91 (by kernel_rfl) rfl #[.int .i64 a0, .int .i64 a1, .int .i64 a2, .string a3, .int .i64 2032] rfl (by (try simp only [List.map_toArray, List.map_cons, List.map_nil]); first | done | rfl | (simp only [List.length_drop, List.length_take]; rfl)) ?_; (with_reducible refine (udftag_seal.calls k a0 a1 a2 a3 2032 t356 t357 _ A5.out).mono ?_); rintro e w11 ⟨rfl, hb⟩; refine ⟨_, rfl, ?_⟩; have n0_ := Aside0.mk (below_step (by repeat (first | (with_reducible first | exact HB.out | apply below_alloc | apply pw_below_drewN | apply below_drew1) | exact HB.out)) hb); clear HB; have HB := n0_; clear n0_; (try clear hb); (try clear hb2); (try clear hk); (try clear hi)))
    go_ret2
    exact ⟨by first | rfl | (simp [errW_none, errW_some] <;> rfl) | (simp [*, errW_none, errW_some] <;> rfl), by repeat (first | (with_reducible first | exact HB.out | apply below_alloc | apply pw_below_drewN | apply below_drew1) | exact HB.out)⟩

end Go.Proofs.Ytijbfebbogiiiaa.Q
