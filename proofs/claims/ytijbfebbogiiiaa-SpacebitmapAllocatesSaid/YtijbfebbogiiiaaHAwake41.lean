/- The contract of the example that the laws of chapter 41 check first: it returns true. -/
import Derived.Test.YtijbfebbogiiiaaHSpace1
import Derived.Test.YtijbfebbogiiiaaHSpace2
import Derived.Test.YtijbfebbogiiiaaHSpace3
import Derived.Test.YtijbfebbogiiiaaHSpace5
import Derived.Test.YtijbfebbogiiiaaQ0
import Derived.Test.YtijbfebbogiiiaaQ25
import Derived.Test.YtijbfebbogiiiaaQ26
import Derived.Test.YtijbfebbogiiiaaQ30
import Derived.Test.YtijbfebbogiiiaaHSpace1
import Derived.Test.YtijbfebbogiiiaaHSpace2
import Derived.Test.YtijbfebbogiiiaaHSpace3
import Derived.Test.YtijbfebbogiiiaaHSpace5
import Derived.Outline
import Derived.WalkSpells
import Derived.Lib.Hide
namespace Go.Proofs.Ytijbfebbogiiiaa.Q
open Go.RowKit Go.Proofs.YtijbfebbogiiiaaW.PrintWords Go.Proofs.YtijbfebbogiiiaaW.PrintLast Go.Proofs.YtijbfebbogiiiaaW.PrintMore
attribute [local go_sem] max2_int min2_int max_two min_two max_three min_three max_four min_four
set_option linter.unusedVariables false
set_option linter.unusedSimpArgs false
theorem C76_new1 (W : World) (x : S76) : Kd.C k76 (W.alloc (.cells #[.int .i64 x.f0, .int .i64 x.f1] 76)) (some ⟨W.heap.size, 0, none⟩) 1 [x] := by
  refine ⟨rfl, by omega, fun _ => ⟨_, rfl, fun j p hp => ?_⟩⟩
  rcases j with _ | j
  · obtain rfl := Option.some.inj hp
    refine ⟨_, rfl, k76_mk _ _, fun i u hu => ?_⟩
    have hh := blk_new W (.cells #[.int .i64 x.f0, .int .i64 x.f1] 76)
    rcases i with _ | _ | i
    · obtain rfl := Option.some.inj hu; exact (blk_cell hh 0).trans rfl
    · obtain rfl := Option.some.inj hu; exact (blk_cell hh 1).trans rfl
    · simp at hu
  · simp at hp
theorem C76_new2 (W : World) (x y : S76) : Kd.C k76 (W.alloc (.cells #[.int .i64 x.f0, .int .i64 x.f1, .int .i64 y.f0, .int .i64 y.f1] 76)) (some ⟨W.heap.size, 0, none⟩) 2 [x, y] := by
  refine ⟨rfl, by omega, fun _ => ⟨_, rfl, fun j p hp => ?_⟩⟩
  have hh := blk_new W (.cells #[.int .i64 x.f0, .int .i64 x.f1, .int .i64 y.f0, .int .i64 y.f1] 76)
  rcases j with _ | _ | j
  · obtain rfl := Option.some.inj hp
    refine ⟨_, rfl, k76_mk _ _, fun i u hu => ?_⟩
    rcases i with _ | _ | i
    · obtain rfl := Option.some.inj hu; exact (blk_cell hh 0).trans rfl
    · obtain rfl := Option.some.inj hu; exact (blk_cell hh 1).trans rfl
    · simp at hu
  · obtain rfl := Option.some.inj hp
    refine ⟨_, rfl, k76_mk _ _, fun i u hu => ?_⟩
    rcases i with _ | _ | i
    · obtain rfl := Option.some.inj hu; exact (blk_cell hh 2).trans rfl
    · obtain rfl := Option.some.inj hu; exact (blk_cell hh 3).trans rfl
    · simp at hu
  · simp at hp
set_option maxRecDepth 100000 in
theorem enc41 : ((spacebitmap_Encode.f 40 ⟨#[243, 3]⟩ 10 3).bind fun x => if x.2 = 0 then spacebitmap_Decode.f 40 x.1 3 else none) = some (⟨#[243, 3]⟩, 10, 0) := by kernel_rfl
theorem enc41_blk : ∃ blk, spacebitmap_Encode.f 40 ⟨#[243, 3]⟩ 10 3 = some (blk, 0) ∧ spacebitmap_Decode.f 40 blk 3 = some (⟨#[243, 3]⟩, 10, 0) := by
  obtain ⟨x, hx, h⟩ := Option.bind_eq_some_iff.1 enc41
  obtain ⟨b, e⟩ := x
  by_cases c : e = 0
  · subst c
    exact ⟨b, hx, by rw [if_pos rfl] at h; exact h⟩
  · rw [if_neg c] at h
    cases h
def masterdisclaw41_awake.f : Option Bool := some true
set_option maxHeartbeats 4000000 in
set_option maxRecDepth 100000 in
theorem masterdisclaw41_awake.calls (r : Bool) (w : World) (h : masterdisclaw41_awake.f = some r) :
    Calls Try.prog 43 #[] w fun e w' => e = .returned (.bool r) ∧ Below w.heap.size w w' := by
  obtain rfl := Option.some.inj h
  clear h
  obtain ⟨sa, hsa⟩ : ∃ s : ByteArray, s = ⟨#[255, 3]⟩ := ⟨_, rfl⟩
  obtain ⟨sb, hsb⟩ : ∃ s : ByteArray, s = ⟨#[243, 3]⟩ := ⟨_, rfl⟩
  obtain ⟨sc, hsc⟩ : ∃ s : ByteArray, s = ⟨#[224, 3]⟩ := ⟨_, rfl⟩
  obtain ⟨l0, hl0⟩ : ∃ l : List S76, l = [⟨0, 2⟩, ⟨4, 1⟩] := ⟨_, rfl⟩
  obtain ⟨p0, hp0⟩ : ∃ l : List S76, l = [⟨0, 2⟩, ⟨4, 6⟩] := ⟨_, rfl⟩
  obtain ⟨blk, hke, hkd⟩ := enc41_blk
  rw [← hsb] at hke hkd
  have E1 := Lib.hid (show spacebitmap_New.f 40 10 = some sa by rw [hsa]; kernel_rfl)
  have E2 := Lib.hid (show spacebitmap_Mark.f 40 sa 10 [⟨2, 2⟩] false = some (sb, 0) by rw [hsa, hsb]; kernel_rfl)
  have E3 := Lib.hid (show spacebitmap_Allocate.f sb 10 3 = some (l0, sc, 0) by rw [hsb, hsc, hl0]; kernel_rfl)
  have E4 := Lib.hid hke
  have E5 := Lib.hid hkd
  have E6 := Lib.hid (show spacebitmap_Spans.f sb 10 = some p0 by rw [hsb, hp0]; kernel_rfl)
  have E7 := Lib.hid (show api_Span_81.f 40 p0 [⟨0, 2⟩, ⟨4, 6⟩] = some true by rw [hp0]; kernel_rfl)
  have E8 := Lib.hid (show spacebitmap_FirstFit.f sb 10 3 = some 4 by rw [hsb]; kernel_rfl)
  have E9 := Lib.hid (show api_Span_81.f 40 l0 [⟨0, 2⟩, ⟨4, 1⟩] = some true by rw [hl0]; kernel_rfl)
  have E10 := Lib.hid (show spacebitmap_Free.f sb 10 = some 8 by rw [hsb]; kernel_rfl)
  clear hke hkd
  have b1 : (sa.toList == ([255, 3] : List UInt8)) = true := by rw [hsa, ByteArray.toList_eq]; kernel_rfl
  have b2 : (sb.toList == ([243, 3] : List UInt8)) = true := by rw [hsb, ByteArray.toList_eq]; kernel_rfl
  have b3 : (sc.toList == ([224, 3] : List UInt8)) = true := by rw [hsc, ByteArray.toList_eq]; kernel_rfl
  have eL : l0.length = 2 := by rw [hl0]; rfl
  have eP : p0.length = 2 := by rw [hp0]; rfl
  clear hsa hsb hsc hl0 hp0
  have F1 := Lib.hid (fun (W : World) => spacebitmap_New.calls 40 10 sa W E1.out)
  have F2 := Lib.hid (fun (W : World) (A : Option Addr) (c : Nat) (hC : Kd.C k76 W A 1 [⟨2, 2⟩]) (hc : 1 ≤ c) => show Calls Try.prog 75 #[.string sa, .int .i64 10, .slice A 1 c, .bool false] W fun e w' => e = .returned (.tuple #[.string sb, .int .i64 0]) ∧ Below W.heap.size W w' from spacebitmap_Mark.calls 40 sa 10 A c [⟨2, 2⟩] false sb 0 W hC hc E2.out)
  have F3 := Lib.hid (fun (W : World) => spacebitmap_Allocate.calls sb 10 3 l0 sc 0 W E3.out)
  have F4 := Lib.hid (fun (W : World) => spacebitmap_Encode.calls 40 sb 10 3 blk 0 W E4.out)
  have F5 := Lib.hid (fun (W : World) => spacebitmap_Decode.calls 40 blk 3 sb 10 0 W E5.out)
  have F6 := Lib.hid (fun (W : World) => spacebitmap_Spans.calls sb 10 p0 W E6.out)
  have F7 := Lib.hid (fun (W : World) (A : Option Addr) (c : Nat) (A' : Option Addr) (c' : Nat) (hC : Kd.C k76 W A 2 p0) (hc : 2 ≤ c) (hC' : Kd.C k76 W A' 2 [⟨0, 2⟩, ⟨4, 6⟩]) (hc' : 2 ≤ c') => show Calls Try.prog 81 #[.slice A 2 c, .slice A' 2 c'] W fun e w' => e = .returned (.bool true) ∧ Below W.heap.size W w' by
    have := api_Span_81.calls 40 A c p0 A' c' [⟨0, 2⟩, ⟨4, 6⟩] true W (by rw [eP]; exact hC) (by rw [eP]; exact hc) hC' hc' E7.out
    rw [eP] at this
    exact this.mono (fun e w' h => ⟨h.1, by obtain ⟨n, hn⟩ := h.2; rw [hn]; exact pw_below_drewN (Below.refl _ _) n⟩))
  have F8 := Lib.hid (fun (W : World) => spacebitmap_FirstFit.calls sb 10 3 4 W E8.out)
  have F9 := Lib.hid (fun (W : World) (A : Option Addr) (c : Nat) (A' : Option Addr) (c' : Nat) (hC : Kd.C k76 W A 2 l0) (hc : 2 ≤ c) (hC' : Kd.C k76 W A' 2 [⟨0, 2⟩, ⟨4, 1⟩]) (hc' : 2 ≤ c') => show Calls Try.prog 81 #[.slice A 2 c, .slice A' 2 c'] W fun e w' => e = .returned (.bool true) ∧ Below W.heap.size W w' by
    have := api_Span_81.calls 40 A c l0 A' c' [⟨0, 2⟩, ⟨4, 1⟩] true W (by rw [eL]; exact hC) (by rw [eL]; exact hc) hC' hc' E9.out
    rw [eL] at this
    exact this.mono (fun e w' h => ⟨h.1, by obtain ⟨n, hn⟩ := h.2; rw [hn]; exact pw_below_drewN (Below.refl _ _) n⟩))
  have F10 := Lib.hid (fun (W : World) => spacebitmap_Free.calls sb 10 8 W E10.out)
  have HRL := Lib.hid (fun (W : World) (base : Nat) (v : Value) (h : Kd.R k76 76 W base (fun _ => True) v l0) => show ∃ A c, v = .slice A 2 c ∧ 2 ≤ c ∧ Kd.C k76 W A 2 l0 by have := Kd.R_reads h; rw [eL] at this; exact this)
  have HRP := Lib.hid (fun (W : World) (base : Nat) (v : Value) (h : Kd.R k76 76 W base (fun _ => True) v p0) => show ∃ A c, v = .slice A 2 c ∧ 2 ≤ c ∧ Kd.C k76 W A 2 p0 by have := Kd.R_reads h; rw [eP] at this; exact this)
  have HC1 := Lib.hid (fun W : World => (show Kd.C k76 (W.alloc (.cells #[.int .i64 2, .int .i64 2] 76)) (some ⟨W.heap.size, 0, none⟩) 1 [⟨2, 2⟩] from C76_new1 W ⟨2, 2⟩))
  have HC2 := Lib.hid (fun W : World => (show Kd.C k76 (W.alloc (.cells #[.int .i64 0, .int .i64 2, .int .i64 4, .int .i64 6] 76)) (some ⟨W.heap.size, 0, none⟩) 2 [⟨0, 2⟩, ⟨4, 6⟩] from C76_new2 W ⟨0, 2⟩ ⟨4, 6⟩))
  have HC3 := Lib.hid (fun W : World => (show Kd.C k76 (W.alloc (.cells #[.int .i64 0, .int .i64 2, .int .i64 4, .int .i64 1] 76)) (some ⟨W.heap.size, 0, none⟩) 2 [⟨0, 2⟩, ⟨4, 1⟩] from C76_new2 W ⟨0, 2⟩ ⟨4, 1⟩))
  have HB0 := Aside0.mk (Below.refl w.heap.size w)
  clear eL eP E1 E2 E3 E4 E5 E6 E7 E8 E9 E10
  go_enter Try.func43, Try.ntmps43
  go_wp2_with (first
    | (go_at_call 77; (with_reducible refine (F1.out _).mono ?_); rintro e w1 ⟨rfl, hb⟩; have HB1 := Aside0.mk (below_step HB0.out hb); clear hb)
    | (go_at_call 75; (with_reducible refine (F2.out _ _ _ (HC1.out _) (Nat.le_refl 1)).mono ?_); rintro e w2 ⟨rfl, hb⟩; have HB2 := Aside0.mk (below_step (below_alloc HB1.out _) hb); clear hb)
    | (go_at_call 84; (with_reducible refine (F3.out _).mono ?_); rintro e w3 ⟨v3, rfl, hR, hb⟩; obtain ⟨AL, cL, rfl, hcL, hCL⟩ := HRL.out _ _ _ hR; have HCL := Aside0.mk hCL; have HcL := Lib.hid hcL; have HB3 := Aside0.mk (below_step HB2.out hb); clear hR hb hCL hcL)
    | (go_at_call 87; (with_reducible refine (F4.out _).mono ?_); rintro e w4 ⟨rfl, hb⟩; have HB4 := Aside0.mk (below_step HB3.out hb); have HL4 := Aside0.mk (Kd.C_below HCL.out hb); clear hb)
    | (go_at_call 89; (with_reducible refine (F5.out _).mono ?_); rintro e w5 ⟨rfl, hb⟩; have HB5 := Aside0.mk (below_step HB4.out hb); have HL5 := Aside0.mk (Kd.C_below HL4.out hb); clear hb)
    | (go_at_call 82; (with_reducible refine (F6.out _).mono ?_); rintro e w6 ⟨v6, rfl, hR, hb⟩; obtain ⟨AP, cP, rfl, hcP, hCP⟩ := HRP.out _ _ _ hR; have HCP := Aside0.mk hCP; have HcP := Lib.hid hcP; have HB6 := Aside0.mk (below_step HB5.out hb); have HL6 := Aside0.mk (Kd.C_below HL5.out hb); clear hR hb hCP hcP)
    | (go_at_call 81; (with_reducible refine (F7.out _ _ _ _ _ (Kd.C_alloc HCP.out _) HcP.out (HC2.out _) (Nat.le_refl 2)).mono ?_); rintro e w7 ⟨rfl, hb⟩; have HB7 := Aside0.mk (below_step (below_alloc HB6.out _) hb); have HL7 := Aside0.mk (Kd.C_below (Kd.C_alloc HL6.out _) hb); clear hb HCP)
    | (go_at_call 46; (with_reducible refine (F8.out _).mono ?_); rintro e w8 ⟨rfl, hb⟩; have HB8 := Aside0.mk (below_step HB7.out hb); have HL8 := Aside0.mk (Kd.C_below HL7.out hb); clear hb)
    | (go_at_call 81; (with_reducible refine (F9.out _ _ _ _ _ (Kd.C_alloc HL8.out _) HcL.out (HC3.out _) (Nat.le_refl 2)).mono ?_); rintro e w9 ⟨rfl, hb⟩; have HB9 := Aside0.mk (below_step (below_alloc HB8.out _) hb); clear hb)
    | (go_at_call 79; (with_reducible refine (F10.out _).mono ?_); rintro e w10 ⟨rfl, hb⟩; have HB10 := Aside0.mk (below_step HB9.out hb); clear hb))
  go_ret
  exact ⟨rfl, HB10.out⟩
end Go.Proofs.Ytijbfebbogiiiaa.Q
