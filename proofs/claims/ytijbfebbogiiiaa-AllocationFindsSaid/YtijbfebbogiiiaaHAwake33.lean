/- The contract of the example that the laws of chapter 33 check first: it returns true. -/
import Derived.Test.YtijbfebbogiiiaaHAlloc
import Derived.Test.YtijbfebbogiiiaaQ0
import Derived.Test.YtijbfebbogiiiaaQ15
import Derived.Test.YtijbfebbogiiiaaQEq
import Derived.Test.YtijbfebbogiiiaaHAlloc
import Derived.Test.YtijbfebbogiiiaaQ15
import Derived.Outline
import Derived.WalkSpells
import Derived.Lib.Hide
namespace Go.Proofs.Ytijbfebbogiiiaa.Q
open Go.RowKit Go.Proofs.YtijbfebbogiiiaaW.PrintWords Go.Proofs.YtijbfebbogiiiaaW.PrintLast Go.Proofs.YtijbfebbogiiiaaW.PrintMore
attribute [local go_sem] max2_int min2_int max_two min_two max_three min_three max_four min_four
set_option linter.unusedVariables false
set_option linter.unusedSimpArgs false
theorem C_new1 (W : World) (x : S46) : Kd.C k46 (W.alloc (.cells #[.int .i64 x.f0, .int .i64 x.f1, .int .i64 x.f2.f0, .int .i64 x.f2.f1] 46)) (some ⟨W.heap.size, 0, none⟩) 1 [x] := by
  refine ⟨rfl, by omega, fun _ => ⟨_, rfl, fun j p hp => ?_⟩⟩
  rcases j with _ | j
  · obtain rfl := Option.some.inj hp
    refine ⟨_, rfl, k46_mk _ _, fun i u hu => ?_⟩
    have hh := blk_new W (.cells #[.int .i64 x.f0, .int .i64 x.f1, .int .i64 x.f2.f0, .int .i64 x.f2.f1] 46)
    rcases i with _ | _ | _ | _ | i
    · obtain rfl := Option.some.inj hu; exact (blk_cell hh 0).trans rfl
    · obtain rfl := Option.some.inj hu; exact (blk_cell hh 1).trans rfl
    · obtain rfl := Option.some.inj hu; exact (blk_cell hh 2).trans rfl
    · obtain rfl := Option.some.inj hu; exact (blk_cell hh 3).trans rfl
    · simp at hu
  · simp at hp
theorem C_new2 (W : World) (x y : S46) : Kd.C k46 (W.alloc (.cells #[.int .i64 x.f0, .int .i64 x.f1, .int .i64 x.f2.f0, .int .i64 x.f2.f1, .int .i64 y.f0, .int .i64 y.f1, .int .i64 y.f2.f0, .int .i64 y.f2.f1] 46)) (some ⟨W.heap.size, 0, none⟩) 2 [x, y] := by
  refine ⟨rfl, by omega, fun _ => ⟨_, rfl, fun j p hp => ?_⟩⟩
  have hh := blk_new W (.cells #[.int .i64 x.f0, .int .i64 x.f1, .int .i64 x.f2.f0, .int .i64 x.f2.f1, .int .i64 y.f0, .int .i64 y.f1, .int .i64 y.f2.f0, .int .i64 y.f2.f1] 46)
  rcases j with _ | _ | j
  · obtain rfl := Option.some.inj hp
    refine ⟨_, rfl, k46_mk _ _, fun i u hu => ?_⟩
    rcases i with _ | _ | _ | _ | i
    · obtain rfl := Option.some.inj hu; exact (blk_cell hh 0).trans rfl
    · obtain rfl := Option.some.inj hu; exact (blk_cell hh 1).trans rfl
    · obtain rfl := Option.some.inj hu; exact (blk_cell hh 2).trans rfl
    · obtain rfl := Option.some.inj hu; exact (blk_cell hh 3).trans rfl
    · simp at hu
  · obtain rfl := Option.some.inj hp
    refine ⟨_, rfl, k46_mk _ _, fun i u hu => ?_⟩
    rcases i with _ | _ | _ | _ | i
    · obtain rfl := Option.some.inj hu; exact (blk_cell hh 4).trans rfl
    · obtain rfl := Option.some.inj hu; exact (blk_cell hh 5).trans rfl
    · obtain rfl := Option.some.inj hu; exact (blk_cell hh 6).trans rfl
    · obtain rfl := Option.some.inj hu; exact (blk_cell hh 7).trans rfl
    · simp at hu
  · simp at hp
def masterdisclaw33_awake.f : Option Bool := some true
set_option maxHeartbeats 4000000 in
set_option maxRecDepth 100000 in
theorem masterdisclaw33_awake.calls (r : Bool) (w : World) (h : masterdisclaw33_awake.f = some r) :
    Calls Try.prog 33 #[] w fun e w' => e = .returned (.bool r) ∧ Below w.heap.size w w' := by
  obtain rfl := Option.some.inj h
  clear h
  obtain ⟨x0, hx0⟩ : ∃ x : S46, x = ⟨1, 4096, ⟨5, 1⟩⟩ := ⟨_, rfl⟩
  obtain ⟨l0, hl0⟩ : ∃ l : List S46, l = [⟨0, 2048, ⟨5, 0⟩⟩, ⟨0, 100, ⟨6, 0⟩⟩] := ⟨_, rfl⟩
  obtain ⟨j0, hj0⟩ : ∃ l : List S46, l = [⟨0, 2148, ⟨5, 0⟩⟩] := ⟨_, rfl⟩
  obtain ⟨p0, hp0⟩ : ∃ l : List S46, l = [⟨0, 50, ⟨6, 0⟩⟩] := ⟨_, rfl⟩
  obtain ⟨s8, hs8⟩ : ∃ s : ByteArray, s = ⟨#[0, 16, 0, 64, 5, 0, 0, 0]⟩ := ⟨_, rfl⟩
  obtain ⟨s16, hs16⟩ : ∃ s : ByteArray, s = ⟨#[0, 16, 0, 64, 5, 0, 0, 0, 1, 0, 0, 0, 0, 0, 0, 0]⟩ := ⟨_, rfl⟩
  have E1 := Lib.hid (show allocation_EncodeShort.f [x0] = some (s8, 0) by rw [hx0, hs8]; kernel_rfl)
  have E2 := Lib.hid (show allocation_EncodeLong.f [x0] = some (s16, 0) by rw [hx0, hs16]; kernel_rfl)
  have E3 := Lib.hid (show allocation_Join.f 40 l0 = some j0 by rw [hl0, hj0]; kernel_rfl)
  have E4 := Lib.hid (show allocation_Pieces.f 40 j0 2048 50 = some (p0, 0) by rw [hj0, hp0]; kernel_rfl)
  have E5 := Lib.hid (show api_Extent_42.f 40 j0 [⟨0, 2148, ⟨5, 0⟩⟩] = some true by rw [hj0]; kernel_rfl)
  have E6 := Lib.hid (show allocation_Blocks.f 40 l0 = some 2 by rw [hl0]; kernel_rfl)
  have E7 := Lib.hid (show api_Extent_42.f 40 p0 [⟨0, 50, ⟨6, 0⟩⟩] = some true by rw [hp0]; kernel_rfl)
  have b1 : (s8.toList == ([0, 16, 0, 64, 5, 0, 0, 0] : List UInt8)) = true := by rw [hs8, ByteArray.toList_eq]; kernel_rfl
  have b2 : (s16.toList == (s8 ++ (⟨#[1, 0, 0, 0, 0, 0, 0, 0]⟩ : ByteArray)).toList) = true := by rw [hs8, hs16, ByteArray.toList_eq, ByteArray.toList_eq]; kernel_rfl
  have hz : s8.size + 8 ≤ 9223372036854775807 := by rw [show s8.size = 8 by rw [hs8]; rfl]; omega
  have z1 := eq_true hz
  have z2 : (9223372036854775807 < s8.size + 8) = False := eq_false (Nat.not_lt.2 hz)
  try (have z3 := z2; conv at z3 => lhs; simp [go_sem])
  clear hz hs8 hs16
  have HL0 := Lib.hid hl0
  have F1 := Lib.hid (fun (W : World) (A : Option Addr) (c : Nat) (hC : Kd.C k46 W A 1 [x0]) (hc : 1 ≤ c) => show Calls Try.prog 34 #[.slice A 1 c] W fun e w' => e = .returned (.tuple #[.string s8, .int .i64 0]) ∧ Below W.heap.size W w' from allocation_EncodeShort.calls A c [x0] s8 0 W hC hc E1.out)
  have F2 := Lib.hid (fun (W : World) (A : Option Addr) (c : Nat) (hC : Kd.C k46 W A 1 [x0]) (hc : 1 ≤ c) => show Calls Try.prog 36 #[.slice A 1 c] W fun e w' => e = .returned (.tuple #[.string s16, .int .i64 0]) ∧ Below W.heap.size W w' from allocation_EncodeLong.calls A c [x0] s16 0 W hC hc E2.out)
  have e2 : l0.length = 2 := by rw [hl0]; rfl
  have eJ : j0.length = 1 := by rw [hj0]; rfl
  have eP : p0.length = 1 := by rw [hp0]; rfl
  have F3 := Lib.hid (fun (W : World) (A : Option Addr) (c : Nat) (hC : Kd.C k46 W A 2 l0) (hc : 2 ≤ c) => show Calls Try.prog 39 #[.slice A 2 c] W fun e w' => ∃ v, e = .returned v ∧ Kd.R k46 46 w' W.heap.size (fun _ => True) v j0 ∧ Below W.heap.size W w' by
    have := allocation_Join.calls 40 A c l0 j0 W (by rw [e2]; exact hC) (by rw [e2]; exact hc) E3.out
    rw [e2] at this; exact this)
  have F4 := Lib.hid (fun (W : World) (A : Option Addr) (c : Nat) (hC : Kd.C k46 W A 1 j0) (hc : 1 ≤ c) => show Calls Try.prog 53 #[.slice A 1 c, .int .i64 2048, .int .i64 50] W fun e w' => ∃ v, e = .returned (.tuple #[v, .int .i64 0]) ∧ Kd.R k46 46 w' W.heap.size (fun _ => True) v p0 ∧ Below W.heap.size W w' by
    have := allocation_Pieces.calls 40 A c j0 2048 50 p0 0 W (by rw [eJ]; exact hC) (by rw [eJ]; exact hc) E4.out
    rw [eJ] at this; exact this)
  have F5 := Lib.hid (fun (W : World) (A : Option Addr) (c : Nat) (A' : Option Addr) (c' : Nat) (hC : Kd.C k46 W A 1 j0) (hc : 1 ≤ c) (hC' : Kd.C k46 W A' 1 [⟨0, 2148, ⟨5, 0⟩⟩]) (hc' : 1 ≤ c') => show Calls Try.prog 42 #[.slice A 1 c, .slice A' 1 c'] W fun e w' => e = .returned (.bool true) ∧ Below W.heap.size W w' by
    have := api_Extent_42.calls 40 A c j0 A' c' [⟨0, 2148, ⟨5, 0⟩⟩] true W (by rw [eJ]; exact hC) (by rw [eJ]; exact hc) hC' hc' E5.out
    rw [eJ] at this
    exact this.mono (fun e w' h => ⟨h.1, by obtain ⟨n, hn⟩ := h.2; rw [hn]; exact pw_below_drewN (Below.refl _ _) n⟩))
  have F6 := Lib.hid (fun (W : World) (A : Option Addr) (c : Nat) (hC : Kd.C k46 W A 2 l0) (hc : 2 ≤ c) => show Calls Try.prog 41 #[.slice A 2 c] W fun e w' => e = .returned (.int .i64 2) ∧ Below W.heap.size W w' by
    have := allocation_Blocks.calls 40 A c l0 2 W (by rw [e2]; exact hC) (by rw [e2]; exact hc) E6.out
    rw [e2] at this; exact this)
  have F7 := Lib.hid (fun (W : World) (A : Option Addr) (c : Nat) (A' : Option Addr) (c' : Nat) (hC : Kd.C k46 W A 1 p0) (hc : 1 ≤ c) (hC' : Kd.C k46 W A' 1 [⟨0, 50, ⟨6, 0⟩⟩]) (hc' : 1 ≤ c') => show Calls Try.prog 42 #[.slice A 1 c, .slice A' 1 c'] W fun e w' => e = .returned (.bool true) ∧ Below W.heap.size W w' by
    have := api_Extent_42.calls 40 A c p0 A' c' [⟨0, 50, ⟨6, 0⟩⟩] true W (by rw [eP]; exact hC) (by rw [eP]; exact hc) hC' hc' E7.out
    rw [eP] at this
    exact this.mono (fun e w' h => ⟨h.1, by obtain ⟨n, hn⟩ := h.2; rw [hn]; exact pw_below_drewN (Below.refl _ _) n⟩))
  have HRJ := Lib.hid (fun (W : World) (base : Nat) (v : Value) (h : Kd.R k46 46 W base (fun _ => True) v j0) => show ∃ A c, v = .slice A 1 c ∧ 1 ≤ c ∧ Kd.C k46 W A 1 j0 by have := Kd.R_reads h; rw [eJ] at this; exact this)
  have HRP := Lib.hid (fun (W : World) (base : Nat) (v : Value) (h : Kd.R k46 46 W base (fun _ => True) v p0) => show ∃ A c, v = .slice A 1 c ∧ 1 ≤ c ∧ Kd.C k46 W A 1 p0 by have := Kd.R_reads h; rw [eP] at this; exact this)
  have HX0 := Lib.hid hx0
  have HC1 := Lib.hid (fun W : World => (show Kd.C k46 (W.alloc (.cells #[.int .i64 1, .int .i64 4096, .int .i64 5, .int .i64 1] 46)) (some ⟨W.heap.size, 0, none⟩) 1 [x0] by rw [HX0.out]; exact C_new1 W ⟨1, 4096, ⟨5, 1⟩⟩))
  have HC2 := Lib.hid (fun W : World => (show Kd.C k46 (W.alloc (.cells #[.int .i64 0, .int .i64 2048, .int .i64 5, .int .i64 0, .int .i64 0, .int .i64 100, .int .i64 6, .int .i64 0] 46)) (some ⟨W.heap.size, 0, none⟩) 2 l0 by rw [HL0.out]; exact C_new2 W ⟨0, 2048, ⟨5, 0⟩⟩ ⟨0, 100, ⟨6, 0⟩⟩))
  have HC3 := Lib.hid (fun W : World => (show Kd.C k46 (W.alloc (.cells #[.int .i64 0, .int .i64 2148, .int .i64 5, .int .i64 0] 46)) (some ⟨W.heap.size, 0, none⟩) 1 [⟨0, 2148, ⟨5, 0⟩⟩] from C_new1 W ⟨0, 2148, ⟨5, 0⟩⟩))
  have HC4 := Lib.hid (fun W : World => (show Kd.C k46 (W.alloc (.cells #[.int .i64 0, .int .i64 50, .int .i64 6, .int .i64 0] 46)) (some ⟨W.heap.size, 0, none⟩) 1 [⟨0, 50, ⟨6, 0⟩⟩] from C_new1 W ⟨0, 50, ⟨6, 0⟩⟩))
  clear hx0 hl0 hj0 hp0 e2 eJ eP HL0 HX0 E1 E2 E3 E4 E5 E6 E7
  go_enter Try.func33, Try.ntmps33
  go_upto_region 2 with ((with_reducible refine gate_dst (N := 1) rfl ?_); refine box_event ?hg (N := 1) ?hd (cs := #[.int .i64 0, .int .i64 0, .int .i64 0, .int .i64 0]) (t := 46) ?hr ?_; (case hd => rfl); (case hg => rfl); (case hr => first | (go_simp; done) | (go_simp; rfl)); intro gb hgb w8 hbox hb; have BK := Aside0.mk hbox; have GE := Aside0.mk ((by rw [hgb]; exact Nat.le_refl _) : w.heap.size ≤ gb); have HB8 := Aside0.mk hb; clear hb hbox hgb; have hcz9_0 : w8.cell? ⟨gb, 0, none⟩ = some (.int .i64 0) := (blk_cell BK.out 0).trans rfl; have hcz9_1 : w8.cell? ⟨gb, 1, none⟩ = some (.int .i64 0) := (blk_cell BK.out 1).trans rfl; have hcz9_2 : w8.cell? ⟨gb, 2, none⟩ = some (.int .i64 0) := (blk_cell BK.out 2).trans rfl; have hcz9_3 : w8.cell? ⟨gb, 3, none⟩ = some (.int .i64 0) := (blk_cell BK.out 3).trans rfl; have hfz9_0 := blk_frozen BK.out 0; have hfz9_1 := blk_frozen BK.out 1; have hfz9_2 := blk_frozen BK.out 2; have hfz9_3 := blk_frozen BK.out 3)
  have HBW : Aside0 (Below w.heap.size w ((((w8.setCell ⟨gb, 0, none⟩ (.int .i64 1)).setCell ⟨gb, 1, none⟩ (.int .i64 4096)).setCell ⟨gb, 2, none⟩ (.int .i64 5)).setCell ⟨gb, 3, none⟩ (.int .i64 1))) := ⟨below_set (below_set (below_set (below_set HB8.out GE.out) GE.out) GE.out) GE.out⟩
  have HBX : Aside0 (((((w8.setCell ⟨gb, 0, none⟩ (.int .i64 1)).setCell ⟨gb, 1, none⟩ (.int .i64 4096)).setCell ⟨gb, 2, none⟩ (.int .i64 5)).setCell ⟨gb, 3, none⟩ (.int .i64 1)).heap[gb]? = some (.cells #[.int .i64 1, .int .i64 4096, .int .i64 5, .int .i64 1] 46 (0, 0))) :=
    ⟨(row46 _ gb 3 _ _ _ _ (row46 _ gb 2 _ _ _ _ (row46 _ gb 1 _ _ _ _ (row46 _ gb 0 _ _ _ _ BK.out)))).trans rfl⟩
  clear hcz9_0 hcz9_1 hcz9_2 hcz9_3 hfz9_0 hfz9_1 hfz9_2 hfz9_3 BK GE HB8
  generalize ((((w8.setCell ⟨gb, 0, none⟩ (.int .i64 1)).setCell ⟨gb, 1, none⟩ (.int .i64 4096)).setCell ⟨gb, 2, none⟩ (.int .i64 5)).setCell ⟨gb, 3, none⟩ (.int .i64 1)) = W1 at HBW HBX ⊢
  have c0 := (blk_cell HBX.out 0).trans rfl
  have c1 := (blk_cell HBX.out 1).trans rfl
  have c2 := (blk_cell HBX.out 2).trans rfl
  have c3 := (blk_cell HBX.out 3).trans rfl
  go_upto_region 3 with (go_at_call 34; (with_reducible refine (F1.out _ _ _ (HC1.out _) (Nat.le_refl 1)).mono ?_); rintro e w2 ⟨rfl, hb⟩; have HB2 := Aside0.mk (below_step (below_alloc HBW.out _) hb); have HX2 := Aside0.mk (blk_below (blk_alloc HBX.out _) hb); clear hb)
  clear c0 c1 c2 c3
  have c0 := (blk_cell HX2.out 0).trans rfl
  have c1 := (blk_cell HX2.out 1).trans rfl
  have c2 := (blk_cell HX2.out 2).trans rfl
  have c3 := (blk_cell HX2.out 3).trans rfl
  go_upto_region 4 with (go_at_call 36; (with_reducible refine (F2.out _ _ _ (HC1.out _) (Nat.le_refl 1)).mono ?_); rintro e w3 ⟨rfl, hb⟩; have HB3 := Aside0.mk (below_step (below_alloc HB2.out _) hb); clear hb)
  clear c0 c1 c2 c3 HX2 HBX HBW HB2
  go_upto_region 5 with (fail)
  have HCL := Aside0.mk (HC2.out w3)
  have HB4 := Aside0.mk (below_alloc HB3.out (.cells #[.int .i64 0, .int .i64 2048, .int .i64 5, .int .i64 0, .int .i64 0, .int .i64 100, .int .i64 6, .int .i64 0] 46))
  clear HB3
  generalize w3.alloc (.cells #[.int .i64 0, .int .i64 2048, .int .i64 5, .int .i64 0, .int .i64 0, .int .i64 100, .int .i64 6, .int .i64 0] 46) = w4 at HCL HB4 ⊢
  generalize w3.heap.size = gl at HCL ⊢
  go_wp2_with (first
    | (go_at_call 39; (with_reducible refine (F3.out _ _ _ HCL.out (Nat.le_refl 2)).mono ?_); rintro e w5 ⟨v5, rfl, hR, hb⟩; obtain ⟨AJ, cJ, rfl, hcJ, hCJ⟩ := HRJ.out _ _ _ hR; have HCJ := Aside0.mk hCJ; have HcJ := Lib.hid hcJ; have HB5 := Aside0.mk (below_step HB4.out hb); have HL5 := Aside0.mk (Kd.C_below HCL.out hb); clear hR hb hCJ hcJ)
    | (go_at_call 53; (with_reducible refine (F4.out _ _ _ HCJ.out HcJ.out).mono ?_); rintro e w6 ⟨v6, rfl, hR, hb⟩; obtain ⟨AP, cP, rfl, hcP, hCP⟩ := HRP.out _ _ _ hR; have HCP := Aside0.mk hCP; have HcP := Lib.hid hcP; have HB6 := Aside0.mk (below_step HB5.out hb); have HL6 := Aside0.mk (Kd.C_below HL5.out hb); have HJ6 := Aside0.mk (Kd.C_below HCJ.out hb); clear hR hb hCP hcP)
    | (go_at_call 42; (with_reducible refine (F5.out _ _ _ _ _ (Kd.C_alloc HJ6.out _) HcJ.out (HC3.out _) (Nat.le_refl 1)).mono ?_); rintro e w7 ⟨rfl, hb⟩; have HB7 := Aside0.mk (below_step (below_alloc HB6.out _) hb); have HL7 := Aside0.mk (Kd.C_below (Kd.C_alloc HL6.out _) hb); have HP7 := Aside0.mk (Kd.C_below (Kd.C_alloc HCP.out _) hb); clear hb HJ6)
    | (go_at_call 41; (with_reducible refine (F6.out _ _ _ HL7.out (Nat.le_refl 2)).mono ?_); rintro e w8 ⟨rfl, hb⟩; have HB8 := Aside0.mk (below_step HB7.out hb); have HP8 := Aside0.mk (Kd.C_below HP7.out hb); clear hb)
    | (go_at_call 42; (with_reducible refine (F7.out _ _ _ _ _ (Kd.C_alloc HP8.out _) HcP.out (HC4.out _) (Nat.le_refl 1)).mono ?_); rintro e w9 ⟨rfl, hb⟩; have HB9 := Aside0.mk (below_step (below_alloc HB8.out _) hb); clear hb))
  go_ret
  exact ⟨rfl, HB9.out⟩
end Go.Proofs.Ytijbfebbogiiiaa.Q
