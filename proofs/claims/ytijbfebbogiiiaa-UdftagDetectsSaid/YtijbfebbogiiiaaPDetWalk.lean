/- The walk through the law UdftagDetects. -/
import Derived.Test.YtijbfebbogiiiaaPDet
import Derived.Test.YtijbfebbogiiiaaPAwake31
import Derived.Outline
import Derived.WalkSpells
import Derived.Lib.Hide
import Derived.Lib.ConvBytes
namespace Go.Proofs.Ytijbfebbogiiiaa.Q
open Go.RowKit Go.Proofs.YtijbfebbogiiiaaW.PrintWords Go.Proofs.YtijbfebbogiiiaaW.PrintLast Go.Proofs.YtijbfebbogiiiaaW.PrintMore
attribute [local go_sem] max2_int min2_int max_two min_two max_three min_three max_four min_four
set_option linter.unusedVariables false
set_option linter.unusedSimpArgs false
theorem det_long (id ver loc : Int) (body : ByteArray) (q ch : Int) (k : Nat) (w : World) (h1 : masterdisclaw31_awake.f k = some true) (hb : 2100 < body.size) :
    Calls Try.prog 3 #[.int .i64 id, .int .i64 ver, .int .i64 loc, .string body, .int .u16 q, .int .u8 ch] w fun e w' => e = .returned (.bool true) ∧ Below w.heap.size w w' := by
  have c1 : decide (2100 < (body.size : Int)) = true := decide_eq_true (by omega)
  have H1 := Aside0.mk h1
  clear h1 hb
  go_enter Try.func3, Try.ntmps3
  go_wp2_with (go_at_call 26; refine (masterdisclaw31_awake.calls k true _ H1.out).mono ?_; rintro e w1 ⟨rfl, hb1⟩; have HB := Aside0.mk hb1; clear hb1)
  go_ret
  exact ⟨rfl, HB.out⟩
theorem det_err (id ver loc : Int) (body s : ByteArray) (er q ch : Int) (k : Nat) (w : World) (h1 : masterdisclaw31_awake.f k = some true) (hb : body.size ≤ 2100) (hS : udftag_Seal.f k id ver loc body = some (s, er)) (hbad : er ≠ 0 ∨ er = 0 ∧ ch = 0) :
    Calls Try.prog 3 #[.int .i64 id, .int .i64 ver, .int .i64 loc, .string body, .int .u16 q, .int .u8 ch] w fun e w' => e = .returned (.bool true) ∧ Below w.heap.size w w' := by
  have c1 : decide (2100 < (body.size : Int)) = false := decide_eq_false (by omega)
  have H1 := Aside0.mk h1
  have HS := Aside0.mk hS
  clear h1 hb hS
  rcases hbad with h | ⟨h, h'⟩
  · have c2 : (er != 0) = true := bne_iff_ne.2 h
    clear h
    go_enter Try.func3, Try.ntmps3
    go_wp2_with (first | (go_at_call 26; refine (masterdisclaw31_awake.calls k true _ H1.out).mono ?_; rintro e w1 ⟨rfl, hb1⟩; have HB := Aside0.mk hb1; clear hb1) | (go_at_call 27; refine (udftag_Seal.calls k id ver loc body s er _ HS.out).mono ?_; rintro e w2 ⟨rfl, hb2⟩; have HB2 := Aside0.mk (below_step HB.out hb2); clear hb2))
    go_ret
    exact ⟨rfl, HB2.out⟩
  · subst h h'
    go_enter Try.func3, Try.ntmps3
    go_wp2_with (first | (go_at_call 26; refine (masterdisclaw31_awake.calls k true _ H1.out).mono ?_; rintro e w1 ⟨rfl, hb1⟩; have HB := Aside0.mk hb1; clear hb1) | (go_at_call 27; refine (udftag_Seal.calls k id ver loc body s 0 _ HS.out).mono ?_; rintro e w2 ⟨rfl, hb2⟩; have HB2 := Aside0.mk (below_step HB.out hb2); clear hb2))
    go_ret
    exact ⟨rfl, HB2.out⟩
set_option maxRecDepth 100000 in
theorem det_main (id ver loc : Int) (body s : ByteArray) (q ch : Int) (k : Nat) (w : World) (h1 : masterdisclaw31_awake.f k = some true) (hb : body.size ≤ 2100) (hS : udftag_Seal.f k id ver loc body = some (s, 0)) (hch : ch ≠ 0) (hs : 0 < s.size) (hs2 : s.size ≤ 5000)
    (hq : 0 ≤ q ∧ q ≤ 65535) (hf : udftag_Faults.f s loc = some []) (i : Nat) (hi : (i : Int) = q % s.size) (l2 : List Int) (hf2 : udftag_Faults.f (strOfNums ((bytesOf s).set i (bits .xor .u8 (bt s i) ch))) loc = some l2) (hl2 : l2 ≠ []) :
    Calls Try.prog 3 #[.int .i64 id, .int .i64 ver, .int .i64 loc, .string body, .int .u16 q, .int .u8 ch] w fun e w' => e = .returned (.bool true) ∧ Below w.heap.size w w' := by
  have c1 : decide (2100 < (body.size : Int)) = false := decide_eq_false (by omega)
  have c2 : (ch == 0) = false := beq_eq_false_iff_ne.2 hch
  have c3 : ((s.size : Int) == 0) = false := beq_eq_false_iff_ne.2 (by omega)
  have H1 := Aside0.mk h1
  have HS := Aside0.mk hS
  have HF := Aside0.mk hf
  have HF2 := Aside0.mk hf2
  clear h1 hS hf hf2 hch
  have kb := fun W => print_bytes (P := Try.prog) 9 29 5 Try.underlying9 Try.underlying29 Try.underlying5 s W
  go_enter Try.func3, Try.ntmps3
  go_upto_region 11 with (first | (go_at_call 26; refine (masterdisclaw31_awake.calls k true _ H1.out).mono ?_; rintro e w1 ⟨rfl, hb1⟩; have HB := Aside0.mk hb1; clear hb1) | (go_at_call 27; refine (udftag_Seal.calls k id ver loc body s 0 _ HS.out).mono ?_; rintro e w2 ⟨rfl, hb2⟩; have HB2 := Aside0.mk (below_step HB.out hb2); clear hb2) | (go_at_call 28; refine (udftag_Faults.calls s loc [] _ HF.out).mono ?_; rintro e w3 ⟨v3, rfl, hR3, hb3⟩; obtain ⟨A3, cp3, e3⟩ := Kd.R_slice hR3; subst e3; have HB3 := Aside0.mk (below_step HB2.out hb3); clear hb3 hR3))
  clear kb
  have hlt : i < s.size := by
    have : (i : Int) < s.size := by rw [hi]; exact Int.emod_lt_of_pos _ (by omega)
    omega
  have hm : q % (s.size : Int) = (i : Int) := hi.symm
  have hm2 : Int.tmod q (s.size : Int) = (i : Int) := by rw [Int.tmod_eq_emod_of_nonneg hq.1]; exact hm
  have hcb : ((s.data.toList.getD i 0).toNat : Int) = bt s (i : Int) := by
    rw [← bt_at s (i : Int) (by simpa using hlt)]
    have h' : i < s.data.toList.length := by rw [data_length]; exact hlt
    simp [List.getD_eq_getElem?_getD, List.getElem?_eq_getElem h']
    rfl
  have hcell := Lib.bytesWorld_cell w3 5 s i hlt
  rw [hcb] at hcell
  have hblk := Lib.bytesWorld_at_new w3 5 s
  have hsz3 : s.size ≤ (Lib.bytesCells w3 5 s).size := by simp [Lib.bytesCells]
  have hcells : ∀ j, j < s.size → (Lib.bytesWorld w3 5 s).cell? ⟨w3.heap.size, j, none⟩ = some (.int .u8 (rd (bytesOf s) (j : Int))) := by
    intro j hj
    rw [Lib.bytesWorld_cell w3 5 s j hj, rd_bytesOf, ← bt_at s (j : Int) (by simpa using hj)]
    have h' : j < s.data.toList.length := by rw [data_length]; exact hj
    simp [List.getD_eq_getElem?_getD, List.getElem?_eq_getElem h']
    rfl
  have hfz : (Lib.bytesWorld w3 5 s).frozen? ⟨w3.heap.size, i, none⟩ = false := by
    simp [World.frozen?, hblk]; omega
  have HBW := Aside0.mk (bytes_below HB3.out HB3.out.size 5 s)
  have hbase := HB3.out.size
  generalize (grownCap w3 s.size 0 5) = cap
  generalize Lib.bytesWorld w3 5 s = W at *
  generalize w3.heap.size = g at *
  have hltd : decide ((i : Int) < s.size) = true := decide_eq_true (by omega)
  have hlti : ((i : Int) < s.size) = True := eq_true (by omega)
  generalize hx : bits .xor .u8 (bt s (i : Int)) ch = x at *
  have hR : ReadsInt (W.setCell ⟨g, i, none⟩ (.int .u8 x)) .u8 (some ⟨g, 0, none⟩) s.size ((bytesOf s).set i x) := by
    refine ⟨by rw [List.length_set, bytesOf_length], by omega, fun _ => ⟨_, rfl, fun j hj => ?_⟩⟩
    rw [add_plain]
    have hc := hcells j hj
    have hj' : j < (bytesOf s).length := by rw [bytesOf_length]; exact hj
    simp only [World.cell?, hblk] at hc
    simp only [World.cell?, row_set' W g i _ _ 5 _ hblk]
    simp only [Option.isSome_none, Bool.false_eq_true, if_false, Nat.zero_add] at hc ⊢
    rw [Array.getElem?_setIfInBounds]
    by_cases e : i = j
    · subst e
      simp [List.getD_eq_getElem?_getD, hj', show i < (Lib.bytesCells w3 5 s).size by omega]
    · rw [if_neg e]
      refine hc.trans ?_
      simp [List.getD_eq_getElem?_getD, List.getElem?_set_ne e, rd]
  have kb2 := string_of_reads (P := Try.prog) (src := 29) (dst := 9) (e := 5) (c := cap) Try.underlying29 Try.underlying5 Try.underlying9 hR
  generalize strOfNums ((bytesOf s).set i x) = s2 at *
  have hpos : decide ((0 : Int) < l2.length) = true := decide_eq_true (by have := List.length_pos_iff.2 hl2; omega)
  have hpos2 : decide (0 < l2.length) = true := decide_eq_true (List.length_pos_iff.2 hl2)
  have HL := Lib.hid hlt
  clear hR hcells hblk hsz3 hcb hl2 hi hlt
  have hwq : wrap64 q = q := Go.IntWalk.wrap64_in q (by omega)
  go_wp2_with (go_at_call 28; refine (udftag_Faults.calls s2 loc l2 _ HF2.out).mono ?_; rintro e w4 ⟨v4, rfl, hR4, hb4⟩; obtain ⟨A4, cp4, e4⟩ := Kd.R_slice hR4; subst e4; have HB4 := Aside0.mk (below_step (below_set HBW.out hbase) hb4); clear hb4 hR4)
  go_ret
  exact ⟨rfl, HB4.out⟩
open Go.Proofs.Ytijbfebbogiiiaa.Pure in
theorem masterdisclaw31_UdftagDetects.walk (a0 a1 a2 : Int) (a3 : ByteArray) (a4 a5 : Int) (w : World) (w4 : (Lit.int .u16 a4).wf = true) (w5 : (Lit.int .u8 a5).wf = true) :
    Calls Try.prog 3 #[.int .i64 a0, .int .i64 a1, .int .i64 a2, .string a3, .int .u16 a4, .int .u8 a5] w fun e w' => e = .returned (.bool true) ∧ Below w.heap.size w w' := by
  have hq : 0 ≤ a4 ∧ a4 ≤ 65535 := by simp [Lit.wf, IntKind.min, IntKind.max, IntKind.bits, IntKind.signed] at w4; omega
  have hc : 0 ≤ a5 ∧ a5 ≤ 255 := by simp [Lit.wf, IntKind.min, IntKind.max, IntKind.bits, IntKind.signed] at w5; omega
  obtain ⟨K1, h1⟩ := awake31_ev
  obtain ⟨K2, h2⟩ := Seal_ev a0 a1 a2 a3
  have h1 := h1 (max K1 K2) (Nat.le_max_left _ _)
  have h2 := h2 (max K1 K2) (Nat.le_max_right _ _)
  generalize max K1 K2 = k at h1 h2
  rcases Nat.lt_or_ge 2100 a3.size with hb | hb
  · exact det_long a0 a1 a2 a3 a4 a5 k w h1 hb
  · by_cases hr : inRange a0 a1 a2
    · have e : sealRes a0 a1 a2 a3 65535 = (sealOf a0 a1 a2 a3, 0) := by rw [sealRes, if_pos hr, if_neg (by omega)]
      rw [e] at h2
      by_cases h5 : a5 = 0
      · exact det_err a0 a1 a2 a3 _ 0 a4 a5 k w h1 hb h2 (.inr ⟨rfl, h5⟩)
      · have hsz := sealOf_size a0 a1 a2 a3
        have hf : faultsAll (sealOf a0 a1 a2 a3) a2 = [] := by
          have := (opens a0 a1 a2 a3 ⟨#[]⟩ hr (by omega)).2.1
          have e0 : sealOf a0 a1 a2 a3 ++ (⟨#[]⟩ : ByteArray) = sealOf a0 a1 a2 a3 := by
            apply bytesOf_inj; rw [bytesOf_append]; simp [bytesOf]
          rwa [e0] at this
        have hi : ((a4 % ((sealOf a0 a1 a2 a3).size : Int)).toNat : Int) = a4 % ((sealOf a0 a1 a2 a3).size : Int) := Int.toNat_of_nonneg (Int.emod_nonneg _ (by omega))
        have hil : (a4 % ((sealOf a0 a1 a2 a3).size : Int)).toNat < 16 + a3.size := by
          have := Int.emod_lt_of_pos a4 (show (0 : Int) < (sealOf a0 a1 a2 a3).size by omega)
          omega
        generalize (a4 % ((sealOf a0 a1 a2 a3).size : Int)).toNat = i at *
        have hbt := bt_range (sealOf a0 a1 a2 a3) (i : Int)
        obtain ⟨b, hbn⟩ := Int.eq_ofNat_of_zero_le hbt.1
        obtain ⟨c, hcn⟩ := Int.eq_ofNat_of_zero_le hc.1
        have hx : bits .xor .u8 (bt (sealOf a0 a1 a2 a3) (i : Int)) a5 = ((b ^^^ c : Nat) : Int) := by
          rw [hbn, hcn]; exact bits_xor8 b c (by omega) (by omega)
        have hxl : b ^^^ c < 256 := Nat.xor_lt_two_pow (n := 8) (by omega) (by omega)
        have hne : ((b ^^^ c : Nat) : Int) ≠ rd (bytesOf (sealOf a0 a1 a2 a3)) (i : Int) := by
          rw [rd_bytesOf, hbn]
          intro h
          have h' : b ^^^ c = b := by omega
          have h3 := congrArg (fun n => b ^^^ n) h'
          simp only [← Nat.xor_assoc, Nat.xor_self, Nat.zero_xor] at h3
          apply h5; omega
        have hd := detect a0 a1 a2 a3 hr (by omega) i _ hil (by omega) hne
        refine det_main a0 a1 a2 a3 (sealOf a0 a1 a2 a3) a4 a5 k w h1 hb h2 h5 (by omega) (by omega) hq (by rw [Faults_f _ _ (by omega), hf]) i hi _ (Faults_f _ _ ?_) (by rw [hx]; exact hd)
        rw [strOfNums_size, List.length_set, bytesOf_length]; omega
    · have e : sealRes a0 a1 a2 a3 65535 = (⟨#[]⟩, 2) := by rw [sealRes, if_neg hr]
      rw [e] at h2
      exact det_err a0 a1 a2 a3 _ 2 a4 a5 k w h1 hb h2 (.inl (by decide))
end Go.Proofs.Ytijbfebbogiiiaa.Q
