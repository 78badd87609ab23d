/- The contract of masterdiscref33.decode. -/
import Derived.Test.YtijbfebbogiiiaaQ0
import Derived.Test.YtijbfebbogiiiaaQNum
import Derived.Test.YtijbfebbogiiiaaHBase
import Derived.Test.YtijbfebbogiiiaaHDecode
import Derived.Test.YtijbfebbogiiiaaHAlloc1
import Derived.Test.YtijbfebbogiiiaaHLe
import Derived.Test.YtijbfebbogiiiaaPNum
import Derived.Outline
import Derived.Deep.DeepCutAuto
import Derived.WalkSpells
import Derived.Lib.Hide
namespace Go.Proofs.Ytijbfebbogiiiaa.Q
open Go.RowKit Go.Proofs.YtijbfebbogiiiaaW.PrintWords Go.Proofs.YtijbfebbogiiiaaW.PrintLast Go.Proofs.YtijbfebbogiiiaaW.PrintMore
attribute [local go_sem] max2_int min2_int max_two min_two max_three min_three max_four min_four
set_option linter.unusedVariables false
set_option linter.unusedSimpArgs false
def masterdiscref33_decode.f (a0 : ByteArray) (a1 : Int) (a2 : Int) : Option (List S46 × Int) :=
  if 140737488355328 < a0.size then none else if a1 = 8 then (if a0.size % 8 ≠ 0 then some ([], 3) else some (decFrom a0 8 (fun _ => a2) (a0.size / 8) 0 []))
  else if a1 = 16 then (if a0.size % 16 ≠ 0 then some ([], 3) else some (decFrom a0 16 (fun i => leAt a0 (i + 8) 2) (a0.size / 16) 0 [])) else none
set_option maxHeartbeats 4000000 in
set_option maxRecDepth 100000 in
theorem refdecode8_calls (a0 : ByteArray) (a2 : Int) (w : World) (hs : a0.size ≤ 140737488355328) :
    Calls Try.prog 127 #[.string a0, .int .i64 8, .int .i64 a2] w fun e w' => ∃ v0_ : Value, e = .returned (.tuple #[v0_, .int .i64 (if a0.size % 8 ≠ 0 then ([], 3) else decFrom a0 8 (fun _ => a2) (a0.size / 8) 0 []).2]) ∧ Kd.R k46 46 w' w.heap.size (fun _ => True) v0_ (if a0.size % 8 ≠ 0 then ([], 3) else decFrom a0 8 (fun _ => a2) (a0.size / 8) 0 []).1 ∧ Below w.heap.size w w' := by
  by_cases hm : a0.size % 8 = 0
  · rw [if_neg (not_not_intro hm)]
    obtain ⟨n, hn⟩ : ∃ n, n = a0.size / 8 := ⟨_, rfl⟩
    rw [← hn]
    have hsz : a0.size = 8 * n := by omega
    have t1 : Int.tmod (a0.size : Int) 8 = 0 := by rw [Int.tmod_eq_emod_of_nonneg (by omega)]; omega
    obtain ⟨fin, hfin⟩ : ∃ fin, fin = decFrom a0 8 (fun _ => a2) n 0 [] := ⟨_, rfl⟩
    rw [← hfin]
    have HFIN := Lib.hid hfin
    clear hm hn hfin
    go_enter Try.func127, Try.ntmps127
    go_wp2_with ((with_reducible refine gate_dst (N := 17) rfl ?_); refine Kd.R_lit k46 _ 46 ?hg (N := 17) ?hd (xs := ([] : List S46)) (inner := []) (ok := fun _ => True) (okp := fun _ => True) ?hr ?hp (fun _ hk => hk) trivial (Below.refl _ _) (Nat.le_refl _) (by simp) ?_; (case hd => rfl); (case hg => rfl); (case hr => first | (go_simp; done) | (go_simp; rfl)); (case hp => exact (Reps.none _ _)); intro v17 w5 ho6 hb hg_ hnew_; have HO := Aside0.mk ho6; have HBZ := Aside0.mk hb; clear ho6 hb hg_ hnew_)
    go_loopw [8, 9] (fun v8 v9 w' => ∃ (k : Nat) (xs : List S46), k ≤ n ∧ xs.length ≤ 64 ∧ v9 = .int .i64 (8 * (k : Int)) ∧ Aside0 (decFrom a0 8 (fun _ => a2) (n - k) (8 * (k : Int)) xs = fin) ∧ Aside0 (Kd.R k46 46 w' w.heap.size (fun _ => True) v8 xs) ∧ Aside0 (Below w.heap.size w w')) (fun _ v9 _ => 8 * n - (intOf v9).toNat)
    case atStart => exact ⟨0, [], by omega, by simp, rfl, ⟨HFIN.out.symm⟩, HO, HBZ⟩
    case round =>
      obtain ⟨k, xs, hk, hx, rfl, HE, HR, HB⟩ := hrel
      obtain ⟨Ao, co, ho⟩ := Kd.R_slice HR.out
      subst ho
      by_cases hlt : k < n
      · have hi4 : IntKind.i64.wrap (8 * (k : Int) + 4) = 8 * (k : Int) + 4 := IntWalk.i64_in _ (by omega)
        have hi8 : IntKind.i64.wrap (8 * (k : Int) + 8) = 8 * (k : Int) + 8 := IntWalk.i64_in _ (by omega)
        have his : IntKind.i64.wrap (8 * (k : Int) + 8) = 8 * (k : Int) + 8 := IntWalk.i64_in _ (by omega)
        have hl1 : decide (8 * (k : Int) < 8 * (n : Int)) = true := decide_eq_true (by omega)
        have hl2 : decide (8 * (k : Int) < (a0.size : Int)) = true := decide_eq_true (by omega)
        have H0 := HE.out
        rw [show n - k = (n - (k + 1)) + 1 by omega, decFrom] at H0
        obtain ⟨K0, r0⟩ := (Pure.Number_ev a0 (8 * (k : Int)) 4 (by omega) (by omega) (by omega) (by omega)).rounds
        obtain ⟨K4, r4⟩ := (Pure.Number_ev a0 (8 * (k : Int) + 4) 4 (by omega) (by omega) (by omega) (by omega)).rounds
        have b0 := leAt_bd a0 (8 * (k : Int)) 4
        have R0 := Lib.hid r0
        have R4 := Lib.hid r4
        clear r0 r4
        rw [show ((4 : Nat) : Int) = 4 from rfl] at R0 R4

        generalize leAt a0 (8 * (k : Int)) 4 = n0 at R0 H0 b0
        generalize leAt a0 (8 * (k : Int) + 4) 4 = n4 at R4 H0
        have u1 : Int.tmod n0 1073741824 = n0 % 1073741824 := Int.tmod_eq_emod_of_nonneg b0.1
        have u2 : Int.tdiv n0 1073741824 = n0 / 1073741824 := Int.tdiv_eq_ediv_of_nonneg b0.1
        have u3 : IntKind.i64.wrap (n0 / 1073741824) = n0 / 1073741824 := IntWalk.i64_in _ (by have := b0.1; have := b0.2; omega)
        generalize n0 / 1073741824 = kd at u2 u3 H0
        generalize n0 % 1073741824 = ln at u1 H0
        clear b0
        by_cases hz : ln = 0
        · rw [if_pos hz] at H0
          have HF := Lib.hid H0.symm
          clear H0 HE
          have z1 : (ln == 0) = true := beq_iff_eq.2 hz
          clear hz
          go_wp2_with (go_at_call 99; (with_reducible refine (masterdiscref31_Number.calls K0 _ _ 4 _ _ R0.out).mono ?_); rintro e w1 ⟨rfl, ⟨nd, rfl⟩⟩)
          go_ret2
          exact ⟨_, by rw [HF.out]; rfl, by rw [HF.out]; exact Kd.R_drewN HR.out nd, pw_below_drewN HB.out nd⟩
        · rw [if_neg hz] at H0
          have z1 : (ln == 0) = false := beq_eq_false_iff_ne.2 hz
          clear hz
          by_cases h64 : xs.length = 64
          · rw [if_pos h64] at H0
            have HF := Lib.hid H0.symm
            have z2 : ((xs.length : Int) == 64) = true := beq_iff_eq.2 (by omega)
            have z3 : (xs.length == 64) = true := beq_iff_eq.2 h64
            clear H0 HE h64 hx
            go_wp2_with (go_at_call 99; (with_reducible refine (masterdiscref31_Number.calls K0 _ _ 4 _ _ R0.out).mono ?_); rintro e w1 ⟨rfl, ⟨nd, rfl⟩⟩)
            go_ret2
            exact ⟨_, by rw [HF.out]; rfl, by rw [HF.out]; exact Kd.R_nil _ _ _ _ _, pw_below_drewN HB.out nd⟩
          · rw [if_neg h64] at H0
            have HF := Lib.hid H0
            have z2 : ((xs.length : Int) == 64) = false := beq_eq_false_iff_ne.2 (by omega)
            have z3 : (xs.length == 64) = false := beq_eq_false_iff_ne.2 h64
            have hx' : xs.length < 64 := by omega
            have HX := Lib.hid hx'
            clear H0 HE h64 hx hx'
            go_upto_region 12 with (first
              | (go_at_call 99; (with_reducible refine (masterdiscref31_Number.calls K0 _ _ 4 _ _ R0.out).mono ?_); rintro e w1 ⟨rfl, ⟨nd, rfl⟩⟩)
              | (go_at_call 99; (with_reducible refine (masterdiscref31_Number.calls K4 _ _ 4 _ _ R4.out).mono ?_); rintro e w1 ⟨rfl, ⟨nd2, rfl⟩⟩)
              | ((with_reducible refine gate_dst (N := 11) rfl ?_); refine box_event ?hg (N := 11) ?hd (cs := #[.int .i64 0, .int .i64 0, .int .i64 0, .int .i64 0]) (t := 46) ?hr ?_; (case hd => rfl); (case hg => rfl); (case hr => first | (go_simp; done) | (go_simp; rfl)); intro gb hgb w8 hbox hb; have BK := Aside0.mk hbox; have GE := Aside0.mk ((by rw [hgb]; exact (below_size (by repeat (first | (with_reducible first | exact HB.out | apply below_alloc | apply pw_below_drewN | apply below_drew1) | exact HB.out)))) : w.heap.size ≤ gb); have HB8 := Aside0.mk (below_step (by repeat (first | (with_reducible first | exact HB.out | apply below_alloc | apply pw_below_drewN | apply below_drew1) | exact HB.out)) hb); have HR8 := Aside0.mk (Kd.R_below (Kd.R_elderB (by (with_reducible repeat (first | apply Kd.R_alloc | apply Kd.R_drewN | apply Kd.R_drew)); exact HR.out) gb (Nat.le_of_eq hgb.symm)) hb); clear hb hbox hgb; have hcz9_0 : w8.cell? ⟨gb, 0, none⟩ = some (.int .i64 0) := (blk_cell BK.out 0).trans rfl; have hcz9_1 : w8.cell? ⟨gb, 1, none⟩ = some (.int .i64 0) := (blk_cell BK.out 1).trans rfl; have hcz9_2 : w8.cell? ⟨gb, 2, none⟩ = some (.int .i64 0) := (blk_cell BK.out 2).trans rfl; have hcz9_3 : w8.cell? ⟨gb, 3, none⟩ = some (.int .i64 0) := (blk_cell BK.out 3).trans rfl; have hfz9_0 := blk_frozen BK.out 0; have hfz9_1 := blk_frozen BK.out 1; have hfz9_2 := blk_frozen BK.out 2; have hfz9_3 := blk_frozen BK.out 3))
            have HBW : Aside0 (Below w.heap.size w ((((w8.setCell ⟨gb, 0, none⟩ (.int .i64 kd)).setCell ⟨gb, 1, none⟩ (.int .i64 ln)).setCell ⟨gb, 2, none⟩ (.int .i64 n4)).setCell ⟨gb, 3, none⟩ (.int .i64 a2))) := ⟨below_set (below_set (below_set (below_set HB8.out GE.out) GE.out) GE.out) GE.out⟩
            have HBX : Aside0 (((((w8.setCell ⟨gb, 0, none⟩ (.int .i64 kd)).setCell ⟨gb, 1, none⟩ (.int .i64 ln)).setCell ⟨gb, 2, none⟩ (.int .i64 n4)).setCell ⟨gb, 3, none⟩ (.int .i64 a2)).heap[gb]? = some (.cells #[.int .i64 kd, .int .i64 ln, .int .i64 n4, .int .i64 a2] 46 (0, 0))) :=
              ⟨(row46 _ gb 3 _ _ _ _ (row46 _ gb 2 _ _ _ _ (row46 _ gb 1 _ _ _ _ (row46 _ gb 0 _ _ _ _ BK.out)))).trans rfl⟩
            have HRW : Aside0 (Kd.R k46 46 ((((w8.setCell ⟨gb, 0, none⟩ (.int .i64 kd)).setCell ⟨gb, 1, none⟩ (.int .i64 ln)).setCell ⟨gb, 2, none⟩ (.int .i64 n4)).setCell ⟨gb, 3, none⟩ (.int .i64 a2)) w.heap.size (fun k_ => k_ ≠ gb) (.slice Ao xs.length co) xs) :=
              ⟨Kd.R_far (p := ⟨gb, 3, none⟩) (Kd.R_far (p := ⟨gb, 2, none⟩) (Kd.R_far (p := ⟨gb, 1, none⟩) (Kd.R_far (p := ⟨gb, 0, none⟩) (Kd.R_mono HR8.out (fun _ hk => hk.2)) (fun _ hk => hk) _) (fun _ hk => hk) _) (fun _ hk => hk) _) (fun _ hk => hk) _⟩
            clear hcz9_0 hcz9_1 hcz9_2 hcz9_3 hfz9_0 hfz9_1 hfz9_2 hfz9_3 BK HB8 HR8 HR HB
            generalize ((((w8.setCell ⟨gb, 0, none⟩ (.int .i64 kd)).setCell ⟨gb, 1, none⟩ (.int .i64 ln)).setCell ⟨gb, 2, none⟩ (.int .i64 n4)).setCell ⟨gb, 3, none⟩ (.int .i64 a2)) = W1 at HBW HBX HRW ⊢
            have c0 := (blk_cell HBX.out 0).trans rfl
            have c1 := (blk_cell HBX.out 1).trans rfl
            have c2 := (blk_cell HBX.out 2).trans rfl
            have c3 := (blk_cell HBX.out 3).trans rfl
            have f3 := blk_frozen HBX.out 3
            go_wp2_with (first
              | ((with_reducible refine gate_builtin (b := .append) (xs := #[.tmp 53, .tmp 55]) rfl ?_); at_builtin; refine Kd.R_append k46 (w0 := w) w.heap.size rfl (.tmp 53) (.tmp 55) 37 46 (.agg #[(.int .i64 0), (.int .i64 0), (.int .i64 0), (.int .i64 0)]) 32 rfl Try.underlying37 info46 rfl (by decide) (by omega) (.slice Ao xs.length co) xs (⟨kd, ln, ⟨n4, a2⟩⟩ : S46) [.int .i64 kd, .int .i64 ln, .int .i64 n4, .int .i64 a2] (fun _ => True) (fun _ => False) rfl (by first | (go_simp; done) | (go_simp; rfl)) ?aP (fun _ hk => hk.elim) (fun _ _ => trivial) ?aO ?aB ?aS ?aL ?_; (case aP => exact k46_mkM' _ _ _ kd ln n4 a2); (case aO => exact (by (with_reducible repeat (first | apply Kd.R_alloc | apply Kd.R_drewN | apply Kd.R_drew)); exact Kd.R_mono HRW.out (fun _ _ => trivial))); (case aB => exact (by repeat (first | (with_reducible first | exact HBW.out | apply below_alloc | apply pw_below_drewN | apply below_drew1 | refine below_set ?_ GE.out) | exact HBW.out))); (case aS => exact (below_size (by repeat (first | (with_reducible first | exact HBW.out | apply below_alloc | apply pw_below_drewN | apply below_drew1 | refine below_set ?_ GE.out) | exact HBW.out)))); (case aL => have := HX.out; omega); intro v1 w4 hR4 hB4 _ _; have HR4 := Aside0.mk hR4; have HB4 := Aside0.mk hB4; clear hR4 hB4))
            go_roundw
            case rel => exact ⟨k + 1, xs ++ [⟨kd, ln, ⟨n4, a2⟩⟩], by omega, by have := HX.out; simp; omega, by first | rfl | (rw [show 8 * (((k + 1 : Nat)) : Int) = 8 * (k : Int) + 8 by omega]; rfl) | (rw [show 8 * (((k + 1 : Nat)) : Int) = 8 * (k : Int) + 8 by omega]; simp), ⟨by rw [← HF.out, show 8 * (((k + 1 : Nat)) : Int) = 8 * (k : Int) + 8 by omega]⟩, HR4, HB4⟩
            case measure => simp [intOf]; omega
      · have e : n - k = 0 := by omega
        have ek : k = n := by omega
        have hl1 : decide (8 * (k : Int) < 8 * (n : Int)) = false := decide_eq_false (by omega)
        have hl2 : decide (8 * (k : Int) < (a0.size : Int)) = false := decide_eq_false (by omega)
        have H0 := HE.out
        rw [e, decFrom] at H0
        have HF := Lib.hid H0.symm
        clear H0 HE e
        go_wp2
        go_ret2
        exact ⟨_, by rw [HF.out]; rfl, by rw [HF.out]; exact HR.out, HB.out⟩
  · rw [if_pos hm]
    have t1 : (Int.tmod (a0.size : Int) 8 == 0) = false := by rw [Int.tmod_eq_emod_of_nonneg (by omega)]; exact beq_eq_false_iff_ne.2 (by omega)
    have t2 : (Int.tmod (a0.size : Int) 8 != 0) = true := by rw [bne, t1]; rfl
    have t3 : ((a0.size : Int) % 8 == 0) = false := beq_eq_false_iff_ne.2 (by omega)
    have t4 : ((a0.size : Int) % 8 != 0) = true := by rw [bne, t3]; rfl
    clear hm
    go_enter Try.func127, Try.ntmps127
    go_wp2
    go_ret2
    exact ⟨_, rfl, Kd.R_nil _ _ _ _ _, Below.refl _ _⟩
set_option maxHeartbeats 4000000 in
set_option maxRecDepth 100000 in
theorem refdecode16_calls (a0 : ByteArray) (a2 : Int) (w : World) (hs : a0.size ≤ 140737488355328) :
    Calls Try.prog 127 #[.string a0, .int .i64 16, .int .i64 a2] w fun e w' => ∃ v0_ : Value, e = .returned (.tuple #[v0_, .int .i64 (if a0.size % 16 ≠ 0 then ([], 3) else decFrom a0 16 (fun i => leAt a0 (i + 8) 2) (a0.size / 16) 0 []).2]) ∧ Kd.R k46 46 w' w.heap.size (fun _ => True) v0_ (if a0.size % 16 ≠ 0 then ([], 3) else decFrom a0 16 (fun i => leAt a0 (i + 8) 2) (a0.size / 16) 0 []).1 ∧ Below w.heap.size w w' := by
  by_cases hm : a0.size % 16 = 0
  · rw [if_neg (not_not_intro hm)]
    obtain ⟨n, hn⟩ : ∃ n, n = a0.size / 16 := ⟨_, rfl⟩
    rw [← hn]
    have hsz : a0.size = 16 * n := by omega
    have t1 : Int.tmod (a0.size : Int) 16 = 0 := by rw [Int.tmod_eq_emod_of_nonneg (by omega)]; omega
    obtain ⟨fin, hfin⟩ : ∃ fin, fin = decFrom a0 16 (fun i => leAt a0 (i + 8) 2) n 0 [] := ⟨_, rfl⟩
    rw [← hfin]
    have HFIN := Lib.hid hfin
    clear hm hn hfin
    go_enter Try.func127, Try.ntmps127
    go_wp2_with ((with_reducible refine gate_dst (N := 17) rfl ?_); refine Kd.R_lit k46 _ 46 ?hg (N := 17) ?hd (xs := ([] : List S46)) (inner := []) (ok := fun _ => True) (okp := fun _ => True) ?hr ?hp (fun _ hk => hk) trivial (Below.refl _ _) (Nat.le_refl _) (by simp) ?_; (case hd => rfl); (case hg => rfl); (case hr => first | (go_simp; done) | (go_simp; rfl)); (case hp => exact (Reps.none _ _)); intro v17 w5 ho6 hb hg_ hnew_; have HO := Aside0.mk ho6; have HBZ := Aside0.mk hb; clear ho6 hb hg_ hnew_)
    go_loopw [8, 9] (fun v8 v9 w' => ∃ (k : Nat) (xs : List S46), k ≤ n ∧ xs.length ≤ 64 ∧ v9 = .int .i64 (16 * (k : Int)) ∧ Aside0 (decFrom a0 16 (fun i => leAt a0 (i + 8) 2) (n - k) (16 * (k : Int)) xs = fin) ∧ Aside0 (Kd.R k46 46 w' w.heap.size (fun _ => True) v8 xs) ∧ Aside0 (Below w.heap.size w w')) (fun _ v9 _ => 16 * n - (intOf v9).toNat)
    case atStart => exact ⟨0, [], by omega, by simp, rfl, ⟨HFIN.out.symm⟩, HO, HBZ⟩
    case round =>
      obtain ⟨k, xs, hk, hx, rfl, HE, HR, HB⟩ := hrel
      obtain ⟨Ao, co, ho⟩ := Kd.R_slice HR.out
      subst ho
      by_cases hlt : k < n
      · have hi4 : IntKind.i64.wrap (16 * (k : Int) + 4) = 16 * (k : Int) + 4 := IntWalk.i64_in _ (by omega)
        have hi8 : IntKind.i64.wrap (16 * (k : Int) + 8) = 16 * (k : Int) + 8 := IntWalk.i64_in _ (by omega)
        have his : IntKind.i64.wrap (16 * (k : Int) + 16) = 16 * (k : Int) + 16 := IntWalk.i64_in _ (by omega)
        have hl1 : decide (16 * (k : Int) < 16 * (n : Int)) = true := decide_eq_true (by omega)
        have hl2 : decide (16 * (k : Int) < (a0.size : Int)) = true := decide_eq_true (by omega)
        have H0 := HE.out
        rw [show n - k = (n - (k + 1)) + 1 by omega, decFrom] at H0
        obtain ⟨K0, r0⟩ := (Pure.Number_ev a0 (16 * (k : Int)) 4 (by omega) (by omega) (by omega) (by omega)).rounds
        obtain ⟨K4, r4⟩ := (Pure.Number_ev a0 (16 * (k : Int) + 4) 4 (by omega) (by omega) (by omega) (by omega)).rounds
        have b0 := leAt_bd a0 (16 * (k : Int)) 4
        have R0 := Lib.hid r0
        have R4 := Lib.hid r4
        clear r0 r4
        rw [show ((4 : Nat) : Int) = 4 from rfl] at R0 R4
        obtain ⟨K8, r8⟩ := (Pure.Number_ev a0 (16 * (k : Int) + 8) 2 (by omega) (by omega) (by omega) (by omega)).rounds
        have R8 := Lib.hid r8
        clear r8
        rw [show ((2 : Nat) : Int) = 2 from rfl] at R8
        generalize leAt a0 (16 * (k : Int) + 8) 2 = pt at R8 H0
        generalize leAt a0 (16 * (k : Int)) 4 = n0 at R0 H0 b0
        generalize leAt a0 (16 * (k : Int) + 4) 4 = n4 at R4 H0
        have u1 : Int.tmod n0 1073741824 = n0 % 1073741824 := Int.tmod_eq_emod_of_nonneg b0.1
        have u2 : Int.tdiv n0 1073741824 = n0 / 1073741824 := Int.tdiv_eq_ediv_of_nonneg b0.1
        have u3 : IntKind.i64.wrap (n0 / 1073741824) = n0 / 1073741824 := IntWalk.i64_in _ (by have := b0.1; have := b0.2; omega)
        generalize n0 / 1073741824 = kd at u2 u3 H0
        generalize n0 % 1073741824 = ln at u1 H0
        clear b0
        by_cases hz : ln = 0
        · rw [if_pos hz] at H0
          have HF := Lib.hid H0.symm
          clear H0 HE
          have z1 : (ln == 0) = true := beq_iff_eq.2 hz
          clear hz
          go_wp2_with (go_at_call 99; (with_reducible refine (masterdiscref31_Number.calls K0 _ _ 4 _ _ R0.out).mono ?_); rintro e w1 ⟨rfl, ⟨nd, rfl⟩⟩)
          go_ret2
          exact ⟨_, by rw [HF.out]; rfl, by rw [HF.out]; exact Kd.R_drewN HR.out nd, pw_below_drewN HB.out nd⟩
        · rw [if_neg hz] at H0
          have z1 : (ln == 0) = false := beq_eq_false_iff_ne.2 hz
          clear hz
          by_cases h64 : xs.length = 64
          · rw [if_pos h64] at H0
            have HF := Lib.hid H0.symm
            have z2 : ((xs.length : Int) == 64) = true := beq_iff_eq.2 (by omega)
            have z3 : (xs.length == 64) = true := beq_iff_eq.2 h64
            clear H0 HE h64 hx
            go_wp2_with (go_at_call 99; (with_reducible refine (masterdiscref31_Number.calls K0 _ _ 4 _ _ R0.out).mono ?_); rintro e w1 ⟨rfl, ⟨nd, rfl⟩⟩)
            go_ret2
            exact ⟨_, by rw [HF.out]; rfl, by rw [HF.out]; exact Kd.R_nil _ _ _ _ _, pw_below_drewN HB.out nd⟩
          · rw [if_neg h64] at H0
            have HF := Lib.hid H0
            have z2 : ((xs.length : Int) == 64) = false := beq_eq_false_iff_ne.2 (by omega)
            have z3 : (xs.length == 64) = false := beq_eq_false_iff_ne.2 h64
            have hx' : xs.length < 64 := by omega
            have HX := Lib.hid hx'
            clear H0 HE h64 hx hx'
            go_upto_region 12 with (first
              | (go_at_call 99; (with_reducible refine (masterdiscref31_Number.calls K0 _ _ 4 _ _ R0.out).mono ?_); rintro e w1 ⟨rfl, ⟨nd, rfl⟩⟩)
              | (go_at_call 99; (with_reducible refine (masterdiscref31_Number.calls K4 _ _ 4 _ _ R4.out).mono ?_); rintro e w1 ⟨rfl, ⟨nd2, rfl⟩⟩)
              | ((with_reducible refine gate_dst (N := 11) rfl ?_); refine box_event ?hg (N := 11) ?hd (cs := #[.int .i64 0, .int .i64 0, .int .i64 0, .int .i64 0]) (t := 46) ?hr ?_; (case hd => rfl); (case hg => rfl); (case hr => first | (go_simp; done) | (go_simp; rfl)); intro gb hgb w8 hbox hb; have BK := Aside0.mk hbox; have GE := Aside0.mk ((by rw [hgb]; exact (below_size (by repeat (first | (with_reducible first | exact HB.out | apply below_alloc | apply pw_below_drewN | apply below_drew1) | exact HB.out)))) : w.heap.size ≤ gb); have HB8 := Aside0.mk (below_step (by repeat (first | (with_reducible first | exact HB.out | apply below_alloc | apply pw_below_drewN | apply below_drew1) | exact HB.out)) hb); have HR8 := Aside0.mk (Kd.R_below (Kd.R_elderB (by (with_reducible repeat (first | apply Kd.R_alloc | apply Kd.R_drewN | apply Kd.R_drew)); exact HR.out) gb (Nat.le_of_eq hgb.symm)) hb); clear hb hbox hgb; have hcz9_0 : w8.cell? ⟨gb, 0, none⟩ = some (.int .i64 0) := (blk_cell BK.out 0).trans rfl; have hcz9_1 : w8.cell? ⟨gb, 1, none⟩ = some (.int .i64 0) := (blk_cell BK.out 1).trans rfl; have hcz9_2 : w8.cell? ⟨gb, 2, none⟩ = some (.int .i64 0) := (blk_cell BK.out 2).trans rfl; have hcz9_3 : w8.cell? ⟨gb, 3, none⟩ = some (.int .i64 0) := (blk_cell BK.out 3).trans rfl; have hfz9_0 := blk_frozen BK.out 0; have hfz9_1 := blk_frozen BK.out 1; have hfz9_2 := blk_frozen BK.out 2; have hfz9_3 := blk_frozen BK.out 3))
            have HBW : Aside0 (Below w.heap.size w ((((w8.setCell ⟨gb, 0, none⟩ (.int .i64 kd)).setCell ⟨gb, 1, none⟩ (.int .i64 ln)).setCell ⟨gb, 2, none⟩ (.int .i64 n4)).setCell ⟨gb, 3, none⟩ (.int .i64 a2))) := ⟨below_set (below_set (below_set (below_set HB8.out GE.out) GE.out) GE.out) GE.out⟩
            have HBX : Aside0 (((((w8.setCell ⟨gb, 0, none⟩ (.int .i64 kd)).setCell ⟨gb, 1, none⟩ (.int .i64 ln)).setCell ⟨gb, 2, none⟩ (.int .i64 n4)).setCell ⟨gb, 3, none⟩ (.int .i64 a2)).heap[gb]? = some (.cells #[.int .i64 kd, .int .i64 ln, .int .i64 n4, .int .i64 a2] 46 (0, 0))) :=
              ⟨(row46 _ gb 3 _ _ _ _ (row46 _ gb 2 _ _ _ _ (row46 _ gb 1 _ _ _ _ (row46 _ gb 0 _ _ _ _ BK.out)))).trans rfl⟩
            have HRW : Aside0 (Kd.R k46 46 ((((w8.setCell ⟨gb, 0, none⟩ (.int .i64 kd)).setCell ⟨gb, 1, none⟩ (.int .i64 ln)).setCell ⟨gb, 2, none⟩ (.int .i64 n4)).setCell ⟨gb, 3, none⟩ (.int .i64 a2)) w.heap.size (fun k_ => k_ ≠ gb) (.slice Ao xs.length co) xs) :=
              ⟨Kd.R_far (p := ⟨gb, 3, none⟩) (Kd.R_far (p := ⟨gb, 2, none⟩) (Kd.R_far (p := ⟨gb, 1, none⟩) (Kd.R_far (p := ⟨gb, 0, none⟩) (Kd.R_mono HR8.out (fun _ hk => hk.2)) (fun _ hk => hk) _) (fun _ hk => hk) _) (fun _ hk => hk) _) (fun _ hk => hk) _⟩
            clear hcz9_0 hcz9_1 hcz9_2 hcz9_3 hfz9_0 hfz9_1 hfz9_2 hfz9_3 BK HB8 HR8 HR HB
            generalize ((((w8.setCell ⟨gb, 0, none⟩ (.int .i64 kd)).setCell ⟨gb, 1, none⟩ (.int .i64 ln)).setCell ⟨gb, 2, none⟩ (.int .i64 n4)).setCell ⟨gb, 3, none⟩ (.int .i64 a2)) = W1 at HBW HBX HRW ⊢
            have c0 := (blk_cell HBX.out 0).trans rfl
            have c1 := (blk_cell HBX.out 1).trans rfl
            have c2 := (blk_cell HBX.out 2).trans rfl
            have c3 := (blk_cell HBX.out 3).trans rfl
            have f3 := blk_frozen HBX.out 3
            go_wp2_with (first
              | (go_at_call 99; (with_reducible refine (masterdiscref31_Number.calls K8 _ _ 2 _ _ R8.out).mono ?_); rintro e w1 ⟨rfl, ⟨nd3, rfl⟩⟩)
              | ((with_reducible refine gate_builtin (b := .append) (xs := #[.tmp 53, .tmp 55]) rfl ?_); at_builtin; refine Kd.R_append k46 (w0 := w) w.heap.size rfl (.tmp 53) (.tmp 55) 37 46 (.agg #[(.int .i64 0), (.int .i64 0), (.int .i64 0), (.int .i64 0)]) 32 rfl Try.underlying37 info46 rfl (by decide) (by omega) (.slice Ao xs.length co) xs (⟨kd, ln, ⟨n4, pt⟩⟩ : S46) [.int .i64 kd, .int .i64 ln, .int .i64 n4, .int .i64 pt] (fun _ => True) (fun _ => False) rfl (by first | (go_simp; done) | (go_simp; rfl)) ?aP (fun _ hk => hk.elim) (fun _ _ => trivial) ?aO ?aB ?aS ?aL ?_; (case aP => exact k46_mkM' _ _ _ kd ln n4 pt); (case aO => exact (by (with_reducible repeat (first | apply Kd.R_alloc | apply Kd.R_drewN | apply Kd.R_drew)); exact Kd.R_mono (Kd.R_far (p := ⟨gb, 3, none⟩) (Kd.R_drewN HRW.out _) (fun _ hk => hk) _) (fun _ _ => trivial))); (case aB => exact (by repeat (first | (with_reducible first | exact HBW.out | apply below_alloc | apply pw_below_drewN | apply below_drew1 | refine below_set ?_ GE.out) | exact HBW.out))); (case aS => exact (below_size (by repeat (first | (with_reducible first | exact HBW.out | apply below_alloc | apply pw_below_drewN | apply below_drew1 | refine below_set ?_ GE.out) | exact HBW.out)))); (case aL => have := HX.out; omega); intro v1 w4 hR4 hB4 _ _; have HR4 := Aside0.mk hR4; have HB4 := Aside0.mk hB4; clear hR4 hB4))
            go_roundw
            case rel => exact ⟨k + 1, xs ++ [⟨kd, ln, ⟨n4, pt⟩⟩], by omega, by have := HX.out; simp; omega, by first | rfl | (rw [show 16 * (((k + 1 : Nat)) : Int) = 16 * (k : Int) + 16 by omega]; rfl) | (rw [show 16 * (((k + 1 : Nat)) : Int) = 16 * (k : Int) + 16 by omega]; simp), ⟨by rw [← HF.out, show 16 * (((k + 1 : Nat)) : Int) = 16 * (k : Int) + 16 by omega]⟩, HR4, HB4⟩
            case measure => simp [intOf]; omega
      · have e : n - k = 0 := by omega
        have ek : k = n := by omega
        have hl1 : decide (16 * (k : Int) < 16 * (n : Int)) = false := decide_eq_false (by omega)
        have hl2 : decide (16 * (k : Int) < (a0.size : Int)) = false := decide_eq_false (by omega)
        have H0 := HE.out
        rw [e, decFrom] at H0
        have HF := Lib.hid H0.symm
        clear H0 HE e
        go_wp2
        go_ret2
        exact ⟨_, by rw [HF.out]; rfl, by rw [HF.out]; exact HR.out, HB.out⟩
  · rw [if_pos hm]
    have t1 : (Int.tmod (a0.size : Int) 16 == 0) = false := by rw [Int.tmod_eq_emod_of_nonneg (by omega)]; exact beq_eq_false_iff_ne.2 (by omega)
    have t2 : (Int.tmod (a0.size : Int) 16 != 0) = true := by rw [bne, t1]; rfl
    have t3 : ((a0.size : Int) % 16 == 0) = false := beq_eq_false_iff_ne.2 (by omega)
    have t4 : ((a0.size : Int) % 16 != 0) = true := by rw [bne, t3]; rfl
    clear hm
    go_enter Try.func127, Try.ntmps127
    go_wp2
    go_ret2
    exact ⟨_, rfl, Kd.R_nil _ _ _ _ _, Below.refl _ _⟩
theorem masterdiscref33_decode.calls (a0 : ByteArray) (a1 a2 : Int) (r1 : List S46) (r2 : Int) (w : World) (h : masterdiscref33_decode.f a0 a1 a2 = some (r1, r2)) :
    Calls Try.prog 127 #[.string a0, .int .i64 a1, .int .i64 a2] w fun e w' => ∃ v0_ : Value, e = .returned (.tuple #[v0_, .int .i64 r2]) ∧ Kd.R k46 46 w' w.heap.size (fun _ => True) v0_ r1 ∧ Below w.heap.size w w' := by
  unfold masterdiscref33_decode.f at h
  split at h
  · simp at h
  · rename_i hs
    split at h
    · rename_i h8
      subst h8
      have := refdecode8_calls a0 a2 w (by omega)
      split at h
      · rename_i hm
        rw [if_pos hm] at this
        have e := Option.some.inj h
        rw [e] at this
        exact this
      · rename_i hm
        rw [if_neg hm] at this
        have e := Option.some.inj h
        rw [e] at this
        exact this
    · split at h
      · rename_i h16
        subst h16
        have := refdecode16_calls a0 a2 w (by omega)
        split at h
        · rename_i hm
          rw [if_pos hm] at this
          have e := Option.some.inj h
          rw [e] at this
          exact this
        · rename_i hm
          rw [if_neg hm] at this
          have e := Option.some.inj h
          rw [e] at this
          exact this
      · simp at h
end Go.Proofs.Ytijbfebbogiiiaa.Q
