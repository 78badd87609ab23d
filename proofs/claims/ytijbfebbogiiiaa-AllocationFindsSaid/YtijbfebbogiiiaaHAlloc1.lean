/- allocation.encode: the descriptors of extents one after the other, whatever closure gives the rest of each. -/
import Derived.Test.YtijbfebbogiiiaaHBase
import Derived.Test.YtijbfebbogiiiaaQ0
import Derived.Test.YtijbfebbogiiiaaQ13
import Derived.Test.YtijbfebbogiiiaaHAlloc0
import Derived.Test.YtijbfebbogiiiaaQ13
import Derived.Outline
import Derived.Deep.RegionHeld3
import Derived.Deep.RegionWith
import Derived.Deep.DeepCutAuto
import Derived.WalkSpells
import Derived.Lib.Hide
namespace Go.Proofs.Ytijbfebbogiiiaa.Q
open Go.RowKit Go.Proofs.YtijbfebbogiiiaaW.PrintWords Go.Proofs.YtijbfebbogiiiaaW.PrintLast Go.Proofs.YtijbfebbogiiiaaW.PrintMore
attribute [local go_sem] max2_int min2_int max_two min_two max_three min_three max_four min_four
set_option linter.unusedVariables false
set_option linter.unusedSimpArgs false
def encOf (R : S46 → ByteArray) (x : S46) : ByteArray := (strOfNums (leNums (x.f1 + 1073741824 * x.f0) 4) ++ strOfNums (leNums x.f2.f0 4)) ++ R x
def encAll (R : S46 → ByteArray) (s : ByteArray) (l : List S46) : ByteArray := l.foldl (fun s x => s ++ encOf R x) s
theorem leNums4_size (x : Int) : (strOfNums (leNums x 4)).size = 4 := by
  rw [show leNums x 4 = [x % 256, x / 256 % 256, x / 256 / 256 % 256, x / 256 / 256 / 256 % 256] from rfl]; rfl
theorem little4_f (n : Int) (h0 : 0 ≤ n) (h1 : n < 4294967296) : allocation_little.f n 4 = some (strOfNums (leNums n 4)) := by
  rw [allocation_little.f, endian_Little.f, if_pos ⟨by omega, by omega⟩, if_pos ⟨h0, by simpa using h1⟩]
  rfl
theorem row46 (w : World) (g j : Nat) (v : Value) (cs : Array Value) (t : TypeId) (fr : Nat × Nat) (hg : w.heap[g]? = some (.cells cs t fr)) : (w.setCell ⟨g, j, none⟩ v).heap[g]? = some (.cells (cs.setIfInBounds j v) t fr) := by
  have hlt : g < w.heap.size := (Array.getElem?_eq_some_iff.1 hg).1
  unfold World.setCell
  simp [Array.getElem?_modify, hg]
set_option maxHeartbeats 4000000 in
set_option maxRecDepth 100000 in
theorem encode_calls (g : Nat) (R : S46 → ByteArray) (eg : ∀ args w, (callFunc g args).run Try.prog w = .ok (.enter g args) w) (hR : ∀ x, (R x).size ≤ 8) (hg : ∀ x, extOk x = true → ∀ W, Calls Try.prog g #[.agg #[.int .i64 x.f0, .int .i64 x.f1, .int .i64 x.f2.f0, .int .i64 x.f2.f1]] W fun e w' => e = .returned (.string (R x)) ∧ Below W.heap.size W w')
    (A : Option Addr) (c : Nat) (l : List S46) (w : World) (hr : Kd.C k46 w A l.length l) (hl : l.length ≤ 64) (hok : ∀ x ∈ l, extOk x = true) :
    Calls Try.prog 102 #[.slice A l.length c, .func (.func g) #[] #[]] w fun e w' => e = .returned (.string (encAll R ⟨#[]⟩ l)) ∧ Below w.heap.size w w' := by
  have HR := Aside0.mk hr
  have HOK := Lib.hid hok
  have HRS := Lib.hid hR
  have HG := Lib.hid hg
  clear hr hok hR hg
  obtain ⟨n, hln⟩ : ∃ n, n = l.length := ⟨_, rfl⟩
  have HL := Lib.hid hln
  rw [← hln] at hl ⊢
  clear hln
  go_enter Try.func102, Try.ntmps102
  go_wp2
  go_loopw [5, 10] (fun v5 v10 w' => ∃ (k : Nat) (s : ByteArray), k ≤ n ∧ v5 = .string s ∧ v10 = .int .i64 (k : Int) ∧ s.size ≤ 16 * k ∧ Aside0 (encAll R s (l.drop k) = encAll R ⟨#[]⟩ l) ∧ Aside0 (Below w.heap.size w w')) (fun _ v10 _ => n - (intOf v10).toNat)
  case atStart => exact ⟨0, ⟨#[]⟩, by omega, rfl, rfl, Nat.le_refl _, ⟨rfl⟩, ⟨Below.refl _ _⟩⟩
  case round =>
    obtain ⟨k, s, hk, rfl, rfl, hs, HE, HB⟩ := hrel
    by_cases hlt : k < n
    · have hl' : k < l.length := by have := HL.out; omega
      obtain ⟨ad, hA, hx0, hx1, hx2, hx3⟩ := at_T46 HR.out (k : Int) (by omega) (by omega)
      subst hA
      rw [Int.toNat_natCast] at hx0 hx1 hx2 hx3
      replace hx0 := (HB.out.cell (World.block_lt_of_cell? w _ hx0)).trans hx0
      replace hx1 := (HB.out.cell (World.block_lt_of_cell? w _ hx1)).trans hx1
      replace hx2 := (HB.out.cell (World.block_lt_of_cell? w _ hx2)).trans hx2
      replace hx3 := (HB.out.cell (World.block_lt_of_cell? w _ hx3)).trans hx3
      have HD := Lib.hid (show l.drop k = rd_T46 l (k : Int) :: l.drop (k + 1) by rw [List.drop_eq_getElem_cons hl']; simp [rd_T46, hl'])
      have hxok := HOK.out (rd_T46 l (k : Int)) (by simp [rd_T46, hl'])
      generalize rd_T46 l (k : Int) = x at hx0 hx1 hx2 hx3 HD hxok
      have HG1 := Lib.hid (HG.out x hxok)
      have hRx := HRS.out x
      unfold extOk at hxok
      rw [decide_eq_true_iff] at hxok
      obtain ⟨o1, o2, o3, o4, o5, o6, o7, o8⟩ := hxok
      have HEX := Lib.hid (show encOf R x = (strOfNums (leNums (x.f1 + 1073741824 * x.f0) 4) ++ strOfNums (leNums x.f2.f0 4)) ++ R x from rfl)
      generalize x.f0 = a at *
      generalize x.f1 = b at *
      generalize x.f2.f0 = p at *
      generalize x.f2.f1 = q at *
      generalize R x = r at HG1 hRx HEX
      have HL1 := Lib.hid (little4_f (b + 1073741824 * a) (by omega) (by omega))
      have HL2 := Lib.hid (little4_f p (by omega) (by omega))
      have z1 := leNums4_size (b + 1073741824 * a)
      have z2 := leNums4_size p
      generalize strOfNums (leNums (b + 1073741824 * a) 4) = s1 at *
      generalize strOfNums (leNums p 4) = s2 at *
      have hw1 : IntKind.i64.wrap (1073741824 * a) = 1073741824 * a := IntWalk.i64_in _ (by omega)
      have hw2 : IntKind.i64.wrap (b + 1073741824 * a) = b + 1073741824 * a := IntWalk.i64_in _ (by omega)
      have m1 : s1.size + s2.size ≤ 9223372036854775807 := by omega
      have m2 : (s1 ++ s2).size + r.size ≤ 9223372036854775807 := by rw [ByteArray.size_append]; omega
      have m3 : s.size + (s1 ++ s2 ++ r).size ≤ 9223372036854775807 := by rw [ByteArray.size_append, ByteArray.size_append]; omega
      have hs' : (s ++ (s1 ++ s2 ++ r)).size ≤ 16 * (k + 1) := by rw [ByteArray.size_append, ByteArray.size_append, ByteArray.size_append]; omega
      have m1a := eq_true m1
      have m1b : (9223372036854775807 < s1.size + s2.size) = False := eq_false (Nat.not_lt.2 m1)
      try (have m1c := m1b; conv at m1c => lhs; simp [go_sem])
      have m2a := eq_true m2
      have m2b : (9223372036854775807 < (s1 ++ s2).size + r.size) = False := eq_false (Nat.not_lt.2 m2)
      try (have m2c := m2b; conv at m2c => lhs; simp [go_sem])
      have m3a := eq_true m3
      have m3b : (9223372036854775807 < s.size + (s1 ++ s2 ++ r).size) = False := eq_false (Nat.not_lt.2 m3)
      try (have m3c := m3b; conv at m3c => lhs; simp [go_sem])
      have HS := Lib.hid hs'
      have HOMEGA := Lib.hid (show n - (k + 1) < n - k by omega)
      clear hs' hs m1 m2 m3 z1 z2 hRx
      go_upto_region 5 with (first | ((with_reducible refine gate_dst (N := 7) rfl ?_); refine box_event ?hg (N := 7) ?hd (cs := #[.int .i64 0, .int .i64 0, .int .i64 0, .int .i64 0]) (t := 46) ?hr ?_; (case hd => rfl); (case hg => rfl); (case hr => first | (go_simp; done) | (go_simp; rfl)); intro gb hgb w8 hbox hb; have BK := Aside0.mk hbox; have GE := Aside0.mk ((by rw [hgb]; exact HB.out.size) : w.heap.size ≤ gb); have HB8 := Aside0.mk (below_step HB.out hb); clear hb hbox hgb; have hcz9_0 : w8.cell? ⟨gb, 0, none⟩ = some (.int .i64 0) := (blk_cell BK.out 0).trans rfl; have hcz9_1 : w8.cell? ⟨gb, 1, none⟩ = some (.int .i64 0) := (blk_cell BK.out 1).trans rfl; have hcz9_2 : w8.cell? ⟨gb, 2, none⟩ = some (.int .i64 0) := (blk_cell BK.out 2).trans rfl; have hcz9_3 : w8.cell? ⟨gb, 3, none⟩ = some (.int .i64 0) := (blk_cell BK.out 3).trans rfl; have hfz9_0 := blk_frozen BK.out 0; have hfz9_1 := blk_frozen BK.out 1; have hfz9_2 := blk_frozen BK.out 2; have hfz9_3 := blk_frozen BK.out 3))
      have HBW : Aside0 (Below w.heap.size w ((((w8.setCell ⟨gb, 0, none⟩ (.int .i64 a)).setCell ⟨gb, 1, none⟩ (.int .i64 b)).setCell ⟨gb, 2, none⟩ (.int .i64 p)).setCell ⟨gb, 3, none⟩ (.int .i64 q))) := ⟨below_set (below_set (below_set (below_set HB8.out GE.out) GE.out) GE.out) GE.out⟩
      have HBX : Aside0 (((((w8.setCell ⟨gb, 0, none⟩ (.int .i64 a)).setCell ⟨gb, 1, none⟩ (.int .i64 b)).setCell ⟨gb, 2, none⟩ (.int .i64 p)).setCell ⟨gb, 3, none⟩ (.int .i64 q)).heap[gb]? = some (.cells #[.int .i64 a, .int .i64 b, .int .i64 p, .int .i64 q] 46 (0, 0))) :=
        ⟨(row46 _ gb 3 _ _ _ _ (row46 _ gb 2 _ _ _ _ (row46 _ gb 1 _ _ _ _ (row46 _ gb 0 _ _ _ _ BK.out)))).trans rfl⟩
      clear hcz9_0 hcz9_1 hcz9_2 hcz9_3 hfz9_0 hfz9_1 hfz9_2 hfz9_3 BK GE HB8 HB
      generalize ((((w8.setCell ⟨gb, 0, none⟩ (.int .i64 a)).setCell ⟨gb, 1, none⟩ (.int .i64 b)).setCell ⟨gb, 2, none⟩ (.int .i64 p)).setCell ⟨gb, 3, none⟩ (.int .i64 q)) = W1 at HBW HBX ⊢
      refine start_ (n := 19) (S := fun w' => w'.heap[gb]? = some (.cells #[.int .i64 a, .int .i64 b, .int .i64 p, .int .i64 q] 46 (0, 0)) ∧ Below w.heap.size w w' ∧ w'.cell? ⟨gb, 0, none⟩ = some (.int .i64 a) ∧ w'.cell? ⟨gb, 1, none⟩ = some (.int .i64 b) ∧ w'.cell? ⟨gb, 2, none⟩ = some (.int .i64 p) ∧ w'.cell? ⟨gb, 3, none⟩ = some (.int .i64 q)) (ds := []) #[false, false, false, false, false, false, false, false, false, false, false, false, false, false, false, false, false, false, false] (by kernel_rfl) rfl rfl ⟨blk_drew HBX.out, below_drew1 HBW.out, (blk_cell (blk_drew HBX.out) 0).trans rfl, (blk_cell (blk_drew HBX.out) 1).trans rfl, (blk_cell (blk_drew HBX.out) 2).trans rfl, (blk_cell (blk_drew HBX.out) 3).trans rfl⟩ (fun hHeld => ?_)
      refine pure_ (i := 0) (N := some 14) (v := ?_) (a' := ?_) #[true, false, false, false, false, false, false, false, false, false, false, false, false, false, false, false, false, false, false] rfl rfl (by kernel_rfl) (fun _ _ _ h => h) (Or.inl ⟨by rfl, ?_⟩) ?_ ?_
      rotate_left
      · intro w'
        go_simp
        with_reducible rfl
      rotate_left
      · simp only [Act.put, List.setIfInBounds_toArray, List.set_cons_zero, List.set_cons_succ, i64_w, i32_w]
        rfl
      refine pure_ (i := 1) (N := some 15) (v := ?_) (a' := ?_) #[true, true, false, false, false, false, false, false, false, false, false, false, false, false, false, false, false, false, false] rfl rfl (by kernel_rfl) (fun _ _ _ h => h) (Or.inl ⟨by rfl, ?_⟩) ?_ ?_
      rotate_left
      · intro w'
        go_simp
        with_reducible rfl
      rotate_left
      · simp only [Act.put, List.setIfInBounds_toArray, List.set_cons_zero, List.set_cons_succ, i64_w, i32_w]
        rfl
      refine pure_ (i := 3) (N := some 17) (v := ?_) (a' := ?_) #[true, true, false, true, false, false, false, false, false, false, false, false, false, false, false, false, false, false, false] rfl rfl (by kernel_rfl) (fun _ _ _ h => h) (Or.inl ⟨by rfl, ?_⟩) ?_ ?_
      rotate_left
      · intro w'
        go_simp
        with_reducible rfl
      rotate_left
      · simp only [Act.put, List.setIfInBounds_toArray, List.set_cons_zero, List.set_cons_succ, i64_w, i32_w]
        rfl
      refine pure_ (i := 8) (N := some 22) (v := ?_) (a' := ?_) #[true, true, false, true, false, false, false, false, true, false, false, false, false, false, false, false, false, false, false] rfl rfl (by kernel_rfl) (fun _ _ _ h => h) (Or.inl ⟨by rfl, ?_⟩) ?_ ?_
      rotate_left
      · intro w'
        go_simp
        with_reducible rfl
      rotate_left
      · simp only [Act.put, List.setIfInBounds_toArray, List.set_cons_zero, List.set_cons_succ, i64_w, i32_w]
        rfl
      refine pure_ (i := 9) (N := some 23) (v := ?_) (a' := ?_) #[true, true, false, true, false, false, false, false, true, true, false, false, false, false, false, false, false, false, false] rfl rfl (by kernel_rfl) (fun _ _ _ h => h) (Or.inl ⟨by rfl, ?_⟩) ?_ ?_
      rotate_left
      · intro w'
        go_simp
        with_reducible rfl
      rotate_left
      · simp only [Act.put, List.setIfInBounds_toArray, List.set_cons_zero, List.set_cons_succ, i64_w, i32_w]
        rfl
      refine pure_ (i := 13) (N := some 27) (v := ?_) (a' := ?_) #[true, true, false, true, false, false, false, false, true, true, false, false, false, true, false, false, false, false, false] rfl rfl (by kernel_rfl) (fun _ _ _ h => h) (Or.inl ⟨by rfl, ?_⟩) ?_ ?_
      rotate_left
      · intro w'
        go_simp
        with_reducible rfl
      rotate_left
      · simp only [Act.put, List.setIfInBounds_toArray, List.set_cons_zero, List.set_cons_succ, i64_w, i32_w]
        rfl
      refine take_ (i := 2) (N := some 16) (v := ?_) (a' := ?_) #[true, true, true, true, false, false, false, false, true, true, false, false, false, true, false, false, false, false, false] rfl rfl (by kernel_rfl) (fun _ _ _ h => h) (Or.inl ⟨by rfl, ?_⟩) hHeld ?_ ?_
      rotate_left
      · rintro w' ⟨s0, s1, s2, s3, s4, s5⟩
        go_simp
        with_reducible rfl
      rotate_left
      · simp only [Act.put, List.setIfInBounds_toArray, List.set_cons_zero, List.set_cons_succ, i64_w, i32_w]
        rfl
      refine take_ (i := 4) (N := some 18) (v := ?_) (a' := ?_) #[true, true, true, true, true, false, false, false, true, true, false, false, false, true, false, false, false, false, false] rfl rfl (by kernel_rfl) (fun _ _ _ h => h) (Or.inl ⟨by rfl, ?_⟩) hHeld ?_ ?_
      rotate_left
      · rintro w' ⟨s0, s1, s2, s3, s4, s5⟩
        go_simp
        with_reducible rfl
      rotate_left
      · simp only [Act.put, List.setIfInBounds_toArray, List.set_cons_zero, List.set_cons_succ, i64_w, i32_w]
        rfl
      refine pure_ (i := 5) (N := some 19) (v := ?_) (a' := ?_) #[true, true, true, true, true, true, false, false, true, true, false, false, false, true, false, false, false, false, false] rfl rfl (by kernel_rfl) (fun _ _ _ h => h) (Or.inl ⟨by rfl, ?_⟩) ?_ ?_
      rotate_left
      · intro w'
        go_simp
        with_reducible rfl
      rotate_left
      · simp only [Act.put, List.setIfInBounds_toArray, List.set_cons_zero, List.set_cons_succ, i64_w, i32_w]
        rfl
      refine pure_ (i := 6) (N := some 20) (v := ?_) (a' := ?_) #[true, true, true, true, true, true, true, false, true, true, false, false, false, true, false, false, false, false, false] rfl rfl (by kernel_rfl) (fun _ _ _ h => h) (Or.inl ⟨by rfl, ?_⟩) ?_ ?_
      rotate_left
      · intro w'
        go_simp
        with_reducible rfl
      rotate_left
      · simp only [Act.put, List.setIfInBounds_toArray, List.set_cons_zero, List.set_cons_succ, i64_w, i32_w]
        rfl
      refine take_ (i := 10) (N := some 24) (v := ?_) (a' := ?_) #[true, true, true, true, true, true, true, false, true, true, true, false, false, true, false, false, false, false, false] rfl rfl (by kernel_rfl) (fun _ _ _ h => h) (Or.inl ⟨by rfl, ?_⟩) hHeld ?_ ?_
      rotate_left
      · rintro w' ⟨s0, s1, s2, s3, s4, s5⟩
        go_simp
        with_reducible rfl
      rotate_left
      · simp only [Act.put, List.setIfInBounds_toArray, List.set_cons_zero, List.set_cons_succ, i64_w, i32_w]
        rfl
      refine take_ (i := 14) (N := some 28) (v := ?_) (a' := ?_) #[true, true, true, true, true, true, true, false, true, true, true, false, false, true, true, false, false, false, false] rfl rfl (by kernel_rfl) (fun _ _ _ h => h) (Or.inl ⟨by rfl, ?_⟩) hHeld ?_ ?_
      rotate_left
      · rintro w' ⟨s0, s1, s2, s3, s4, s5⟩
        go_simp
        with_reducible rfl
      rotate_left
      · simp only [Act.put, List.setIfInBounds_toArray, List.set_cons_zero, List.set_cons_succ, i64_w, i32_w]
        rfl
      refine one_ (i := 7) (N := some 21) #[true, true, true, true, true, true, true, true, true, true, true, false, false, true, true, false, false, false, false] rfl rfl (by kernel_rfl) (by decide) (fun K hK => ?_)
      refine goes_ Try.func107 (by kernel_rfl) rfl #[.int .i64 (b + 1073741824 * a), .int .i64 4] (by rfl) rfl rfl (by simp only [List.map_toArray, List.map_cons, List.map_nil]; rfl) ?_
      with_reducible refine (allocation_little.calls _ 4 _ _ HL1.out).mono ?_
      rintro e w3 ⟨rfl, hb3⟩
      refine ⟨_, rfl, ?_⟩
      refine hK.out _ _ ⟨blk_below hHeld.1 hb3, below_step hHeld.2.1 hb3, (blk_cell (blk_below hHeld.1 hb3) 0).trans rfl, (blk_cell (blk_below hHeld.1 hb3) 1).trans rfl, (blk_cell (blk_below hHeld.1 hb3) 2).trans rfl, (blk_cell (blk_below hHeld.1 hb3) 3).trans rfl⟩ (fun hHeld => ?_)
      clear hK K
      refine norm_ (a' := ?_) ?_ ?_
      rotate_left
      · show Act.put _ (some 21) _ = _
        simp only [Act.put, List.setIfInBounds_toArray, List.set_cons_zero, List.set_cons_succ, i64_w, i32_w]
        rfl
      refine one_ (i := 11) (N := some 25) #[true, true, true, true, true, true, true, true, true, true, true, true, false, true, true, false, false, false, false] rfl rfl (by kernel_rfl) (by decide) (fun K hK => ?_)
      refine goes_ Try.func107 (by kernel_rfl) rfl #[.int .i64 p, .int .i64 4] (by rfl) rfl rfl (by simp only [List.map_toArray, List.map_cons, List.map_nil]; rfl) ?_
      with_reducible refine (allocation_little.calls _ 4 _ _ HL2.out).mono ?_
      rintro e w4 ⟨rfl, hb3⟩
      refine ⟨_, rfl, ?_⟩
      refine hK.out _ _ ⟨blk_below hHeld.1 hb3, below_step hHeld.2.1 hb3, (blk_cell (blk_below hHeld.1 hb3) 0).trans rfl, (blk_cell (blk_below hHeld.1 hb3) 1).trans rfl, (blk_cell (blk_below hHeld.1 hb3) 2).trans rfl, (blk_cell (blk_below hHeld.1 hb3) 3).trans rfl⟩ (fun hHeld => ?_)
      clear hK K
      refine norm_ (a' := ?_) ?_ ?_
      rotate_left
      · show Act.put _ (some 25) _ = _
        simp only [Act.put, List.setIfInBounds_toArray, List.set_cons_zero, List.set_cons_succ, i64_w, i32_w]
        rfl
      refine pure_ (i := 12) (N := some 26) (v := ?_) (a' := ?_) #[true, true, true, true, true, true, true, true, true, true, true, true, true, true, true, false, false, false, false] rfl rfl (by kernel_rfl) (fun _ _ _ h => h) (Or.inl ⟨by rfl, ?_⟩) ?_ ?_
      rotate_left
      · intro w'
        go_simp
        with_reducible rfl
      rotate_left
      · simp only [Act.put, List.setIfInBounds_toArray, List.set_cons_zero, List.set_cons_succ, i64_w, i32_w]
        rfl
      refine one_ (i := 15) (N := some 29) #[true, true, true, true, true, true, true, true, true, true, true, true, true, true, true, true, false, false, false] rfl rfl (by kernel_rfl) (by decide) (fun K hK => ?_)
      refine call_ g #[.agg #[.int .i64 a, .int .i64 b, .int .i64 p, .int .i64 q]] (by rfl) rfl (by go_simp) ?_
      with_reducible refine (HG1.out _).mono ?_
      rintro e w5 ⟨rfl, hb3⟩
      refine ⟨_, rfl, ?_⟩
      have HB5 := Aside0.mk (below_step hHeld.2.1 hb3)
      refine hK.out _ _ ⟨blk_below hHeld.1 hb3, below_step hHeld.2.1 hb3, (blk_cell (blk_below hHeld.1 hb3) 0).trans rfl, (blk_cell (blk_below hHeld.1 hb3) 1).trans rfl, (blk_cell (blk_below hHeld.1 hb3) 2).trans rfl, (blk_cell (blk_below hHeld.1 hb3) 3).trans rfl⟩ (fun hHeld => ?_)
      clear hK K
      refine norm_ (a' := ?_) ?_ ?_
      rotate_left
      · show Act.put _ (some 29) _ = _
        simp only [Act.put, List.setIfInBounds_toArray, List.set_cons_zero, List.set_cons_succ, i64_w, i32_w]
        rfl
      refine pure_ (i := 16) (N := some 30) (v := ?_) (a' := ?_) #[true, true, true, true, true, true, true, true, true, true, true, true, true, true, true, true, true, false, false] rfl rfl (by kernel_rfl) (fun _ _ _ h => h) (Or.inl ⟨by rfl, ?_⟩) ?_ ?_
      rotate_left
      · intro w'
        go_simp
        with_reducible rfl
      rotate_left
      · simp only [Act.put, List.setIfInBounds_toArray, List.set_cons_zero, List.set_cons_succ, i64_w, i32_w]
        rfl
      refine pure_ (i := 17) (N := some 31) (v := ?_) (a' := ?_) #[true, true, true, true, true, true, true, true, true, true, true, true, true, true, true, true, true, true, false] rfl rfl (by kernel_rfl) (fun _ _ _ h => h) (Or.inl ⟨by rfl, ?_⟩) ?_ ?_
      rotate_left
      · intro w'
        go_simp
        with_reducible rfl
      rotate_left
      · simp only [Act.put, List.setIfInBounds_toArray, List.set_cons_zero, List.set_cons_succ, i64_w, i32_w]
        rfl
      refine pure_ (i := 18) (N := some 5) (v := ?_) (a' := ?_) #[true, true, true, true, true, true, true, true, true, true, true, true, true, true, true, true, true, true, true] rfl rfl (by kernel_rfl) (fun _ _ _ h => h) (Or.inl ⟨by rfl, ?_⟩) ?_ ?_
      rotate_left
      · intro w'
        go_simp
        with_reducible rfl
      rotate_left
      · simp only [Act.put, List.setIfInBounds_toArray, List.set_cons_zero, List.set_cons_succ, i64_w, i32_w]
        rfl
      refine done_ (by kernel_rfl) ?_
      go_wp2
      go_roundw
      case rel => exact ⟨k + 1, _, by omega, rfl, by go_num, HS.out, ⟨by rw [← HE.out, HD.out]; show _ = encAll R (s ++ encOf R x) _; rw [HEX.out]⟩, HB5⟩
      case measure => simp [intOf]; omega
    · have e : k = n := by omega
      have HX := Lib.hid (show encAll R ⟨#[]⟩ l = s by rw [← HE.out, List.drop_of_length_le (by have := HL.out; omega)]; rfl)
      clear HE
      go_wp2
      go_ret
      exact ⟨by rw [HX.out]; rfl, HB.out⟩
end Go.Proofs.Ytijbfebbogiiiaa.Q
