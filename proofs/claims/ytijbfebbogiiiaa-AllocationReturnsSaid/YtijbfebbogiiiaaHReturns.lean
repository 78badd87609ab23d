/- The law AllocationReturns: the program's function returns true for any extents. -/
import Derived.Test.YtijbfebbogiiiaaHAlloc
import Derived.Test.YtijbfebbogiiiaaHAwake33
import Derived.Test.YtijbfebbogiiiaaHDecode
import Derived.Test.YtijbfebbogiiiaaQ0
import Derived.Test.YtijbfebbogiiiaaQEq
import Derived.Test.YtijbfebbogiiiaaHAlloc
import Derived.Test.YtijbfebbogiiiaaHAwake33
import Derived.Test.YtijbfebbogiiiaaHDecode
import Derived.Test.YtijbfebbogiiiaaPReturns
import Derived.Test.YtijbfebbogiiiaaPEqual
import Derived.Outline
import Derived.WalkSpells
import Derived.Lib.Hide
namespace Go.Proofs.Ytijbfebbogiiiaa.Q
open Go.RowKit Go.Proofs.YtijbfebbogiiiaaW.PrintWords Go.Proofs.YtijbfebbogiiiaaW.PrintLast Go.Proofs.YtijbfebbogiiiaaW.PrintMore
attribute [local go_sem] max2_int min2_int max_two min_two max_three min_three max_four min_four
set_option linter.unusedVariables false
set_option linter.unusedSimpArgs false
set_option maxHeartbeats 1000000 in
/-- The closure: an extent lies in another partition than the one that is held. -/
theorem away_calls (a b c d p : Int) (B : Nat) (W : World) (hB : W.cell? ⟨B, 0, none⟩ = some (.int .i64 p)) :
    Calls Try.prog 71 #[.agg #[.int .i64 a, .int .i64 b, .int .i64 c, .int .i64 d], .pointer (some ⟨B, 0, none⟩)] W fun e w' => e = .returned (.bool (d != p)) ∧ w' = W.alloc (.cells #[.int .i64 a, .int .i64 b, .int .i64 c, .int .i64 d] 46) := by
  have hB1 := Lib.cell?_alloc_some (.cells #[.int .i64 a, .int .i64 b, .int .i64 c, .int .i64 d] 46) hB
  go_enter Try.func71, Try.ntmps71
  go_wp2
  go_ret
  exact ⟨rfl, rfl⟩
theorem away_any (A : Option Addr) (c : Nat) (l : List S46) (W : World) (hr : Kd.C k46 W A l.length l) (hl : l.length ≤ 64) (B : Nat) (p : Int) (hB : W.cell? ⟨B, 0, none⟩ = some (.int .i64 p)) :
    Calls Try.prog 70 #[.slice A l.length c, .func (.func 71) #[] #[.pointer (some ⟨B, 0, none⟩)]] W fun e w' => e = .returned (.bool (l.any fun x => x.f2.f1 != p)) ∧ Below W.heap.size W w' := by
  have eg : ∀ args w, (callFunc 71 args).run Try.prog w = .ok (.enter 71 args) w := enters_of Try.func71 (by kernel_rfl) rfl
  refine any46 71 #[.pointer (some ⟨B, 0, none⟩)] (fun x => x.f2.f1 != p) eg A c l W hr hl ?_
  intro _ V x hV
  have hBV : V.cell? ⟨B, 0, none⟩ = some (.int .i64 p) := (hV.cell (World.block_lt_of_cell? W _ hB)).trans hB
  refine (away_calls x.f0 x.f1 x.f2.f0 x.f2.f1 p B V hBV).mono ?_
  rintro e w' ⟨rfl, rfl⟩
  exact ⟨rfl, hV.alloc hV.size _⟩
theorem all_same (l : List S46) (p : Int) : (l.any fun x => x.f2.f1 != p) = false ↔ ∀ x ∈ l, x.f2.f1 = p := by
  rw [List.any_eq_false]
  exact ⟨fun h x hx => by have := h x hx; simpa using this, fun h x hx => by rw [h x hx]; simp⟩
set_option maxHeartbeats 4000000 in
set_option maxRecDepth 100000 in
theorem ret_some_same (A : Option Addr) (c : Nat) (l : List S46) (n : Nat) (hln : l.length = n) (s t : ByteArray) (p : Int) (w : World) (hn : n ≤ 64) (hz : s.size = 16 * n) (hpos : 0 < n) (b1 off : Nat) (hA : A = some ⟨b1, off, none⟩) (hp : w.cell? ⟨b1, off + 3, none⟩ = some (.int .i64 p)) (hzt : t.size = 8 * n)
    (F36 : ∀ W, Below w.heap.size w W → Calls Try.prog 36 #[.slice A n c] W fun e w' => e = .returned (.tuple #[.string s, .int .i64 0]) ∧ Below W.heap.size W w')
    (F68 : ∀ W, Calls Try.prog 68 #[.string s] W fun e w' => ∃ v, e = .returned (.tuple #[v, .int .i64 0]) ∧ Kd.R k46 46 w' W.heap.size (fun _ => True) v l ∧ Below W.heap.size W w')
    (F42 : ∀ W v b, Below w.heap.size w W → Kd.R k46 46 W b (fun _ => True) v l → ∃ A' c', v = .slice A' n c' ∧ Calls Try.prog 42 #[.slice A' n c', .slice A n c] W fun e w' => e = .returned (.bool true) ∧ Below W.heap.size W w')
    (F34 : ∀ W, Below w.heap.size w W → Calls Try.prog 34 #[.slice A n c] W fun e w' => e = .returned (.tuple #[.string t, .int .i64 0]) ∧ Below W.heap.size W w')
    (F70 : ∀ W B, Below w.heap.size w W → W.cell? ⟨B, 0, none⟩ = some (.int .i64 p) → Calls Try.prog 70 #[.slice A n c, .func (.func 71) #[] #[.pointer (some ⟨B, 0, none⟩)]] W fun e w' => e = .returned (.bool false) ∧ Below W.heap.size W w')
    (F66 : ∀ W, Calls Try.prog 66 #[.string t, .int .i64 p] W fun e w' => ∃ v, e = .returned (.tuple #[v, .int .i64 0]) ∧ Kd.R k46 46 w' W.heap.size (fun _ => True) v l ∧ Below W.heap.size W w') :
    Calls Try.prog 17 #[.slice A n c] w fun e w' => e = .returned (.bool true) ∧ Below w.heap.size w w' := by
  subst hA
  have HP := Lib.hid hp
  clear hp
  have hg := decide_eq_true (show (0 : Int) < (n : Int) by omega)
  have hn0 : (0 : Nat) < n := hpos
  have G36 := Lib.hid F36
  have G68 := Lib.hid F68
  have G42 := Lib.hid F42
  have G34 := Lib.hid F34
  have G70 := Lib.hid F70
  have G66 := Lib.hid F66
  clear F36 F68 F42 F34 F70 F66
  have hw16 : IntKind.i64.wrap (16 * (n : Int)) = 16 * (n : Int) := IntWalk.i64_in _ (by omega)
  have hw8 : IntKind.i64.wrap (8 * (n : Int)) = 8 * (n : Int) := IntWalk.i64_in _ (by omega)
  have hz1 : ((s.size : Int) == 16 * (n : Int)) = true := beq_iff_eq.2 (by omega)
  have hz2 : ((s.size : Int) != 16 * (n : Int)) = false := by rw [bne, hz1]; rfl
  have ht1 : ((t.size : Int) == 8 * (n : Int)) = true := beq_iff_eq.2 (by omega)
  have ht2 : ((t.size : Int) != 8 * (n : Int)) = false := by rw [bne, ht1]; rfl
  clear hzt
  have h70 : decide ((70 : Int) < (n : Int)) = false := decide_eq_false (by omega)
  clear hz
  have HB0 := Aside0.mk (Below.refl w.heap.size w)
  go_enter Try.func17, Try.ntmps17
  go_upto_region 12 with (first
    | (go_at_call 33; (with_reducible refine (masterdisclaw33_awake.calls true _ rfl).mono ?_); rintro e w1 ⟨rfl, hb⟩; have HB1 := Aside0.mk hb; clear hb)
    | (go_at_call 36; (with_reducible refine (G36.out _ HB1.out).mono ?_); rintro e w2 ⟨rfl, hb⟩; have HB2 := Aside0.mk (below_step HB1.out hb); clear hb)
    | (go_at_call 68; (with_reducible refine (G68.out _).mono ?_); rintro e w3 ⟨v3, rfl, hR, hb⟩; have HB3 := Aside0.mk (below_step HB2.out hb); obtain ⟨A3, c3, rfl, hC42⟩ := G42.out _ _ _ HB3.out hR; have HC42 := Aside0.mk hC42; clear hb hR hC42)
    | (go_at_call 42; (with_reducible refine HC42.out.mono ?_); rintro e w4 ⟨rfl, hb⟩; have HB4 := Aside0.mk (below_step HB3.out hb); clear hb HC42)
    | ((with_reducible refine gate_dst (N := 6) rfl ?_); refine box_event ?hg (N := 6) ?hd (cs := #[.int .i64 0]) (t := 3) ?hr ?_; (case hd => rfl); (case hg => rfl); (case hr => first | (go_simp; done) | (go_simp; rfl)); intro gb hgb w8 hbox hb; have BK := Aside0.mk hbox; have GE := Aside0.mk ((by rw [hgb]; exact HB4.out.size) : w.heap.size ≤ gb); have HB8 := Aside0.mk (below_step HB4.out hb); clear hb hbox hgb; have hcz : w8.cell? ⟨gb, 0, none⟩ = some (.int .i64 0) := (blk_cell BK.out 0).trans rfl; have hfz := blk_frozen BK.out 0))
  have HB5 : Aside0 (Below w.heap.size w (w8.setCell ⟨gb, 0, none⟩ (.int .i64 0))) := ⟨below_set HB8.out GE.out⟩
  have HX5 : Aside0 ((w8.setCell ⟨gb, 0, none⟩ (.int .i64 0)).heap[gb]? = some (.cells #[.int .i64 0] 3 (0, 0))) := ⟨(row46 _ gb 0 _ _ _ _ BK.out).trans rfl⟩
  clear hcz hfz BK HB8
  generalize w8.setCell ⟨gb, 0, none⟩ (.int .i64 0) = W5 at HB5 HX5 ⊢
  have c0 : W5.cell? ⟨gb, 0, none⟩ = some (.int .i64 0) := (blk_cell HX5.out 0).trans rfl
  have f0 := blk_frozen HX5.out 0
  have hpc : W5.cell? ⟨b1, off + 3, none⟩ = some (.int .i64 p) := (HB5.out.cell (World.block_lt_of_cell? w _ HP.out)).trans HP.out
  go_upto_region 14 with (fail)
  have HB6 : Aside0 (Below w.heap.size w (W5.setCell ⟨gb, 0, none⟩ (.int .i64 p))) := ⟨below_set HB5.out GE.out⟩
  have HX6 : Aside0 ((W5.setCell ⟨gb, 0, none⟩ (.int .i64 p)).heap[gb]? = some (.cells #[.int .i64 p] 3 (0, 0))) := ⟨(row46 _ gb 0 _ _ _ _ HX5.out).trans rfl⟩
  clear c0 f0 hpc HX5 HB5
  generalize W5.setCell ⟨gb, 0, none⟩ (.int .i64 p) = W6 at HB6 HX6 ⊢
  have HC6 : Aside0 (W6.cell? ⟨gb, 0, none⟩ = some (.int .i64 p)) := ⟨(blk_cell HX6.out 0).trans rfl⟩
  go_wp2_with (first
    | (go_at_call 34; (with_reducible refine (G34.out _ HB6.out).mono ?_); rintro e w10 ⟨rfl, hb⟩; have HB10 := Aside0.mk (below_step HB6.out hb); have HC10 := Aside0.mk ((hb.cell (World.block_lt_of_cell? _ _ HC6.out)).trans HC6.out); clear hb)
    | (go_at_call 70; (with_reducible refine (G70.out _ gb HB10.out HC10.out).mono ?_); rintro e w11 ⟨rfl, hb⟩; have HB11 := Aside0.mk (below_step HB10.out hb); have hc11 := (hb.cell (World.block_lt_of_cell? _ _ HC10.out)).trans HC10.out; clear hb)
    | (go_at_call 66; (with_reducible refine (G66.out _).mono ?_); rintro e w12 ⟨v12, rfl, hR, hb⟩; have HB12 := Aside0.mk (below_step HB11.out hb); obtain ⟨A4, c4, rfl, hC42⟩ := G42.out _ _ _ HB12.out hR; have HC42 := Aside0.mk hC42; clear hb hR hC42)
    | (go_at_call 42; (with_reducible refine HC42.out.mono ?_); rintro e w13 ⟨rfl, hb⟩; have HB13 := Aside0.mk (below_step HB12.out hb); clear hb))
  go_ret
  exact ⟨rfl, HB13.out⟩
set_option maxHeartbeats 4000000 in
set_option maxRecDepth 100000 in
theorem ret_some_other (A : Option Addr) (c : Nat) (l : List S46) (n : Nat) (hln : l.length = n) (s t : ByteArray) (p : Int) (w : World) (hn : n ≤ 64) (hz : s.size = 16 * n) (hpos : 0 < n) (b1 off : Nat) (hA : A = some ⟨b1, off, none⟩) (hp : w.cell? ⟨b1, off + 3, none⟩ = some (.int .i64 p)) (ht : t = ⟨#[]⟩)
    (F36 : ∀ W, Below w.heap.size w W → Calls Try.prog 36 #[.slice A n c] W fun e w' => e = .returned (.tuple #[.string s, .int .i64 0]) ∧ Below W.heap.size W w')
    (F68 : ∀ W, Calls Try.prog 68 #[.string s] W fun e w' => ∃ v, e = .returned (.tuple #[v, .int .i64 0]) ∧ Kd.R k46 46 w' W.heap.size (fun _ => True) v l ∧ Below W.heap.size W w')
    (F42 : ∀ W v b, Below w.heap.size w W → Kd.R k46 46 W b (fun _ => True) v l → ∃ A' c', v = .slice A' n c' ∧ Calls Try.prog 42 #[.slice A' n c', .slice A n c] W fun e w' => e = .returned (.bool true) ∧ Below W.heap.size W w')
    (F34 : ∀ W, Below w.heap.size w W → Calls Try.prog 34 #[.slice A n c] W fun e w' => e = .returned (.tuple #[.string t, .int .i64 2]) ∧ Below W.heap.size W w')
    (F70 : ∀ W B, Below w.heap.size w W → W.cell? ⟨B, 0, none⟩ = some (.int .i64 p) → Calls Try.prog 70 #[.slice A n c, .func (.func 71) #[] #[.pointer (some ⟨B, 0, none⟩)]] W fun e w' => e = .returned (.bool true) ∧ Below W.heap.size W w') :
    Calls Try.prog 17 #[.slice A n c] w fun e w' => e = .returned (.bool true) ∧ Below w.heap.size w w' := by
  subst hA
  have HP := Lib.hid hp
  clear hp
  have hg := decide_eq_true (show (0 : Int) < (n : Int) by omega)
  have hn0 : (0 : Nat) < n := hpos
  have G36 := Lib.hid F36
  have G68 := Lib.hid F68
  have G42 := Lib.hid F42
  have G34 := Lib.hid F34
  have G70 := Lib.hid F70
  clear F36 F68 F42 F34 F70
  have hw16 : IntKind.i64.wrap (16 * (n : Int)) = 16 * (n : Int) := IntWalk.i64_in _ (by omega)
  have hw8 : IntKind.i64.wrap (8 * (n : Int)) = 8 * (n : Int) := IntWalk.i64_in _ (by omega)
  have hz1 : ((s.size : Int) == 16 * (n : Int)) = true := beq_iff_eq.2 (by omega)
  have hz2 : ((s.size : Int) != 16 * (n : Int)) = false := by rw [bne, hz1]; rfl
  subst ht
  have h70 : decide ((70 : Int) < (n : Int)) = false := decide_eq_false (by omega)
  clear hz
  have HB0 := Aside0.mk (Below.refl w.heap.size w)
  go_enter Try.func17, Try.ntmps17
  go_upto_region 12 with (first
    | (go_at_call 33; (with_reducible refine (masterdisclaw33_awake.calls true _ rfl).mono ?_); rintro e w1 ⟨rfl, hb⟩; have HB1 := Aside0.mk hb; clear hb)
    | (go_at_call 36; (with_reducible refine (G36.out _ HB1.out).mono ?_); rintro e w2 ⟨rfl, hb⟩; have HB2 := Aside0.mk (below_step HB1.out hb); clear hb)
    | (go_at_call 68; (with_reducible refine (G68.out _).mono ?_); rintro e w3 ⟨v3, rfl, hR, hb⟩; have HB3 := Aside0.mk (below_step HB2.out hb); obtain ⟨A3, c3, rfl, hC42⟩ := G42.out _ _ _ HB3.out hR; have HC42 := Aside0.mk hC42; clear hb hR hC42)
    | (go_at_call 42; (with_reducible refine HC42.out.mono ?_); rintro e w4 ⟨rfl, hb⟩; have HB4 := Aside0.mk (below_step HB3.out hb); clear hb HC42)
    | ((with_reducible refine gate_dst (N := 6) rfl ?_); refine box_event ?hg (N := 6) ?hd (cs := #[.int .i64 0]) (t := 3) ?hr ?_; (case hd => rfl); (case hg => rfl); (case hr => first | (go_simp; done) | (go_simp; rfl)); intro gb hgb w8 hbox hb; have BK := Aside0.mk hbox; have GE := Aside0.mk ((by rw [hgb]; exact HB4.out.size) : w.heap.size ≤ gb); have HB8 := Aside0.mk (below_step HB4.out hb); clear hb hbox hgb; have hcz : w8.cell? ⟨gb, 0, none⟩ = some (.int .i64 0) := (blk_cell BK.out 0).trans rfl; have hfz := blk_frozen BK.out 0))
  have HB5 : Aside0 (Below w.heap.size w (w8.setCell ⟨gb, 0, none⟩ (.int .i64 0))) := ⟨below_set HB8.out GE.out⟩
  have HX5 : Aside0 ((w8.setCell ⟨gb, 0, none⟩ (.int .i64 0)).heap[gb]? = some (.cells #[.int .i64 0] 3 (0, 0))) := ⟨(row46 _ gb 0 _ _ _ _ BK.out).trans rfl⟩
  clear hcz hfz BK HB8
  generalize w8.setCell ⟨gb, 0, none⟩ (.int .i64 0) = W5 at HB5 HX5 ⊢
  have c0 : W5.cell? ⟨gb, 0, none⟩ = some (.int .i64 0) := (blk_cell HX5.out 0).trans rfl
  have f0 := blk_frozen HX5.out 0
  have hpc : W5.cell? ⟨b1, off + 3, none⟩ = some (.int .i64 p) := (HB5.out.cell (World.block_lt_of_cell? w _ HP.out)).trans HP.out
  go_upto_region 14 with (fail)
  have HB6 : Aside0 (Below w.heap.size w (W5.setCell ⟨gb, 0, none⟩ (.int .i64 p))) := ⟨below_set HB5.out GE.out⟩
  have HX6 : Aside0 ((W5.setCell ⟨gb, 0, none⟩ (.int .i64 p)).heap[gb]? = some (.cells #[.int .i64 p] 3 (0, 0))) := ⟨(row46 _ gb 0 _ _ _ _ HX5.out).trans rfl⟩
  clear c0 f0 hpc HX5 HB5
  generalize W5.setCell ⟨gb, 0, none⟩ (.int .i64 p) = W6 at HB6 HX6 ⊢
  have HC6 : Aside0 (W6.cell? ⟨gb, 0, none⟩ = some (.int .i64 p)) := ⟨(blk_cell HX6.out 0).trans rfl⟩
  go_wp2_with (first
    | (go_at_call 34; (with_reducible refine (G34.out _ HB6.out).mono ?_); rintro e w10 ⟨rfl, hb⟩; have HB10 := Aside0.mk (below_step HB6.out hb); have HC10 := Aside0.mk ((hb.cell (World.block_lt_of_cell? _ _ HC6.out)).trans HC6.out); clear hb)
    | (go_at_call 70; (with_reducible refine (G70.out _ gb HB10.out HC10.out).mono ?_); rintro e w11 ⟨rfl, hb⟩; have HB11 := Aside0.mk (below_step HB10.out hb); clear hb))
  go_ret
  exact ⟨rfl, HB11.out⟩
set_option maxHeartbeats 4000000 in
set_option maxRecDepth 100000 in
theorem ret_none_same (A : Option Addr) (c : Nat) (l : List S46) (n : Nat) (hln : l.length = n) (s t : ByteArray) (p : Int) (w : World) (hn : n ≤ 64) (hz : s.size = 16 * n) (hzero : n = 0) (hp : p = 0) (hzt : t.size = 8 * n)
    (F36 : ∀ W, Below w.heap.size w W → Calls Try.prog 36 #[.slice A n c] W fun e w' => e = .returned (.tuple #[.string s, .int .i64 0]) ∧ Below W.heap.size W w')
    (F68 : ∀ W, Calls Try.prog 68 #[.string s] W fun e w' => ∃ v, e = .returned (.tuple #[v, .int .i64 0]) ∧ Kd.R k46 46 w' W.heap.size (fun _ => True) v l ∧ Below W.heap.size W w')
    (F42 : ∀ W v b, Below w.heap.size w W → Kd.R k46 46 W b (fun _ => True) v l → ∃ A' c', v = .slice A' n c' ∧ Calls Try.prog 42 #[.slice A' n c', .slice A n c] W fun e w' => e = .returned (.bool true) ∧ Below W.heap.size W w')
    (F34 : ∀ W, Below w.heap.size w W → Calls Try.prog 34 #[.slice A n c] W fun e w' => e = .returned (.tuple #[.string t, .int .i64 0]) ∧ Below W.heap.size W w')
    (F70 : ∀ W B, Below w.heap.size w W → W.cell? ⟨B, 0, none⟩ = some (.int .i64 p) → Calls Try.prog 70 #[.slice A n c, .func (.func 71) #[] #[.pointer (some ⟨B, 0, none⟩)]] W fun e w' => e = .returned (.bool false) ∧ Below W.heap.size W w')
    (F66 : ∀ W, Calls Try.prog 66 #[.string t, .int .i64 p] W fun e w' => ∃ v, e = .returned (.tuple #[v, .int .i64 0]) ∧ Kd.R k46 46 w' W.heap.size (fun _ => True) v l ∧ Below W.heap.size W w') :
    Calls Try.prog 17 #[.slice A n c] w fun e w' => e = .returned (.bool true) ∧ Below w.heap.size w w' := by
  subst hp
  have hg := decide_eq_false (show ¬ (0 : Int) < (n : Int) by omega)
  have hg1 := decide_eq_false (show ¬ (0 : Nat) < n by omega)
  have hg2 : (0 < n) = False := eq_false (by omega)
  clear hzero
  have G36 := Lib.hid F36
  have G68 := Lib.hid F68
  have G42 := Lib.hid F42
  have G34 := Lib.hid F34
  have G70 := Lib.hid F70
  have G66 := Lib.hid F66
  clear F36 F68 F42 F34 F70 F66
  have hw16 : IntKind.i64.wrap (16 * (n : Int)) = 16 * (n : Int) := IntWalk.i64_in _ (by omega)
  have hw8 : IntKind.i64.wrap (8 * (n : Int)) = 8 * (n : Int) := IntWalk.i64_in _ (by omega)
  have hz1 : ((s.size : Int) == 16 * (n : Int)) = true := beq_iff_eq.2 (by omega)
  have hz2 : ((s.size : Int) != 16 * (n : Int)) = false := by rw [bne, hz1]; rfl
  have ht1 : ((t.size : Int) == 8 * (n : Int)) = true := beq_iff_eq.2 (by omega)
  have ht2 : ((t.size : Int) != 8 * (n : Int)) = false := by rw [bne, ht1]; rfl
  clear hzt
  have h70 : decide ((70 : Int) < (n : Int)) = false := decide_eq_false (by omega)
  clear hz
  have HB0 := Aside0.mk (Below.refl w.heap.size w)
  go_enter Try.func17, Try.ntmps17
  go_upto_region 12 with (first
    | (go_at_call 33; (with_reducible refine (masterdisclaw33_awake.calls true _ rfl).mono ?_); rintro e w1 ⟨rfl, hb⟩; have HB1 := Aside0.mk hb; clear hb)
    | (go_at_call 36; (with_reducible refine (G36.out _ HB1.out).mono ?_); rintro e w2 ⟨rfl, hb⟩; have HB2 := Aside0.mk (below_step HB1.out hb); clear hb)
    | (go_at_call 68; (with_reducible refine (G68.out _).mono ?_); rintro e w3 ⟨v3, rfl, hR, hb⟩; have HB3 := Aside0.mk (below_step HB2.out hb); obtain ⟨A3, c3, rfl, hC42⟩ := G42.out _ _ _ HB3.out hR; have HC42 := Aside0.mk hC42; clear hb hR hC42)
    | (go_at_call 42; (with_reducible refine HC42.out.mono ?_); rintro e w4 ⟨rfl, hb⟩; have HB4 := Aside0.mk (below_step HB3.out hb); clear hb HC42)
    | ((with_reducible refine gate_dst (N := 6) rfl ?_); refine box_event ?hg (N := 6) ?hd (cs := #[.int .i64 0]) (t := 3) ?hr ?_; (case hd => rfl); (case hg => rfl); (case hr => first | (go_simp; done) | (go_simp; rfl)); intro gb hgb w8 hbox hb; have BK := Aside0.mk hbox; have GE := Aside0.mk ((by rw [hgb]; exact HB4.out.size) : w.heap.size ≤ gb); have HB8 := Aside0.mk (below_step HB4.out hb); clear hb hbox hgb; have hcz : w8.cell? ⟨gb, 0, none⟩ = some (.int .i64 0) := (blk_cell BK.out 0).trans rfl; have hfz := blk_frozen BK.out 0))
  have HB5 : Aside0 (Below w.heap.size w (w8.setCell ⟨gb, 0, none⟩ (.int .i64 0))) := ⟨below_set HB8.out GE.out⟩
  have HX5 : Aside0 ((w8.setCell ⟨gb, 0, none⟩ (.int .i64 0)).heap[gb]? = some (.cells #[.int .i64 0] 3 (0, 0))) := ⟨(row46 _ gb 0 _ _ _ _ BK.out).trans rfl⟩
  clear hcz hfz BK HB8
  generalize w8.setCell ⟨gb, 0, none⟩ (.int .i64 0) = W5 at HB5 HX5 ⊢
  go_upto_region 14 with (fail)
  have HB6 : Aside0 (Below w.heap.size w W5) := ⟨HB5.out⟩
  have HX6 : Aside0 (W5.heap[gb]? = some (.cells #[.int .i64 0] 3 (0, 0))) := ⟨HX5.out⟩
  have HC6 : Aside0 (W5.cell? ⟨gb, 0, none⟩ = some (.int .i64 0)) := ⟨(blk_cell HX6.out 0).trans rfl⟩
  go_wp2_with (first
    | (go_at_call 34; (with_reducible refine (G34.out _ HB6.out).mono ?_); rintro e w10 ⟨rfl, hb⟩; have HB10 := Aside0.mk (below_step HB6.out hb); have HC10 := Aside0.mk ((hb.cell (World.block_lt_of_cell? _ _ HC6.out)).trans HC6.out); clear hb)
    | (go_at_call 70; (with_reducible refine (G70.out _ gb HB10.out HC10.out).mono ?_); rintro e w11 ⟨rfl, hb⟩; have HB11 := Aside0.mk (below_step HB10.out hb); have hc11 := (hb.cell (World.block_lt_of_cell? _ _ HC10.out)).trans HC10.out; clear hb)
    | (go_at_call 66; (with_reducible refine (G66.out _).mono ?_); rintro e w12 ⟨v12, rfl, hR, hb⟩; have HB12 := Aside0.mk (below_step HB11.out hb); obtain ⟨A4, c4, rfl, hC42⟩ := G42.out _ _ _ HB12.out hR; have HC42 := Aside0.mk hC42; clear hb hR hC42)
    | (go_at_call 42; (with_reducible refine HC42.out.mono ?_); rintro e w13 ⟨rfl, hb⟩; have HB13 := Aside0.mk (below_step HB12.out hb); clear hb))
  go_ret
  exact ⟨rfl, HB13.out⟩
set_option maxHeartbeats 1000000 in
theorem ret_long (A : Option Addr) (c : Nat) (n : Nat) (w : World) (hn : 70 < n) : Calls Try.prog 17 #[.slice A n c] w fun e w' => e = .returned (.bool true) ∧ Below w.heap.size w w' := by
  have h70 : decide ((70 : Int) < (n : Int)) = true := decide_eq_true (by omega)
  clear hn
  go_enter Try.func17, Try.ntmps17
  go_wp2_with (go_at_call 33; (with_reducible refine (masterdisclaw33_awake.calls true _ rfl).mono ?_); rintro e w1 ⟨rfl, hb⟩; have HB1 := Aside0.mk hb; clear hb)
  go_ret
  exact ⟨rfl, HB1.out⟩
set_option maxHeartbeats 1000000 in
theorem ret_bad (A : Option Addr) (c : Nat) (n : Nat) (w : World) (hn : n ≤ 70) (F36 : ∀ W, Below w.heap.size w W → Calls Try.prog 36 #[.slice A n c] W fun e w' => e = .returned (.tuple #[.string ⟨#[]⟩, .int .i64 1]) ∧ Below W.heap.size W w') :
    Calls Try.prog 17 #[.slice A n c] w fun e w' => e = .returned (.bool true) ∧ Below w.heap.size w w' := by
  have h70 : decide ((70 : Int) < (n : Int)) = false := decide_eq_false (by omega)
  have G36 := Lib.hid F36
  clear hn F36
  go_enter Try.func17, Try.ntmps17
  go_wp2_with (first
    | (go_at_call 33; (with_reducible refine (masterdisclaw33_awake.calls true _ rfl).mono ?_); rintro e w1 ⟨rfl, hb⟩; have HB1 := Aside0.mk hb; clear hb)
    | (go_at_call 36; (with_reducible refine (G36.out _ HB1.out).mono ?_); rintro e w2 ⟨rfl, hb⟩; have HB2 := Aside0.mk (below_step HB1.out hb); clear hb))
  go_ret
  exact ⟨rfl, HB2.out⟩
theorem masterdisclaw33_AllocationReturns.calls (A : Option Addr) (c : Nat) (l : List S46) (w : World) (hr : Kd.C k46 w A l.length l) (hc : l.length ≤ c) :
    Calls Try.prog 17 #[.slice A l.length c] w fun e w' => e = .returned (.bool true) ∧ Below w.heap.size w w' := by
  by_cases h70 : 70 < l.length
  · exact ret_long A c l.length w h70
  · by_cases hf : formedB l = true
    · obtain ⟨hl, hok'⟩ := formedB_all hf
      have hok : ∀ x ∈ l, Pure.Ok x := fun x hx => by
        have := hok' x hx
        unfold extOk at this
        rw [decide_eq_true_iff] at this
        exact ⟨⟨this.1, this.2.1⟩, ⟨this.2.2.1, this.2.2.2.1⟩, ⟨this.2.2.2.2.1, this.2.2.2.2.2.1⟩, ⟨this.2.2.2.2.2.2.1, this.2.2.2.2.2.2.2⟩⟩
      obtain ⟨hz, hdl⟩ := Pure.long_back l hl hok
      have e36 : allocation_EncodeLong.f l = some (strOfNums (l.flatMap longOf), 0) := by rw [allocation_EncodeLong.f, if_pos hf]
      have F36 : ∀ W, Below w.heap.size w W → Calls Try.prog 36 #[.slice A l.length c] W fun e w' => e = .returned (.tuple #[.string (strOfNums (l.flatMap longOf)), .int .i64 0]) ∧ Below W.heap.size W w' :=
        fun W hW => allocation_EncodeLong.calls A c l _ _ W (Kd.C_below hr hW) hc e36
      have F68 : ∀ W, Calls Try.prog 68 #[.string (strOfNums (l.flatMap longOf))] W fun e w' => ∃ v, e = .returned (.tuple #[v, .int .i64 0]) ∧ Kd.R k46 46 w' W.heap.size (fun _ => True) v l ∧ Below W.heap.size W w' :=
        fun W => allocation_DecodeLong.calls _ l 0 W hdl
      obtain ⟨K, hK⟩ := (Pure.Equal_ev l (by omega)).rounds
      have F42 : ∀ W v b, Below w.heap.size w W → Kd.R k46 46 W b (fun _ => True) v l → ∃ A' c', v = .slice A' l.length c' ∧ Calls Try.prog 42 #[.slice A' l.length c', .slice A l.length c] W fun e w' => e = .returned (.bool true) ∧ Below W.heap.size W w' := by
        intro W v b hW hR
        obtain ⟨A', c', hv, hc', hC'⟩ := Kd.R_reads hR
        exact ⟨A', c', hv, (api_Extent_42.calls K A' c' l A c l true W hC' hc' (Kd.C_below hr hW) hc hK).mono (fun e w' h => ⟨h.1, by obtain ⟨q, hq⟩ := h.2; rw [hq]; exact pw_below_drewN (Below.refl _ _) q⟩)⟩
      have F70 : ∀ p, ∀ W B, Below w.heap.size w W → W.cell? ⟨B, 0, none⟩ = some (.int .i64 p) → Calls Try.prog 70 #[.slice A l.length c, .func (.func 71) #[] #[.pointer (some ⟨B, 0, none⟩)]] W fun e w' => e = .returned (.bool (l.any fun x => x.f2.f1 != p)) ∧ Below W.heap.size W w' :=
        fun p W B hW hB => away_any A c l W (Kd.C_below hr hW) hl B p hB
      have F34 : ∀ (t : ByteArray) (e0 : Int), allocation_EncodeShort.f l = some (t, e0) → ∀ W, Below w.heap.size w W → Calls Try.prog 34 #[.slice A l.length c] W fun e w' => e = .returned (.tuple #[.string t, .int .i64 e0]) ∧ Below W.heap.size W w' :=
        fun t e0 h W hW => allocation_EncodeShort.calls A c l _ _ W (Kd.C_below hr hW) hc h
      obtain ⟨p, hpd⟩ : ∃ p, p = (l.headD z46).f2.f1 := ⟨_, rfl⟩
      have hall : (l.all fun x => x.f2.f1 == (l.headD z46).f2.f1) = !(l.any fun x => x.f2.f1 != p) := by rw [hpd, any_notAll, Bool.not_not]
      have hpr : 0 ≤ p ∧ p ≤ 65535 := by
        rw [hpd]
        cases l with
        | nil => exact ⟨by decide, by decide⟩
        | cons x l => exact (hok x (List.mem_cons_self ..)).p
      have F70' := F70 p
      by_cases hs : (l.any fun x => x.f2.f1 != p) = false
      · obtain ⟨hzt, hds⟩ := Pure.short_back l p hpr hl hok ((all_same l p).1 hs)
        have e34 : allocation_EncodeShort.f l = some (strOfNums (l.flatMap shortOf), 0) := by rw [allocation_EncodeShort.f, if_pos hf, if_pos (by rw [hall, hs]; rfl)]
        have F66 : ∀ W, Calls Try.prog 66 #[.string (strOfNums (l.flatMap shortOf)), .int .i64 p] W fun e w' => ∃ v, e = .returned (.tuple #[v, .int .i64 0]) ∧ Kd.R k46 46 w' W.heap.size (fun _ => True) v l ∧ Below W.heap.size W w' :=
          fun W => allocation_DecodeShort.calls _ _ l 0 W hds
        rw [hs] at F70'
        rcases Nat.eq_zero_or_pos l.length with h0 | h0
        · have hp0 : p = 0 := by rw [hpd, List.eq_nil_of_length_eq_zero h0]; rfl
          exact ret_none_same A c l l.length rfl _ _ p w hl hz h0 hp0 hzt F36 F68 F42 (F34 _ _ e34) F70' F66
        · rcases C_46_at hr with h1 | ⟨b1, off, hA, hcell⟩
          · rw [h1] at h0; exact absurd h0 (by simp)
          · have hp := hcell 0 h0 3 (.int .i64 p) (by rw [hpd, show rd_T46 l ((0 : Nat) : Int) = l.headD z46 by cases l with | nil => rfl | cons y l => rfl]; rfl)
            rw [Nat.zero_mul, Nat.add_zero] at hp
            exact ret_some_same A c l l.length rfl _ _ p w hl hz h0 b1 off hA hp hzt F36 F68 F42 (F34 _ _ e34) F70' F66
      · have hs' : (l.any fun x => x.f2.f1 != p) = true := by simpa using hs
        have e34 : allocation_EncodeShort.f l = some (⟨#[]⟩, 2) := by rw [allocation_EncodeShort.f, if_pos hf, if_neg (by rw [hall, hs']; decide)]
        rw [hs'] at F70'
        have h0 : 0 < l.length := by
          rcases Nat.eq_zero_or_pos l.length with h0 | h0
          · rw [List.eq_nil_of_length_eq_zero h0] at hs'; exact absurd hs' (by simp)
          · exact h0
        rcases C_46_at hr with h1 | ⟨b1, off, hA, hcell⟩
        · rw [h1] at h0; exact absurd h0 (by simp)
        · have hp := hcell 0 h0 3 (.int .i64 p) (by rw [hpd, show rd_T46 l ((0 : Nat) : Int) = l.headD z46 by cases l with | nil => rfl | cons y l => rfl]; rfl)
          rw [Nat.zero_mul, Nat.add_zero] at hp
          exact ret_some_other A c l l.length rfl _ _ p w hl hz h0 b1 off hA hp rfl F36 F68 F42 (F34 _ _ e34) F70'
    · have e36 : allocation_EncodeLong.f l = some (⟨#[]⟩, 1) := by rw [allocation_EncodeLong.f, if_neg hf]
      exact ret_bad A c l.length w (by omega) (fun W hW => allocation_EncodeLong.calls A c l _ _ W (Kd.C_below hr hW) hc e36)
end Go.Proofs.Ytijbfebbogiiiaa.Q
