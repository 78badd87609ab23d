/- The contract of spacebitmap.Free: the sum of the runs' lengths. -/
import Derived.Test.YtijbfebbogiiiaaQ0
import Derived.RangeFuncNested
import Derived.RangeFuncBound
import Derived.RangeFuncCalls
import Derived.RangeFuncLeaves
import Derived.RangeFuncBox
import Derived.RangeFuncFrom
import Derived.Shelf.Abstract
import Derived.Shelf.RegionOpen
import Derived.WalkKit
import Derived.OwnWalkIn
import Derived.TacticsInMore
import Derived.LoopNIn
import Derived.LoopIn
import Derived.Maps.AppendAt
import Derived.Test.YtijbfebbogiiiaaHSpace0
import Derived.Test.YtijbfebbogiiiaaPRuns
import Derived.Lib.Hide
namespace Go.Proofs.Ytijbfebbogiiiaa.Q
open Go.RowKit Go.Proofs.YtijbfebbogiiiaaW.PrintWords Go.Proofs.YtijbfebbogiiiaaW.PrintLast Go.Proofs.YtijbfebbogiiiaaW.PrintMore
attribute [local go_sem] max2_int min2_int max_two min_two max_three min_three max_four min_four
set_option linter.unusedVariables false
set_option linter.unusedSimpArgs false
open Go.Shelf
attribute [local go_sem] Oper.semAt_some
theorem set_obj (W : World) (l k : Nat) (o : Obj) (h : k ≠ l) : (W.putObj l o).heap[k]? = W.heap[k]? := by
  simp [World.putObj, Array.getElem?_setIfInBounds, Ne.symm h]
theorem row_set0 (w : World) (g j : Nat) (v : Value) (cs : Array Value) (t : TypeId) (fr : Nat × Nat) (hg : w.heap[g]? = some (.cells cs t fr)) : (w.setCell ⟨g, j, none⟩ v).heap[g]? = some (.cells (cs.setIfInBounds j v) t fr) := by
  have hlt : g < w.heap.size := (Array.getElem?_eq_some_iff.1 hg).1
  unfold World.setCell
  simp [Array.getElem?_modify, hg]
theorem block_own {β : Type} (B : Nat) (cs : β → Array Value) (t : TypeId) : Own (fun s W => W.heap[B]? = some (Obj.cells (cs s) t (0, 0))) := fun s X Y row hs hg hrow =>
  (hg.block B (Array.getElem?_eq_some_iff.1 hs).1 (fun e' => by obtain ⟨o, ho, hc⟩ := hrow B e'.symm; rw [show X.heap[B]? = _ from hs] at ho; cases ho; cases hc)).trans hs
def sumC (l : List S76) : Int := l.foldl (fun a x => wrap64 (a + x.f1)) 0
theorem sumC_snoc (l : List S76) (x : S76) : sumC (l ++ [x]) = wrap64 (sumC l + x.f1) := by simp [sumC]
theorem sumC_eq (l : List S76) : ∀ a : Int, 0 ≤ a → (∀ x ∈ l, 0 ≤ x.f1) → a + countOf l ≤ 4611686018427387904 → l.foldl (fun a x => wrap64 (a + x.f1)) a = a + countOf l := by
  induction l with
  | nil => intro a _ _ _; simp [countOf]
  | cons x l ih =>
    intro a h0 hx hb
    have h1 := hx x (List.mem_cons_self ..)
    have hl : ∀ y ∈ l, 0 ≤ y.f1 := fun y hy => hx y (List.mem_cons_of_mem _ hy)
    rw [Pure.countOf_cons] at hb ⊢
    have hc : ∀ t : List S76, (∀ y ∈ t, 0 ≤ y.f1) → 0 ≤ countOf t := by
      intro t
      induction t with
      | nil => intro _; simp [countOf]
      | cons y t iht => intro ht; rw [Pure.countOf_cons]; have := ht y (List.mem_cons_self ..); have := iht (fun z hz => ht z (List.mem_cons_of_mem _ hz)); omega
    have h2 := hc l hl
    rw [List.foldl_cons, Go.IntWalk.wrap64_in _ (by omega), ih _ (by omega) hl (by omega)]
    omega
theorem cnt_le (p : Nat → Bool) : ∀ r i, Pure.cnt p r i ≤ r := by
  intro r
  induction r with
  | zero => intro i; exact Nat.le_refl _
  | succ r ih => intro i; rw [Pure.cnt]; have := ih (i + 1); split <;> omega
theorem runs_nonneg (p : Nat → Bool) : ∀ r i st, ∀ x ∈ runsAux p r i st, 0 ≤ x.f0 ∧ 0 ≤ x.f1 := by
  intro r
  induction r with
  | zero =>
    intro i st x hx
    cases st with
    | none => simp [runsAux] at hx
    | some st => simp only [runsAux, List.mem_singleton] at hx; rw [hx]; exact ⟨by simp, by simp⟩
  | succ r ih =>
    intro i st x hx
    cases st with
    | none =>
      rw [runsAux] at hx
      split at hx <;> exact ih _ _ x hx
    | some st =>
      rw [runsAux] at hx
      split at hx
      · exact ih _ _ x hx
      · rcases List.mem_cons.1 hx with e | hx
        · rw [e]; exact ⟨by simp, by simp⟩
        · exact ih _ _ x hx
theorem runsOf_sum (s : ByteArray) (m : Int) : sumC (runsOf s m) = countOf (runsOf s m) ∧ 0 ≤ countOf (runsOf s m) ∧ countOf (runsOf s m) ≤ 4096 := by
  unfold runsOf
  by_cases hv : validB s m = true
  · rw [if_pos hv]
    have h1 := (Pure.countOf_runs (bitOf s) m.toNat 0).1
    have h2 := cnt_le (bitOf s) m.toNat 0
    have h3 : m.toNat ≤ 4096 := by unfold validB at hv; rw [Bool.and_eq_true, decide_eq_true_iff] at hv; omega
    have := sumC_eq (runsAux (bitOf s) m.toNat 0 none) 0 (by omega) (fun x hx => (runs_nonneg _ _ _ _ x hx).2) (by omega)
    rw [Int.zero_add] at this
    exact ⟨this, by omega, by omega⟩
  · rw [if_neg hv]; exact ⟨rfl, by decide, by decide⟩
def spacebitmap_Free.f (a0 : ByteArray) (a1 : Int) : Option Int := if a0.size ≤ 1000000 then some (countOf (runsOf a0 a1)) else none
set_option maxRecDepth 100000 in
set_option maxHeartbeats 4000000 in
theorem spacebitmap_Free.calls (a0 : ByteArray) (a1 : Int) (r : Int) (w : World) (h : spacebitmap_Free.f a0 a1 = some r) :
    Calls Try.prog 79 #[.string a0, .int .i64 a1] w fun e w' => e = .returned (.int .i64 r) ∧ Below w.heap.size w w' := by
  unfold spacebitmap_Free.f at h
  split at h
  · rename_i hs
    have hr := Option.some.inj h
    have HS := Lib.hid (show sumC (runsOf a0 a1) = r by rw [(runsOf_sum a0 a1).1, hr])
    clear h hr
    refine (callsIn_wide (n := 9)).1 ?_
    have h113 : Fence.wide.fn 113 := trivial
    have h145 : Fence.wide.fn 145 := trivial
    have hn1 : 1 ≤ 9 := by omega
    refine callsIn_of_wp_marks Try.func79 rfl trivial ?_ rfl
    simp only [Try.ntmps79, List.size_toArray, List.length_cons, List.length_nil, Nat.reduceAdd, Nat.reduceSub, Array.replicate_succ, Array.replicate_zero, List.push_toArray, List.append_toArray, List.nil_append, List.cons_append]
    gi_wp2_with (gi_at_call 113; (with_reducible refine (callsIn_wide.2 (runs_calls a0 a1 _)).mono ?_); rintro e w' ⟨rfl, rfl⟩)
    have hN0 : ((w.alloc (.cells #[.int .i64 0] 3)).alloc (.cells #[.string a0] 9)).heap[w.heap.size]? = some (.cells #[.int .i64 0] 3 (0, 0)) := blk_alloc (blk_new w _) _
    have hN := blk_alloc hN0 (.cells #[.int .i64 a1] 3)
    have hS0 := blk_new (w.alloc (.cells #[.int .i64 0] 3)) (.cells #[.string a0] 9)
    have hS := blk_alloc hS0 (.cells #[.int .i64 a1] 3)
    have hM := blk_new ((w.alloc (.cells #[.int .i64 0] 3)).alloc (.cells #[.string a0] 9)) (.cells #[.int .i64 a1] 3)
    have hB0 : Below w.heap.size w (((w.alloc (.cells #[.int .i64 0] 3)).alloc (.cells #[.string a0] 9)).alloc (.cells #[.int .i64 a1] 3)) := below_alloc (below_alloc (below_alloc (Below.refl _ _) _) _) _
    have hsz : (((w.alloc (.cells #[.int .i64 0] 3)).alloc (.cells #[.string a0] 9)).alloc (.cells #[.int .i64 a1] 3)).heap.size = w.heap.size + 3 := by simp
    simp only [World.size_alloc] at hS hM
    obtain ⟨W0, hW0⟩ : ∃ W0, ((w.alloc (.cells #[.int .i64 0] 3)).alloc (.cells #[.string a0] 9)).alloc (.cells #[.int .i64 a1] 3) = W0 := ⟨_, rfl⟩
    rw [hW0] at hN hS hM hB0 hsz ⊢
    clear hW0 hN0 hS0
    obtain ⟨b, hb⟩ : ∃ b, w.heap.size = b := ⟨_, rfl⟩
    have HBE := Lib.hid hb
    rw [hb] at hN hS hM hB0 hsz ⊢
    refine wpIn_rangeFunc_ownH rfl hn1 (gf := 145) (lb := #[.pointer (some ⟨b + 1, 0, none⟩), .pointer (some ⟨b + 1 + 1, 0, none⟩)]) rfl h145 (enters_of Try.func145 (by kernel_rfl) rfl)
      (runs1_stops 8 (by omega) (b + 1) (b + 1 + 1) a0 a1 (by omega) W0 (by omega) (by omega) hS hM) (fun h1 h2 k hk => (h2 k hk).trans (h1 k hk)) (fun W l o o' hl ho hc hw k hk => set_obj _ _ _ _ (by omega)) (Below.refl _ _) (fun _ => rfl)
      (fun pre W => (W.heap[b]? = some (.cells #[.int .i64 (sumC pre)] 3 (0, 0)) ∧ W.heap[b + 1]? = some (.cells #[.string a0] 9 (0, 0)) ∧ W.heap[b + 1 + 1]? = some (.cells #[.int .i64 a1] 3 (0, 0))) ∧ Below b w W)
      (fun _ _ _ => False)
      (OwnFrom.and (OwnFrom.and (Own.from (block_own b (fun pre => #[.int .i64 (sumC pre)]) 3) _) (OwnFrom.and (Own.from (block_own (b + 1) (fun _ => #[.string a0]) 9) _) (Own.from (block_own (b + 1 + 1) (fun _ => #[.int .i64 a1]) 3) _))) (ownFrom_below (Nat.le_of_eq hb.symm) (by omega)))
      (fun _ _ _ _ _ hs _ _ => hs)
      ⟨⟨hN, hS, hM⟩, hB0⟩
      (fun x a' W => ∃ Bx, b + 1 + 1 < Bx ∧ W.heap[Bx]? = some (.cells #[.int .i64 x.f0, .int .i64 x.f1] 76 (0, 0)) ∧ a' = { tmps := #[.string a0, .int .i64 a1, undef, undef, .int .i64 0, .pointer (some ⟨b, 0, none⟩), .pointer (some ⟨Bx, 0, none⟩), .string a0, .int .i64 a1, .func (.func 145) #[] #[.pointer (some ⟨b + 1, 0, none⟩), .pointer (some ⟨b + 1 + 1, 0, none⟩)], .agg #[.int .i64 x.f0, .int .i64 x.f1], undef, undef, undef, undef, undef], defers := [] })
      (fun x a' _ X Y row hs hg hr => by obtain ⟨Bx, h1, h2, h3⟩ := hs; exact ⟨Bx, h1, block_own Bx (fun (_ : Unit) => #[.int .i64 x.f0, .int .i64 x.f1]) 76 () X Y row h2 hg (fun r e => (hr r e).2), h3⟩)
      ?assign ?body ?done ?stop
    case assign =>
      rintro l pre x W K ⟨⟨b1, b2, b3⟩, hB1⟩ hK
      gi_wp2
      have h3 := (Array.getElem?_eq_some_iff.1 b3).1
      exact hK _ _ ((KeepsOthers.alloc _ _).from _) (fun k hk => by rcases hk with rfl | rfl; exact (blk_alloc b2 _).trans b2.symm; exact (blk_alloc b3 _).trans b3.symm) ⟨⟨blk_alloc b1 _, blk_alloc b2 _, blk_alloc b3 _⟩, hB1.alloc (by omega) _⟩ ⟨W.heap.size, h3, blk_new _ _, rfl⟩
    case body =>
      rintro l pre x a' W hl ⟨r1, hr1⟩ ⟨⟨b1, b2, b3⟩, hB1⟩ ⟨Bx, hBx, bX, rfl⟩ hlt
      have cN := (blk_cell b1 0).trans rfl
      have fN := blk_frozen b1 0
      have cX := (blk_cell bX 1).trans rfl
      gi_wp2
      exact ⟨(KeepsOthers.setCell _ _ _).from _, fun k hk => set_other46 _ _ _ _ _ (by omega), ⟨by rw [sumC_snoc]; exact (row_set0 _ _ _ _ _ _ _ b1).trans rfl, (set_other46 _ _ _ _ _ (by omega)).trans b2, (set_other46 _ _ _ _ _ (by omega)).trans b3⟩, hB1.setCell (p := ⟨b, 0, none⟩) (Nat.le_refl _) _⟩
    case done =>
      rintro D zs W hD rfl ⟨⟨b1, b2, b3⟩, hB1⟩ hK
      have cN := (blk_cell b1 0).trans rfl
      gi_wp2
      refine ⟨by simp, .inl ⟨_, _, rfl, run_takeDeferred hK, ?_⟩⟩
      exact ⟨_, results_tmp rfl _ _ _, by rw [← HS.out]; rfl, by rw [hb]; exact hB1.trans (belowK_b (w := w) (Nat.le_of_eq hb.symm) W D _ _ (by omega) hK rfl rfl)⟩
    case stop =>
      rintro D c pre W _ _ h _
      exact h.elim
  · simp at h
end Go.Proofs.Ytijbfebbogiiiaa.Q
