/- The contract of spacebitmap.FirstFit: where the first run that is long enough begins. -/
import Derived.Test.YtijbfebbogiiiaaQ0
import Derived.Test.YtijbfebbogiiiaaHSpace1
import Derived.Test.YtijbfebbogiiiaaPRuns
import Derived.Lib.Hide
namespace Go.Proofs.Ytijbfebbogiiiaa.Q
open Go.RowKit Go.Proofs.YtijbfebbogiiiaaW.PrintWords Go.Proofs.YtijbfebbogiiiaaW.PrintLast Go.Proofs.YtijbfebbogiiiaaW.PrintMore
attribute [local go_sem] max2_int min2_int max_two min_two max_three min_three max_four min_four
set_option linter.unusedVariables false
set_option linter.unusedSimpArgs false
open Go.Shelf
attribute [local go_sem] Oper.semAt_some
theorem firstRun_none (l : List S76) (c : Int) (h : ∀ x ∈ l, x.f1 < c) : Pure.firstRun l c = -1 := by
  induction l with
  | nil => rfl
  | cons x l ih => rw [Pure.firstRun_cons, if_neg (by have := h x (List.mem_cons_self ..); omega), ih (fun y hy => h y (List.mem_cons_of_mem _ hy))]
theorem firstRun_some (l : List S76) (x : S76) (t : List S76) (c : Int) (h : ∀ y ∈ l, y.f1 < c) (hx : x.f1 ≥ c) : Pure.firstRun (l ++ x :: t) c = x.f0 := by
  induction l with
  | nil => rw [List.nil_append, Pure.firstRun_cons, if_pos hx]
  | cons y l ih => rw [List.cons_append, Pure.firstRun_cons, if_neg (by have := h y (List.mem_cons_self ..); omega), ih (fun z hz => h z (List.mem_cons_of_mem _ hz))]
def spacebitmap_FirstFit.f (a0 : ByteArray) (a1 a2 : Int) : Option Int := if a0.size ≤ 1000000 then (if a2 < 1 then some (-1) else some (Pure.firstRun (runsOf a0 a1) a2)) else none
set_option maxRecDepth 100000 in
set_option maxHeartbeats 4000000 in
theorem spacebitmap_FirstFit.calls (a0 : ByteArray) (a1 a2 : Int) (r : Int) (w : World) (h : spacebitmap_FirstFit.f a0 a1 a2 = some r) :
    Calls Try.prog 46 #[.string a0, .int .i64 a1, .int .i64 a2] w fun e w' => e = .returned (.int .i64 r) ∧ Below w.heap.size w w' := by
  unfold spacebitmap_FirstFit.f at h
  split at h
  · rename_i hs
    refine (callsIn_wide (n := 9)).1 ?_
    have h113 : Fence.wide.fn 113 := trivial
    have h145 : Fence.wide.fn 145 := trivial
    have hn1 : 1 ≤ 9 := by omega
    obtain ⟨b, hb⟩ : ∃ b, w.heap.size = b := ⟨_, rfl⟩
    by_cases hlow : a2 < 1
    · rw [if_pos hlow] at h
      obtain rfl := Option.some.inj h
      have hd := decide_eq_true hlow
      clear h hlow
      refine callsIn_of_wp_marks Try.func46 rfl trivial ?_ rfl
      simp only [Try.ntmps46, List.size_toArray, List.length_cons, List.length_nil, Nat.reduceAdd, Nat.reduceSub, Array.replicate_succ, Array.replicate_zero, List.push_toArray, List.append_toArray, List.nil_append, List.cons_append]
      gi_wp2
      subst hb
      have hc5 : ((w.alloc (.cells #[.int .i64 a2] 3)).alloc (.cells #[.int .i64 (-1)] 3)).cell? ⟨w.heap.size + 1, 0, none⟩ = some (.int .i64 (-1)) := by
        have := blk_new (w.alloc (.cells #[.int .i64 a2] 3)) (.cells #[.int .i64 (-1)] 3)
        simp only [World.size_alloc] at this
        exact (blk_cell this 0).trans rfl
      exact ⟨.int .i64 (-1), by simp [results, Try.f46, go_sem, hc5], rfl, below_alloc (below_alloc (Below.refl _ _) _) _⟩
    · rw [if_neg hlow] at h
      have hr := Option.some.inj h
      have hd := decide_eq_false hlow
      clear h hlow
      refine callsIn_of_wp_marks Try.func46 rfl trivial ?_ rfl
      simp only [Try.ntmps46, List.size_toArray, List.length_cons, List.length_nil, Nat.reduceAdd, Nat.reduceSub, Array.replicate_succ, Array.replicate_zero, List.push_toArray, List.append_toArray, List.nil_append, List.cons_append]
      gi_wp2_with (gi_at_call 113; (with_reducible refine (callsIn_wide.2 (runs_calls a0 a1 _)).mono ?_); rintro e w' ⟨rfl, rfl⟩)
      have hC := blk_alloc (blk_alloc (blk_alloc (blk_new w (.cells #[.int .i64 a2] 3)) (.cells #[.int .i64 0] 3)) (.cells #[.string a0] 9)) (.cells #[.int .i64 a1] 3)
      have hQ := blk_alloc (blk_alloc (blk_new (w.alloc (.cells #[.int .i64 a2] 3)) (.cells #[.int .i64 0] 3)) (.cells #[.string a0] 9)) (.cells #[.int .i64 a1] 3)
      have hS := blk_alloc (blk_new ((w.alloc (.cells #[.int .i64 a2] 3)).alloc (.cells #[.int .i64 0] 3)) (.cells #[.string a0] 9)) (.cells #[.int .i64 a1] 3)
      have hM := blk_new (((w.alloc (.cells #[.int .i64 a2] 3)).alloc (.cells #[.int .i64 0] 3)).alloc (.cells #[.string a0] 9)) (.cells #[.int .i64 a1] 3)
      have hB0 : Below w.heap.size w ((((w.alloc (.cells #[.int .i64 a2] 3)).alloc (.cells #[.int .i64 0] 3)).alloc (.cells #[.string a0] 9)).alloc (.cells #[.int .i64 a1] 3)) := below_alloc (below_alloc (below_alloc (below_alloc (Below.refl _ _) _) _) _) _
      have hsz : ((((w.alloc (.cells #[.int .i64 a2] 3)).alloc (.cells #[.int .i64 0] 3)).alloc (.cells #[.string a0] 9)).alloc (.cells #[.int .i64 a1] 3)).heap.size = w.heap.size + 4 := by simp
      simp only [World.size_alloc] at hS hM hQ
      obtain ⟨W0, hW0⟩ : ∃ W0, (((w.alloc (.cells #[.int .i64 a2] 3)).alloc (.cells #[.int .i64 0] 3)).alloc (.cells #[.string a0] 9)).alloc (.cells #[.int .i64 a1] 3) = W0 := ⟨_, rfl⟩
      rw [hW0] at hC hQ hS hM hB0 hsz ⊢
      clear hW0
      rw [hb] at hC hQ hS hM hB0 hsz
      refine wpIn_rangeFunc_ownH rfl hn1 (gf := 145) (lb := #[.pointer (some ⟨b + 1 + 1, 0, none⟩), .pointer (some ⟨b + 1 + 1 + 1, 0, none⟩)]) rfl h145 (enters_of Try.func145 (by kernel_rfl) rfl)
        (runs1_stops 8 (by omega) (b + 1 + 1) (b + 1 + 1 + 1) a0 a1 (by omega) W0 (by omega) (by omega) hS hM) (fun h1 h2 k hk => (h2 k hk).trans (h1 k hk)) (fun W l o o' hl ho hc hw k hk => set_obj _ _ _ _ (by omega)) (Below.refl _ _) (fun _ => rfl)
        (fun pre W => ((∀ y ∈ pre, y.f1 < a2) ∧ W.heap[b]? = some (.cells #[.int .i64 a2] 3 (0, 0)) ∧ W.heap[b + 1]? = some (.cells #[.int .i64 0] 3 (0, 0)) ∧ W.heap[b + 1 + 1]? = some (.cells #[.string a0] 9 (0, 0)) ∧ W.heap[b + 1 + 1 + 1]? = some (.cells #[.int .i64 a1] 3 (0, 0))) ∧ Below b w W)
        (fun c pre W => (c = .ret ∧ W.heap[b + 1]? = some (.cells #[.int .i64 (Pure.firstRun pre a2)] 3 (0, 0)) ∧ ∃ p0 x, pre = p0 ++ [x] ∧ (∀ y ∈ p0, y.f1 < a2) ∧ x.f1 ≥ a2) ∧ Below b w W)
        (OwnFrom.and (OwnFrom.and (ownFrom_pure _ _) (OwnFrom.and (Own.from (block_own b (fun _ => #[.int .i64 a2]) 3) _) (OwnFrom.and (Own.from (block_own (b + 1) (fun _ => #[.int .i64 0]) 3) _) (OwnFrom.and (Own.from (block_own (b + 1 + 1) (fun _ => #[.string a0]) 9) _) (Own.from (block_own (b + 1 + 1 + 1) (fun _ => #[.int .i64 a1]) 3) _))))) (ownFrom_below (Nat.le_of_eq hb.symm) (by omega)))
        (fun c => OwnFrom.and (OwnFrom.and (ownFrom_pure _ _) (OwnFrom.and (Own.from (block_own (b + 1) (fun pre => #[.int .i64 (Pure.firstRun pre a2)]) 3) _) (ownFrom_pure _ _))) (ownFrom_below (Nat.le_of_eq hb.symm) (by omega)))
        ⟨⟨by simp, hC, hQ, hS, hM⟩, hB0⟩
        (fun x a' W => ∃ Bx, b + 1 + 1 + 1 < Bx ∧ W.heap[Bx]? = some (.cells #[.int .i64 x.f0, .int .i64 x.f1] 76 (0, 0)) ∧ a' = { tmps := #[.string a0, .int .i64 a1, .int .i64 a2, undef, undef, .pointer (some ⟨b, 0, none⟩), .pointer (some ⟨b + 1, 0, none⟩), .pointer (some ⟨Bx, 0, none⟩), .int .i64 a2, .bool false, .string a0, .int .i64 a1, .func (.func 145) #[] #[.pointer (some ⟨b + 1 + 1, 0, none⟩), .pointer (some ⟨b + 1 + 1 + 1, 0, none⟩)], .agg #[.int .i64 x.f0, .int .i64 x.f1], undef, undef, undef, undef, undef, undef], defers := [] })
        (fun x a' _ X Y row hs hg hr => by obtain ⟨Bx, h1, h2, h3⟩ := hs; exact ⟨Bx, h1, block_own Bx (fun (_ : Unit) => #[.int .i64 x.f0, .int .i64 x.f1]) 76 () X Y row h2 hg (fun r e => (hr r e).2), h3⟩)
        ?assign ?body ?done ?stop
      case assign =>
        rintro l pre x W K ⟨⟨b0, b1, b2, b3, b4⟩, hB1⟩ hK
        gi_wp2
        have h3 := (Array.getElem?_eq_some_iff.1 b4).1
        exact hK _ _ ((KeepsOthers.alloc _ _).from _) (fun k hk => by rcases hk with rfl | rfl; exact (blk_alloc b3 _).trans b3.symm; exact (blk_alloc b4 _).trans b4.symm) ⟨⟨b0, blk_alloc b1 _, blk_alloc b2 _, blk_alloc b3 _, blk_alloc b4 _⟩, hB1.alloc (by omega) _⟩ ⟨W.heap.size, h3, blk_new _ _, rfl⟩
      case body =>
        rintro l pre x a' W hl ⟨r1, hr1⟩ ⟨⟨b0, b1, b2, b3, b4⟩, hB1⟩ ⟨Bx, hBx, bX, rfl⟩ hlt
        have cN := (blk_cell b1 0).trans rfl
        have cQ := (blk_cell b2 0).trans rfl
        have fQ := blk_frozen b2 0
        have cX0 := (blk_cell bX 0).trans rfl
        have cX := (blk_cell bX 1).trans rfl
        by_cases hx : x.f1 ≥ a2
        · have hx1 : decide (a2 ≤ x.f1) = true := decide_eq_true hx
          gi_wp2
          exact ⟨(KeepsOthers.setCell _ _ _).from _, ⟨rfl, by rw [firstRun_some pre x [] a2 b0 hx]; exact (row_set0 _ _ _ _ _ _ _ b2).trans rfl, pre, x, rfl, b0, hx⟩, hB1.setCell (p := ⟨b + 1, 0, none⟩) (by simp) _⟩
        · have hx1 : decide (a2 ≤ x.f1) = false := decide_eq_false hx
          gi_wp2
          exact ⟨KeepsFrom.refl _ _, by first | exact fun k hk => rfl | exact ⟨rfl, rfl⟩, ⟨fun y hy => (List.mem_append.1 hy).elim (b0 y) (fun e => by rw [List.mem_singleton.1 e]; omega), b1, b2, b3, b4⟩, hB1⟩
      case done =>
        rintro D zs W hD rfl ⟨⟨b0, b1, b2, b3, b4⟩, hB1⟩ hK
        have cQ := (blk_cell b2 0).trans rfl
        have fQ := blk_frozen b2 0
        have h2 := (Array.getElem?_eq_some_iff.1 b4).1
        gi_wp2
        have hK' := (KeepsOthers.setCell W ⟨b + 1, 0, none⟩ (.int .i64 (-1))).same D _ hK rfl
        refine ⟨by simp, .inl ⟨_, _, rfl, run_takeDeferred hK', ?_⟩⟩
        have hc5 := cell_kept (World.cell?_setCell_same' W ⟨b + 1, 0, none⟩ (.int .i64 (-1)) (by rw [cQ]; rfl)) (grownBy_putObj' _ D (.deferred none)) (fun r e => by cases e; exact ⟨_, hK', rfl⟩)
        refine ⟨.int .i64 (-1), ?_, by rw [← hr, firstRun_none _ _ b0], ?_⟩
        · simp [results, Try.f46, go_sem, hc5]
        · (try rw [hb]); exact (hB1.setCell (p := ⟨b + 1, 0, none⟩) (by simp) _).trans (belowK_b (w := w) (Nat.le_of_eq hb.symm) _ D _ _ (by omega) hK' rfl rfl)
      case stop =>
        rintro D c pre W hD hpre ⟨⟨rfl, b2, p0, x, hp, h0, hx⟩, hB1⟩ hK
        obtain ⟨tl, htl⟩ := hpre
        have he : Pure.firstRun pre a2 = r := by
          rw [← hr, ← htl, hp, firstRun_some p0 x [] a2 h0 hx, List.append_assoc, List.singleton_append, firstRun_some p0 x tl a2 h0 hx]
        have hcr := (blk_cell b2 0).trans rfl
        gi_wp2
        refine ⟨by simp, .inl ⟨_, _, rfl, run_takeDeferred hK, ?_⟩⟩
        have hc5 := cell_kept hcr (grownBy_putObj' _ D (.deferred none)) (fun r e => by cases e; exact ⟨_, hK, rfl⟩)
        refine ⟨.int .i64 (Pure.firstRun pre a2), ?_, by rw [he], ?_⟩
        · simp [results, Try.f46, go_sem, hc5]
        · (try rw [hb]); exact hB1.trans (belowK_b (w := w) (Nat.le_of_eq hb.symm) W D _ _ (by omega) hK rfl rfl)
  · simp at h
end Go.Proofs.Ytijbfebbogiiiaa.Q
