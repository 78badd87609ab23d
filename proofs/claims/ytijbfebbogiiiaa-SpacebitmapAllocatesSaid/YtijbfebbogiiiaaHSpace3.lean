/- The contracts of slices.AppendSeq and slices.Collect over the runs, and of spacebitmap.Spans. -/
import Derived.Test.YtijbfebbogiiiaaQ0
import Derived.Test.YtijbfebbogiiiaaHSpace1
namespace Go.Proofs.Ytijbfebbogiiiaa.Q
open Go.RowKit Go.Proofs.YtijbfebbogiiiaaW.PrintWords Go.Proofs.YtijbfebbogiiiaaW.PrintLast Go.Proofs.YtijbfebbogiiiaaW.PrintMore
attribute [local go_sem] max2_int min2_int max_two min_two max_three min_three max_four min_four
set_option linter.unusedVariables false
set_option linter.unusedSimpArgs false
open Go.Shelf
attribute [local go_sem] Oper.semAt_some
def spanCells (l : List S76) : List Value := l.flatMap fun x => [.int .i64 x.f0, .int .i64 x.f1]
theorem spanCells_snoc (l : List S76) (x : S76) : spanCells (l ++ [x]) = spanCells l ++ [.int .i64 x.f0, .int .i64 x.f1] := by simp [spanCells]
theorem cell_two_new (w : World) (x y : Value) (t : TypeId) : ∀ j u, [x, y][j]? = some u → (w.alloc (.cells #[x, y] t)).cell? ((⟨w.heap.size, 0, none⟩ : Addr).add j) = some u := by
  intro j u hj
  match j, hj with
  | 0, hj =>
    simp at hj
    subst hj
    simp [Addr.add]
  | 1, hj =>
    simp at hj
    subst hj
    simp [Addr.add]
  | j + 2, hj => simp at hj
theorem reps76 (w : World) (base : Nat) (ok : Nat → Prop) (l : List S76) : Reps (k76.M w base ok) 2 l (spanCells l) := by
  induction l with
  | nil => exact Reps.none _ _
  | cons x l ih => exact Kd.reps_append ((Reps.none _ _).snoc (k76_mkM w base ok x) rfl) ih
theorem row76 {w : World} {base : Nat} {v : Value} {l : List S76} (h : w.ownsRow base 76 2 v l.length (spanCells l)) : Kd.R k76 76 w base (fun _ => True) v l := ⟨fun _ _ => trivial, spanCells l, h, reps76 _ _ _ _⟩
theorem runsAux_len (p : Nat → Bool) : ∀ r i st, (runsAux p r i st).length ≤ r + 1 := by
  intro r
  induction r with
  | zero => intro i st; cases st <;> simp [runsAux]
  | succ r ih =>
    intro i st
    cases st with
    | none => rw [runsAux]; split <;> exact Nat.le_succ_of_le (ih _ _)
    | some st => rw [runsAux]; split; exact Nat.le_succ_of_le (ih _ _); rw [List.length_cons]; exact Nat.succ_le_succ (ih _ _)
theorem runsOf_len (s : ByteArray) (m : Int) : (runsOf s m).length ≤ 4097 := by
  rw [runsOf]
  split
  · rename_i h
    have := runsAux_len (bitOf s) m.toNat 0 none
    have : m ≤ 4096 := by unfold validB at h; rw [Bool.and_eq_true, decide_eq_true_iff] at h; exact h.1.2.1
    omega
  · simp
set_option maxRecDepth 100000 in
set_option maxHeartbeats 4000000 in
theorem appendSeq_calls (n : Nat) (hn : 5 ≤ n) (B1 B2 : Nat) (s : ByteArray) (m : Int) (hs : s.size ≤ 1000000) (w : World) (l1 : B1 < w.heap.size) (l2 : B2 < w.heap.size) (h1 : w.heap[B1]? = some (.cells #[.string s] 9 (0, 0))) (h2 : w.heap[B2]? = some (.cells #[.int .i64 m] 3 (0, 0))) :
    CallsIn Fence.wide n Try.prog 159 #[.slice none 0 0, .func (.func 145) #[] #[.pointer (some ⟨B1, 0, none⟩), .pointer (some ⟨B2, 0, none⟩)]] w fun e w' => ∃ v, e = .returned v ∧ w'.ownsRow w.heap.size 76 2 v (runsOf s m).length (spanCells (runsOf s m)) ∧ Below w.heap.size w w' := by
  have hlen := runsOf_len s m
  obtain ⟨i0, hi, hz0, hz1, hz2⟩ := info_parts info76
  have h159 : Fence.wide.fn 159 := trivial
  have h145 : Fence.wide.fn 145 := trivial
  have hn1 : 1 ≤ n := by omega
  refine callsIn_of_wp_marks Try.func159 rfl trivial ?_ rfl
  simp only [Try.ntmps159, List.size_toArray, List.length_cons, List.length_nil, Nat.reduceAdd, Nat.reduceSub, Array.replicate_succ, Array.replicate_zero, List.push_toArray, List.append_toArray, List.nil_append, List.cons_append]
  gi_wp2
  have bO := Boxed.new w 70 (.slice none 0 0)
  have hB0 : Below w.heap.size w (w.alloc (.cells #[.slice none 0 0] 70)) := below_alloc (Below.refl _ _) _
  have H1 := blk_alloc h1 (.cells #[.slice none 0 0] 70)
  have H2 := blk_alloc h2 (.cells #[.slice none 0 0] 70)
  have hsz : (w.alloc (.cells #[.slice none 0 0] 70)).heap.size = w.heap.size + 1 := by simp
  obtain ⟨W0, hW0⟩ : ∃ W0, w.alloc (.cells #[.slice none 0 0] 70) = W0 := ⟨_, rfl⟩
  rw [hW0] at bO hB0 H1 H2 hsz ⊢
  clear hW0
  obtain ⟨b, hb⟩ : ∃ b, w.heap.size = b := ⟨_, rfl⟩
  rw [hb] at bO hB0 hsz l1 l2 ⊢
  refine wpIn_rangeFunc_ownH rfl hn1 (gf := 145) (lb := #[.pointer (some ⟨B1, 0, none⟩), .pointer (some ⟨B2, 0, none⟩)]) rfl h145 (enters_of Try.func145 (by kernel_rfl) rfl)
    (runs1_stops (n - 1) (by omega) B1 B2 s m (by omega) W0 (by omega) (by omega) H1 H2) (fun h1 h2 k hk => (h2 k hk).trans (h1 k hk)) (fun W l o o' hl ho hc hw k hk => set_obj _ _ _ _ (by omega)) (Below.refl _ _) (fun _ => rfl)
    (fun pre W => (∃ v, Boxed W b 70 v ∧ W.ownsRow b 76 2 v pre.length (spanCells pre) ∧ True) ∧ Below b w W)
    (fun _ _ _ => False)
    (OwnFrom.and (Own.from (holdsRow_own b b 70 76 2 (fun pre : List S76 => pre.length) (fun pre => spanCells pre) (fun _ _ => True)) _) (ownFrom_below (Nat.le_of_eq hb.symm) (by omega)))
    (fun _ _ _ _ _ hs _ _ => hs)
    ⟨⟨_, bO, World.ownsRow_nil _ _ _ _, trivial⟩, hB0⟩
    (fun x a' W => ∃ Bx, b < Bx ∧ W.heap[Bx]? = some (.cells #[.int .i64 x.f0, .int .i64 x.f1] 76 (0, 0)) ∧ a' = { tmps := #[.slice none 0 0, .func (.func 145) #[] #[.pointer (some ⟨B1, 0, none⟩), .pointer (some ⟨B2, 0, none⟩)], .pointer (some ⟨b, 0, none⟩), undef, .slice none 0 0, .pointer (some ⟨Bx, 0, none⟩), .func (.func 145) #[] #[.pointer (some ⟨B1, 0, none⟩), .pointer (some ⟨B2, 0, none⟩)], .agg #[.int .i64 x.f0, .int .i64 x.f1], undef, undef, undef, undef, undef], defers := [] })
    (fun x a' _ X Y row hs hg hr => by obtain ⟨Bx, h1, h2, h3⟩ := hs; exact ⟨Bx, h1, block_own Bx (fun (_ : Unit) => #[.int .i64 x.f0, .int .i64 x.f1]) 76 () X Y row h2 hg (fun r e => (hr r e).2), h3⟩)
    ?assign ?body ?done ?stop
  case assign =>
    rintro l pre x W K ⟨⟨v, hv, hrow, _⟩, hB1⟩ hK
    gi_wp2
    have hs1 := hB1.size
    exact hK _ _ ((KeepsOthers.alloc _ _).from _) (fun k hk => Below.heap_alloc _ _ k (by omega)) ⟨⟨v, hv.alloc _, hrow.alloc _, trivial⟩, hB1.alloc (by omega) _⟩ ⟨W.heap.size, hv.lt, blk_new _ _, rfl⟩
  case body =>
    rintro l pre x a' W hl ⟨r1, hr1⟩ ⟨⟨v, hv, hrow, _⟩, hB1⟩ ⟨Bx, hBx, bX, rfl⟩ hlt
    have hc := hv.cell
    have hs1 := hB1.size
    have cX0 := (blk_cell bX 0).trans rfl
    have cX := (blk_cell bX 1).trans rfl
    gi_wp2_with (gi_at_builtin; refine wpListIn_append_own _ rfl _ _ 70 rfl b 76 i0 (.agg #[(.int .i64 0), (.int .i64 0)]) 2 16 Try.underlying70 hi hz0 hz1 hz2 rfl (by decide) _ _ _ rfl (hrow.alloc _) ⟨W.heap.size, 0, none⟩ 1 1 [.int .i64 x.f0, .int .i64 x.f1] rfl rfl (cell_two_new _ _ _ _) (by simp [Value.oneCell']) (Nat.le_trans (show pre.length + 1 ≤ 5000 by omega) (by decide)) (by omega) (by simp; omega) ?_; intro v' w1 hown' hgrow _; obtain ⟨g', cap', rfl⟩ := ownsRow_succ hown'; obtain ⟨hv1, hv2, hr2, hk2, hb2⟩ := hv.appended (by decide) hrow (by omega) (Nat.le_refl _) hown' hgrow; have hc1 := hv1.cell; have hf1 := hv1.frozen)
    exact ⟨hk2.from _, fun k hk => hb2.block k (by omega), ⟨_, hv2, by rw [spanCells_snoc]; simpa using hr2, trivial⟩, hB1.trans hb2⟩
  case done =>
    rintro D ys W hD rfl ⟨⟨v, hv, hrow, _⟩, hB⟩ hK
    have hc := hv.cell
    gi_wp2
    refine ⟨by simp, .inl ⟨_, _, rfl, run_takeDeferred hK, ?_⟩⟩
    exact ⟨_, results_tmp rfl _ _ _, v, rfl, by (try rw [hb]); exact ownsRow_putObj hrow _ hK rfl, by (try rw [hb]); exact hB.trans (belowK_b (w := w) (Nat.le_of_eq hb.symm) W D _ _ (by omega) hK rfl rfl)⟩
  case stop =>
    rintro D c pre W _ _ h _
    exact h.elim
set_option maxRecDepth 100000 in
set_option maxHeartbeats 4000000 in
theorem collect_calls (n : Nat) (hn : 6 ≤ n) (B1 B2 : Nat) (s : ByteArray) (m : Int) (hs : s.size ≤ 1000000) (w : World) (l1 : B1 < w.heap.size) (l2 : B2 < w.heap.size) (h1 : w.heap[B1]? = some (.cells #[.string s] 9 (0, 0))) (h2 : w.heap[B2]? = some (.cells #[.int .i64 m] 3 (0, 0))) :
    CallsIn Fence.wide n Try.prog 138 #[.func (.func 145) #[] #[.pointer (some ⟨B1, 0, none⟩), .pointer (some ⟨B2, 0, none⟩)]] w fun e w' => ∃ v, e = .returned v ∧ w'.ownsRow w.heap.size 76 2 v (runsOf s m).length (spanCells (runsOf s m)) ∧ Below w.heap.size w w' := by
  have h159 : Fence.wide.fn 159 := trivial
  have hn1 : 1 ≤ n := by omega
  refine callsIn_of_wp Try.func138 rfl trivial ?_ rfl
  simp only [Try.ntmps138, List.size_toArray, List.length_cons, List.length_nil, Nat.reduceAdd, Nat.reduceSub, Array.replicate_succ, Array.replicate_zero, List.push_toArray, List.append_toArray, List.nil_append, List.cons_append]
  gi_wp2_with (gi_at_call 159; (with_reducible refine (appendSeq_calls (n - 1) (by omega) B1 B2 s m hs _ l1 l2 h1 h2).mono ?_); rintro e w' ⟨v, rfl, hrow, hB⟩)
  go_ret
  exact ⟨v, rfl, hrow, hB⟩
def spacebitmap_Spans.f (a0 : ByteArray) (a1 : Int) : Option (List S76) := if a0.size ≤ 1000000 then some (runsOf a0 a1) else none
set_option maxRecDepth 100000 in
set_option maxHeartbeats 4000000 in
theorem spacebitmap_Spans.calls (a0 : ByteArray) (a1 : Int) (r : List S76) (w : World) (h : spacebitmap_Spans.f a0 a1 = some r) :
    Calls Try.prog 82 #[.string a0, .int .i64 a1] w fun e w' => ∃ v0_ : Value, e = .returned (v0_) ∧ Kd.R k76 76 w' w.heap.size (fun _ => True) v0_ r ∧ Below w.heap.size w w' := by
  unfold spacebitmap_Spans.f at h
  split at h
  · rename_i hs
    obtain rfl := Option.some.inj h
    refine (callsIn_wide (n := 9)).1 ?_
    have h113 : Fence.wide.fn 113 := trivial
    have h138 : Fence.wide.fn 138 := trivial
    have hn1 : 1 ≤ 9 := by omega
    refine callsIn_of_wp Try.func82 rfl trivial ?_ rfl
    simp only [Try.ntmps82, List.size_toArray, List.length_cons, List.length_nil, Nat.reduceAdd, Nat.reduceSub, Array.replicate_succ, Array.replicate_zero, List.push_toArray, List.append_toArray, List.nil_append, List.cons_append]
    have hS := blk_alloc (blk_new w (.cells #[.string a0] 9)) (.cells #[.int .i64 a1] 3)
    have hM := blk_new (w.alloc (.cells #[.string a0] 9)) (.cells #[.int .i64 a1] 3)
    simp only [World.size_alloc] at hM
    have hB0 : Below w.heap.size w ((w.alloc (.cells #[.string a0] 9)).alloc (.cells #[.int .i64 a1] 3)) := below_alloc (below_alloc (Below.refl _ _) _) _
    have hsz : ((w.alloc (.cells #[.string a0] 9)).alloc (.cells #[.int .i64 a1] 3)).heap.size = w.heap.size + 2 := by simp
    have HC := collect_calls 8 (by omega) w.heap.size (w.heap.size + 1) a0 a1 hs _ (by omega) (by omega) hS hM
    gi_wp2_with (first
      | (gi_at_call 113; (with_reducible refine (callsIn_wide.2 (runs_calls a0 a1 _)).mono ?_); rintro e w' ⟨rfl, rfl⟩)
      | (gi_at_call 138; (with_reducible refine HC.mono ?_); rintro e w' ⟨v, rfl, hrow, hB⟩))
    go_ret
    exact ⟨v, rfl, row76 (own_less hrow (by omega)), below_then hB0 (by omega) hB⟩
  · simp at h
end Go.Proofs.Ytijbfebbogiiiaa.Q
