/- Free and Spans of the second way compute what the program's do; equal lists of spans are found equal. -/
import Derived.Test.YtijbfebbogiiiaaPMark
import Derived.Test.YtijbfebbogiiiaaHSpace3
import Derived.Test.YtijbfebbogiiiaaQ26
namespace Go.Proofs.Ytijbfebbogiiiaa.Pure
open Go Go.RowKit Go.Proofs.Ytijbfebbogiiiaa.Q Go.Proofs.YtijbfebbogiiiaaW.PrintWords Go.Proofs.YtijbfebbogiiiaaW.PrintLast Go.Proofs.YtijbfebbogiiiaaW.PrintMore
set_option linter.unusedVariables false
set_option linter.unusedSimpArgs false
theorem SpEqual_l0 (l : List S76) (hl : l.length ≤ 1000000) : ∀ (m j : Nat), j + m = l.length → Ev (fun k => api_Span_81.l0 k l l (l.length : Int) (j : Int)) true := by
  intro m
  induction m with
  | zero =>
    intro j hj
    exact Ev.step (fun k => by rw [api_Span_81.l0, if_neg (by omega)]) (Ev.now _)
  | succ m ih =>
    intro j hj
    have := ih (j + 1) (by omega)
    refine Ev.step (fun k => by rw [api_Span_81.l0, if_pos (by omega), if_pos (by omega), if_pos (by omega), if_pos (by omega), w64 ((j : Int) + 1) (by omega), show (j : Int) + 1 = ((j + 1 : Nat) : Int) by omega]) ?_
    exact Ev.iteF (by simp) this
/-- A list of spans is equal to itself. -/
theorem SpEqual_ev (l : List S76) (hl : l.length ≤ 1000000) : Ev (fun k => api_Span_81.f k l l) true := by
  refine Ev.congr (fun k => by rw [api_Span_81.f, if_pos rfl]) ?_
  exact SpEqual_l0 l hl l.length 0 (by omega)
theorem cnt_split (p : Nat → Bool) : ∀ (r d i : Nat), cnt p (r + d) i = cnt p r i + cnt p d (i + r) := by
  intro r
  induction r with
  | zero => intro d i; rw [Nat.zero_add, cnt, Nat.zero_add, Nat.add_zero]
  | succ r ih => intro d i; rw [show r + 1 + d = (r + d) + 1 by omega, cnt, cnt, ih, show i + 1 + r = i + (r + 1) by omega]; omega
theorem cnt_none (p : Nat → Bool) : ∀ (r i : Nat), (∀ t, i ≤ t → t < i + r → p t = false) → cnt p r i = 0 := by
  intro r
  induction r with
  | zero => intro i _; rfl
  | succ r ih => intro i h; rw [cnt, h i (by omega) (by omega), ih (i + 1) (fun t h1 h2 => h t (by omega) (by omega))]; rfl
theorem Freeref_l0 (p : Nat → Bool) (M : Nat) (hM : M ≤ 10000000) : ∀ (m i : Nat) (a : Nat), i + m = M → a ≤ i →
    Ev (fun k => masterdiscref41_Free.l0 k (a : Int) ((List.range M).map p) (i : Int)) ((a + cnt p m i : Nat) : Int) := by
  intro m
  induction m with
  | zero =>
    intro i a hi ha
    rw [cnt, Nat.add_zero]
    exact Ev.step (fun k => by rw [masterdiscref41_Free.l0, if_neg (by simp; omega)]) (Ev.now _)
  | succ m ih =>
    intro i a hi ha
    refine Ev.step (fun k => by rw [masterdiscref41_Free.l0, if_pos (by simp; omega), if_pos (by omega), rd_range _ _ _ (by omega), w64 _ (by omega), w64 _ (by omega), show (i : Int) + 1 = ((i + 1 : Nat) : Int) by omega, show (a : Int) + 1 = ((a + 1 : Nat) : Int) by omega]) ?_
    rw [cnt]
    by_cases c : p i = true
    · refine Ev.iteT c ?_
      rw [if_pos c, show a + (1 + cnt p m (i + 1)) = (a + 1) + cnt p m (i + 1) by omega]
      exact ih (i + 1) (a + 1) (by omega) (by omega)
    · refine Ev.iteF c ?_
      rw [if_neg c, Nat.zero_add]
      exact ih (i + 1) a (by omega) (by omega)
theorem free_cnt (s : ByteArray) (N : Nat) (hv : validB s (N : Int) = true) : countOf (runsOf s (N : Int)) = (cnt (bitOf s) N 0 : Nat) := by
  rw [runsOf, if_pos hv, (countOf_runs (bitOf s) (N : Int).toNat 0).1, Int.toNat_natCast]
theorem cnt_bits (s : ByteArray) (N : Nat) (hv : validB s (N : Int) = true) : cnt (bitOf s) (8 * s.size) 0 = cnt (bitOf s) N 0 := by
  obtain ⟨h0, h1, h2, h3, h4⟩ := valid_bd hv
  rw [show 8 * s.size = N + (8 * s.size - N) by omega, cnt_split, cnt_none _ _ (0 + N) (fun t ht1 ht2 => ((validB_iff s N).1 hv).2 t (by omega) (by omega)), Nat.add_zero]
theorem Freeref_ev (s : ByteArray) (n : Int) (hs : s.size ≤ 1000000) : Ev (fun k => masterdiscref41_Free.f k s n) (countOf (runsOf s n)) := by
  unfold masterdiscref41_Free.f
  refine Ev.bind (Valid_ev s n hs) ?_
  by_cases hv : validB s n = true
  · obtain ⟨h0, h1, h2, h3, h4⟩ := valid_bd hv
    obtain ⟨N, rfl⟩ : ∃ N : Nat, n = N := ⟨n.toNat, by omega⟩
    refine Ev.iteT hv (Ev.bind (bits_ev s hs) ?_)
    have h := Freeref_l0 (bitOf s) (8 * s.size) (by omega) (8 * s.size) 0 0 (by omega) (by omega)
    rw [Nat.zero_add, cnt_bits s N hv] at h
    rw [free_cnt s N hv]
    exact h
  · refine Ev.iteF hv ?_
    rw [runsOf, if_neg hv]
    exact Ev.now _
theorem add_snoc (t : List S76) (x : S76) (b : Int) (ht : t.length ≤ 100000) (h0 : 0 ≤ x.f0) (h1 : 0 ≤ x.f1) (h2 : x.f0 + x.f1 ≤ 1000000) : masterdiscref41_add.f (t ++ [x]) b = some (addS (t ++ [x]) b) := by
  have hl : (t ++ [x]).length = t.length + 1 := by simp
  have e1 : wrap64 (((t ++ [x]).length : Int) - 1) = (t.length : Int) := by rw [hl, w64 _ (by omega)]; omega
  have e2 : rd_T76 (t ++ [x]) (t.length : Int) = x := by rw [rd76 _ _ (by omega)]; simp
  have e3 : addS (t ++ [x]) b = if x.f0 + x.f1 = b then t ++ [⟨x.f0, x.f1 + 1⟩] else (t ++ [x]) ++ [⟨b, 1⟩] := by
    unfold addS
    rw [List.getLast?_concat]
    simp only [List.dropLast_concat]
  rw [masterdiscref41_add.f, if_pos (by omega), e1, if_pos (by omega), if_pos (by omega), e2, e3, w64 (x.f0 + x.f1) (by omega), w64 (x.f1 + 1) (by omega), Int.toNat_natCast]
  by_cases c : x.f0 + x.f1 = b
  · rw [if_pos c, if_pos c, List.set_append_right _ _ (by omega), Nat.sub_self]
    rfl
  · rw [if_neg c, if_neg c, if_pos (by omega)]
/-- Spans that lie below a block. -/
def belowS (l : List S76) (i : Nat) : Prop := l.length ≤ i ∧ ∀ x ∈ l, 0 ≤ x.f0 ∧ 0 ≤ x.f1 ∧ x.f0 + x.f1 ≤ i
theorem belowS_mono {l : List S76} {i j : Nat} (h : belowS l i) (hij : i ≤ j) : belowS l j := ⟨by have := h.1; omega, fun x hx => by have := h.2 x hx; omega⟩
theorem add_f (l : List S76) (i : Nat) (h : belowS l i) (hi : i ≤ 10000) : masterdiscref41_add.f l (i : Int) = some (addS l (i : Int)) := by
  rcases List.eq_nil_or_concat l with rfl | ⟨t, x, rfl⟩
  · rw [masterdiscref41_add.f, if_neg (by simp), if_pos (by simp)]
    rfl
  · rw [List.concat_eq_append] at h ⊢
    have h1 := h.2 x (by simp)
    have h2 := h.1
    rw [List.length_append, List.length_singleton] at h2
    exact add_snoc t x i (by omega) h1.1 h1.2.1 (by omega)
theorem belowS_add {l : List S76} {i : Nat} (h : belowS l i) : belowS (addS l (i : Int)) (i + 1) := by
  rcases List.eq_nil_or_concat l with rfl | ⟨t, x, rfl⟩
  · show belowS [⟨(i : Int), 1⟩] (i + 1)
    refine ⟨by simp, fun x hx => ?_⟩
    rw [List.mem_singleton.1 hx]
    exact ⟨by simp, by simp, by simp⟩
  · rw [List.concat_eq_append] at h ⊢
    have h1 := h.2 x (by simp)
    have h2 := h.1
    rw [List.length_append, List.length_singleton] at h2
    unfold addS
    rw [List.getLast?_concat]
    simp only [List.dropLast_concat]
    split
    · refine ⟨by simp; omega, fun y hy => ?_⟩
      rcases List.mem_append.1 hy with hy | hy
      · have := h.2 y (by simp [hy]); omega
      · rw [List.mem_singleton.1 hy]; exact ⟨h1.1, by show 0 ≤ x.f1 + 1; omega, by show x.f0 + (x.f1 + 1) ≤ _; omega⟩
    · refine ⟨by simp; omega, fun y hy => ?_⟩
      rcases List.mem_append.1 hy with hy | hy
      · have := h.2 y hy; omega
      · rw [List.mem_singleton.1 hy]; exact ⟨by simp, by simp, by simp⟩
theorem Spansref_l0 (p : Nat → Bool) (M N : Nat) (hM : N ≤ M) (hN : N ≤ 4096) : ∀ (m i : Nat) (c : Int) (acc : List S76), i + m = N → (m : Int) ≤ c → belowS acc i →
    Ev (fun k => masterdiscref41_Spans.l0 k (N : Int) acc ((List.range M).map p) (i : Int)) (takeRef p m i c acc) := by
  intro m
  induction m with
  | zero =>
    intro i c acc hi hc ha
    rw [takeRef]
    exact Ev.step (fun k => by rw [masterdiscref41_Spans.l0, if_neg (by omega)]) (Ev.now _)
  | succ m ih =>
    intro i c acc hi hc ha
    refine Ev.step (fun k => by rw [masterdiscref41_Spans.l0, if_pos (by omega), if_pos (by omega), if_pos (by simp; omega), rd_range _ _ _ (by omega), add_f acc i ha (by omega), Option.bind_some, w64 _ (by omega), show (i : Int) + 1 = ((i + 1 : Nat) : Int) by omega]) ?_
    rw [takeRef, if_neg (by omega)]
    by_cases c1 : p i = true
    · rw [if_pos c1]
      exact Ev.iteT c1 (ih (i + 1) (c - 1) _ (by omega) (by omega) (belowS_add ha))
    · rw [if_neg c1]
      exact Ev.iteF c1 (ih (i + 1) c acc (by omega) (by omega) (belowS_mono ha (by omega)))
theorem runs_pos (p : Nat → Bool) : ∀ r i st, (∀ s, st = some s → s < i) → ∀ x ∈ runsAux p r i st, 0 < x.f1 := by
  intro r
  induction r with
  | zero =>
    intro i st hs x hx
    cases st with
    | none => simp [runsAux] at hx
    | some st => have := hs st rfl; simp only [runsAux, List.mem_singleton] at hx; rw [hx]; show (0 : Int) < ((i - st : Nat) : Int); omega
  | succ r ih =>
    intro i st hs x hx
    cases st with
    | none =>
      rw [runsAux] at hx
      split at hx
      · exact ih _ _ (by intro s e; cases e; omega) x hx
      · exact ih _ _ (by intro s e; cases e) x hx
    | some st =>
      have h0 := hs st rfl
      rw [runsAux] at hx
      split at hx
      · exact ih _ _ (by intro s e; cases e; omega) x hx
      · rcases List.mem_cons.1 hx with e | hx
        · rw [e]; show (0 : Int) < ((i - st : Nat) : Int); omega
        · exact ih _ _ (by intro s e; cases e) x hx
theorem count_nonneg : ∀ l : List S76, (∀ x ∈ l, 0 < x.f1) → 0 ≤ countOf l := by
  intro l
  induction l with
  | nil => intro _; simp [countOf]
  | cons x l ih => intro h; rw [countOf_cons]; have := h x (List.mem_cons_self ..); have := ih (fun y hy => h y (List.mem_cons_of_mem _ hy)); omega
theorem takeRuns_all : ∀ (l : List S76) (c : Int), (∀ x ∈ l, 0 < x.f1) → countOf l ≤ c → takeRuns l c = l := by
  intro l
  induction l with
  | nil => intro c _ _; rfl
  | cons x l ih =>
    intro c h hc
    have h1 := h x (List.mem_cons_self ..)
    have h2 := count_nonneg l (fun y hy => h y (List.mem_cons_of_mem _ hy))
    rw [countOf_cons] at hc
    have e : (if c < x.f1 then c else x.f1) = x.f1 := if_neg (by omega)
    rw [takeRuns, if_neg (by omega), e, ih _ (fun y hy => h y (List.mem_cons_of_mem _ hy)) (by omega)]
/-- Block by block as many as there are: the runs. -/
theorem takeRef_all (p : Nat → Bool) (N : Nat) : takeRef p N 0 (N : Int) [] = runsAux p N 0 none := by
  have h1 := (takeRef_eq p N 0 (N : Int) [] (by omega)).1 (fun x hx => by simp at hx)
  have h2 := (countOf_runs p N 0).1
  have h3 := cnt_le p N 0
  rw [h1, List.nil_append, takeRuns_all _ _ (runs_pos p N 0 none (by intro s e; cases e)) (by omega)]
theorem Spansref_ev (s : ByteArray) (n : Int) (hs : s.size ≤ 1000000) : Ev (fun k => masterdiscref41_Spans.f k s n) (runsOf s n) := by
  unfold masterdiscref41_Spans.f
  refine Ev.bind (Valid_ev s n hs) ?_
  by_cases hv : validB s n = true
  · obtain ⟨h0, h1, h2, h3, h4⟩ := valid_bd hv
    obtain ⟨N, rfl⟩ : ∃ N : Nat, n = N := ⟨n.toNat, by omega⟩
    refine Ev.iteT hv (Ev.bind (bits_ev s hs) ?_)
    have h := Spansref_l0 (bitOf s) (8 * s.size) N (by omega) (by omega) N 0 (N : Int) [] (by omega) (Int.le_refl _) ⟨by simp, by simp⟩
    rw [takeRef_all] at h
    rw [runsOf, if_pos hv, Int.toNat_natCast]
    exact h
  · refine Ev.iteF hv ?_
    rw [runsOf, if_neg hv]
    exact Ev.now _
end Go.Proofs.Ytijbfebbogiiiaa.Pure
