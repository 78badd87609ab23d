/- Extents in plain words: joining, cutting, finding a block. -/
import Derived.Test.YtijbfebbogiiiaaQ0
namespace Go.Proofs.Ytijbfebbogiiiaa.Pure
open Go.Proofs.Ytijbfebbogiiiaa.Q
set_option linter.unusedVariables false
theorem rd46 (l : List S46) (j : Nat) (h : j < l.length) : rd_T46 l (j : Int) = l[j] := by simp [rd_T46, h]
def blk (n : Int) : Int := (n + 2047) / 2048
def longest : Int := 1073739776
def joinsB (a b : S46) : Bool := decide (a.f0 = b.f0 ∧ a.f1 % 2048 = 0 ∧ a.f2.f0 + a.f1 / 2048 = b.f2.f0 ∧ a.f2.f1 = b.f2.f1 ∧ a.f1 + b.f1 ≤ longest)
theorem joinsB_iff (a b : S46) : joinsB a b = true ↔ (a.f0 = b.f0 ∧ a.f1 % 2048 = 0 ∧ a.f2.f0 + a.f1 / 2048 = b.f2.f0 ∧ a.f2.f1 = b.f2.f1 ∧ a.f1 + b.f1 ≤ 1073739776) := by
  unfold joinsB longest; rw [decide_eq_true_iff]
/-- The last one stands first. -/
def jr : List S46 → S46 → List S46
  | [], x => [x]
  | a :: t, x => if joinsB a x = true then ⟨a.f0, a.f1 + x.f1, a.f2⟩ :: t else x :: a :: t
def joinL (l : List S46) : List S46 := (l.foldl jr []).reverse
def lenS : List S46 → Int
  | [] => 0
  | x :: l => x.f1 + lenS l
theorem lenS_append (a b : List S46) : lenS (a ++ b) = lenS a + lenS b := by
  induction a with
  | nil => simp [lenS]
  | cons x a ih => simp only [List.cons_append, lenS, ih]; omega
theorem lenS_reverse (a : List S46) : lenS a.reverse = lenS a := by
  induction a with
  | nil => rfl
  | cons x a ih => simp only [List.reverse_cons, lenS_append, lenS, ih]; omega
def blkS : List S46 → Int
  | [] => 0
  | x :: l => (if x.f0 = 0 then blk x.f1 else 0) + blkS l
theorem blkS_append (a b : List S46) : blkS (a ++ b) = blkS a + blkS b := by
  induction a with
  | nil => simp [blkS]
  | cons x a ih => simp only [List.cons_append, blkS, ih]; omega
theorem blkS_reverse (a : List S46) : blkS a.reverse = blkS a := by
  induction a with
  | nil => rfl
  | cons x a ih => simp only [List.reverse_cons, blkS_append, blkS, ih]; omega
theorem lenS_jr (o : List S46) (x : S46) : lenS (jr o x) = lenS o + x.f1 := by
  cases o with
  | nil => simp [jr, lenS]
  | cons a t => rw [jr]; split <;> simp only [lenS] <;> omega
theorem lenS_fold (l : List S46) : ∀ o, lenS (l.foldl jr o) = lenS o + lenS l := by
  induction l with
  | nil => intro o; simp [lenS]
  | cons x l ih => intro o; rw [List.foldl_cons, ih, lenS_jr, lenS]; omega
theorem blkS_jr (o : List S46) (x : S46) : blkS (jr o x) = blkS o + (if x.f0 = 0 then blk x.f1 else 0) := by
  cases o with
  | nil => simp [jr, blkS]
  | cons a t =>
    rw [jr]; split
    · rename_i h
      rw [joinsB_iff] at h
      obtain ⟨h1, h2, h3, h4, h5⟩ := h
      simp only [blkS, ← h1]
      unfold blk
      split <;> omega
    · simp only [blkS]; omega
theorem blkS_fold (l : List S46) : ∀ o, blkS (l.foldl jr o) = blkS o + blkS l := by
  induction l with
  | nil => intro o; simp [blkS]
  | cons x l ih => intro o; rw [List.foldl_cons, ih, blkS_jr, blkS]; omega
theorem length_jr (o : List S46) (x : S46) : (jr o x).length ≤ o.length + 1 := by
  cases o with
  | nil => simp [jr]
  | cons a t => rw [jr]; split <;> simp
theorem length_fold (l : List S46) : ∀ o, (l.foldl jr o).length ≤ o.length + l.length := by
  induction l with
  | nil => intro o; simp
  | cons x l ih => intro o; rw [List.foldl_cons]; have := ih (jr o x); have := length_jr o x; simp only [List.length_cons]; omega
/-- A property of single extents that joining keeps. -/
theorem all_fold (P : S46 → Prop) (hP : ∀ a b, P a → P b → joinsB a b = true → P ⟨a.f0, a.f1 + b.f1, a.f2⟩) (l : List S46) :
    ∀ o, (∀ x ∈ o, P x) → (∀ x ∈ l, P x) → ∀ x ∈ l.foldl jr o, P x := by
  induction l with
  | nil => intro o ho _; exact ho
  | cons y l ih =>
    intro o ho hl
    rw [List.foldl_cons]
    refine ih _ ?_ (fun x hx => hl x (List.mem_cons_of_mem _ hx))
    have hy := hl y (List.mem_cons_self ..)
    intro x hx
    cases o with
    | nil => simp only [jr, List.mem_singleton] at hx; rw [hx]; exact hy
    | cons a t =>
      rw [jr] at hx
      split at hx
      · rename_i hj
        rcases List.mem_cons.1 hx with e | hx
        · rw [e]; exact hP a y (ho a (List.mem_cons_self ..)) hy hj
        · exact ho x (List.mem_cons_of_mem _ hx)
      · rcases List.mem_cons.1 hx with e | hx
        · rw [e]; exact hy
        · exact ho x hx
/-- An extent within its ranges. -/
structure Ok (x : S46) : Prop where
  k : 0 ≤ x.f0 ∧ x.f0 ≤ 3
  n : 1 ≤ x.f1 ∧ x.f1 < 1073741824
  b : 0 ≤ x.f2.f0 ∧ x.f2.f0 < 4294967296
  p : 0 ≤ x.f2.f1 ∧ x.f2.f1 ≤ 65535
theorem Ok.join (a b : S46) (ha : Ok a) (hb : Ok b) (h : joinsB a b = true) : Ok ⟨a.f0, a.f1 + b.f1, a.f2⟩ := by
  rw [joinsB_iff] at h
  have := ha.n; have := hb.n
  exact ⟨ha.k, ⟨by show 1 ≤ a.f1 + b.f1; omega, by show a.f1 + b.f1 < _; omega⟩, ha.b, ha.p⟩
structure Fine (x : S46) : Prop where
  k : x.f0 ≠ 3
  b : x.f2.f0 + blk x.f1 ≤ 4294967296
theorem Fine.join (a b : S46) (ha : Fine a) (hb : Fine b) (h : joinsB a b = true) : Fine ⟨a.f0, a.f1 + b.f1, a.f2⟩ := by
  rw [joinsB_iff] at h
  obtain ⟨h1, h2, h3, h4, h5⟩ := h
  refine ⟨ha.k, ?_⟩
  have := hb.b
  unfold blk at *
  show a.f2.f0 + (a.f1 + b.f1 + 2047) / 2048 ≤ _
  omega
/-- All but the last one are whole blocks. -/
def whole : List S46 → Prop
  | [] => True
  | [_] => True
  | x :: y :: l => x.f1 % 2048 = 0 ∧ whole (y :: l)
theorem whole_cons (x : S46) (l : List S46) (h : whole (x :: l)) : whole l ∧ (l ≠ [] → x.f1 % 2048 = 0) := by
  cases l with
  | nil => exact ⟨trivial, fun h => absurd rfl h⟩
  | cons y l => exact ⟨h.2, fun _ => h.1⟩
theorem whole_snoc (l : List S46) (x : S46) : whole (l ++ [x]) ↔ ∀ y ∈ l, y.f1 % 2048 = 0 := by
  induction l with
  | nil => simp [whole]
  | cons y l ih =>
    cases l with
    | nil => simp [whole]
    | cons z l =>
      show (y.f1 % 2048 = 0 ∧ whole ((z :: l) ++ [x])) ↔ _
      rw [ih]
      simp
theorem whole_fold (l : List S46) : ∀ o, (∀ x ∈ o, x.f1 % 2048 = 0) → whole l → whole (l.foldl jr o).reverse := by
  induction l with
  | nil =>
    intro o ho _
    cases o with
    | nil => trivial
    | cons a t => rw [List.foldl_nil, List.reverse_cons, whole_snoc]; intro y hy; exact ho y (List.mem_cons_of_mem _ (List.mem_reverse.1 hy))
  | cons x l ih =>
    intro o ho hl
    rw [List.foldl_cons]
    have h2 := whole_cons x l hl
    by_cases hn : l = []
    · rw [hn, List.foldl_nil]
      cases o with
      | nil => simp [jr, whole]
      | cons a t =>
        rw [jr]
        split
        · rw [List.reverse_cons, whole_snoc]; intro y hy; exact ho y (List.mem_cons_of_mem _ (List.mem_reverse.1 hy))
        · rw [List.reverse_cons, whole_snoc]; intro y hy; exact ho y (List.mem_reverse.1 hy)
    · refine ih _ ?_ h2.1
      have hx := h2.2 hn
      intro y hy
      cases o with
      | nil => simp only [jr, List.mem_singleton] at hy; rw [hy]; exact hx
      | cons a t =>
        rw [jr] at hy
        split at hy
        · rcases List.mem_cons.1 hy with e | hy
          · rw [e]; have := ho a (List.mem_cons_self ..); show (a.f1 + x.f1) % 2048 = 0; omega
          · exact ho y (List.mem_cons_of_mem _ hy)
        · rcases List.mem_cons.1 hy with e | hy
          · rw [e]; exact hx
          · exact ho y hy
/-- No two neighbours can be joined; the last one stands first. -/
def apart : List S46 → Prop
  | [] => True
  | [_] => True
  | v :: u :: t => joinsB u v = false ∧ apart (u :: t)
theorem apart_jr (o : List S46) (x : S46) (hx : 0 ≤ x.f1) (h : apart o) : apart (jr o x) := by
  cases o with
  | nil => trivial
  | cons u t =>
    rw [jr]
    split
    · cases t with
      | nil => trivial
      | cons w t =>
        refine ⟨?_, h.2⟩
        have h1 := h.1
        rw [← Bool.not_eq_true, joinsB_iff] at h1 ⊢
        intro hj
        refine h1 ⟨hj.1, hj.2.1, hj.2.2.1, hj.2.2.2.1, ?_⟩
        have := hj.2.2.2.2
        simp only at this
        omega
    · rename_i hj
      exact ⟨by simpa using hj, h⟩
theorem apart_fold (l : List S46) : ∀ o, (∀ x ∈ l, 0 ≤ x.f1) → apart o → apart (l.foldl jr o) := by
  induction l with
  | nil => intro o _ h; exact h
  | cons x l ih => intro o hl h; rw [List.foldl_cons]; exact ih _ (fun y hy => hl y (List.mem_cons_of_mem _ hy)) (apart_jr o x (hl x (List.mem_cons_self ..)) h)
theorem apart_tail (a : S46) (l : List S46) (h : apart (a :: l)) : apart l := by
  cases l with
  | nil => trivial
  | cons b l => exact h.2
theorem fold_apart (l : List S46) (h : apart l) : l.reverse.foldl jr [] = l := by
  induction l with
  | nil => rfl
  | cons v t ih =>
    rw [List.reverse_cons, List.foldl_append, ih (apart_tail v t h)]
    cases t with
    | nil => rfl
    | cons u t =>
      show jr (u :: t) v = _
      rw [jr, if_neg (by rw [h.1]; simp)]
theorem join_join (l : List S46) (hl : ∀ x ∈ l, 0 ≤ x.f1) : joinL (joinL l) = joinL l := by
  unfold joinL
  rw [fold_apart _ (apart_fold l [] hl trivial)]
/-- An extent in two parts at a block boundary joins as it does whole. -/
theorem jr_split (o : List S46) (x : S46) (n : Int) (hn : n % 2048 = 0) (h1 : 0 < n) (h2 : n < x.f1) (ho : ∀ a ∈ o, a.f1 + x.f1 ≤ 1073739776) (hx : x.f1 ≤ 1073739776) :
    jr (jr o ⟨x.f0, n, x.f2⟩) ⟨x.f0, x.f1 - n, ⟨x.f2.f0 + n / 2048, x.f2.f1⟩⟩ = jr o x := by
  cases o with
  | nil =>
    show jr [⟨x.f0, n, x.f2⟩] _ = [x]
    rw [jr, if_pos (by rw [joinsB_iff]; exact ⟨rfl, hn, rfl, rfl, by show n + (x.f1 - n) ≤ _; omega⟩)]
    show [(⟨x.f0, n + (x.f1 - n), x.f2⟩ : S46)] = [x]
    rw [show n + (x.f1 - n) = x.f1 by omega]
  | cons a t =>
    have ha := ho a (List.mem_cons_self ..)
    by_cases hj : joinsB a x = true
    · have hj' : joinsB a ⟨x.f0, n, x.f2⟩ = true := by
        rw [joinsB_iff] at hj ⊢
        exact ⟨hj.1, hj.2.1, hj.2.2.1, hj.2.2.2.1, by show a.f1 + n ≤ _; omega⟩
      rw [show jr (a :: t) ⟨x.f0, n, x.f2⟩ = ⟨a.f0, a.f1 + n, a.f2⟩ :: t by rw [jr, if_pos hj'], show jr (a :: t) x = ⟨a.f0, a.f1 + x.f1, a.f2⟩ :: t by rw [jr, if_pos hj]]
      rw [jr, if_pos ?_]
      · show (⟨a.f0, a.f1 + n + (x.f1 - n), a.f2⟩ : S46) :: t = _
        rw [show a.f1 + n + (x.f1 - n) = a.f1 + x.f1 by omega]
      · rw [joinsB_iff] at hj ⊢
        obtain ⟨e1, e2, e3, e4, e5⟩ := hj
        refine ⟨e1, ?_, ?_, e4, ?_⟩
        · show (a.f1 + n) % 2048 = 0; omega
        · show a.f2.f0 + (a.f1 + n) / 2048 = x.f2.f0 + n / 2048; omega
        · show a.f1 + n + (x.f1 - n) ≤ _; omega
    · have hj' : ¬joinsB a ⟨x.f0, n, x.f2⟩ = true := by
        rw [joinsB_iff] at hj ⊢
        intro h
        exact hj ⟨h.1, h.2.1, h.2.2.1, h.2.2.2.1, ha⟩
      rw [show jr (a :: t) ⟨x.f0, n, x.f2⟩ = ⟨x.f0, n, x.f2⟩ :: a :: t by rw [jr, if_neg hj'], show jr (a :: t) x = x :: a :: t by rw [jr, if_neg hj]]
      rw [jr, if_pos (by rw [joinsB_iff]; exact ⟨rfl, hn, rfl, rfl, by show n + (x.f1 - n) ≤ _; omega⟩)]
      show (⟨x.f0, n + (x.f1 - n), x.f2⟩ : S46) :: _ = _
      rw [show n + (x.f1 - n) = x.f1 by omega]
theorem lenS_pos (l : List S46) (hl : ∀ x ∈ l, 1 ≤ x.f1) : 0 ≤ lenS l := by
  induction l with
  | nil => simp [lenS]
  | cons x l ih => have := hl x (List.mem_cons_self ..); have := ih (fun y hy => hl y (List.mem_cons_of_mem _ hy)); simp only [lenS]; omega
theorem lenS_nonneg (l : List S46) (hl : ∀ x ∈ l, 0 ≤ x.f1) : 0 ≤ lenS l := by
  induction l with
  | nil => simp [lenS]
  | cons x l ih => have := hl x (List.mem_cons_self ..); have := ih (fun y hy => hl y (List.mem_cons_of_mem _ hy)); simp only [lenS]; omega
theorem lenS_mem (l : List S46) (hl : ∀ x ∈ l, 0 ≤ x.f1) : ∀ a ∈ l, a.f1 ≤ lenS l := by
  induction l with
  | nil => intro a ha; simp at ha
  | cons x l ih =>
    intro a ha
    have hx := hl x (List.mem_cons_self ..)
    have hl' : ∀ y ∈ l, 0 ≤ y.f1 := fun y hy => hl y (List.mem_cons_of_mem _ hy)
    have h0 := lenS_nonneg l hl'
    simp only [lenS]
    rcases List.mem_cons.1 ha with e | ha
    · rw [e]; omega
    · have := ih hl' a ha; omega
theorem nonneg_jr (o : List S46) (x : S46) (ho : ∀ a ∈ o, 0 ≤ a.f1) (hx : 0 ≤ x.f1) : ∀ a ∈ jr o x, 0 ≤ a.f1 := by
  intro y hy
  cases o with
  | nil => simp only [jr, List.mem_singleton] at hy; rw [hy]; exact hx
  | cons a t =>
    have ha := ho a (List.mem_cons_self ..)
    rw [jr] at hy
    split at hy
    · rcases List.mem_cons.1 hy with e | hy
      · rw [e]; show 0 ≤ a.f1 + x.f1; omega
      · exact ho y (List.mem_cons_of_mem _ hy)
    · rcases List.mem_cons.1 hy with e | hy
      · rw [e]; exact hx
      · exact ho y hy
def pieces : List S46 → Int → Int → List S46
  | [], _, _ => []
  | x :: l, off, len =>
    if min off x.f1 < x.f1 ∧ 0 < len then ⟨x.f0, min len (x.f1 - min off x.f1), ⟨x.f2.f0 + min off x.f1 / 2048, x.f2.f1⟩⟩ :: pieces l (off - min off x.f1) (len - min len (x.f1 - min off x.f1))
    else pieces l (off - min off x.f1) len
theorem pieces_zero (l : List S46) : ∀ off, pieces l off 0 = [] := by
  induction l with
  | nil => intro off; rfl
  | cons x l ih => intro off; rw [pieces, if_neg (by omega)]; exact ih _
theorem pieces_all (l : List S46) (hl : ∀ x ∈ l, 1 ≤ x.f1) : pieces l 0 (lenS l) = l := by
  induction l with
  | nil => rfl
  | cons x l ih =>
    have hx := hl x (List.mem_cons_self ..)
    have hp : 0 ≤ lenS l := lenS_pos l (fun y hy => hl y (List.mem_cons_of_mem _ hy))
    have e : lenS (x :: l) = x.f1 + lenS l := rfl
    have m0 : min (0 : Int) x.f1 = 0 := by omega
    have m1 : min (lenS (x :: l)) (x.f1 - 0) = x.f1 := by omega
    rw [pieces, if_pos (by omega), m0, m1, e, show x.f1 + lenS l - x.f1 = lenS l by omega, show (0 : Int) - 0 = 0 by omega, ih (fun y hy => hl y (List.mem_cons_of_mem _ hy))]
    show (⟨x.f0, x.f1, ⟨x.f2.f0 + 0 / 2048, x.f2.f1⟩⟩ : S46) :: l = _
    rw [show x.f2.f0 + 0 / 2048 = x.f2.f0 by omega]
theorem lenS_pieces (l : List S46) (hl : ∀ x ∈ l, 1 ≤ x.f1) : ∀ off len, 0 ≤ off → 0 ≤ len → off + len ≤ lenS l → lenS (pieces l off len) = len := by
  induction l with
  | nil => intro off len h1 h2 h3; simp only [lenS] at h3; show (0 : Int) = len; omega
  | cons x l ih =>
    intro off len h1 h2 h3
    have hx := hl x (List.mem_cons_self ..)
    simp only [lenS] at h3
    have hp := lenS_pos l (fun y hy => hl y (List.mem_cons_of_mem _ hy))
    rw [pieces]
    split
    · rename_i h
      show min len (x.f1 - min off x.f1) + lenS (pieces l _ _) = len
      rw [ih (fun y hy => hl y (List.mem_cons_of_mem _ hy)) _ _ (by omega) (by omega) (by omega)]
      omega
    · rename_i h
      by_cases h0 : len = 0
      · rw [h0, pieces_zero]; rfl
      · exact ih (fun y hy => hl y (List.mem_cons_of_mem _ hy)) _ _ (by omega) h2 (by omega)
theorem length_pieces (l : List S46) : ∀ off len, (pieces l off len).length ≤ l.length := by
  induction l with
  | nil => intro off len; simp [pieces]
  | cons x l ih =>
    intro off len
    rw [pieces]
    split
    · have := ih (off - min off x.f1) (len - min len (x.f1 - min off x.f1)); simp only [List.length_cons]; omega
    · have := ih (off - min off x.f1) len; simp only [List.length_cons]; omega
theorem ok_pieces (l : List S46) (hl : ∀ x ∈ l, Ok x ∧ Fine x) : ∀ off len, 0 ≤ off → 0 ≤ len → ∀ y ∈ pieces l off len, Ok y := by
  induction l with
  | nil => intro off len _ _ y hy; simp [pieces] at hy
  | cons x l ih =>
    intro off len h1 h2 y hy
    obtain ⟨hx, hf⟩ := hl x (List.mem_cons_self ..)
    have hl' : ∀ x ∈ l, Ok x ∧ Fine x := fun z hz => hl z (List.mem_cons_of_mem _ hz)
    have := hx.k; have := hx.n; have := hx.b; have := hx.p; have hb := hf.b
    unfold blk at hb
    rw [pieces] at hy
    split at hy
    · rename_i h
      rcases List.mem_cons.1 hy with e | hy
      · rw [e]
        refine ⟨hx.k, ⟨?_, ?_⟩, ⟨?_, ?_⟩, hx.p⟩
        · show 1 ≤ min len (x.f1 - min off x.f1); omega
        · show min len (x.f1 - min off x.f1) < _; omega
        · show 0 ≤ x.f2.f0 + min off x.f1 / 2048; omega
        · show x.f2.f0 + min off x.f1 / 2048 < _; omega
      · exact ih hl' _ _ (by omega) (by omega) y hy
    · exact ih hl' _ _ (by omega) h2 y hy
/-- What stands in front of a block boundary and behind it joins as the list does. -/
theorem fold_cut (l : List S46) (hl : ∀ x ∈ l, 1 ≤ x.f1) : ∀ (o : List S46) (c : Int), (∀ a ∈ o, 0 ≤ a.f1) → whole l → 0 ≤ c → c ≤ lenS l → (l ≠ [] → c % 2048 = 0) → lenS o + lenS l ≤ 1073739776 →
    (pieces l 0 c ++ pieces l c (lenS l - c)).foldl jr o = l.foldl jr o := by
  induction l with
  | nil => intro o c _ _ _ _ _ _; rfl
  | cons x l ih =>
    intro o c ho hw h1 h2 h3 h4
    have hx := hl x (List.mem_cons_self ..)
    have hl' : ∀ y ∈ l, 1 ≤ y.f1 := fun y hy => hl y (List.mem_cons_of_mem _ hy)
    have hp : 0 ≤ lenS l := lenS_pos l hl'
    have e : lenS (x :: l) = x.f1 + lenS l := rfl
    have hw' := whole_cons x l hw
    have hc := h3 (by simp)
    by_cases c0 : c = 0
    · rw [c0, pieces_zero, List.nil_append, show lenS (x :: l) - 0 = lenS (x :: l) by omega, pieces_all _ hl]
    · by_cases c1 : x.f1 ≤ c
      · have e1 : pieces (x :: l) 0 c = x :: pieces l 0 (c - x.f1) := by
          rw [pieces, if_pos (by omega), show min (0 : Int) x.f1 = 0 by omega, show min c (x.f1 - 0) = x.f1 by omega, show (0 : Int) - 0 = 0 by omega, show x.f2.f0 + 0 / 2048 = x.f2.f0 by omega]
        have e2 : pieces (x :: l) c (lenS (x :: l) - c) = pieces l (c - x.f1) (lenS l - (c - x.f1)) := by
          rw [pieces, if_neg (by omega), show min c x.f1 = x.f1 by omega]
          congr 1; omega
        rw [e1, e2, List.cons_append, List.foldl_cons, List.foldl_cons]
        refine ih hl' _ _ (nonneg_jr o x ho (by omega)) hw'.1 (by omega) (by omega) (fun hn => by have := hw'.2 hn; omega) ?_
        rw [lenS_jr]; omega
      · have e1 : pieces (x :: l) 0 c = [⟨x.f0, c, x.f2⟩] := by
          rw [pieces, if_pos (by omega), show min (0 : Int) x.f1 = 0 by omega, show min c (x.f1 - 0) = c by omega, show c - c = 0 by omega, pieces_zero, show x.f2.f0 + 0 / 2048 = x.f2.f0 by omega]
        have e2 : pieces (x :: l) c (lenS (x :: l) - c) = ⟨x.f0, x.f1 - c, ⟨x.f2.f0 + c / 2048, x.f2.f1⟩⟩ :: l := by
          rw [pieces, if_pos (by omega), show min c x.f1 = c by omega, show min (lenS (x :: l) - c) (x.f1 - c) = x.f1 - c by omega, show c - c = 0 by omega, show lenS (x :: l) - c - (x.f1 - c) = lenS l by omega, pieces_all l hl']
        rw [e1, e2, List.singleton_append, List.foldl_cons, List.foldl_cons, List.foldl_cons, jr_split o x c hc (by omega) (by omega) ?_ ?_]
        · intro a ha
          have := lenS_mem o ho a ha
          omega
        · have := lenS_nonneg o ho
          omega
/-- The block with an index: its number, its partition and its kind. -/
def locate : List S46 → Int → Option (Int × Int × Int)
  | [], _ => none
  | x :: l, k => if 0 ≤ k ∧ k < blk x.f1 then some (x.f2.f0 + k, x.f2.f1, x.f0) else if k - blk x.f1 < 0 then none else locate l (k - blk x.f1)
theorem locate_tail (u : List S46) (v v' : List S46) (h : ∀ k, 0 ≤ k → locate v k = locate v' k) : ∀ k, 0 ≤ k → locate (u ++ v) k = locate (u ++ v') k := by
  induction u with
  | nil => exact h
  | cons x u ih =>
    intro k hk
    simp only [List.cons_append, locate]
    split
    · rfl
    · split
      · rfl
      · exact ih _ (by omega)
theorem locate_joined (a x : S46) (l : List S46) (h : joinsB a x = true) (ha : 1 ≤ a.f1) (hx : 1 ≤ x.f1) (k : Int) (hk : 0 ≤ k) : locate (⟨a.f0, a.f1 + x.f1, a.f2⟩ :: l) k = locate (a :: x :: l) k := by
  rw [joinsB_iff] at h
  obtain ⟨h1, h2, h3, h4, h5⟩ := h
  have e1 : blk (a.f1 + x.f1) = blk a.f1 + blk x.f1 := by unfold blk; omega
  have e2 : blk a.f1 = a.f1 / 2048 := by unfold blk; omega
  have e3 : 0 < blk x.f1 := by unfold blk; omega
  simp only [locate]
  rw [e1]
  generalize blk x.f1 = m at e3 ⊢
  generalize blk a.f1 = n at e2 ⊢
  by_cases c1 : k < n
  · rw [if_pos (c := 0 ≤ k ∧ k < n) ⟨hk, c1⟩, if_pos (c := 0 ≤ k ∧ k < n + m) (by omega)]
  · rw [if_neg (c := 0 ≤ k ∧ k < n) (by omega), if_neg (c := k - n < 0) (by omega)]
    by_cases c2 : k - n < m
    · rw [if_pos (c := 0 ≤ k - n ∧ k - n < m) (by omega), if_pos (c := 0 ≤ k ∧ k < n + m) (by omega), ← h1, ← h4]
      congr 2
      omega
    · rw [if_neg (c := 0 ≤ k - n ∧ k - n < m) (by omega), if_neg (c := k - n - m < 0) (by omega),
        if_neg (c := 0 ≤ k ∧ k < n + m) (by omega), if_neg (c := k - (n + m) < 0) (by omega)]
      congr 1
      omega
theorem locate_fold (l : List S46) : ∀ o, (∀ x ∈ o, 1 ≤ x.f1) → (∀ x ∈ l, 1 ≤ x.f1) → ∀ k, 0 ≤ k → locate ((l.foldl jr o).reverse) k = locate (o.reverse ++ l) k := by
  induction l with
  | nil => intro o _ _ k _; simp
  | cons x l ih =>
    intro o ho hl k hk
    have hx := hl x (List.mem_cons_self ..)
    have hl' : ∀ y ∈ l, 1 ≤ y.f1 := fun y hy => hl y (List.mem_cons_of_mem _ hy)
    rw [List.foldl_cons]
    cases o with
    | nil =>
      rw [show jr [] x = [x] from rfl, ih [x] (by simpa using hx) hl' k hk]; rfl
    | cons a t =>
      have ha := ho a (List.mem_cons_self ..)
      by_cases hj : joinsB a x = true
      · rw [show jr (a :: t) x = ⟨a.f0, a.f1 + x.f1, a.f2⟩ :: t by rw [jr, if_pos hj], ih _ ?_ hl' k hk]
        · simp only [List.reverse_cons, List.append_assoc, List.singleton_append]
          exact locate_tail _ _ _ (fun k hk => locate_joined a x l hj ha hx k hk) k hk
        · intro y hy
          rcases List.mem_cons.1 hy with e | hy
          · rw [e]; show 1 ≤ a.f1 + x.f1; omega
          · exact ho y (List.mem_cons_of_mem _ hy)
      · rw [show jr (a :: t) x = x :: a :: t by rw [jr, if_neg hj], ih _ ?_ hl' k hk]
        · simp
        · intro y hy
          rcases List.mem_cons.1 hy with e | hy
          · rw [e]; exact hx
          · exact ho y hy
theorem locate_join (l : List S46) (hl : ∀ x ∈ l, 1 ≤ x.f1) (k : Int) (hk : 0 ≤ k) : locate (joinL l) k = locate l k := by
  unfold joinL; rw [locate_fold l [] (by simp) hl k hk]; rfl
/-- The piece of a block is where the block is. -/
theorem piece_at (l : List S46) (hl : ∀ x ∈ l, 1 ≤ x.f1) : ∀ k, whole l → 0 ≤ k → 2048 * k < lenS l →
    ∃ b p q, locate l k = some (b, p, q) ∧ pieces l (k * 2048) (min 2048 (lenS l - k * 2048)) = [⟨q, min 2048 (lenS l - k * 2048), ⟨b, p⟩⟩] := by
  induction l with
  | nil => intro k _ _ h; simp only [lenS] at h; omega
  | cons x l ih =>
    intro k hw hk hlt
    have hx := hl x (List.mem_cons_self ..)
    have hl' : ∀ y ∈ l, 1 ≤ y.f1 := fun y hy => hl y (List.mem_cons_of_mem _ hy)
    have hp : 0 ≤ lenS l := lenS_pos l hl'
    have e : lenS (x :: l) = x.f1 + lenS l := rfl
    have hw' := whole_cons x l hw
    have hmul : lenS l = 0 ∨ x.f1 % 2048 = 0 := by
      by_cases hn : l = []
      · rw [hn]; exact .inl rfl
      · exact .inr (hw'.2 hn)
    rw [locate]
    by_cases c1 : k < blk x.f1
    · have c1' := c1
      unfold blk at c1'
      rw [if_pos ⟨hk, c1⟩]
      refine ⟨_, _, _, rfl, ?_⟩
      have hm : min (k * 2048) x.f1 = k * 2048 := by omega
      have hmm : min (min 2048 (lenS (x :: l) - k * 2048)) (x.f1 - k * 2048) = min 2048 (lenS (x :: l) - k * 2048) := by omega
      rw [pieces, hm, if_pos (by omega), hmm, show min 2048 (lenS (x :: l) - k * 2048) - min 2048 (lenS (x :: l) - k * 2048) = 0 by omega, pieces_zero, show k * 2048 / 2048 = k by omega]
    · have c1' := c1
      unfold blk at c1'
      rw [if_neg (by omega), if_neg (by omega)]
      have hb : 2048 * blk x.f1 = x.f1 := by unfold blk; omega
      obtain ⟨b, p, q, h1, h2⟩ := ih hl' (k - blk x.f1) hw'.1 (by omega) (by omega)
      refine ⟨b, p, q, h1, ?_⟩
      rw [pieces, if_neg (by omega), show min (k * 2048) x.f1 = x.f1 by omega]
      rw [show (k - blk x.f1) * 2048 = k * 2048 - x.f1 by omega, show lenS l - (k * 2048 - x.f1) = lenS (x :: l) - k * 2048 by omega] at h2
      exact h2
end Go.Proofs.Ytijbfebbogiiiaa.Pure
