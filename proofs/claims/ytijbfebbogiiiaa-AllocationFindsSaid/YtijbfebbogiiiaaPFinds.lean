/- The second ways of the functions on lists of extents compute what the program's do. -/
import Derived.Test.YtijbfebbogiiiaaPAlloc
import Derived.Test.YtijbfebbogiiiaaPLocate
import Derived.Test.YtijbfebbogiiiaaPFormed
import Derived.Test.YtijbfebbogiiiaaQ40
import Derived.Test.YtijbfebbogiiiaaQ41
namespace Go.Proofs.Ytijbfebbogiiiaa.Pure
open Go Go.RowKit Go.Proofs.Ytijbfebbogiiiaa.Q Go.Proofs.YtijbfebbogiiiaaW.PrintWords Go.Proofs.YtijbfebbogiiiaaW.PrintLast Go.Proofs.YtijbfebbogiiiaaW.PrintMore
set_option linter.unusedVariables false
set_option linter.unusedSimpArgs false
theorem Lref_l0 (l : List S46) (hl : l.length ≤ 64) (hx : ∀ x ∈ l, Ok x) : ∀ (m j : Nat) (s : Int), j + m = l.length → 0 ≤ s → s ≤ 1073741824 * j →
    Ev (fun k => masterdiscref33_Length.l0 k l s (j : Int)) (s + lenS (l.drop j)) := by
  intro m
  induction m with
  | zero =>
    intro j s hj h0 h1
    rw [List.drop_of_length_le (by omega), show s + lenS [] = s from Int.add_zero s]
    exact Ev.step (fun k => by rw [masterdiscref33_Length.l0, if_neg (by omega)]) (Ev.now _)
  | succ m ih =>
    intro j s hj h0 h1
    have hlt : j < l.length := by omega
    have hb := (hx l[j] (List.getElem_mem hlt)).n
    have hd : lenS (l.drop j) = l[j].f1 + lenS (l.drop (j + 1)) := by rw [List.drop_eq_getElem_cons hlt, lenS]
    have := ih (j + 1) (s + l[j].f1) (by omega) (by omega) (by omega)
    rw [show s + lenS (l.drop j) = s + l[j].f1 + lenS (l.drop (j + 1)) by omega]
    exact Ev.step (fun k => by rw [masterdiscref33_Length.l0, if_pos (by omega), if_pos (by omega), rd46 l j hlt, w64 _ (by omega), w64 _ (by omega), show (j : Int) + 1 = ((j + 1 : Nat) : Int) by omega]) this
theorem Lref_ev (l : List S46) (h70 : l.length ≤ 70) : Ev (fun k => masterdiscref33_Length.f k l) (lengthOf l) := by
  unfold lengthOf
  refine Ev.congr (fun k => by rw [masterdiscref33_Length.f]) (Ev.bind (Formedref_ev l (by omega)) ?_)
  by_cases hf : formedB l = true
  · rw [if_pos hf]
    have h := (formed_iff l).1 hf
    have := Lref_l0 l h.1 h.2 l.length 0 0 (by omega) (by omega) (by omega)
    rw [Int.zero_add] at this
    exact Ev.iteT hf this
  · rw [if_neg hf]
    exact Ev.iteF hf (Ev.now _)
theorem Count_f (a : Int) (h0 : 0 ≤ a) (h1 : a ≤ 4611686018427387904) : masterdiscref33_Count.f a = some (blk a) := by
  rw [masterdiscref33_Count.f, w64 (a + 2048) (by omega), w64 (a + 2048 - 1) (by omega), Int.tdiv_eq_ediv_of_nonneg (by omega), w64 _ (by omega), show a + 2048 - 1 = a + 2047 by omega]
  rfl
theorem Bref_l0 (l : List S46) (hl : l.length ≤ 64) (hx : ∀ x ∈ l, Ok x) : ∀ (m j : Nat) (s : Int), j + m = l.length → 0 ≤ s → s ≤ 524288 * j →
    Ev (fun k => masterdiscref33_Blocks.l0 k l s (j : Int)) (s + blkS (l.drop j)) := by
  intro m
  induction m with
  | zero =>
    intro j s hj h0 h1
    rw [List.drop_of_length_le (by omega), show s + blkS [] = s from Int.add_zero s]
    exact Ev.step (fun k => by rw [masterdiscref33_Blocks.l0, if_neg (by omega)]) (Ev.now _)
  | succ m ih =>
    intro j s hj h0 h1
    have hlt : j < l.length := by omega
    have hb := (hx l[j] (List.getElem_mem hlt)).n
    have hk := blk_bd l[j].f1 (by omega) hb.2
    have hd : blkS (l.drop j) = (if l[j].f0 = 0 then blk l[j].f1 else 0) + blkS (l.drop (j + 1)) := by rw [List.drop_eq_getElem_cons hlt, blkS]
    refine Ev.step (fun k => by rw [masterdiscref33_Blocks.l0, if_pos (by omega), if_pos (by omega), rd46 l j hlt, w64 ((j : Int) + 1) (by omega), show (j : Int) + 1 = ((j + 1 : Nat) : Int) by omega]) ?_
    by_cases h3 : l[j].f0 = 0
    · rw [if_pos h3] at hd
      refine Ev.iteT h3 ?_
      refine Ev.congr (fun k => by rw [Count_f _ (by omega) (by omega), Option.bind_some, w64 _ (by omega)]) ?_
      have := ih (j + 1) (s + blk l[j].f1) (by omega) (by omega) (by omega)
      rw [show s + blkS (l.drop j) = s + blk l[j].f1 + blkS (l.drop (j + 1)) by omega]
      exact this
    · rw [if_neg h3] at hd
      refine Ev.iteF h3 ?_
      have := ih (j + 1) s (by omega) (by omega) (by omega)
      rw [show s + blkS (l.drop j) = s + blkS (l.drop (j + 1)) by omega]
      exact this
theorem Bref_ev (l : List S46) (h70 : l.length ≤ 70) : Ev (fun k => masterdiscref33_Blocks.f k l) (blocksOf l) := by
  unfold blocksOf
  refine Ev.congr (fun k => by rw [masterdiscref33_Blocks.f]) (Ev.bind (Formedref_ev l (by omega)) ?_)
  by_cases hf : formedB l = true
  · rw [if_pos hf]
    have h := (formed_iff l).1 hf
    have := Bref_l0 l h.1 h.2 l.length 0 0 (by omega) (by omega) (by omega)
    rw [Int.zero_add] at this
    exact Ev.iteT hf this
  · rw [if_neg hf]
    exact Ev.iteF hf (Ev.now _)
theorem Vref_l0 (l : List S46) (hl : l.length ≤ 64) (hx : ∀ x ∈ l, Ok x) : ∀ (m j : Nat), j + m = l.length →
    Ev (fun k => masterdiscref33_Valid.l0 k l (j : Int)) (goodB (l.drop j)) := by
  intro m
  induction m with
  | zero =>
    intro j hj
    rw [List.drop_of_length_le (by omega), goodB]
    exact Ev.step (fun k => by rw [masterdiscref33_Valid.l0, if_neg (by omega)]) (Ev.now _)
  | succ m ih =>
    intro j hj
    have hlt : j < l.length := by omega
    have ho := hx l[j] (List.getElem_mem hlt)
    have hb := ho.n
    have hbb := ho.b
    have hk := blk_bd l[j].f1 (by omega) hb.2
    have := ih (j + 1) (by omega)
    rw [List.drop_eq_getElem_cons hlt, goodB]
    have hne : l.drop (j + 1) ≠ [] ↔ ((j + 1 : Nat) : Int) < (l.length : Int) := by
      rw [ne_eq, List.drop_eq_nil_iff]; omega
    refine Ev.step (fun k => by rw [masterdiscref33_Valid.l0, if_pos (by omega), if_pos (by omega), rd46 l j hlt, w64 ((j : Int) + 1) (by omega), show (j : Int) + 1 = ((j + 1 : Nat) : Int) by omega, tmod_pos _ _ (by omega), Count_f _ (by omega) (by omega), Option.bind_some, w64 _ (by omega)]) ?_
    by_cases h1 : l[j].f0 = 3
    · rw [if_pos h1]; exact Ev.iteT h1 (Ev.now _)
    · rw [if_neg h1]; refine Ev.iteF h1 ?_
      by_cases h2 : l.drop (j + 1) ≠ []
      · refine Ev.iteT (hne.1 h2) ?_
        by_cases h3 : l[j].f1 % 2048 = 0
        · refine Ev.iteT h3 ?_
          rw [if_neg (fun h => h.2 h3)]
          by_cases h4 : l[j].f2.f0 + blk l[j].f1 > 4294967296
          · rw [if_pos h4]; exact Ev.iteT h4 (Ev.now _)
          · rw [if_neg h4]; exact Ev.iteF h4 this
        · refine Ev.iteF h3 ?_
          rw [if_pos ⟨h2, h3⟩]; exact Ev.now _
      · refine Ev.iteF (fun h => h2 (hne.2 h)) ?_
        rw [if_neg (fun h => h2 h.1)]
        by_cases h4 : l[j].f2.f0 + blk l[j].f1 > 4294967296
        · rw [if_pos h4]; exact Ev.iteT h4 (Ev.now _)
        · rw [if_neg h4]; exact Ev.iteF h4 this
theorem Vref_ev (l : List S46) (h70 : l.length ≤ 70) : Ev (fun k => masterdiscref33_Valid.f k l) (validL l) := by
  unfold validL
  refine Ev.congr (fun k => by rw [masterdiscref33_Valid.f]) (Ev.bind (Formedref_ev l (by omega)) ?_)
  by_cases hf : formedB l = true
  · have h := (formed_iff l).1 hf
    refine Ev.iteT hf (Ev.bind (Lref_ev l h70) ?_)
    unfold lengthOf
    rw [if_pos hf, hf, Bool.true_and]
    refine Ev.step (fun k => by rw [masterdiscref33_Valid.j0]) ?_
    by_cases h2 : lenS l > 1073739776
    · rw [decide_eq_false (by omega : ¬ lenS l ≤ 1073739776), Bool.false_and]
      exact Ev.iteT (decide_eq_true h2) (Ev.now _)
    · rw [decide_eq_true (by omega : lenS l ≤ 1073739776), Bool.true_and]
      have := Vref_l0 l h.1 h.2 l.length 0 (by omega)
      exact Ev.iteF (by simpa using h2) this
  · refine Ev.iteF hf ?_
    rw [Bool.eq_false_iff.2 hf, Bool.false_and, Bool.false_and]
    exact Ev.step (fun k => by rw [masterdiscref33_Valid.j0]) (Ev.iteT rfl (Ev.now _))
theorem mx_max (a b : Int) : mx a b = max a b := by unfold mx; split <;> omega
theorem Pref_l0 (l : List S46) (hl : l.length ≤ 64) (hx : ∀ x ∈ l, Ok x) (off len : Int) (h0 : 0 ≤ off) (h1 : off ≤ 1073739776) (h2 : 0 ≤ len) (h3 : len ≤ 1073739776) : ∀ (m j : Nat) (at_ : Int) (out : List S46), j + m = l.length → 0 ≤ at_ → at_ ≤ 1073741824 * j → out.length ≤ j →
    Ev (fun k => masterdiscref33_Pieces.l0 k l off len out at_ (j : Int)) (out ++ pieces (l.drop j) (max (off - at_) 0) (len - min len (max (at_ - off) 0)), 0) := by
  intro m
  induction m with
  | zero =>
    intro j at_ out hj h4 h5 h6
    rw [List.drop_of_length_le (by omega), pieces, List.append_nil]
    exact Ev.step (fun k => by rw [masterdiscref33_Pieces.l0, if_neg (by omega)]) (Ev.now _)
  | succ m ih =>
    intro j at_ out hj h4 h5 h6
    have hlt : j < l.length := by omega
    have ho := hx l[j] (List.getElem_mem hlt)
    have hn := ho.n; have hb := ho.b
    rw [List.drop_eq_getElem_cons hlt, pieces]
    refine Ev.step (fun k => by rw [masterdiscref33_Pieces.l0, if_pos (by omega), if_pos (by omega), rd46 l j hlt, w64 ((j : Int) + 1) (by omega), show (j : Int) + 1 = ((j + 1 : Nat) : Int) by omega, w64 (at_ + l[j].f1) (by omega), w64 (off + len) (by omega), mx_max, mn_min, w64 (min (at_ + l[j].f1) (off + len) - max at_ off) (by omega), w64 (max at_ off - at_) (by omega), Int.tdiv_eq_ediv_of_nonneg (by omega), w64 ((max at_ off - at_) / 2048) (by omega), w64 (l[j].f2.f0 + (max at_ off - at_) / 2048) (by omega)]) ?_
    by_cases c1 : max at_ off < min (at_ + l[j].f1) (off + len)
    · rw [if_pos (show min (max (off - at_) 0) l[j].f1 < l[j].f1 ∧ 0 < len - min len (max (at_ - off) 0) by omega)]
      refine Ev.iteT c1 (Ev.iteT (by omega) ?_)
      have := ih (j + 1) (at_ + l[j].f1) (out ++ [⟨l[j].f0, min (at_ + l[j].f1) (off + len) - max at_ off, ⟨l[j].f2.f0 + (max at_ off - at_) / 2048, l[j].f2.f1⟩⟩]) (by omega) (by omega) (by omega) (by rw [List.length_append, List.length_singleton]; omega)
      rw [List.append_assoc, List.singleton_append] at this
      have e1 : min (at_ + l[j].f1) (off + len) - max at_ off = min (len - min len (max (at_ - off) 0)) (l[j].f1 - min (max (off - at_) 0) l[j].f1) := by omega
      have e2 : max at_ off - at_ = min (max (off - at_) 0) l[j].f1 := by omega
      have e3 : max (off - (at_ + l[j].f1)) 0 = max (off - at_) 0 - min (max (off - at_) 0) l[j].f1 := by omega
      have e4 : len - min len (max (at_ + l[j].f1 - off) 0) = len - min len (max (at_ - off) 0) - min (len - min len (max (at_ - off) 0)) (l[j].f1 - min (max (off - at_) 0) l[j].f1) := by omega
      rw [e1, e2, e3, e4] at this
      rw [e1, e2]
      exact this
    · rw [if_neg (show ¬ (min (max (off - at_) 0) l[j].f1 < l[j].f1 ∧ 0 < len - min len (max (at_ - off) 0)) by omega)]
      refine Ev.iteF c1 ?_
      have := ih (j + 1) (at_ + l[j].f1) out (by omega) (by omega) (by omega) (by omega)
      have e3 : max (off - (at_ + l[j].f1)) 0 = max (off - at_) 0 - min (max (off - at_) 0) l[j].f1 := by omega
      by_cases c2 : len - min len (max (at_ - off) 0) = 0
      · have e5 : len - min len (max (at_ + l[j].f1 - off) 0) = 0 := by omega
        rw [e3, e5] at this
        rw [c2]
        exact this
      · have e5 : len - min len (max (at_ + l[j].f1 - off) 0) = len - min len (max (at_ - off) 0) := by omega
        rw [e3, e5] at this
        exact this
theorem Pref_j0 (l : List S46) (a1 a2 : Int) : Ev (fun k => masterdiscref33_Pieces.j0 k l a1 a2 true) ([], 2) :=
  Ev.step (fun k => by rw [masterdiscref33_Pieces.j0]) (Ev.iteT rfl (Ev.now _))
theorem Pref_ev (l : List S46) (h70 : l.length ≤ 70) (a1 a2 : Int) : Ev (fun k => masterdiscref33_Pieces.f k l a1 a2) (piecesOf l a1 a2) := by
  unfold piecesOf
  refine Ev.congr (fun k => by rw [masterdiscref33_Pieces.f]) (Ev.bind (Vref_ev l h70) ?_)
  by_cases hv : validL l = true
  · have hV := (valid_iff l).1 hv
    have hf : formedB l = true := hV.formed
    have hp : 0 ≤ lenS l := lenS_pos l (fun x hx => (hV.ok x hx).n.1)
    have hlen := hV.len
    have eL : lengthOf l = lenS l := if_pos hf
    rw [if_pos hv]
    refine Ev.iteT hv ?_
    by_cases c1 : a1 < 0
    · rw [if_pos (.inl c1)]
      exact Ev.iteT c1 (Pref_j0 l a1 a2)
    · refine Ev.iteF c1 ?_
      by_cases c2 : Int.tmod a1 2048 = 0
      · have c2' : a1 % 2048 = 0 := by rw [tmod_pos _ _ (by omega)] at c2; exact c2
        refine Ev.iteT c2 ?_
        by_cases c3 : a2 < 0
        · rw [if_pos (.inr (.inr (.inl c3)))]
          exact Ev.iteT c3 (Pref_j0 l a1 a2)
        · refine Ev.iteF c3 (Ev.bind (Lref_ev l h70) ?_)
          rw [eL]
          by_cases c4 : a1 > lenS l
          · rw [if_pos (.inr (.inr (.inr (.inl c4))))]
            exact Ev.iteT c4 (Pref_j0 l a1 a2)
          · refine Ev.iteF c4 (Ev.bind (Lref_ev l h70) ?_)
            rw [eL]
            refine Ev.congr (fun k => by rw [w64 (lenS l - a1) (by omega)]) ?_
            by_cases c5 : a2 > lenS l - a1
            · rw [if_pos (.inr (.inr (.inr (.inr c5)))), decide_eq_true c5]
              exact Pref_j0 l a1 a2
            · rw [if_neg (by omega), decide_eq_false c5]
              refine Ev.step (fun k => by rw [masterdiscref33_Pieces.j0]) (Ev.iteF (by simp) ?_)
              have := Pref_l0 l hV.n hV.ok a1 a2 (by omega) (by omega) (by omega) (by omega) l.length 0 0 [] (by omega) (by omega) (by omega) (by simp)
              rw [show max (a1 - 0) 0 = a1 by omega, show a2 - min a2 (max (0 - a1) 0) = a2 by omega] at this
              exact this
      · rw [if_pos (.inr (.inl (by rw [tmod_pos _ _ (by omega)] at c2; exact c2)))]
        exact Ev.iteF c2 (Pref_j0 l a1 a2)
  · rw [if_neg hv]
    exact Ev.iteF hv (Ev.now _)
theorem joinsref_f (a b : S46) (ha : Ok a) (hb : Ok b) : masterdiscref33_joins.f a.f0 a.f1 a.f2.f0 a.f2.f1 b.f0 b.f1 b.f2.f0 b.f2.f1 = some (joinsB a b) := by
  have h1 := ha.n; have h2 := ha.b; have h3 := hb.n
  rw [masterdiscref33_joins.f, tmod_pos _ _ (by omega), Int.tdiv_eq_ediv_of_nonneg (by omega), w64 (a.f1 / 2048) (by omega), w64 (a.f2.f0 + a.f1 / 2048) (by omega), w64 (a.f1 + b.f1) (by omega)]
  unfold joinsB longest
  by_cases c1 : a.f0 = b.f0
  · rw [if_pos c1]
    by_cases c2 : a.f1 % 2048 = 0
    · rw [if_pos c2]
      by_cases c4 : a.f2.f1 = b.f2.f1
      · rw [if_pos c4]
        by_cases c3 : a.f2.f0 + a.f1 / 2048 = b.f2.f0
        · rw [if_pos c3]
          congr 1
          rw [decide_eq_decide]
          exact ⟨fun h => ⟨c1, c2, c3, c4, h⟩, fun h => h.2.2.2.2⟩
        · rw [if_neg c3, decide_eq_false (fun h => c3 h.2.2.1)]
      · rw [if_neg c4, decide_eq_false (fun h => c4 h.2.2.2.1)]
    · rw [if_neg c2, decide_eq_false (fun h => c2 h.2.1)]
  · rw [if_neg c1, decide_eq_false (fun h => c1 h.1)]
theorem Jref_l0 (l : List S46) (hl : l.length ≤ 64) (hx : ∀ x ∈ l, Ok x) : ∀ (m j : Nat) (o : List S46), j + m = l.length → (∀ a ∈ o, Ok a) → o.length ≤ j →
    Ev (fun k => masterdiscref33_Join.l0 k l o.reverse (j : Int)) ((l.drop j).foldl jr o).reverse := by
  intro m
  induction m with
  | zero =>
    intro j o hj h0 h1
    rw [List.drop_of_length_le (by omega), List.foldl_nil]
    exact Ev.step (fun k => by rw [masterdiscref33_Join.l0, if_neg (by omega)]) (Ev.now _)
  | succ m ih =>
    intro j o hj h0 h1
    have hlt : j < l.length := by omega
    have hb := hx l[j] (List.getElem_mem hlt)
    rw [List.drop_eq_getElem_cons hlt, List.foldl_cons]
    have := ih (j + 1) (jr o l[j]) (by omega) (all_fold Ok Ok.join [l[j]] o h0 (by simpa using hb)) (by have := length_jr o l[j]; omega)
    refine Ev.step (fun k => by rw [masterdiscref33_Join.l0, if_pos (by omega), rd46 l j hlt, w64 ((j : Int) + 1) (by omega), show (j : Int) + 1 = ((j + 1 : Nat) : Int) by omega]) ?_
    cases o with
    | nil =>
      refine Ev.iteF (by simp) (Ev.iteT (by omega) ?_)
      exact Ev.iteT (by simp) this
    | cons a t =>
      have ha := h0 a (List.mem_cons_self ..)
      have hn := ha.n
      have hn2 := hb.n
      have ew : wrap64 (((a :: t).reverse.length : Int) - 1) = (t.length : Int) := by
        rw [List.length_reverse, List.length_cons]
        simp only [List.length_cons] at h1
        rw [w64 _ (by omega)]; omega
      refine Ev.congr (fun k => by rw [ew, rev_last a t, joinsref_f a _ ha hb, Option.bind_some, Int.toNat_natCast, w64 (a.f1 + l[j].f1) (by omega), rev_set]) ?_
      refine Ev.iteT (by rw [List.length_reverse, List.length_cons]; omega) (Ev.iteT (by omega) (Ev.iteT (by rw [List.length_reverse, List.length_cons]; omega) (Ev.iteT (by omega) ?_)))
      rw [jr] at this
      by_cases hj : joinsB a l[j] = true
      · rw [if_pos hj] at this
        refine Ev.iteT hj ?_
        rw [jr, if_pos hj]
        exact this
      · rw [if_neg hj] at this
        refine Ev.iteF hj (Ev.iteT ?_ ?_)
        · rw [List.length_reverse]; omega
        · rw [jr, if_neg hj]
          rw [List.reverse_cons] at this
          exact this
theorem Jref_ev (l : List S46) (h70 : l.length ≤ 70) : Ev (fun k => masterdiscref33_Join.f k l) (joinOf l) := by
  unfold joinOf
  refine Ev.congr (fun k => by rw [masterdiscref33_Join.f]) (Ev.bind (Formedref_ev l (by omega)) ?_)
  by_cases hf : formedB l = true
  · rw [if_pos hf]
    have h := (formed_iff l).1 hf
    have := Jref_l0 l h.1 h.2 l.length 0 [] (by omega) (by simp) (by simp)
    exact Ev.iteT hf this
  · rw [if_neg hf]
    exact Ev.iteF hf (Ev.now _)
def locateOf (l : List S46) (k : Int) : Int × Int × Int × Int := if validL l = true then (if k < 0 then (0, 0, 0, 2) else locRes (locate l k)) else (0, 0, 0, 1)
theorem locate_none (l : List S46) (hx : ∀ x ∈ l, Ok x) : ∀ k : Int, 524288 * (l.length : Int) ≤ k → locate l k = none := by
  induction l with
  | nil => intro k _; rfl
  | cons x l ih =>
    intro k hk
    have hn := (hx x (List.mem_cons_self ..)).n
    have hb := blk_bd x.f1 (by omega) hn.2
    rw [List.length_cons] at hk
    rw [locate, if_neg (by omega)]
    split
    · rfl
    · exact ih (fun y hy => hx y (List.mem_cons_of_mem _ hy)) _ (by omega)
theorem Locate_neg (l : List S46) (hl : l.length ≤ 64) (hx : ∀ x ∈ l, Ok x) (k : Int) (h0 : k < 0) (h1 : -9223372036854775808 ≤ k) :
    Ev (fun n => allocation_Locate.l0 n k l (l.length : Int) 0) (0, 0, 0, 2) := by
  cases l with
  | nil => exact Ev.step (fun n => by rw [allocation_Locate.l0, if_neg (by simp)]) (Ev.now _)
  | cons x t =>
    have ho := hx x (List.mem_cons_self ..)
    have hn := ho.n
    have hk := blk_bd x.f1 (by omega) hn.2
    have e0 : rd_T46 (x :: t) 0 = x := rfl
    rw [List.length_cons] at hl
    refine Ev.step (fun n => by rw [allocation_Locate.l0, if_pos (by rw [List.length_cons]; omega), if_pos (by omega), if_pos (by rw [List.length_cons]; omega), e0, blocks_f _ (by omega) (by omega), Option.bind_some, if_neg (by omega)]) ?_
    by_cases c : wrap64 (k - blk x.f1) < 0
    · exact Ev.step (fun n => by rw [allocation_Locate.j1, if_neg (by simp), if_pos c]) (Ev.now _)
    · have hw : wrap64 (k - blk x.f1) ≥ 4611686018427387904 ∧ wrap64 (k - blk x.f1) ≤ 9223372036854775807 := by
        unfold wrap64 at c ⊢
        omega
      refine Ev.step (fun n => by rw [allocation_Locate.j1, if_neg (by simp), if_neg c, w64 ((0 : Int) + 1) (by omega)]) ?_
      have := Locate_l0 (x :: t) (by rw [List.length_cons]; omega) hx t.length 1 (wrap64 (k - blk x.f1)) (by rw [List.length_cons]; omega) (by omega) (by omega)
      rw [List.drop_one, List.tail_cons, locate_none t (fun y hy => hx y (List.mem_cons_of_mem _ hy)) _ (by omega)] at this
      exact this
theorem Loc_ev (l : List S46) (k : Int) (h0 : -9223372036854775808 ≤ k) (h1 : k ≤ 9223372036854775807) : Ev (fun n => allocation_Locate.f n l k) (locateOf l k) := by
  unfold locateOf
  refine Ev.congr (fun n => by rw [allocation_Locate.f]) (Ev.bind (Valid_ev l) ?_)
  by_cases hv : validL l = true
  · have hV := (valid_iff l).1 hv
    rw [if_pos hv]
    refine Ev.iteT hv ?_
    by_cases c : k < 0
    · rw [if_pos c]; exact Locate_neg l hV.n hV.ok k c h0
    · rw [if_neg c]; exact Locate_l0 l hV.n hV.ok l.length 0 k (by omega) (by omega) h1
  · rw [if_neg hv]; exact Ev.iteF hv (Ev.now _)
theorem locate_end (l : List S46) (hx : ∀ x ∈ l, Ok x) : ∀ k : Int, whole l → blk (lenS l) ≤ k → locate l k = none := by
  induction l with
  | nil => intro k _ _; rfl
  | cons x l ih =>
    intro k hw hk
    have hn := (hx x (List.mem_cons_self ..)).n
    have hl' : ∀ y ∈ l, Ok y := fun y hy => hx y (List.mem_cons_of_mem _ hy)
    have hp := lenS_pos l (fun y hy => (hl' y hy).n.1)
    have hw' := whole_cons x l hw
    have e : blk (lenS (x :: l)) = blk x.f1 + blk (lenS l) := by
      by_cases hnil : l = []
      · subst hnil; simp only [lenS, blk]; omega
      · have := hw'.2 hnil; simp only [lenS, blk]; omega
    have hb0 : 0 ≤ blk (lenS l) := by unfold blk; omega
    rw [e] at hk
    rw [locate, if_neg (by omega)]
    split
    · rfl
    · exact ih hl' _ hw'.1 (by omega)
theorem Locref_l0 (l : List S46) (hl : l.length ≤ 64) (hx : ∀ x ∈ l, Ok x) : ∀ (m j : Nat) (k : Int), j + m = l.length → whole (l.drop j) → 0 ≤ k → k < blk (lenS (l.drop j)) →
    Ev (fun n => masterdiscref33_Locate.l0 n l k (j : Int)) (locRes (locate (l.drop j) k)) := by
  intro m
  induction m with
  | zero =>
    intro j k hj hw h0 h1
    rw [List.drop_of_length_le (by omega)] at h1
    simp only [lenS, blk] at h1
    omega
  | succ m ih =>
    intro j k hj hw h0 h1
    have hlt : j < l.length := by omega
    have ho := hx l[j] (List.getElem_mem hlt)
    have hn := ho.n; have hb := ho.b
    have hk := blk_bd l[j].f1 (by omega) hn.2
    rw [List.drop_eq_getElem_cons hlt] at hw h1 ⊢
    have hw' := whole_cons _ _ hw
    rw [locate]
    refine Ev.step (fun n => by rw [masterdiscref33_Locate.l0, if_pos (by omega), if_pos (by omega), rd46 l j hlt, Count_f _ (by omega) (by omega), Option.bind_some, Option.bind_some, w64 ((j : Int) + 1) (by omega), show (j : Int) + 1 = ((j + 1 : Nat) : Int) by omega]) ?_
    by_cases c1 : k < blk l[j].f1
    · rw [if_pos ⟨h0, c1⟩, locRes]
      refine Ev.iteF (by omega) (Ev.congr (fun n => by rw [w64 (l[j].f2.f0 + k) (by omega)]) (Ev.now _))
    · have e : blk (lenS (l[j] :: l.drop (j + 1))) = blk l[j].f1 + blk (lenS (l.drop (j + 1))) := by
        by_cases hnil : l.drop (j + 1) = []
        · rw [hnil]; simp only [lenS, blk]; omega
        · have := hw'.2 hnil; simp only [lenS, blk]; omega
      have hkb : k ≤ 9223372036854775807 := by
        have hle : lenS (l[j] :: l.drop (j + 1)) ≤ 1073741824 * 64 := by
          have hgen : ∀ t : List S46, (∀ x ∈ t, Ok x) → lenS t ≤ 1073741824 * (t.length : Int) := by
            intro t
            induction t with
            | nil => intro _; simp [lenS]
            | cons y t iht =>
              intro ht
              have h1 := (ht y (List.mem_cons_self ..)).n
              have h2 := iht (fun z hz => ht z (List.mem_cons_of_mem _ hz))
              simp only [lenS, List.length_cons]; omega
          have h3 := hgen (l[j] :: l.drop (j + 1)) (fun y hy => by
            rw [← List.drop_eq_getElem_cons hlt] at hy
            exact hx y (List.mem_of_mem_drop hy))
          have h4 : (l[j] :: l.drop (j + 1)).length ≤ 64 := by rw [← List.drop_eq_getElem_cons hlt, List.length_drop]; omega
          omega
        unfold blk at h1
        omega
      rw [if_neg (fun h => c1 h.2), if_neg (by omega)]
      refine Ev.iteT (by omega) (Ev.congr (fun n => by rw [w64 (k - blk l[j].f1) (by omega)]) ?_)
      exact ih (j + 1) (k - blk l[j].f1) (by omega) hw'.1 (by omega) (by omega)
theorem Locref_ev (l : List S46) (h70 : l.length ≤ 70) (k : Int) : Ev (fun n => masterdiscref33_Locate.f n l k) (locateOf l k) := by
  have hout : Ev (fun n => masterdiscref33_Locate.j0 n l k true) (0, 0, 0, 2) := Ev.step (fun n => by rw [masterdiscref33_Locate.j0]) (Ev.iteT rfl (Ev.now _))
  unfold locateOf
  refine Ev.congr (fun n => by rw [masterdiscref33_Locate.f]) (Ev.bind (Vref_ev l h70) ?_)
  by_cases hv : validL l = true
  · have hV := (valid_iff l).1 hv
    have hp : 0 ≤ lenS l := lenS_pos l (fun x hx => (hV.ok x hx).n.1)
    have hlen := hV.len
    rw [if_pos hv]
    refine Ev.iteT hv ?_
    by_cases c : k < 0
    · rw [if_pos c]; exact Ev.iteT c hout
    · rw [if_neg c]
      refine Ev.iteF c (Ev.bind (Lref_ev l h70) ?_)
      rw [show lengthOf l = lenS l from if_pos hV.formed]
      refine Ev.congr (fun n => by rw [Count_f _ hp (by omega), Option.bind_some]) ?_
      by_cases c2 : k ≥ blk (lenS l)
      · rw [decide_eq_true c2, locate_end l hV.ok k hV.whole c2]
        exact hout
      · rw [decide_eq_false c2]
        refine Ev.step (fun n => by rw [masterdiscref33_Locate.j0]) (Ev.iteF (by simp) ?_)
        exact Locref_l0 l hV.n hV.ok l.length 0 k (by omega) hV.whole (by omega) (by simpa using c2)
  · rw [if_neg hv]; exact Ev.iteF hv (Ev.now _)
end Go.Proofs.Ytijbfebbogiiiaa.Pure
