/- What the functions of package allocation compute, in plain words. -/
import Derived.Test.YtijbfebbogiiiaaPJoin
import Derived.Test.YtijbfebbogiiiaaPEv
import Derived.Test.YtijbfebbogiiiaaPEqual
import Derived.Test.YtijbfebbogiiiaaQ15
import Derived.Test.YtijbfebbogiiiaaHAlloc
namespace Go.Proofs.Ytijbfebbogiiiaa.Pure
open Go.RowKit Go.Proofs.Ytijbfebbogiiiaa.Q Go.Proofs.YtijbfebbogiiiaaW.PrintWords Go.Proofs.YtijbfebbogiiiaaW.PrintLast Go.Proofs.YtijbfebbogiiiaaW.PrintMore
set_option linter.unusedVariables false
set_option linter.unusedSimpArgs false
theorem extOk_iff (x : S46) : extOk x = true ↔ Ok x := by
  unfold extOk
  rw [decide_eq_true_iff]
  exact ⟨fun h => ⟨⟨h.1, h.2.1⟩, ⟨h.2.2.1, h.2.2.2.1⟩, ⟨h.2.2.2.2.1, h.2.2.2.2.2.1⟩, ⟨h.2.2.2.2.2.2.1, h.2.2.2.2.2.2.2⟩⟩, fun h => ⟨h.k.1, h.k.2, h.n.1, h.n.2, h.b.1, h.b.2, h.p.1, h.p.2⟩⟩
theorem formed_iff (l : List S46) : formedB l = true ↔ l.length ≤ 64 ∧ ∀ x ∈ l, Ok x := by
  unfold formedB
  rw [Bool.and_eq_true, decide_eq_true_iff, List.all_eq_true]
  exact ⟨fun h => ⟨h.1, fun x hx => (extOk_iff x).1 (h.2 x hx)⟩, fun h => ⟨h.1, fun x hx => (extOk_iff x).2 (h.2 x hx)⟩⟩
theorem Length_l0 (l : List S46) (hl : l.length ≤ 64) (hx : ∀ x ∈ l, Ok x) : ∀ (m j : Nat) (s : Int), j + m = l.length → 0 ≤ s → s ≤ 1073741824 * j →
    Ev (fun k => allocation_Length.l0 k s l (l.length : Int) (j : Int)) (s + lenS (l.drop j)) := by
  intro m
  induction m with
  | zero =>
    intro j s hj h0 h1
    rw [List.drop_of_length_le (by omega), show s + lenS [] = s from Int.add_zero s]
    exact Ev.step (fun k => by rw [allocation_Length.l0, if_neg (by omega)]) (Ev.now _)
  | succ m ih =>
    intro j s hj h0 h1
    have hlt : j < l.length := by omega
    have hb := (hx l[j] (List.getElem_mem hlt)).n
    have hd : lenS (l.drop j) = l[j].f1 + lenS (l.drop (j + 1)) := by rw [List.drop_eq_getElem_cons hlt, lenS]
    have := ih (j + 1) (s + l[j].f1) (by omega) (by omega) (by omega)
    rw [show s + lenS (l.drop j) = s + l[j].f1 + lenS (l.drop (j + 1)) by omega]
    exact Ev.step (fun k => by rw [allocation_Length.l0, if_pos (by omega), if_pos (by omega), if_pos (by omega), rd46 l j hlt, w64 _ (by omega), w64 _ (by omega), show (j : Int) + 1 = ((j + 1 : Nat) : Int) by omega]) this
def lengthOf (l : List S46) : Int := if formedB l = true then lenS l else 0
theorem Length_ev (l : List S46) : Ev (fun k => allocation_Length.f k l) (lengthOf l) := by
  unfold lengthOf
  refine Ev.congr (fun k => by rw [allocation_Length.f, allocation_formed.f, Option.bind_some]) ?_
  by_cases hf : formedB l = true
  · rw [if_pos hf]
    have h := (formed_iff l).1 hf
    have := Length_l0 l h.1 h.2 l.length 0 0 (by omega) (by omega) (by omega)
    rw [Int.zero_add] at this
    exact Ev.iteT hf this
  · rw [if_neg hf]
    exact Ev.iteF hf (Ev.now _)
theorem blocks_f (a : Int) (h0 : 0 ≤ a) (h1 : a ≤ 4611686018427387904) : allocation_blocks.f a = some (blk a) := by
  rw [allocation_blocks.f, w64 (a + 2048) (by omega), w64 (a + 2048 - 1) (by omega), Int.tdiv_eq_ediv_of_nonneg (by omega), w64 _ (by omega), show a + 2048 - 1 = a + 2047 by omega]
  rfl
theorem blk_bd (a : Int) (h0 : 0 ≤ a) (h1 : a < 1073741824) : 0 ≤ blk a ∧ blk a ≤ 524288 := by unfold blk; omega
theorem Blocks_l0 (l : List S46) (hl : l.length ≤ 64) (hx : ∀ x ∈ l, Ok x) : ∀ (m j : Nat) (s : Int), j + m = l.length → 0 ≤ s → s ≤ 524288 * j →
    Ev (fun k => allocation_Blocks.l0 k s l (l.length : Int) (j : Int)) (s + blkS (l.drop j)) := by
  intro m
  induction m with
  | zero =>
    intro j s hj h0 h1
    rw [List.drop_of_length_le (by omega), show s + blkS [] = s from Int.add_zero s]
    exact Ev.step (fun k => by rw [allocation_Blocks.l0, if_neg (by omega)]) (Ev.now _)
  | succ m ih =>
    intro j s hj h0 h1
    have hlt : j < l.length := by omega
    have hb := (hx l[j] (List.getElem_mem hlt)).n
    have hk := blk_bd l[j].f1 (by omega) hb.2
    have hd : blkS (l.drop j) = (if l[j].f0 = 0 then blk l[j].f1 else 0) + blkS (l.drop (j + 1)) := by rw [List.drop_eq_getElem_cons hlt, blkS]
    refine Ev.step (fun k => by rw [allocation_Blocks.l0, if_pos (by omega), if_pos (by omega), if_pos (by omega), rd46 l j hlt, w64 ((j : Int) + 1) (by omega), show (j : Int) + 1 = ((j + 1 : Nat) : Int) by omega]) ?_
    by_cases h3 : l[j].f0 = 0
    · rw [if_pos h3] at hd
      refine Ev.iteT h3 ?_
      refine Ev.congr (fun k => by rw [blocks_f _ (by omega) (by omega), Option.bind_some, w64 _ (by omega)]) ?_
      have := ih (j + 1) (s + blk l[j].f1) (by omega) (by omega) (by omega)
      rw [show s + blkS (l.drop j) = s + blk l[j].f1 + blkS (l.drop (j + 1)) by omega]
      exact this
    · rw [if_neg h3] at hd
      refine Ev.iteF h3 ?_
      have := ih (j + 1) s (by omega) (by omega) (by omega)
      rw [show s + blkS (l.drop j) = s + blkS (l.drop (j + 1)) by omega]
      exact this
def blocksOf (l : List S46) : Int := if formedB l = true then blkS l else 0
theorem Blocks_ev (l : List S46) : Ev (fun k => allocation_Blocks.f k l) (blocksOf l) := by
  unfold blocksOf
  refine Ev.congr (fun k => by rw [allocation_Blocks.f, allocation_formed.f, Option.bind_some]) ?_
  by_cases hf : formedB l = true
  · rw [if_pos hf]
    have h := (formed_iff l).1 hf
    have := Blocks_l0 l h.1 h.2 l.length 0 0 (by omega) (by omega) (by omega)
    rw [Int.zero_add] at this
    exact Ev.iteT hf this
  · rw [if_neg hf]
    exact Ev.iteF hf (Ev.now _)
/-- The extents from one on: none ends a list of descriptors, all but the last are whole blocks, none leaves the partition. -/
def goodB : List S46 → Bool
  | [] => true
  | x :: l => if x.f0 = 3 then false else if l ≠ [] ∧ x.f1 % 2048 ≠ 0 then false else if x.f2.f0 + blk x.f1 > 4294967296 then false else goodB l
theorem goodB_iff (l : List S46) : goodB l = true ↔ whole l ∧ ∀ x ∈ l, Fine x := by
  induction l with
  | nil => simp [goodB, whole]
  | cons x l ih =>
    rw [goodB]
    by_cases h1 : x.f0 = 3
    · rw [if_pos h1]
      exact ⟨fun h => absurd h (by simp), fun h => absurd h1 (h.2 x (List.mem_cons_self ..)).k⟩
    · rw [if_neg h1]
      by_cases h2 : l ≠ [] ∧ x.f1 % 2048 ≠ 0
      · rw [if_pos h2]
        exact ⟨fun h => absurd h (by simp), fun h => absurd ((whole_cons x l h.1).2 h2.1) h2.2⟩
      · rw [if_neg h2]
        by_cases h3 : x.f2.f0 + blk x.f1 > 4294967296
        · rw [if_pos h3]
          exact ⟨fun h => absurd h (by simp), fun h => absurd (h.2 x (List.mem_cons_self ..)).b (by omega)⟩
        · rw [if_neg h3, ih]
          constructor
          · rintro ⟨hw, hf⟩
            refine ⟨?_, fun y hy => ?_⟩
            · cases l with
              | nil => trivial
              | cons y l => exact ⟨by have := h2; simp at this; exact this, hw⟩
            · rcases List.mem_cons.1 hy with e | hy
              · rw [e]; exact ⟨h1, by omega⟩
              · exact hf y hy
          · rintro ⟨hw, hf⟩
            exact ⟨(whole_cons x l hw).1, fun y hy => hf y (List.mem_cons_of_mem _ hy)⟩
theorem Valid_l0 (l : List S46) (hl : l.length ≤ 64) (hx : ∀ x ∈ l, Ok x) : ∀ (m j : Nat), j + m = l.length →
    Ev (fun k => allocation_Valid.l0 k l l (l.length : Int) (j : Int)) (goodB (l.drop j)) := by
  intro m
  induction m with
  | zero =>
    intro j hj
    rw [List.drop_of_length_le (by omega), goodB]
    exact Ev.step (fun k => by rw [allocation_Valid.l0, if_neg (by omega)]) (Ev.now _)
  | succ m ih =>
    intro j hj
    have hlt : j < l.length := by omega
    have ho := hx l[j] (List.getElem_mem hlt)
    have hb := ho.n
    have hbb := ho.b
    have hk := blk_bd l[j].f1 (by omega) hb.2
    have := ih (j + 1) (by omega)
    rw [List.drop_eq_getElem_cons hlt, goodB]
    have hne : l.drop (j + 1) ≠ [] ↔ (j : Int) < (l.length : Int) - 1 := by
      rw [ne_eq, List.drop_eq_nil_iff]; omega
    refine Ev.step (fun k => by rw [allocation_Valid.l0, if_pos (by omega), if_pos (by omega), if_pos (by omega), rd46 l j hlt, w64 ((l.length : Int) - 1) (by omega), w64 ((j : Int) + 1) (by omega), show (j : Int) + 1 = ((j + 1 : Nat) : Int) by omega, tmod_pos _ _ (by omega), blocks_f _ (by omega) (by omega), Option.bind_some, w64 _ (by omega)]) ?_
    by_cases h1 : l[j].f0 = 3
    · rw [if_pos h1]; exact Ev.iteT h1 (Ev.now _)
    · rw [if_neg h1]; refine Ev.iteF h1 ?_
      by_cases h2 : l.drop (j + 1) ≠ []
      · refine Ev.iteT (hne.1 h2) ?_
        by_cases h3 : l[j].f1 % 2048 = 0
        · refine Ev.iteT h3 ?_
          rw [if_neg (fun h => h.2 h3)]
          by_cases h4 : l[j].f2.f0 + blk l[j].f1 > 4294967296
          · rw [if_pos h4]; exact Ev.iteT h4 (Ev.now _)
          · rw [if_neg h4]; exact Ev.iteF h4 this
        · refine Ev.iteF h3 ?_
          rw [if_pos ⟨h2, h3⟩]; exact Ev.now _
      · refine Ev.iteF (fun h => h2 (hne.2 h)) ?_
        rw [if_neg (fun h => h2 h.1)]
        by_cases h4 : l[j].f2.f0 + blk l[j].f1 > 4294967296
        · rw [if_pos h4]; exact Ev.iteT h4 (Ev.now _)
        · rw [if_neg h4]; exact Ev.iteF h4 this
def validL (l : List S46) : Bool := formedB l && decide (lenS l ≤ 1073739776) && goodB l
structure Valid (l : List S46) : Prop where
  n : l.length ≤ 64
  ok : ∀ x ∈ l, Ok x
  len : lenS l ≤ 1073739776
  whole : whole l
  fine : ∀ x ∈ l, Fine x
theorem valid_iff (l : List S46) : validL l = true ↔ Valid l := by
  unfold validL
  rw [Bool.and_eq_true, Bool.and_eq_true, formed_iff, decide_eq_true_iff, goodB_iff]
  exact ⟨fun h => ⟨h.1.1.1, h.1.1.2, h.1.2, h.2.1, h.2.2⟩, fun h => ⟨⟨⟨h.n, h.ok⟩, h.len⟩, h.whole, h.fine⟩⟩
theorem Valid_ev (l : List S46) : Ev (fun k => allocation_Valid.f k l) (validL l) := by
  unfold validL
  refine Ev.congr (fun k => by rw [allocation_Valid.f, allocation_formed.f, Option.bind_some]) ?_
  by_cases hf : formedB l = true
  · have h := (formed_iff l).1 hf
    refine Ev.iteT hf (Ev.bind (Length_ev l) ?_)
    unfold lengthOf
    rw [if_pos hf, hf, Bool.true_and]
    refine Ev.step (fun k => by rw [allocation_Valid.j0]) ?_
    by_cases h2 : lenS l > 1073739776
    · rw [decide_eq_false (by omega : ¬ lenS l ≤ 1073739776), Bool.false_and]
      exact Ev.iteT (decide_eq_true h2) (Ev.now _)
    · rw [decide_eq_true (by omega : lenS l ≤ 1073739776), Bool.true_and]
      have := Valid_l0 l h.1 h.2 l.length 0 (by omega)
      exact Ev.iteF (by simpa using h2) this
  · refine Ev.iteF hf ?_
    rw [Bool.eq_false_iff.2 hf, Bool.false_and, Bool.false_and]
    exact Ev.step (fun k => by rw [allocation_Valid.j0]) (Ev.iteT rfl (Ev.now _))
theorem joins_f (a b : S46) (ha : Ok a) (hb : Ok b) : allocation_joins.f a.f0 a.f1 a.f2.f0 a.f2.f1 b.f0 b.f1 b.f2.f0 b.f2.f1 = some (joinsB a b) := by
  have h1 := ha.n; have h2 := ha.b; have h3 := hb.n
  rw [allocation_joins.f, tmod_pos _ _ (by omega), Int.tdiv_eq_ediv_of_nonneg (by omega), w64 (a.f1 / 2048) (by omega), w64 _ (by omega), w64 _ (by omega)]
  unfold joinsB longest
  by_cases c1 : a.f0 = b.f0
  · rw [if_pos c1]
    by_cases c2 : a.f1 % 2048 = 0
    · rw [if_pos c2]
      by_cases c3 : a.f2.f0 + a.f1 / 2048 = b.f2.f0
      · by_cases c4 : a.f2.f1 = b.f2.f1
        · rw [if_pos (by simp [c3, c4])]
          congr 1
          rw [decide_eq_decide]
          exact ⟨fun h => ⟨c1, c2, c3, c4, h⟩, fun h => h.2.2.2.2⟩
        · rw [if_neg (by simp [c3, c4]), decide_eq_false (fun h => c4 h.2.2.2.1)]
      · rw [if_neg (by simp [c3]), decide_eq_false (fun h => c3 h.2.2.1)]
    · rw [if_neg c2, decide_eq_false (fun h => c2 h.2.1)]
  · rw [if_neg c1, decide_eq_false (fun h => c1 h.1)]
theorem rev_last (a : S46) (t : List S46) : rd_T46 ((a :: t).reverse) (t.length : Int) = a := by
  simp [rd_T46]
theorem rev_set (a b : S46) (t : List S46) : ((a :: t).reverse).set t.length b = (b :: t).reverse := by
  simp [List.set_append]
theorem Join_l0 (l : List S46) (hl : l.length ≤ 64) (hx : ∀ x ∈ l, Ok x) : ∀ (m j : Nat) (o : List S46), j + m = l.length → (∀ a ∈ o, Ok a) → o.length ≤ j →
    Ev (fun k => allocation_Join.l0 k o.reverse l (l.length : Int) (j : Int)) ((l.drop j).foldl jr o).reverse := by
  intro m
  induction m with
  | zero =>
    intro j o hj h0 h1
    rw [List.drop_of_length_le (by omega), List.foldl_nil]
    exact Ev.step (fun k => by rw [allocation_Join.l0, if_neg (by omega)]) (Ev.now _)
  | succ m ih =>
    intro j o hj h0 h1
    have hlt : j < l.length := by omega
    have hb := hx l[j] (List.getElem_mem hlt)
    rw [List.drop_eq_getElem_cons hlt, List.foldl_cons]
    have := ih (j + 1) (jr o l[j]) (by omega) (all_fold Ok Ok.join [l[j]] o h0 (by simpa using hb)) (by have := length_jr o l[j]; omega)
    refine Ev.step (fun k => by rw [allocation_Join.l0, if_pos (by omega), if_pos (by omega), if_pos (by omega), rd46 l j hlt, w64 ((j : Int) + 1) (by omega), show (j : Int) + 1 = ((j + 1 : Nat) : Int) by omega]) ?_
    cases o with
    | nil =>
      refine Ev.iteF (by rw [w64 _ (by simp)]; simp) ?_
      exact Ev.iteT (by simp) this
    | cons a t =>
      have ha := h0 a (List.mem_cons_self ..)
      have hn := ha.n
      have hn2 := hb.n
      have ew : wrap64 (((a :: t).reverse.length : Int) - 1) = (t.length : Int) := by
        rw [List.length_reverse, List.length_cons]
        simp only [List.length_cons] at h1
        rw [w64 _ (by omega)]; omega
      refine Ev.congr (fun k => by rw [ew, rev_last a t, joins_f a _ ha hb, Option.bind_some, Int.toNat_natCast, w64 (a.f1 + l[j].f1) (by omega), rev_set]) ?_
      refine Ev.iteT (by omega) (Ev.iteT (by omega) (Ev.iteT (by rw [List.length_reverse, List.length_cons]; omega) ?_))
      rw [jr] at this
      by_cases hj : joinsB a l[j] = true
      · rw [if_pos hj] at this
        refine Ev.iteT hj ?_
        rw [jr, if_pos hj]
        exact this
      · rw [if_neg hj] at this
        refine Ev.iteF hj (Ev.iteT ?_ ?_)
        · rw [List.length_reverse]; omega
        · rw [jr, if_neg hj]
          rw [List.reverse_cons] at this
          exact this
def joinOf (l : List S46) : List S46 := if formedB l = true then joinL l else []
theorem Join_ev (l : List S46) : Ev (fun k => allocation_Join.f k l) (joinOf l) := by
  unfold joinOf
  refine Ev.congr (fun k => by rw [allocation_Join.f, allocation_formed.f, Option.bind_some]) ?_
  by_cases hf : formedB l = true
  · rw [if_pos hf]
    have h := (formed_iff l).1 hf
    have := Join_l0 l h.1 h.2 l.length 0 [] (by omega) (by simp) (by simp)
    exact Ev.iteT hf this
  · rw [if_neg hf]
    exact Ev.iteF hf (Ev.now _)
theorem mn_min (a b : Int) : mn a b = min a b := by unfold mn; split <;> omega
theorem Pieces_l0 (l : List S46) (hl : l.length ≤ 64) (hx : ∀ x ∈ l, Ok x) : ∀ (m j : Nat) (off len : Int) (out : List S46), j + m = l.length → 0 ≤ off → off ≤ 4611686018427387904 → 0 ≤ len → len ≤ 4611686018427387904 → out.length ≤ j →
    Ev (fun k => allocation_Pieces.l0 k off len out l (l.length : Int) (j : Int)) (out ++ pieces (l.drop j) off len, 0) := by
  intro m
  induction m with
  | zero =>
    intro j off len out hj h0 h1 h2 h3 h4
    rw [List.drop_of_length_le (by omega), pieces, List.append_nil]
    exact Ev.step (fun k => by rw [allocation_Pieces.l0, if_neg (by omega)]) (Ev.now _)
  | succ m ih =>
    intro j off len out hj h0 h1 h2 h3 h4
    have hlt : j < l.length := by omega
    have ho := hx l[j] (List.getElem_mem hlt)
    have hn := ho.n; have hb := ho.b
    rw [List.drop_eq_getElem_cons hlt, pieces]
    refine Ev.step (fun k => by rw [allocation_Pieces.l0, if_pos (by omega), if_pos (by omega), if_pos (by omega), rd46 l j hlt, mn_min, w64 ((j : Int) + 1) (by omega), show (j : Int) + 1 = ((j + 1 : Nat) : Int) by omega, w64 (off - min off l[j].f1) (by omega), w64 (l[j].f1 - min off l[j].f1) (by omega), mn_min, w64 (len - min len (l[j].f1 - min off l[j].f1)) (by omega), Int.tdiv_eq_ediv_of_nonneg (by omega), w64 (min off l[j].f1 / 2048) (by omega), w64 (l[j].f2.f0 + min off l[j].f1 / 2048) (by omega)]) ?_
    by_cases c1 : min off l[j].f1 < l[j].f1
    · refine Ev.iteT c1 ?_
      by_cases c2 : 0 < len
      · rw [if_pos ⟨c1, c2⟩]
        refine Ev.iteT c2 (Ev.iteT (by omega) ?_)
        have := ih (j + 1) (off - min off l[j].f1) (len - min len (l[j].f1 - min off l[j].f1)) (out ++ [⟨l[j].f0, min len (l[j].f1 - min off l[j].f1), ⟨l[j].f2.f0 + min off l[j].f1 / 2048, l[j].f2.f1⟩⟩]) (by omega) (by omega) (by omega) (by omega) (by omega) (by rw [List.length_append, List.length_singleton]; omega)
        rw [List.append_assoc, List.singleton_append] at this
        exact this
      · rw [if_neg (fun h => c2 h.2)]
        refine Ev.iteF c2 ?_
        exact ih (j + 1) (off - min off l[j].f1) len out (by omega) (by omega) (by omega) (by omega) (by omega) (by omega)
    · rw [if_neg (fun h => c1 h.1)]
      refine Ev.iteF c1 ?_
      exact ih (j + 1) (off - min off l[j].f1) len out (by omega) (by omega) (by omega) (by omega) (by omega) (by omega)
def piecesOf (l : List S46) (off len : Int) : List S46 × Int :=
  if validL l = true then (if off < 0 ∨ off % 2048 ≠ 0 ∨ len < 0 ∨ off > lenS l ∨ len > lenS l - off then ([], 2) else (pieces l off len, 0)) else ([], 1)
theorem Pieces_j0 (l : List S46) (a1 a2 : Int) : Ev (fun k => allocation_Pieces.j0 k l a1 a2 true) ([], 2) :=
  Ev.step (fun k => by rw [allocation_Pieces.j0]) (Ev.iteT rfl (Ev.now _))
theorem Pieces_ev (l : List S46) (a1 a2 : Int) : Ev (fun k => allocation_Pieces.f k l a1 a2) (piecesOf l a1 a2) := by
  unfold piecesOf
  refine Ev.congr (fun k => by rw [allocation_Pieces.f]) (Ev.bind (Valid_ev l) ?_)
  by_cases hv : validL l = true
  · have hV := (valid_iff l).1 hv
    have hf : formedB l = true := (formed_iff l).2 ⟨hV.n, hV.ok⟩
    have hp : 0 ≤ lenS l := lenS_pos l (fun x hx => (hV.ok x hx).n.1)
    have hlen := hV.len
    rw [if_pos hv]
    refine Ev.iteT hv (Ev.bind (Length_ev l) ?_)
    rw [show lengthOf l = lenS l from if_pos hf]
    by_cases c1 : a1 < 0
    · rw [if_pos (.inl c1)]
      exact Ev.iteT c1 (Pieces_j0 l a1 a2)
    · refine Ev.iteF c1 ?_
      by_cases c2 : Int.tmod a1 2048 = 0
      · have c2' : a1 % 2048 = 0 := by rw [tmod_pos _ _ (by omega)] at c2; exact c2
        refine Ev.iteT c2 ?_
        by_cases c3 : a2 < 0
        · rw [if_pos (.inr (.inr (.inl c3)))]
          exact Ev.iteT c3 (Pieces_j0 l a1 a2)
        · refine Ev.iteF c3 ?_
          by_cases c4 : a1 > lenS l
          · rw [if_pos (.inr (.inr (.inr (.inl c4))))]
            exact Ev.iteT c4 (Pieces_j0 l a1 a2)
          · refine Ev.iteF c4 ?_
            refine Ev.congr (fun k => by rw [w64 (lenS l - a1) (by omega)]) ?_
            by_cases c5 : a2 > lenS l - a1
            · rw [if_pos (.inr (.inr (.inr (.inr c5)))), decide_eq_true c5]
              exact Pieces_j0 l a1 a2
            · rw [if_neg (by omega), decide_eq_false c5]
              refine Ev.step (fun k => by rw [allocation_Pieces.j0]) (Ev.iteF (by simp) ?_)
              exact Pieces_l0 l hV.n hV.ok l.length 0 a1 a2 [] (by omega) (by omega) (by omega) (by omega) (by omega) (by simp)
      · rw [if_pos (.inr (.inl (by rw [tmod_pos _ _ (by omega)] at c2; exact c2)))]
        exact Ev.iteF c2 (Pieces_j0 l a1 a2)
  · rw [if_neg hv]
    exact Ev.iteF hv (Ev.now _)
theorem Valid.formed {l : List S46} (h : Valid l) : formedB l = true := (formed_iff l).2 ⟨h.n, h.ok⟩
theorem Valid.join {l : List S46} (h : Valid l) : Valid (joinL l) ∧ (joinL l).length ≤ l.length ∧ lenS (joinL l) = lenS l ∧ blkS (joinL l) = blkS l := by
  have e1 : lenS (joinL l) = lenS l := by unfold joinL; rw [lenS_reverse, lenS_fold, lenS, Int.zero_add]
  have e2 : blkS (joinL l) = blkS l := by unfold joinL; rw [blkS_reverse, blkS_fold, blkS, Int.zero_add]
  have e3 : (joinL l).length ≤ l.length := by unfold joinL; rw [List.length_reverse]; simpa using length_fold l []
  refine ⟨⟨Nat.le_trans e3 h.n, fun x hx => ?_, by rw [e1]; exact h.len, whole_fold l [] (by simp) h.whole, fun x hx => ?_⟩, e3, e1, e2⟩
  · exact all_fold Ok Ok.join l [] (by simp) h.ok x (List.mem_reverse.1 hx)
  · exact all_fold Fine Fine.join l [] (by simp) h.fine x (List.mem_reverse.1 hx)
end Go.Proofs.Ytijbfebbogiiiaa.Pure
