/- pack, New and Mark of both ways. -/
import Derived.Test.YtijbfebbogiiiaaPBits
import Derived.Test.YtijbfebbogiiiaaQ55
import Derived.Test.YtijbfebbogiiiaaQ25
namespace Go.Proofs.Ytijbfebbogiiiaa.Pure
open Go Go.RowKit Go.Proofs.Ytijbfebbogiiiaa.Q Go.Proofs.YtijbfebbogiiiaaW.PrintWords Go.Proofs.YtijbfebbogiiiaaW.PrintLast Go.Proofs.YtijbfebbogiiiaaW.PrintMore
set_option linter.unusedVariables false
set_option linter.unusedSimpArgs false
/-- The upper m bits of a byte, the highest one first. -/
def hiB (f : Nat → Bool) : Nat → Nat
  | 0 => 0
  | m + 1 => 2 * hiB f m + cond (f (7 - m)) 1 0
theorem hiB_bd (f : Nat → Bool) : ∀ m, hiB f m < 2 ^ m := by
  intro m
  induction m with
  | zero => exact Nat.one_pos
  | succ m ih =>
    rw [hiB, Nat.pow_succ]
    cases f (7 - m)
    · show 2 * hiB f m + 0 < _; omega
    · show 2 * hiB f m + 1 < _; omega
theorem cond_pow (b : Bool) : cond b 2 0 = 2 * cond b 1 0 ∧ cond b 4 0 = 4 * cond b 1 0 ∧ cond b 8 0 = 8 * cond b 1 0 ∧ cond b 16 0 = 16 * cond b 1 0 ∧ cond b 32 0 = 32 * cond b 1 0 ∧ cond b 64 0 = 64 * cond b 1 0 ∧ cond b 128 0 = 128 * cond b 1 0 := by cases b <;> decide
theorem hiB_pack (f : Nat → Bool) : hiB f 8 = packByte f := by
  have h1 := (cond_pow (f 1)).1
  have h2 := (cond_pow (f 2)).2.1
  have h3 := (cond_pow (f 3)).2.2.1
  have h4 := (cond_pow (f 4)).2.2.2.1
  have h5 := (cond_pow (f 5)).2.2.2.2.1
  have h6 := (cond_pow (f 6)).2.2.2.2.2.1
  have h7 := (cond_pow (f 7)).2.2.2.2.2.2
  rw [packByte, packB, h1, h2, h3, h4, h5, h6, h7]
  simp only [hiB, Nat.sub_self, Nat.reduceSub]
  omega
theorem packByte_bd (f : Nat → Bool) : packByte f < 256 := by rw [← hiB_pack]; exact hiB_bd f 8
theorem pack_l1 (l : List Bool) (hl : l.length ≤ 100000) (j : Nat) (hj : 8 * j < l.length) (acc : List Int) (ha : acc.length ≤ 100000) (R : ByteArray)
    (h : Ev (fun k => masterdiscref41_pack.l0 k l (acc ++ [((packByte fun k => l.getD (8 * j + k) false : Nat) : Int)]) ((8 * (j + 1) : Nat) : Int)) R) : ∀ (m' m : Nat), m + m' = 8 →
    Ev (fun k => masterdiscref41_pack.l1 k l acc ((8 * j : Nat) : Int) ((hiB (fun k => l.getD (8 * j + k) false) m : Nat) : Int) (7 - (m : Int))) R := by
  intro m'
  induction m' with
  | zero =>
    intro m hm
    obtain rfl : m = 8 := by omega
    have hb := packByte_bd (fun k => l.getD (8 * j + k) false)
    refine Ev.step (fun k => by rw [masterdiscref41_pack.l1, if_neg (by omega), if_pos (by omega), hiB_pack, Int.emod_eq_of_lt (by omega) (by omega), w64 _ (by omega), show ((8 * j : Nat) : Int) + 8 = ((8 * (j + 1) : Nat) : Int) by omega]) h
  | succ m' ih =>
    intro m hm
    have hb := hiB_bd (fun k => l.getD (8 * j + k) false) m
    have hp : 2 ^ m ≤ 2 ^ 7 := Nat.pow_le_pow_right (by omega) (by omega)
    have e1 : wrap64 (((8 * j : Nat) : Int) + (7 - (m : Int))) = ((8 * j + (7 - m) : Nat) : Int) := by rw [w64 _ (by omega)]; omega
    have e2 : wrap64 (7 - (m : Int) - 1) = 7 - ((m + 1 : Nat) : Int) := by rw [w64 _ (by omega)]; omega
    have ih' := ih (m + 1) (by omega)
    rw [hiB] at ih'
    refine Ev.step (fun k => by rw [masterdiscref41_pack.l1, if_pos (by omega), e1, e2, w64 (2 * _) (by omega)]) ?_
    by_cases c1 : 8 * j + (7 - m) < l.length
    · refine Ev.iteT (by omega) (Ev.iteT (by omega) ?_)
      have er : rdOf false l ((8 * j + (7 - m) : Nat) : Int) = l.getD (8 * j + (7 - m)) false := by rw [rdOf, Int.toNat_natCast]
      rw [er]
      by_cases c2 : l.getD (8 * j + (7 - m)) false = true
      · refine Ev.iteT c2 ?_
        simp only [c2] at ih'
        rw [w64 _ (by omega)]
        exact ih'
      · refine Ev.iteF c2 ?_
        simp only [Bool.eq_false_iff.2 c2] at ih'
        exact ih'
    · refine Ev.iteF (by omega) ?_
      have e3 : l.getD (8 * j + (7 - m)) false = false := by rw [List.getD_eq_getElem?_getD, List.getElem?_eq_none (by omega)]; rfl
      simp only [e3] at ih'
      exact ih'
theorem pack_l0 (l : List Bool) (hl : l.length ≤ 100000) : ∀ (m j : Nat) (acc : List Int), j + m = (l.length + 7) / 8 → acc.length = j →
    Ev (fun k => masterdiscref41_pack.l0 k l acc ((8 * j : Nat) : Int)) (strOfNums (acc ++ (List.range' j m).map fun j => ((packByte fun k => l.getD (8 * j + k) false : Nat) : Int))) := by
  intro m
  induction m with
  | zero =>
    intro j acc hj ha
    rw [List.range'_zero, List.map_nil, List.append_nil]
    exact Ev.step (fun k => by rw [masterdiscref41_pack.l0, if_neg (by omega)]) (Ev.now _)
  | succ m ih =>
    intro j acc hj ha
    refine Ev.step (fun k => by rw [masterdiscref41_pack.l0, if_pos (by omega)]) ?_
    have h := ih (j + 1) (acc ++ [((packByte fun k => l.getD (8 * j + k) false : Nat) : Int)]) (by omega) (by rw [List.length_append, List.length_singleton]; omega)
    rw [List.append_assoc, List.singleton_append] at h
    rw [List.range'_succ, List.map_cons]
    exact pack_l1 l hl j (by omega) acc (by omega) _ h 8 0 (by omega)
theorem pack_ev (l : List Bool) (hl : l.length ≤ 100000) : Ev (fun k => masterdiscref41_pack.f k l) (strOfNums (packNums ((l.length + 7) / 8) (fun i => l.getD i false))) := by
  have := pack_l0 l hl ((l.length + 7) / 8) 0 [] (by omega) rfl
  rw [List.nil_append, ← List.range_eq_range'] at this
  exact this
theorem getD_range (n : Nat) (f : Nat → Bool) (i : Nat) : ((List.range n).map f).getD i false = if i < n then f i else false := by
  rw [List.getD_eq_getElem?_getD, List.getElem?_map]
  by_cases c : i < n
  · rw [List.getElem?_range c, if_pos c]; rfl
  · rw [List.getElem?_eq_none (by simp; omega), if_neg c]; rfl
theorem pack_range (n : Nat) (f : Nat → Bool) (h : n ≤ 100000) : Ev (fun k => masterdiscref41_pack.f k ((List.range n).map f)) (strOfNums (packNums ((n + 7) / 8) (fun i => if i < n then f i else false))) := by
  have := pack_ev ((List.range n).map f) (by simpa using h)
  rw [List.length_map, List.length_range, show (fun i => ((List.range n).map f).getD i false) = (fun i => if i < n then f i else false) from funext (getD_range n f)] at this
  exact this
theorem packNums_length (n : Nat) (f : Nat → Bool) : (packNums n f).length = n := by simp [packNums]
theorem packNums_get (n : Nat) (f : Nat → Bool) (j : Nat) (h : j < n) : rd (packNums n f) (j : Int) = ((packByte fun k => f (8 * j + k) : Nat) : Int) := by
  rw [rd, Int.toNat_natCast, List.getD_eq_getElem?_getD, packNums, List.getElem?_map, List.getElem?_range h]
  rfl
theorem packNums_set (n : Nat) (f : Nat → Bool) (q r : Nat) (hr : r < 8) (b : Bool) : (packNums n f).set q ((packByte (setBit (fun k => f (8 * q + k)) r b) : Nat) : Int) = packNums n (setBit f (8 * q + r) b) := by
  apply List.ext_getElem?
  intro j
  rw [List.getElem?_set, packNums_length]
  by_cases hj : j < n
  · have e : ∀ g : Nat → Bool, (packNums n g)[j]? = some ((packByte fun k => g (8 * j + k) : Nat) : Int) := fun g => by rw [packNums, List.getElem?_map, List.getElem?_range hj]; rfl
    rw [e, e]
    by_cases c : q = j
    · subst c
      rw [if_pos rfl, if_pos hj, packByte_congr (f := setBit (fun k => f (8 * q + k)) r b) (g := fun k => setBit f (8 * q + r) b (8 * q + k)) (fun k hk => ?_)]
      simp only [setBit]
      by_cases c : k = r
      · rw [if_pos c, if_pos (by omega)]
      · rw [if_neg c, if_neg (by omega)]
    · rw [if_neg c, packByte_congr (f := fun k => f (8 * j + k)) (g := fun k => setBit f (8 * q + r) b (8 * j + k)) (fun k hk => ?_)]
      simp only [setBit]
      rw [if_neg (by omega)]
  · have e : ∀ g : Nat → Bool, (packNums n g)[j]? = none := fun g => List.getElem?_eq_none (by rw [packNums_length]; omega)
    rw [e, e]
    by_cases c : q = j
    · rw [if_pos c, if_neg (by omega)]
    · rw [if_neg c]
theorem bytes_f (n : Int) (h0 : 0 ≤ n) (h1 : n ≤ 4096) : spacebitmap_bytes.f n = some ((n + 7) / 8) := by
  rw [spacebitmap_bytes.f, w64 (n + 7) (by omega), Int.tdiv_eq_ediv_of_nonneg (by omega), w64 _ (by omega)]
/-- The bitmap of free blocks. -/
def newOf (n : Int) : ByteArray := if n < 0 ∨ n > 4096 then ⟨#[]⟩ else strOfNums (packNums ((n.toNat + 7) / 8) (fun i => decide (i < n.toNat)))
theorem New_l0 (N : Nat) (hN : N ≤ 4096) : ∀ (m i : Nat), i + m = N →
    Ev (fun k => spacebitmap_New.l0 k (packNums ((N + 7) / 8) (fun t => decide (t < i))) (N : Int) (i : Int)) (strOfNums (packNums ((N + 7) / 8) (fun t => decide (t < N)))) := by
  intro m
  induction m with
  | zero =>
    intro i hi
    obtain rfl : i = N := by omega
    exact Ev.step (fun k => by rw [spacebitmap_New.l0, if_neg (by omega)]) (Ev.now _)
  | succ m ih =>
    intro i hi
    have t1 : wrap64 (Int.tdiv (i : Int) 8) = ((i / 8 : Nat) : Int) := by rw [Int.tdiv_eq_ediv_of_nonneg (by omega), w64 _ (by omega)]; omega
    have t2 : Int.tmod (i : Int) 8 = ((i % 8 : Nat) : Int) := by rw [Int.tmod_eq_emod_of_nonneg (by omega)]; omega
    have hr : i % 8 < 8 := by omega
    have e1 : shl .u8 1 ((i % 8 : Nat) : Int) = ((2 ^ (i % 8) : Nat) : Int) := by
      unfold shl
      rw [Int.toNat_natCast, show IntKind.bits .u8 = 8 from rfl]
      exact (pow_forms (i % 8) hr).1
    have e2 : (packNums ((N + 7) / 8) (fun t => decide (t < i))).set (i / 8) (Go.bits .or .u8 (rd (packNums ((N + 7) / 8) (fun t => decide (t < i))) ((i / 8 : Nat) : Int)) ((2 ^ (i % 8) : Nat) : Int)) = packNums ((N + 7) / 8) (fun t => decide (t < i + 1)) := by
      rw [packNums_get _ _ _ (by omega), packByte_set _ _ hr, packNums_set _ _ _ _ hr, show 8 * (i / 8) + i % 8 = i by omega]
      refine packNums_congr fun t _ => ?_
      simp only [setBit]
      by_cases c : t = i
      · rw [if_pos c, decide_eq_true (by omega)]
      · rw [if_neg c, decide_eq_decide]; omega
    refine Ev.step (fun k => by rw [spacebitmap_New.l0, if_pos (by omega), t1, t2, if_pos (by omega), packNums_length, if_pos (by omega), if_pos (by omega), e1, Int.toNat_natCast, e2, w64 _ (by omega), show (i : Int) + 1 = ((i + 1 : Nat) : Int) by omega]) ?_
    exact ih (i + 1) (by omega)
theorem New_j0 (n : Int) : Ev (fun k => spacebitmap_New.j0 k n true) ⟨#[]⟩ := Ev.step (fun k => by rw [spacebitmap_New.j0]) (Ev.iteT rfl (Ev.now _))
theorem zeros_pack (M : Nat) : List.replicate M (0 : Int) = packNums M (fun t => decide (t < 0)) := by
  apply List.ext_getElem?
  intro j
  by_cases hj : j < M
  · rw [List.getElem?_replicate, if_pos hj, packNums, List.getElem?_map, List.getElem?_range hj]
    rfl
  · rw [List.getElem?_eq_none (by simp; omega), List.getElem?_eq_none (by rw [packNums_length]; omega)]
theorem New_ev (n : Int) : Ev (fun k => spacebitmap_New.f k n) (newOf n) := by
  unfold spacebitmap_New.f newOf
  by_cases c1 : n < 0
  · rw [if_pos (.inl c1)]
    exact Ev.iteT c1 (New_j0 n)
  · refine Ev.iteF c1 ?_
    by_cases c2 : n > 4096
    · rw [if_pos (.inr c2), decide_eq_true c2]
      exact New_j0 n
    · rw [if_neg (by omega), decide_eq_false c2]
      obtain ⟨N, rfl⟩ : ∃ N : Nat, n = N := ⟨n.toNat, by omega⟩
      refine Ev.step (fun k => by rw [spacebitmap_New.j0]) (Ev.iteF (by decide) ?_)
      rw [bytes_f _ (by omega) (by omega)]
      simp only [Option.bind_some]
      refine Ev.iteT (by omega) (Ev.iteT (by omega) ?_)
      rw [show (((N : Int) + 7) / 8).toNat = (N + 7) / 8 by omega, zeros_pack, Int.toNat_natCast]
      exact New_l0 N (by omega) N 0 (by omega)
theorem Newref_l0 (N : Nat) (hN : N ≤ 4096) : ∀ (m i : Nat), i + m = N →
    Ev (fun k => masterdiscref41_New.l0 k (N : Int) ((List.range i).map fun _ => true) (i : Int)) (strOfNums (packNums ((N + 7) / 8) (fun t => decide (t < N)))) := by
  intro m
  induction m with
  | zero =>
    intro i hi
    obtain rfl : i = N := by omega
    refine Ev.step (fun k => by rw [masterdiscref41_New.l0, if_neg (by omega)]) ?_
    have h := pack_range i (fun _ => true) (by omega)
    rw [show (fun t => if t < i then true else false) = (fun t => decide (t < i)) from funext fun t => by by_cases c : t < i <;> simp [c]] at h
    exact Ev.bind h (Ev.now _)
  | succ m ih =>
    intro i hi
    refine Ev.step (fun k => by rw [masterdiscref41_New.l0, if_pos (by omega), if_pos (by simp; omega), w64 _ (by omega), show (i : Int) + 1 = ((i + 1 : Nat) : Int) by omega]) ?_
    have h := ih (i + 1) (by omega)
    rw [List.range_succ, List.map_append, List.map_singleton] at h
    exact h
theorem Newref_j0 (n : Int) : Ev (fun k => masterdiscref41_New.j0 k n true) ⟨#[]⟩ := Ev.step (fun k => by rw [masterdiscref41_New.j0]) (Ev.iteT rfl (Ev.now _))
theorem Newref_ev (n : Int) : Ev (fun k => masterdiscref41_New.f k n) (newOf n) := by
  unfold masterdiscref41_New.f newOf
  by_cases c1 : n < 0
  · rw [if_pos (.inl c1)]
    exact Ev.iteT c1 (Newref_j0 n)
  · refine Ev.iteF c1 ?_
    by_cases c2 : n > 4096
    · rw [if_pos (.inr c2), decide_eq_true c2]
      exact Newref_j0 n
    · rw [if_neg (by omega), decide_eq_false c2]
      obtain ⟨N, rfl⟩ : ∃ N : Nat, n = N := ⟨n.toNat, by omega⟩
      refine Ev.step (fun k => by rw [masterdiscref41_New.j0]) (Ev.iteF (by decide) ?_)
      rw [Int.toNat_natCast]
      exact Newref_l0 N (by omega) N 0 (by omega)
/-- A span lies within the blocks. -/
def okS (n : Int) (x : S76) : Bool := decide (0 ≤ x.f0 ∧ 0 ≤ x.f1 ∧ x.f0 ≤ n ∧ x.f1 ≤ n - x.f0)
def markRes (s : ByteArray) (n : Int) (l : List S76) (b : Bool) : ByteArray × Int := if validB s n = true then (if l.all (okS n) = true then (strOfNums (markNums s l b), 0) else (⟨#[]⟩, 2)) else (⟨#[]⟩, 1)
theorem rd76 (l : List S76) (j : Nat) (h : j < l.length) : rd_T76 l (j : Int) = l[j] := by
  rw [rd_T76, Int.toNat_natCast, List.getD_eq_getElem?_getD, List.getElem?_eq_getElem h]; rfl
theorem valid_bd {s : ByteArray} {n : Int} (h : validB s n = true) : 0 ≤ n ∧ n ≤ 4096 ∧ s.size = (n.toNat + 7) / 8 ∧ n ≤ 8 * s.size ∧ s.size ≤ 512 := by
  obtain ⟨hz, _⟩ := (validB_iff s n).1 h
  omega
theorem Mark_l0 (s : ByteArray) (n : Int) (l : List S76) (b : Bool) (hv : validB s n = true) (hl : l.length ≤ 5000) : ∀ (m j : Nat), j + m = l.length → (∀ x ∈ l.take j, okS n x = true) →
    Ev (fun k => spacebitmap_Mark.l0 k s n l b l (l.length : Int) (j : Int)) (if l.all (okS n) = true then (strOfNums (markNums s l b), 0) else (⟨#[]⟩, 2)) := by
  obtain ⟨h0, h1, h2, h3, h4⟩ := valid_bd hv
  intro m
  induction m with
  | zero =>
    intro j hj hpre
    rw [List.take_of_length_le (by omega)] at hpre
    rw [if_pos (List.all_eq_true.2 hpre)]
    refine Ev.step (fun k => by rw [spacebitmap_Mark.l0, if_neg (by omega), spacebitmap_marked.f, if_pos ⟨by omega, by omega, fun x hx => by have := of_decide_eq_true (hpre x hx); omega⟩, Option.bind_some]) (Ev.now _)
  | succ m ih =>
    intro j hj hpre
    have hlt : j < l.length := by omega
    have e1 := rd76 l j hlt
    have hmem : l[j] ∈ l := List.getElem_mem hlt
    refine Ev.step (fun k => by rw [spacebitmap_Mark.l0, if_pos (by omega), if_pos (by omega), if_pos (by omega), e1, w64 ((j : Int) + 1) (by omega), show (j : Int) + 1 = ((j + 1 : Nat) : Int) by omega]) ?_
    by_cases ho : okS n l[j] = true
    · have ho' := of_decide_eq_true ho
      refine Ev.iteF (by omega) (Ev.iteF (by omega) (Ev.iteF (by omega) (Ev.iteF (by rw [w64 _ (by omega)]; omega) ?_)))
      refine ih (j + 1) (by omega) ?_
      rw [← List.take_append_getElem hlt]
      intro x hx
      rcases List.mem_append.1 hx with hx | hx
      · exact hpre x hx
      · rw [List.mem_singleton.1 hx]; exact ho
    · rw [if_neg (fun h => ho (List.all_eq_true.1 h _ hmem))]
      have ho' : ¬ (0 ≤ l[j].f0 ∧ 0 ≤ l[j].f1 ∧ l[j].f0 ≤ n ∧ l[j].f1 ≤ n - l[j].f0) := fun h => ho (decide_eq_true h)
      by_cases c1 : l[j].f0 < 0
      · exact Ev.iteT c1 (Ev.now _)
      · refine Ev.iteF c1 ?_
        by_cases c2 : l[j].f1 < 0
        · exact Ev.iteT c2 (Ev.now _)
        · refine Ev.iteF c2 ?_
          by_cases c3 : l[j].f0 > n
          · exact Ev.iteT c3 (Ev.now _)
          · exact Ev.iteF c3 (Ev.iteT (by rw [w64 _ (by omega)]; omega) (Ev.now _))
theorem Mark_ev (s : ByteArray) (n : Int) (l : List S76) (b : Bool) (hs : s.size ≤ 1000000) (hl : l.length ≤ 5000) : Ev (fun k => spacebitmap_Mark.f k s n l b) (markRes s n l b) := by
  unfold spacebitmap_Mark.f markRes
  rw [valid_f s n (by omega)]
  simp only [Option.bind_some]
  by_cases hv : validB s n = true
  · rw [if_pos hv]
    exact Ev.iteT hv (Mark_l0 s n l b hv hl l.length 0 (by omega) (by simp))
  · rw [if_neg hv]
    exact Ev.iteF hv (Ev.now _)
theorem Markref_l1 (N a c : Nat) (hac : a + c ≤ N) (hN : N ≤ 4096) (n : Int) (l : List S76) (b : Bool) (j : Nat) (hj : j < 100000) (G : Nat → Bool) (R : ByteArray × Int)
    (h : Ev (fun k => masterdiscref41_Mark.l0 k n l b ((List.range N).map fun t => if a ≤ t ∧ t < a + c then b else G t) ((j + 1 : Nat) : Int)) R) : ∀ (m i : Nat), i + m = c →
    Ev (fun k => masterdiscref41_Mark.l1 k n l b ((List.range N).map fun t => if a ≤ t ∧ t < a + i then b else G t) (j : Int) (i : Int) (a : Int) (c : Int)) R := by
  intro m
  induction m with
  | zero =>
    intro i hi
    obtain rfl : i = c := by omega
    exact Ev.step (fun k => by rw [masterdiscref41_Mark.l1, if_neg (by omega), w64 _ (by omega), show (j : Int) + 1 = ((j + 1 : Nat) : Int) by omega]) h
  | succ m ih =>
    intro i hi
    have e1 : wrap64 ((a : Int) + (i : Int)) = ((a + i : Nat) : Int) := by rw [w64 _ (by omega)]; omega
    refine Ev.step (fun k => by rw [masterdiscref41_Mark.l1, if_pos (by omega), e1, if_pos (by omega), if_pos (by simp; omega), Int.toNat_natCast, set_range, w64 _ (by omega), show (i : Int) + 1 = ((i + 1 : Nat) : Int) by omega]) ?_
    rw [range_congr (f := setBit (fun t => if a ≤ t ∧ t < a + i then b else G t) (a + i) b) (g := fun t => if a ≤ t ∧ t < a + (i + 1) then b else G t) (fun t _ => by rw [set_more G a (a + i) t b (by omega), show a + i + 1 = a + (i + 1) by omega])]
    exact ih (i + 1) (by omega)
theorem mark_end (s : ByteArray) (N : Nat) (hv : validB s (N : Int) = true) (l : List S76) (hl : l.all (okS (N : Int)) = true) (b : Bool) :
    Ev (fun k => masterdiscref41_pack.f k ((List.range N).map (markF l b (bitOf s)))) (strOfNums (markNums s l b)) := by
  obtain ⟨h0, h1, h2, h3, h4⟩ := valid_bd hv
  rw [Int.toNat_natCast] at h2
  have h := pack_range N (markF l b (bitOf s)) (by omega)
  rw [← h2, packNums_congr (g := markF l b (bitOf s)) (fun i hi => ?_)] at h
  · exact h
  · by_cases c : i < N
    · rw [if_pos c]
    · rw [if_neg c]
      have hn : inSpans l i = false := by
        rw [inSpans, List.any_eq_false]
        intro x hx
        have := of_decide_eq_true (List.all_eq_true.1 hl x hx)
        simp only [decide_eq_true_eq]
        omega
      rw [markF, hn, if_neg (by simp), ((validB_iff s N).1 hv).2 i (by omega) hi]
theorem Markref_l0 (s : ByteArray) (N : Nat) (l : List S76) (b : Bool) (hv : validB s (N : Int) = true) (hl : l.length ≤ 5000) : ∀ (m j : Nat), j + m = l.length → (∀ x ∈ l.take j, okS (N : Int) x = true) →
    Ev (fun k => masterdiscref41_Mark.l0 k (N : Int) l b ((List.range N).map (markF (l.take j) b (bitOf s))) (j : Int)) (if l.all (okS (N : Int)) = true then (strOfNums (markNums s l b), 0) else (⟨#[]⟩, 2)) := by
  obtain ⟨h0, h1, h2, h3, h4⟩ := valid_bd hv
  have hbad : ∀ (L : List Bool) (j : Nat) (x y : Int), Ev (fun k => masterdiscref41_Mark.j1 k (N : Int) l b L (j : Int) true x y) (⟨#[]⟩, 2) := fun L j x y => Ev.step (fun k => by rw [masterdiscref41_Mark.j1]) (Ev.iteT rfl (Ev.now _))
  intro m
  induction m with
  | zero =>
    intro j hj hpre
    rw [List.take_of_length_le (by omega)] at hpre ⊢
    have ha := List.all_eq_true.2 hpre
    rw [if_pos ha]
    exact Ev.step (fun k => by rw [masterdiscref41_Mark.l0, if_neg (by omega)]) (Ev.bind (mark_end s N hv l ha b) (Ev.now _))
  | succ m ih =>
    intro j hj hpre
    have hlt : j < l.length := by omega
    have e1 := rd76 l j hlt
    have hmem : l[j] ∈ l := List.getElem_mem hlt
    refine Ev.step (fun k => by rw [masterdiscref41_Mark.l0, if_pos (by omega), if_pos (by omega), e1]) ?_
    by_cases ho : okS (N : Int) l[j] = true
    · have ho' := of_decide_eq_true ho
      have ihx := ih (j + 1) (by omega) (by
        rw [← List.take_append_getElem hlt]
        intro x hx
        rcases List.mem_append.1 hx with hx | hx
        · exact hpre x hx
        · rw [List.mem_singleton.1 hx]; exact ho)
      generalize hx : l[j] = x at *
      have hsn : l.take (j + 1) = l.take j ++ [x] := by rw [← hx]; exact (List.take_append_getElem hlt).symm
      obtain ⟨a, ha⟩ : ∃ a : Nat, x.f0 = a := ⟨x.f0.toNat, by omega⟩
      obtain ⟨c, hc⟩ : ∃ c : Nat, x.f1 = c := ⟨x.f1.toNat, by omega⟩
      rw [hsn, range_congr (g := fun t => if a ≤ t ∧ t < a + c then b else markF (l.take j) b (bitOf s) t) (fun t _ => by
        simp only [markF, inSpans_snoc, ha, hc]
        by_cases e : a ≤ t ∧ t < a + c
        · rw [if_pos e, decide_eq_true (by omega), Bool.or_true, if_pos rfl]
        · rw [if_neg e, decide_eq_false (by omega), Bool.or_false])] at ihx
      refine Ev.iteF (by omega) (Ev.iteF (by omega) (Ev.iteF (by omega) ?_))
      rw [w64 _ (by omega), decide_eq_false (by omega), ha, hc]
      refine Ev.step (fun k => by rw [masterdiscref41_Mark.j1]) (Ev.iteF (by decide) ?_)
      have h := Markref_l1 N a c (by omega) (by omega) (N : Int) l b j (by omega) (markF (l.take j) b (bitOf s)) _ ihx c 0 (by omega)
      rw [range_congr (f := fun t => if a ≤ t ∧ t < a + 0 then b else markF (l.take j) b (bitOf s) t) (g := markF (l.take j) b (bitOf s)) (fun t _ => if_neg (by omega))] at h
      exact h
    · rw [if_neg (fun h => ho (List.all_eq_true.1 h _ hmem))]
      have ho' : ¬ (0 ≤ l[j].f0 ∧ 0 ≤ l[j].f1 ∧ l[j].f0 ≤ (N : Int) ∧ l[j].f1 ≤ (N : Int) - l[j].f0) := fun h => ho (decide_eq_true h)
      by_cases c1 : l[j].f0 < 0
      · exact Ev.iteT c1 (hbad _ _ _ _)
      · refine Ev.iteF c1 ?_
        by_cases c2 : l[j].f1 < 0
        · exact Ev.iteT c2 (hbad _ _ _ _)
        · refine Ev.iteF c2 ?_
          by_cases c3 : l[j].f0 > (N : Int)
          · exact Ev.iteT c3 (hbad _ _ _ _)
          · refine Ev.iteF c3 ?_
            rw [w64 _ (by omega), decide_eq_true (by omega)]
            exact hbad _ _ _ _
theorem Markref_ev (s : ByteArray) (n : Int) (l : List S76) (b : Bool) (hs : s.size ≤ 1000000) (hl : l.length ≤ 5000) : Ev (fun k => masterdiscref41_Mark.f k s n l b) (markRes s n l b) := by
  unfold masterdiscref41_Mark.f markRes
  refine Ev.bind (Valid_ev s n hs) ?_
  by_cases hv : validB s n = true
  · rw [if_pos hv]
    obtain ⟨h0, h1, h2, h3, h4⟩ := valid_bd hv
    obtain ⟨N, rfl⟩ : ∃ N : Nat, n = N := ⟨n.toNat, by omega⟩
    refine Ev.iteT hv (Ev.bind (bits_ev s hs) ?_)
    refine Ev.iteT (by omega) (Ev.iteT (by rw [bitsL_length]; omega) ?_)
    have h := Markref_l0 s N l b hv hl l.length 0 (by omega) (by simp)
    rw [Int.toNat_natCast, bitsL, take_range _ _ _ (by omega)]
    exact h
  · rw [if_neg hv]
    exact Ev.iteF hv (Ev.now _)
end Go.Proofs.Ytijbfebbogiiiaa.Pure
