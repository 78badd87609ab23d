/- The runs are in increasing order, do not touch each other, and hold exactly the free blocks. -/
import Derived.Test.YtijbfebbogiiiaaQ62
import Derived.Test.YtijbfebbogiiiaaPAwake41
import Derived.Test.YtijbfebbogiiiaaPTakes
namespace Go.Proofs.Ytijbfebbogiiiaa.Pure
open Go.RowKit Go.Proofs.Ytijbfebbogiiiaa.Q Go.Proofs.YtijbfebbogiiiaaW.PrintWords Go.Proofs.YtijbfebbogiiiaaW.PrintLast
set_option linter.unusedVariables false
set_option linter.unusedSimpArgs false
/-- Spans in increasing order that do not touch each other, all within N blocks. -/
def sepS (N : Int) : Int → List S76 → Prop
  | _, [] => True
  | last, x :: l => 1 ≤ x.f1 ∧ 0 ≤ x.f0 ∧ x.f0 + x.f1 ≤ N ∧ (last < 0 ∨ last + 1 < x.f0) ∧ sepS N (x.f0 + x.f1 - 1) l
theorem sep_runs (p : Nat → Bool) : ∀ (r i : Nat) (last : Int), ((last < 0 ∨ last + 1 < i) → sepS ((i + r : Nat) : Int) last (runsAux p r i none)) ∧
    (∀ st : Nat, st < i → (last < 0 ∨ last + 1 < st) → sepS ((i + r : Nat) : Int) last (runsAux p r i (some st))) := by
  intro r
  induction r with
  | zero =>
    intro i last
    refine ⟨fun _ => trivial, fun st h1 h2 => ?_⟩
    show sepS _ last [⟨(st : Int), ((i - st : Nat) : Int)⟩]
    exact ⟨by show (1 : Int) ≤ ((i - st : Nat) : Int); omega, by show (0 : Int) ≤ (st : Int); omega, by show (st : Int) + ((i - st : Nat) : Int) ≤ ((i + 0 : Nat) : Int); omega, h2, trivial⟩
  | succ r ih =>
    intro i last
    rw [show i + (r + 1) = i + 1 + r by omega]
    refine ⟨fun h => ?_, fun st h1 h2 => ?_⟩
    · rw [runsAux]
      split
      · exact (ih (i + 1) last).2 i (by omega) h
      · exact (ih (i + 1) last).1 (by omega)
    · rw [runsAux]
      split
      · exact (ih (i + 1) last).2 st (by omega) h2
      · refine ⟨by show (1 : Int) ≤ ((i - st : Nat) : Int); omega, by show (0 : Int) ≤ (st : Int); omega, by show (st : Int) + ((i - st : Nat) : Int) ≤ ((i + 1 + r : Nat) : Int); omega, h2, ?_⟩
        exact (ih (i + 1) _).1 (.inr (by show (st : Int) + ((i - st : Nat) : Int) - 1 + 1 < ((i + 1 : Nat) : Int); omega))
theorem countOf_snoc (l : List S76) (x : S76) : countOf (l ++ [x]) = countOf l + x.f1 := by simp [countOf]
theorem Runs_l1 (s : ByteArray) (N a c : Nat) (hac : a + c ≤ N) (hN : N ≤ 4096) (C : Int) (L : List S76) (len : Int) (j : Nat) (hj : j < 100000) (G : Nat → Bool) (R : Bool) (hC : 0 ≤ C ∧ C ≤ 100000000)
    (h : Ev (fun k => masterdisclaw41_SpacebitmapRuns.l0 k s (N : Int) ((List.range N).map fun t => if a ≤ t ∧ t < a + c then true else G t) ((a : Int) + (c : Int) - 1) (C + (c : Int)) L len ((j + 1 : Nat) : Int)) R) : ∀ (m i : Nat), i + m = c →
    Ev (fun k => masterdisclaw41_SpacebitmapRuns.l1 k s (N : Int) ((List.range N).map fun t => if a ≤ t ∧ t < a + i then true else G t) C L len (j : Int) (c : Int) (i : Int) (a : Int) (c : Int)) R := by
  intro m
  induction m with
  | zero =>
    intro i hi
    obtain rfl : i = c := by omega
    exact Ev.step (fun k => by rw [masterdisclaw41_SpacebitmapRuns.l1, if_neg (by omega), w64 ((a : Int) + (i : Int)) (by omega), w64 ((a : Int) + (i : Int) - 1) (by omega), w64 (C + (i : Int)) (by omega), w64 ((j : Int) + 1) (by omega), show (j : Int) + 1 = ((j + 1 : Nat) : Int) by omega]) h
  | succ m ih =>
    intro i hi
    have e1 : wrap64 ((a : Int) + (i : Int)) = ((a + i : Nat) : Int) := by rw [w64 _ (by omega)]; omega
    refine Ev.step (fun k => by rw [masterdisclaw41_SpacebitmapRuns.l1, if_pos (by omega), e1, if_pos (by omega), if_pos (by simp; omega), Int.toNat_natCast, set_range, w64 _ (by omega), show (i : Int) + 1 = ((i + 1 : Nat) : Int) by omega]) ?_
    rw [range_congr (f := setBit (fun t => if a ≤ t ∧ t < a + i then true else G t) (a + i) true) (g := fun t => if a ≤ t ∧ t < a + (i + 1) then true else G t) (fun t _ => by rw [set_more G a (a + i) t true (by omega), show a + i + 1 = a + (i + 1) by omega])]
    exact ih (i + 1) (by omega)
theorem Runs_l2 (s : ByteArray) (N : Nat) (hN : N ≤ 8 * s.size) (h4 : N ≤ 4096) (G : Nat → Bool) (hG : ∀ t, t < N → G t = bitOf s t) (C : Int) (hs : s.size ≤ 1000000) (hC : C = countOf (runsOf s (N : Int))) : ∀ (m i : Nat), i + m = N →
    Ev (fun k => masterdisclaw41_SpacebitmapRuns.l2 k s (N : Int) ((List.range N).map G) C (N : Int) (i : Int)) true := by
  intro m
  induction m with
  | zero =>
    intro i hi
    refine Ev.step (fun k => by rw [masterdisclaw41_SpacebitmapRuns.l2, if_neg (by omega), spacebitmap_Free.f, if_pos hs, Option.bind_some, hC, beq_self_eq_true]) (Ev.now _)
  | succ m ih =>
    intro i hi
    refine Ev.step (fun k => by rw [masterdisclaw41_SpacebitmapRuns.l2, if_pos (by omega), if_pos (by omega), if_pos (by simp; omega), free_f s i (by omega) (by omega), Option.bind_some, rd_range _ _ _ (by omega), hG i (by omega), bne_self_eq_false, w64 _ (by omega), show (i : Int) + 1 = ((i + 1 : Nat) : Int) by omega]) ?_
    exact Ev.iteF (by decide) (ih (i + 1) (by omega))
theorem Runs_l0 (s : ByteArray) (N : Nat) (hN : N ≤ 4096) (L : List S76) (hL : L.length ≤ 5000) (hEnd : Ev (fun k => masterdisclaw41_SpacebitmapRuns.l2 k s (N : Int) ((List.range N).map (inSpans L)) (countOf L) (N : Int) 0) true) :
    ∀ (rest acc : List S76) (last : Int), L = acc ++ rest → sepS (N : Int) last rest → -2 ≤ last → last ≤ 4096 → 0 ≤ countOf acc → countOf acc ≤ 4096 * acc.length →
    Ev (fun k => masterdisclaw41_SpacebitmapRuns.l0 k s (N : Int) ((List.range N).map (inSpans acc)) last (countOf acc) L (L.length : Int) (acc.length : Int)) true := by
  intro rest
  induction rest with
  | nil =>
    intro acc last hl hsep h1 h2 h3 h4
    rw [List.append_nil] at hl
    subst hl
    exact Ev.step (fun k => by rw [masterdisclaw41_SpacebitmapRuns.l0, if_neg (by omega)]) hEnd
  | cons x rest ih =>
    intro acc last hl hsep h1 h2 h3 h4
    obtain ⟨g1, g2, g3, g4, g5⟩ := hsep
    have hlen : L.length = acc.length + (rest.length + 1) := by rw [hl, List.length_append, List.length_cons]
    have e1 : rd_T76 L (acc.length : Int) = x := by rw [rd76 L acc.length (by omega)]; simp [hl]
    have ihx := ih (acc ++ [x]) (x.f0 + x.f1 - 1) (by rw [hl, List.append_assoc, List.singleton_append]) g5 (by omega) (by omega) (by rw [countOf_snoc]; omega) (by rw [countOf_snoc, List.length_append, List.length_singleton]; omega)
    obtain ⟨a, ha⟩ : ∃ a : Nat, x.f0 = a := ⟨x.f0.toNat, by omega⟩
    obtain ⟨c, hc⟩ : ∃ c : Nat, x.f1 = c := ⟨x.f1.toNat, by omega⟩
    rw [countOf_snoc, List.length_append, List.length_singleton, range_congr (g := fun t => if a ≤ t ∧ t < a + c then true else inSpans acc t) (fun t _ => by
      rw [inSpans_snoc, ha, hc]
      by_cases e : a ≤ t ∧ t < a + c
      · rw [if_pos e, decide_eq_true (by omega), Bool.or_true]
      · rw [if_neg e, decide_eq_false (by omega), Bool.or_false])] at ihx
    refine Ev.step (fun k => by rw [masterdisclaw41_SpacebitmapRuns.l0, if_pos (by omega), if_pos (by omega), if_pos (by omega), e1, w64 (last + 1) (by omega), w64 ((N : Int) - x.f0) (by omega), decide_eq_false (show ¬ x.f1 > (N : Int) - x.f0 by omega)]) ?_
    have hj : Ev (fun k => masterdisclaw41_SpacebitmapRuns.j2 k s (N : Int) ((List.range N).map (inSpans acc)) (countOf acc) L (L.length : Int) (acc.length : Int) false x.f0 x.f1) true := by
      refine Ev.step (fun k => by rw [masterdisclaw41_SpacebitmapRuns.j2]) (Ev.iteF (by decide) ?_)
      rw [ha, hc] at ihx ⊢
      have h := Runs_l1 s N a c (by omega) hN (countOf acc) L (L.length : Int) acc.length (by omega) (inSpans acc) true (by omega) ihx c 0 (by omega)
      rw [range_congr (f := fun t => if a ≤ t ∧ t < a + 0 then true else inSpans acc t) (g := inSpans acc) (fun t _ => if_neg (by omega))] at h
      exact h
    refine Ev.iteF (by omega) ?_
    by_cases c1 : x.f0 ≤ last + 1
    · exact Ev.iteT c1 (Ev.iteF (by omega) (Ev.iteF (by omega) (Ev.iteF (by omega) hj)))
    · exact Ev.iteF c1 (Ev.iteF (by omega) (Ev.iteF (by omega) hj))
theorem runs_ev (s : ByteArray) (n : Int) : Ev (fun k => masterdisclaw41_SpacebitmapRuns.f k s n) true := by
  have hj : Ev (fun k => masterdisclaw41_SpacebitmapRuns.j0 k s n true) true := Ev.step (fun k => by rw [masterdisclaw41_SpacebitmapRuns.j0]) (Ev.iteT rfl (Ev.now _))
  unfold masterdisclaw41_SpacebitmapRuns.f
  refine Ev.bind awake41_ev (Ev.iteT rfl ?_)
  by_cases h60 : (s.size : Int) > 60
  · exact Ev.iteT h60 hj
  · refine Ev.iteF h60 (Ev.bind (Valid_ev s n (by omega)) ?_)
    by_cases hv : validB s n = true
    · obtain ⟨h0, h1, h2, h3, h4⟩ := valid_bd hv
      obtain ⟨N, rfl⟩ : ∃ N : Nat, n = N := ⟨n.toNat, by omega⟩
      rw [hv]
      have hlen := runsOf_len s (N : Int)
      refine Ev.step (fun k => by rw [masterdisclaw41_SpacebitmapRuns.j0]) (Ev.iteF (by decide) (Ev.iteT (by omega) (Ev.iteT (by omega) ?_)))
      rw [spacebitmap_Spans.f, if_pos (by omega)]
      simp only [Option.bind_some]
      have er : runsOf s (N : Int) = runsAux (bitOf s) N 0 none := by rw [runsOf, if_pos hv, Int.toNat_natCast]
      have hsep := (sep_runs (bitOf s) N 0 (-2)).1 (.inl (by decide))
      rw [Nat.zero_add, ← er] at hsep
      have hE := Runs_l2 s N (by omega) (by omega) (inSpans (runsOf s (N : Int))) (fun t ht => by rw [er]; exact inSpans_runs _ _ _ ht) _ (by omega) rfl N 0 (by omega)
      have h := Runs_l0 s N (by omega) (runsOf s (N : Int)) (by omega) hE (runsOf s (N : Int)) [] (-2) rfl hsep (by decide) (by decide) (by decide) (by decide)
      rw [show List.replicate (N : Int).toNat false = (List.range N).map (inSpans []) by
        rw [Int.toNat_natCast]
        apply List.ext_getElem?
        intro t
        rw [List.getElem?_replicate, List.getElem?_map]
        by_cases c : t < N
        · rw [if_pos c, List.getElem?_range c]; rfl
        · rw [if_neg c, List.getElem?_eq_none (by simp; omega)]; rfl]
      exact h
    · rw [Bool.eq_false_iff.2 hv]
      exact hj
theorem SpacebitmapRuns : masterdisclaw41_SpacebitmapRuns.Pure := fun s n _ _ => (runs_ev s n).rounds
end Go.Proofs.Ytijbfebbogiiiaa.Pure
