/- FirstFit and Allocate return what the second way returns. -/
import Derived.Test.YtijbfebbogiiiaaQ58
import Derived.Test.YtijbfebbogiiiaaPAwake41
import Derived.Test.YtijbfebbogiiiaaPTakes
namespace Go.Proofs.Ytijbfebbogiiiaa.Pure
open Go.RowKit Go.Proofs.Ytijbfebbogiiiaa.Q Go.Proofs.YtijbfebbogiiiaaW.PrintWords Go.Proofs.YtijbfebbogiiiaaW.PrintLast
set_option linter.unusedVariables false
set_option linter.unusedSimpArgs false
theorem Allocref_l0 (s : ByteArray) (N : Nat) (hv : validB s (N : Int) = true) : ∀ (m i : Nat) (c : Int) (acc : List S76), i + m = N → 0 ≤ c → c ≤ 4096 → belowS acc i →
    Ev (fun k => masterdiscref41_Allocate.l0 k (N : Int) c acc ((List.range N).map (markF acc false (bitOf s))) (i : Int)) (takeRef (bitOf s) m i c acc, strOfNums (markNums s (takeRef (bitOf s) m i c acc) false), 0) := by
  obtain ⟨h0, h1, h2, h3, h4⟩ := valid_bd hv
  have hend : ∀ (i : Nat) (c : Int) (acc : List S76), belowS acc i → i ≤ N → Ev (fun k => masterdiscref41_Allocate.j1 k (N : Int) c acc ((List.range N).map (markF acc false (bitOf s))) (i : Int) false) (acc, strOfNums (markNums s acc false), 0) := by
    intro i c acc ha hi
    refine Ev.step (fun k => by rw [masterdiscref41_Allocate.j1]) (Ev.iteF (by decide) ?_)
    exact Ev.bind (mark_end s N hv acc (List.all_eq_true.2 fun x hx => decide_eq_true (by have := ha.2 x hx; omega)) false) (Ev.now _)
  intro m
  induction m with
  | zero =>
    intro i c acc hi hc0 hc1 ha
    rw [takeRef]
    exact Ev.step (fun k => by rw [masterdiscref41_Allocate.l0, if_neg (by omega)]) (hend i c acc ha (by omega))
  | succ m ih =>
    intro i c acc hi hc0 hc1 ha
    refine Ev.step (fun k => by rw [masterdiscref41_Allocate.l0, if_pos (by omega)]) ?_
    rw [takeRef]
    by_cases h0 : c ≤ 0
    · rw [if_pos h0, decide_eq_false (by omega)]
      exact hend i c acc ha (by omega)
    · rw [if_neg h0, decide_eq_true (by omega)]
      have eb : markF acc false (bitOf s) i = bitOf s i := by rw [markF, inSpans_below ha (Nat.le_refl _), if_neg (by simp)]
      refine Ev.step (fun k => by rw [masterdiscref41_Allocate.j1]) (Ev.iteT rfl (Ev.iteT (by omega) (Ev.iteT (by simp; omega) ?_)))
      rw [rd_range _ _ _ (by omega), eb, add_f acc i ha (by omega), w64 (c - 1) (by omega), w64 ((i : Int) + 1) (by omega), show (i : Int) + 1 = ((i + 1 : Nat) : Int) by omega]
      simp only [Option.bind_some, Int.toNat_natCast, set_range]
      by_cases hp : bitOf s i = true
      · rw [if_pos hp]
        refine Ev.iteT hp ?_
        have h := ih (i + 1) (c - 1) (addS acc (i : Int)) (by omega) (by omega) (by omega) (belowS_add ha)
        rw [range_congr (g := setBit (markF acc false (bitOf s)) i false) (fun t _ => by
          simp only [markF, setBit, inSpans_add ha]
          by_cases e : t = i
          · rw [if_pos e, decide_eq_true e, Bool.or_true, if_pos rfl]
          · rw [if_neg e, decide_eq_false e, Bool.or_false])] at h
        exact h
      · rw [if_neg hp]
        exact Ev.iteF hp (ih (i + 1) c acc (by omega) (by omega) (by omega) (belowS_mono ha (by omega)))
def allocRes (s : ByteArray) (n c : Int) : List S76 × ByteArray × Int :=
  if validB s n = true then (if c < 0 then ([], ⟨#[]⟩, 2) else if countOf (runsOf s n) < c then ([], ⟨#[]⟩, 12) else (takeRuns (runsOf s n) c, strOfNums (markNums s (takeRuns (runsOf s n) c) false), 0)) else ([], ⟨#[]⟩, 1)
theorem Alloc_f (s : ByteArray) (n c : Int) (hs : s.size ≤ 1000000) : spacebitmap_Allocate.f s n c = some (allocRes s n c) := by
  rw [spacebitmap_Allocate.f, if_pos hs, allocRes]
  by_cases hv : validB s n = true
  · rw [if_pos hv, if_pos hv]
    by_cases h0 : c < 0
    · rw [if_pos h0, if_pos h0]
    · rw [if_neg h0, if_neg h0]
      by_cases h1 : countOf (runsOf s n) < c
      · rw [if_pos h1, if_pos h1]
      · rw [if_neg h1, if_neg h1]
  · rw [if_neg hv, if_neg hv]
theorem Allocref_ev (s : ByteArray) (n c : Int) (hs : s.size ≤ 1000000) : Ev (fun k => masterdiscref41_Allocate.f k s n c) (allocRes s n c) := by
  unfold masterdiscref41_Allocate.f allocRes
  refine Ev.bind (Valid_ev s n hs) ?_
  by_cases hv : validB s n = true
  · rw [if_pos hv]
    obtain ⟨h0, h1, h2, h3, h4⟩ := valid_bd hv
    obtain ⟨N, rfl⟩ : ∃ N : Nat, n = N := ⟨n.toNat, by omega⟩
    refine Ev.iteT hv ?_
    by_cases hc : c < 0
    · rw [if_pos hc]
      exact Ev.iteT hc (Ev.now _)
    · rw [if_neg hc]
      refine Ev.iteF hc (Ev.bind (Freeref_ev s (N : Int) hs) ?_)
      by_cases hf : countOf (runsOf s (N : Int)) < c
      · rw [if_pos hf]
        exact Ev.iteT hf (Ev.now _)
      · rw [if_neg hf]
        have hb := (runsOf_sum s (N : Int)).2
        refine Ev.iteF hf (Ev.bind (bits_ev s hs) (Ev.iteT (by omega) (Ev.iteT (by rw [bitsL_length]; omega) ?_)))
        have h := Allocref_l0 s N hv N 0 c [] (by omega) (by omega) (by omega) ⟨by simp, by simp⟩
        rw [runsOf, if_pos hv, Int.toNat_natCast, takeRuns_ref _ _ _ (by omega), bitsL, take_range _ _ _ (by omega)]
        rw [range_congr (f := markF [] false (bitOf s)) (g := bitOf s) (fun t _ => by rw [markF, inSpans, List.any_nil, if_neg (by simp)])] at h
        exact h
  · rw [if_neg hv]
    exact Ev.iteF hv (Ev.now _)
theorem Fitref_l0 (l : List S76) (hl : l.length ≤ 100000) (c : Int) : ∀ (m j : Nat), j + m = l.length → Ev (fun k => masterdiscref41_FirstFit.l0 k c l (j : Int)) (if c < 1 then -1 else firstRun (l.drop j) c) := by
  intro m
  induction m with
  | zero =>
    intro j hj
    rw [List.drop_of_length_le (by omega), show firstRun [] c = -1 from rfl, ite_self]
    exact Ev.step (fun k => by rw [masterdiscref41_FirstFit.l0, if_neg (by omega)]) (Ev.now _)
  | succ m ih =>
    intro j hj
    have hlt : j < l.length := by omega
    refine Ev.step (fun k => by rw [masterdiscref41_FirstFit.l0, if_pos (by omega), rd76 l j hlt, w64 _ (by omega), show (j : Int) + 1 = ((j + 1 : Nat) : Int) by omega]) ?_
    have h := ih (j + 1) (by omega)
    by_cases hc : c < 1
    · rw [if_pos hc] at h ⊢
      exact Ev.iteF (by omega) h
    · rw [if_neg hc] at h ⊢
      refine Ev.iteT (by omega) (Ev.iteT (by omega) ?_)
      rw [List.drop_eq_getElem_cons hlt, firstRun_cons]
      by_cases c1 : l[j].f1 ≥ c
      · rw [if_pos c1]
        exact Ev.iteT c1 (Ev.now _)
      · rw [if_neg c1]
        exact Ev.iteF c1 h
theorem Fitref_ev (s : ByteArray) (n c : Int) (hs : s.size ≤ 1000000) : Ev (fun k => masterdiscref41_FirstFit.f k s n c) (if c < 1 then -1 else firstRun (runsOf s n) c) := by
  unfold masterdiscref41_FirstFit.f
  have hlen := runsOf_len s n
  refine Ev.bind (Spansref_ev s n hs) ?_
  have h := Fitref_l0 (runsOf s n) (by omega) c (runsOf s n).length 0 (by omega)
  rw [List.drop_zero] at h
  exact h
theorem Fit_f (s : ByteArray) (n c : Int) (hs : s.size ≤ 1000000) : spacebitmap_FirstFit.f s n c = some (if c < 1 then -1 else firstRun (runsOf s n) c) := by
  rw [spacebitmap_FirstFit.f, if_pos hs]
  split <;> rfl
theorem allocates_ev (s : ByteArray) (n c : Int) : Ev (fun k => masterdisclaw41_SpacebitmapAllocates.f k s n c) true := by
  unfold masterdisclaw41_SpacebitmapAllocates.f
  refine Ev.bind awake41_ev (Ev.iteT rfl ?_)
  by_cases h60 : (s.size : Int) > 60
  · exact Ev.iteT h60 (Ev.now _)
  · refine Ev.iteF h60 ?_
    have hlen : (allocRes s n c).1.length ≤ 4097 := by
      have h1 := runsOf_len s n
      have h2 := take_len (runsOf s n) c
      unfold allocRes
      split
      · split
        · simp
        · split
          · simp
          · show (takeRuns (runsOf s n) c).length ≤ 4097; omega
      · simp
    rw [Alloc_f s n c (by omega), Fit_f s n c (by omega)]
    simp only [Option.bind_some]
    refine Ev.bind (Allocref_ev s n c (by omega)) (Ev.bind (Fitref_ev s n c (by omega)) (Ev.iteT (by trivial) (Ev.bind (SpEqual_ev _ (by omega)) (Ev.iteT rfl (Ev.iteT (by trivial) ?_)))))
    rw [beq_self_eq_true]
    exact Ev.now _
theorem SpacebitmapAllocates : masterdisclaw41_SpacebitmapAllocates.Pure := fun s n c _ _ _ => (allocates_ev s n c).rounds
end Go.Proofs.Ytijbfebbogiiiaa.Pure
