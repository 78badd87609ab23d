/- Runs of free blocks in plain words. -/
import Derived.Test.YtijbfebbogiiiaaHSpace0
namespace Go.Proofs.Ytijbfebbogiiiaa.Pure
open Go.Proofs.Ytijbfebbogiiiaa.Q
set_option linter.unusedVariables false
theorem runsAux_some (p : Nat → Bool) : ∀ (r i st : Nat), st ≤ i → ∃ (m : Nat) (tl : List S76), runsAux p r i (some st) = ⟨(st : Int), (m : Int)⟩ :: tl ∧ i - st ≤ m := by
  intro r
  induction r with
  | zero => intro i st h; exact ⟨i - st, [], rfl, Nat.le_refl _⟩
  | succ r ih =>
    intro i st h
    rw [runsAux]
    by_cases hp : p i = true
    · rw [if_pos hp]
      obtain ⟨m, tl, e, hm⟩ := ih (i + 1) st (by omega)
      exact ⟨m, tl, e, by omega⟩
    · rw [if_neg hp]; exact ⟨i - st, _, rfl, Nat.le_refl _⟩

/-- Looking for a run of c blocks, block by block. -/
def scan (p : Nat → Bool) (c : Nat) : Nat → Nat → Nat → Int
  | 0, _, _ => -1
  | r + 1, i, run => if p i = true then (if run + 1 = c then ((i - run : Nat) : Int) else scan p c r (i + 1) (run + 1)) else scan p c r (i + 1) 0
def firstRun (l : List S76) (c : Int) : Int := match l.find? (fun x => decide (x.f1 ≥ c)) with | some x => x.f0 | none => -1
theorem firstRun_cons (x : S76) (l : List S76) (c : Int) : firstRun (x :: l) c = if x.f1 ≥ c then x.f0 else firstRun l c := by
  unfold firstRun
  rw [List.find?_cons]
  by_cases h : x.f1 ≥ c
  · simp [h]
  · simp [h]
theorem scan_first (p : Nat → Bool) (c : Nat) : ∀ (r i run : Nat), run < c → run ≤ i → scan p c r i run = firstRun (runsAux p r i (if run = 0 then none else some (i - run))) c := by
  intro r
  induction r with
  | zero =>
    intro i run h1 h2
    rw [scan]
    by_cases h : run = 0
    · rw [if_pos h]; rfl
    · rw [if_neg h]
      show _ = firstRun [⟨_, _⟩] _
      rw [firstRun_cons, if_neg (by simp; omega)]; rfl
  | succ r ih =>
    intro i run h1 h2
    rw [scan]
    by_cases hp : p i = true
    · rw [if_pos hp]
      have e : runsAux p (r + 1) i (if run = 0 then none else some (i - run)) = runsAux p r (i + 1) (some (i - run)) := by
        by_cases h : run = 0
        · rw [if_pos h, runsAux, if_pos hp, h]; rfl
        · rw [if_neg h, runsAux, if_pos hp]
      rw [e]
      by_cases hc : run + 1 = c
      · rw [if_pos hc]
        obtain ⟨m, tl, e', hm⟩ := runsAux_some p r (i + 1) (i - run) (by omega)
        rw [e', firstRun_cons, if_pos (by simp; omega)]
      · rw [if_neg hc, ih (i + 1) (run + 1) (by omega) (by omega), if_neg (by omega)]
        congr 3
        omega
    · rw [if_neg hp, ih (i + 1) 0 (by omega) (by omega), if_pos rfl]
      by_cases h : run = 0
      · rw [if_pos h, runsAux, if_neg hp]
      · rw [if_neg h, runsAux, if_neg hp, firstRun_cons, if_neg (by simp; omega)]

/-- A further block behind spans. -/
def addS (l : List S76) (b : Int) : List S76 :=
  match l.getLast? with
  | some x => if x.f0 + x.f1 = b then l.dropLast ++ [⟨x.f0, x.f1 + 1⟩] else l ++ [⟨b, 1⟩]
  | none => [⟨b, 1⟩]
theorem addS_open (l : List S76) (s n b : Int) (h : s + n = b) : addS (l ++ [⟨s, n⟩]) b = l ++ [⟨s, n + 1⟩] := by
  simp [addS, h]
/-- No span of the list ends at the block. -/
def away (l : List S76) (b : Int) : Prop := ∀ x, l.getLast? = some x → x.f0 + x.f1 < b
theorem addS_away (l : List S76) (b : Int) (h : away l b) : addS l b = l ++ [⟨b, 1⟩] := by
  unfold addS
  cases e : l.getLast? with
  | none => rw [List.getLast?_eq_none_iff] at e; simp [e]
  | some x => have := h x e; simp only []; rw [if_neg (by omega)]
/-- The first c free blocks as spans, block by block. -/
def takeRef (p : Nat → Bool) : Nat → Nat → Int → List S76 → List S76
  | 0, _, _, acc => acc
  | r + 1, i, c, acc => if c ≤ 0 then acc else if p i = true then takeRef p r (i + 1) (c - 1) (addS acc i) else takeRef p r (i + 1) c acc
theorem takeRuns_zero (l : List S76) : takeRuns l 0 = [] := by cases l <;> simp [takeRuns]
theorem takeRef_eq (p : Nat → Bool) : ∀ (r i : Nat) (c : Int) (acc : List S76), 0 ≤ c →
    (away acc i → takeRef p r i c acc = acc ++ takeRuns (runsAux p r i none) c) ∧
    (∀ (st : Nat) (acc0 : List S76), st < i → acc = acc0 ++ [⟨(st : Int), ((i - st : Nat) : Int)⟩] → takeRef p r i c acc = acc0 ++ takeRuns (runsAux p r i (some st)) (c + (i - st : Nat))) := by
  intro r
  induction r with
  | zero =>
    intro i c acc hc
    refine ⟨fun _ => by simp [takeRef, runsAux, takeRuns], ?_⟩
    rintro st acc0 hst rfl
    rw [takeRef, runsAux, takeRuns, if_neg (by omega)]
    simp only [takeRuns]
    have : (if c + ((i - st : Nat) : Int) < ((i - st : Nat) : Int) then c + ((i - st : Nat) : Int) else ((i - st : Nat) : Int)) = ((i - st : Nat) : Int) := if_neg (by omega)
    rw [this]
  | succ r ih =>
    intro i c acc hc
    constructor
    · intro ha
      rw [takeRef]
      by_cases h0 : c ≤ 0
      · have : c = 0 := by omega
        rw [if_pos h0, this, takeRuns_zero, List.append_nil]
      · rw [if_neg h0]
        by_cases hp : p i = true
        · rw [if_pos hp, runsAux, if_pos hp, addS_away _ _ ha]
          rw [(ih (i + 1) (c - 1) _ (by omega)).2 i acc (by omega) (by simp)]
          congr 2
          omega
        · rw [if_neg hp, runsAux, if_neg hp]
          exact (ih (i + 1) c acc hc).1 (fun x hx => by have := ha x hx; omega)
    · rintro st acc0 hst rfl
      rw [takeRef]
      by_cases h0 : c ≤ 0
      · have e0 : c = 0 := by omega
        obtain ⟨m, tl, e', hm⟩ := runsAux_some p (r + 1) i st (by omega)
        rw [if_pos h0, e', takeRuns, if_neg (by omega), e0]
        have : (if (0 : Int) + ((i - st : Nat) : Int) < (m : Int) then (0 : Int) + ((i - st : Nat) : Int) else (m : Int)) = ((i - st : Nat) : Int) := by split <;> omega
        simp only [this]
        rw [show (0 : Int) + ((i - st : Nat) : Int) - ((i - st : Nat) : Int) = 0 by omega, takeRuns_zero]
      · rw [if_neg h0]
        by_cases hp : p i = true
        · rw [if_pos hp, runsAux, if_pos hp, addS_open _ _ _ _ (by omega)]
          rw [(ih (i + 1) (c - 1) _ (by omega)).2 st acc0 (by omega) (by congr 3; omega)]
          congr 2
          omega
        · rw [if_neg hp, runsAux, if_neg hp, takeRuns, if_neg (by omega)]
          have : (if c + ((i - st : Nat) : Int) < ((i - st : Nat) : Int) then c + ((i - st : Nat) : Int) else ((i - st : Nat) : Int)) = ((i - st : Nat) : Int) := if_neg (by omega)
          simp only [this]
          rw [show c + ((i - st : Nat) : Int) - ((i - st : Nat) : Int) = c by omega]
          rw [(ih (i + 1) c _ hc).1 ?_]
          · rw [List.append_assoc, List.singleton_append]
          · intro x hx
            rw [List.getLast?_concat] at hx
            have hx := Option.some.inj hx
            subst hx
            show (st : Int) + ((i - st : Nat) : Int) < _
            omega

/-- The number of free blocks from i on. -/
def cnt (p : Nat → Bool) : Nat → Nat → Nat
  | 0, _ => 0
  | r + 1, i => (if p i = true then 1 else 0) + cnt p r (i + 1)
theorem foldl_add (l : List S76) : ∀ a : Int, l.foldl (fun a x => a + x.f1) a = a + l.foldl (fun a x => a + x.f1) 0 := by
  induction l with
  | nil => intro a; simp
  | cons x l ih => intro a; simp only [List.foldl_cons]; rw [ih, ih (0 + x.f1)]; omega
theorem countOf_cons (x : S76) (l : List S76) : countOf (x :: l) = x.f1 + countOf l := by
  unfold countOf; rw [List.foldl_cons, foldl_add]; omega
theorem countOf_runs (p : Nat → Bool) : ∀ (r i : Nat), countOf (runsAux p r i none) = cnt p r i ∧ ∀ st, st ≤ i → countOf (runsAux p r i (some st)) = ((i - st : Nat) : Int) + cnt p r i := by
  intro r
  induction r with
  | zero => intro i; exact ⟨rfl, fun st h => by simp [runsAux, countOf, cnt]⟩
  | succ r ih =>
    intro i
    refine ⟨?_, fun st h => ?_⟩
    · rw [runsAux, cnt]
      by_cases hp : p i = true
      · rw [if_pos hp, if_pos hp, (ih (i + 1)).2 i (by omega)]; omega
      · rw [if_neg hp, if_neg hp, (ih (i + 1)).1]; omega
    · rw [runsAux, cnt]
      by_cases hp : p i = true
      · rw [if_pos hp, if_pos hp, (ih (i + 1)).2 st (by omega)]; omega
      · rw [if_neg hp, if_neg hp, countOf_cons, (ih (i + 1)).1]; simp
theorem inSpans_cons (x : S76) (l : List S76) (j : Nat) : inSpans (x :: l) j = (decide (x.f0 ≤ j ∧ (j : Int) < x.f0 + x.f1) || inSpans l j) := rfl
end Go.Proofs.Ytijbfebbogiiiaa.Pure
