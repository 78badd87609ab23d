/- Faults, the tag's values, Open and Is of the second way (chapter 31), and of the program. -/
import Derived.Test.YtijbfebbogiiiaaPBytes
namespace Go.Proofs.Ytijbfebbogiiiaa.Pure
open Go.RowKit Go.Proofs.Ytijbfebbogiiiaa.Q Go.Proofs.YtijbfebbogiiiaaW.PrintWords Go.Proofs.YtijbfebbogiiiaaW.PrintLast
set_option linter.unusedVariables false
set_option linter.unusedSimpArgs false
theorem Num_ev (s : ByteArray) (i n : Int) (hi : 0 ≤ i) (h0 : 0 ≤ n) (h7 : n ≤ 7) (hn : i + n ≤ s.size) (hs : s.size ≤ 9223372036854775807) : Ev (fun k => masterdiscref31_Number.f k s i n) (leAt s i n.toNat) := by
  obtain ⟨m, rfl⟩ := Int.eq_ofNat_of_zero_le h0
  exact Number_ev s i m hi (by omega) hn hs
def faultsTail (s : ByteArray) (loc : Int) : List Int :=
  (if leAt s 10 2 > (s.size : Int) - 16 then [4] else if leAt s 8 2 ≠ crcOf (s.extract 16 (16 + leAt s 10 2).toNat) then [5] else []) ++ (if leAt s 12 4 ≠ loc then [6] else [])
theorem last_ev (s : ByteArray) (loc : Int) (xs : List Int) (h : 16 ≤ s.size) (hs : s.size ≤ 9223372036854775807) (hx : xs.length < 1000) :
    Ev (fun k => (masterdiscref31_Number.f k s 12 4).bind fun t => (if t = loc then (some xs) else (if xs.length < 17592186044416 then (some (xs ++ [6])) else (none)))) (xs ++ (if leAt s 12 4 ≠ loc then [6] else [])) := by
  refine Ev.bind (Num_ev s 12 4 (by omega) (by omega) (by omega) (by omega) hs) ?_
  by_cases c : leAt s 12 4 = loc
  · refine Ev.iteT c ?_
    rw [if_neg (fun h => h c), List.append_nil]
    exact Ev.now _
  · refine Ev.iteF c (Ev.iteT (by omega) ?_)
    rw [if_pos c]
    exact Ev.now _
theorem j2_ev (s : ByteArray) (loc : Int) (xs : List Int) (h : 16 ≤ s.size) (hs : s.size ≤ 9223372036854775807) (hx : xs.length < 100) :
    Ev (fun k => masterdiscref31_Faults.j2 k s loc xs) (xs ++ faultsTail s loc) := by
  have b10 := leAt_bd s 10 2
  refine Ev.step (fun k => by rw [masterdiscref31_Faults.j2]) ?_
  refine Ev.bind (Num_ev s 10 2 (by omega) (by omega) (by omega) (by omega) hs) ?_
  rw [show (2 : Int).toNat = 2 from rfl, w64 _ (by omega)]
  unfold faultsTail
  by_cases c : leAt s 10 2 > (s.size : Int) - 16
  · refine Ev.iteT c (Ev.iteT (by omega) ?_)
    rw [if_pos c, ← List.append_assoc]
    exact Ev.bind (Ev.now (xs ++ [4])) (last_ev s loc _ h hs (by simp; omega))
  · refine Ev.iteF c ?_
    rw [if_neg c, w64 _ (by omega)]
    refine Ev.iteT (by omega) (Ev.iteT (by omega) ?_)
    have bc := crcOf_bd (s.extract 16 (16 + leAt s 10 2).toNat)
    refine Ev.bind (CRC16ref_ev (s.extract 16 (16 + leAt s 10 2).toNat) (by simp only [ByteArray.size_extract]; omega)) ?_
    refine Ev.bind (Num_ev s 8 2 (by omega) (by omega) (by omega) (by omega) hs) ?_
    rw [show (2 : Int).toNat = 2 from rfl, w64 _ (by omega)]
    by_cases c5 : leAt s 8 2 = crcOf (s.extract 16 (16 + leAt s 10 2).toNat)
    · refine Ev.iteT c5.symm ?_
      have e5 : (if leAt s 8 2 ≠ crcOf (s.extract 16 (16 + leAt s 10 2).toNat) then [5] else ([] : List Int)) = [] := if_neg (fun h => h c5)
      rw [e5, List.nil_append]
      exact last_ev s loc xs h hs (by omega)
    · refine Ev.iteF (fun e => c5 e.symm) (Ev.iteT (by omega) ?_)
      rw [if_pos c5, ← List.append_assoc]
      exact Ev.bind (Ev.now (xs ++ [5])) (last_ev s loc _ h hs (by simp; omega))
theorem j1_ev (s : ByteArray) (loc : Int) (xs : List Int) (b : Bool) (h : 16 ≤ s.size) (hs : s.size ≤ 9223372036854775807) (hx : xs.length < 90) :
    Ev (fun k => masterdiscref31_Faults.j1 k s loc xs b) (xs ++ (if b = true then [3] else []) ++ faultsTail s loc) := by
  refine Ev.step (fun k => by rw [masterdiscref31_Faults.j1]) ?_
  cases b with
  | true => exact Ev.iteT rfl (Ev.iteT (by omega) (j2_ev s loc _ h hs (by simp; omega)))
  | false =>
    refine Ev.iteF (by decide) ?_
    simpa using j2_ev s loc xs h hs (by omega)
theorem j0_ev (s : ByteArray) (loc : Int) (xs : List Int) (h : 16 ≤ s.size) (hs : s.size ≤ 9223372036854775807) (hx : xs.length < 80) :
    Ev (fun k => masterdiscref31_Faults.j0 k s loc xs) (xs ++ (if leAt s 2 2 ≠ 2 ∧ leAt s 2 2 ≠ 3 then [3] else []) ++ faultsTail s loc) := by
  refine Ev.step (fun k => by rw [masterdiscref31_Faults.j0]) ?_
  refine Ev.bind (Num_ev s 2 2 (by omega) (by omega) (by omega) (by omega) hs) ?_
  rw [show (2 : Int).toNat = 2 from rfl]
  by_cases c : leAt s 2 2 = 2
  · refine Ev.iteT c ?_
    have := j1_ev s loc xs false h hs (by omega)
    simpa [c] using this
  · refine Ev.iteF c ?_
    have := j1_ev s loc xs (leAt s 2 2 != 3) h hs (by omega)
    simpa [c] using this
def faultsAll (s : ByteArray) (loc : Int) : List Int := if s.size < 16 then [1] else faultsOf s loc
theorem Faultsref_ev (s : ByteArray) (loc : Int) (hs : s.size ≤ 9223372036854775807) : Ev (fun k => masterdiscref31_Faults.f k s loc) (faultsAll s loc) := by
  unfold faultsAll
  by_cases h : s.size < 16
  · rw [if_pos h]
    refine Ev.congr (fun k => ?_) (Ev.now _)
    rw [masterdiscref31_Faults.f, if_pos (by omega)]
  · rw [if_neg h]
    have e : ∀ k, masterdiscref31_Faults.f k s loc = (masterdiscref31_sum.f k s).bind fun t => (if (bt s 4) = t then (masterdiscref31_Faults.j0 k s loc []) else (masterdiscref31_Faults.j0 k s loc [2])) := by
      intro k
      rw [masterdiscref31_Faults.f, if_neg (by omega), Option.bind_some, if_pos (by omega)]
      rfl
    refine Ev.congr e ?_
    refine Ev.bind (sumref_ev s (by omega)) ?_
    have e2 : faultsOf s loc = (if bt s 4 ≠ tagSum s then [2] else []) ++ (if leAt s 2 2 ≠ 2 ∧ leAt s 2 2 ≠ 3 then [3] else []) ++ faultsTail s loc := by
      unfold faultsOf faultsTail; simp only [List.append_assoc]
    rw [e2]
    by_cases c : bt s 4 = tagSum s
    · refine Ev.iteT c ?_
      rw [if_neg (fun h => h c)]
      exact j0_ev s loc [] (by omega) hs (by simp)
    · refine Ev.iteF c ?_
      rw [if_pos c]
      exact j0_ev s loc [2] (by omega) hs (by simp)
theorem Faults_f (s : ByteArray) (loc : Int) (hs : s.size ≤ 9223372036854775807) : udftag_Faults.f s loc = some (faultsAll s loc) := by
  unfold udftag_Faults.f faultsAll
  rw [if_neg (by omega)]
  split <;> rfl
theorem tagref_ev (s : ByteArray) (h : 16 ≤ s.size) (hs : s.size ≤ 9223372036854775807) : Ev (fun k => masterdiscref31_tag.f k s) (leAt s 0 2, leAt s 6 2, leAt s 10 2, leAt s 12 4) := by
  unfold masterdiscref31_tag.f
  refine Ev.bind (Num_ev s 0 2 (by omega) (by omega) (by omega) (by omega) hs) ?_
  refine Ev.bind (Num_ev s 6 2 (by omega) (by omega) (by omega) (by omega) hs) ?_
  refine Ev.bind (Num_ev s 10 2 (by omega) (by omega) (by omega) (by omega) hs) ?_
  refine Ev.bind (Num_ev s 12 4 (by omega) (by omega) (by omega) (by omega) hs) ?_
  exact Ev.now _
/-- What Open returns. -/
def openOf (s : ByteArray) (loc : Int) : Int × Int × Int × Int × ByteArray × Int :=
  if faultsAll s loc = [] then (leAt s 0 2, leAt s 6 2, leAt s 10 2, leAt s 12 4, s.extract 16 (16 + leAt s 10 2).toNat, 0) else (0, 0, 0, 0, ⟨#[]⟩, 10)
theorem faults_nil {s : ByteArray} {loc : Int} (h : faultsAll s loc = []) : 16 ≤ s.size ∧ bt s 4 = tagSum s ∧ (leAt s 2 2 = 2 ∨ leAt s 2 2 = 3) ∧ leAt s 10 2 ≤ (s.size : Int) - 16 ∧ leAt s 8 2 = crcOf (s.extract 16 (16 + leAt s 10 2).toNat) ∧ leAt s 12 4 = loc := by
  unfold faultsAll at h
  split at h
  · simp at h
  · unfold faultsOf at h
    simp only [List.append_eq_nil_iff] at h
    obtain ⟨⟨⟨h1, h2⟩, h3⟩, h4⟩ := h
    refine ⟨by omega, ?_, ?_, ?_, ?_, ?_⟩
    · by_cases c : bt s 4 = tagSum s
      · exact c
      · simp [c] at h1
    · by_cases c : leAt s 2 2 = 2
      · exact .inl c
      · by_cases c3 : leAt s 2 2 = 3
        · exact .inr c3
        · simp [c, c3] at h2
    · by_cases c : leAt s 10 2 > (s.size : Int) - 16
      · simp [c] at h3
      · omega
    · by_cases c : leAt s 10 2 > (s.size : Int) - 16
      · simp [c] at h3
      · rw [if_neg c] at h3
        by_cases c5 : leAt s 8 2 = crcOf (s.extract 16 (16 + leAt s 10 2).toNat)
        · exact c5
        · simp [c5] at h3
    · by_cases c : leAt s 12 4 = loc
      · exact c
      · simp [c] at h4
theorem faults_nil_of {s : ByteArray} {loc : Int} (h16 : 16 ≤ s.size) (h1 : bt s 4 = tagSum s) (h2 : leAt s 2 2 = 2 ∨ leAt s 2 2 = 3) (h3 : leAt s 10 2 ≤ (s.size : Int) - 16) (h4 : leAt s 8 2 = crcOf (s.extract 16 (16 + leAt s 10 2).toNat)) (h5 : leAt s 12 4 = loc) : faultsAll s loc = [] := by
  unfold faultsAll faultsOf
  rw [if_neg (by omega), if_neg (fun h => h h1), if_neg (by omega), if_neg (by omega), if_neg (fun h => h h4), if_neg (fun h => h h5)]
  rfl
theorem len_pos_iff {l : List Int} : ((l.length : Int) > 0) ↔ l ≠ [] := by
  cases l with
  | nil => simp
  | cons a l => simp <;> omega
theorem Openref_ev (s : ByteArray) (loc : Int) (hs : s.size ≤ 9223372036854775807) : Ev (fun k => masterdiscref31_Open.f k s loc) (openOf s loc) := by
  unfold masterdiscref31_Open.f openOf
  refine Ev.bind (Faultsref_ev s loc hs) ?_
  by_cases c : faultsAll s loc = []
  · rw [if_pos c]
    obtain ⟨h16, _, _, h3, _, _⟩ := faults_nil c
    have b10 := leAt_bd s 10 2
    refine Ev.iteF (by rw [len_pos_iff]; simp [c]) ?_
    refine Ev.bind (tagref_ev s h16 hs) ?_
    simp only
    rw [w64 _ (by omega)]
    exact Ev.iteT (by omega) (Ev.iteT (by omega) (Ev.now _))
  · rw [if_neg c]
    exact Ev.iteT (by rw [len_pos_iff]; exact c) (Ev.now _)
theorem Open_f (s : ByteArray) (loc : Int) (hs : s.size ≤ 9223372036854775807) : udftag_Open.f s loc = some (openOf s loc) := by
  unfold udftag_Open.f openOf
  rw [Faults_f s loc hs, Option.bind_some]
  by_cases c : faultsAll s loc = []
  · rw [if_pos c]
    obtain ⟨h16, _, _, h3, _, _⟩ := faults_nil c
    have b10 := leAt_bd s 10 2
    rw [if_neg (by rw [len_pos_iff]; simp [c]), values_f s h16 hs, Option.bind_some]
    simp only
    rw [w64 _ (by omega), if_pos (by omega), if_pos (by omega)]
  · rw [if_neg c, if_pos (by rw [len_pos_iff]; exact c)]
def isOf (s : ByteArray) (id loc : Int) : Bool := decide (faultsAll s loc = []) && leAt s 0 2 == id
theorem len_zero_iff {l : List Int} : ((l.length : Int) = 0) ↔ l = [] := by
  cases l with
  | nil => simp
  | cons a l => simp <;> omega
theorem Is_f (s : ByteArray) (id loc : Int) (hs : s.size ≤ 9223372036854775807) : udftag_Is.f s id loc = some (isOf s id loc) := by
  unfold udftag_Is.f isOf
  rw [Faults_f s loc hs, Option.bind_some]
  by_cases c : faultsAll s loc = []
  · rw [if_pos (len_zero_iff.2 c), values_f s (faults_nil c).1 hs, Option.bind_some]; simp [c]
  · rw [if_neg (fun h => c (len_zero_iff.1 h))]; simp [c]
theorem Isref_ev (s : ByteArray) (id loc : Int) (hs : s.size ≤ 9223372036854775807) : Ev (fun k => masterdiscref31_Is.f k s id loc) (isOf s id loc) := by
  unfold masterdiscref31_Is.f isOf
  refine Ev.bind (Faultsref_ev s loc hs) ?_
  by_cases c : faultsAll s loc = []
  · refine Ev.iteT (len_zero_iff.2 c) ?_
    refine Ev.bind (Num_ev s 0 2 (by omega) (by omega) (by omega) (by have := (faults_nil c).1; omega) hs) ?_
    simp only [c, decide_true, Bool.true_and]
    exact Ev.now _
  · refine Ev.iteF (fun h => c (len_zero_iff.1 h)) ?_
    simp only [c, decide_false, Bool.false_and]
    exact Ev.now _
end Go.Proofs.Ytijbfebbogiiiaa.Pure
