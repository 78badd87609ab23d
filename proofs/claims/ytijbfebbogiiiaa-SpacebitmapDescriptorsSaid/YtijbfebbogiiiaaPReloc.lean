/- Relocate, of the program and of the second way. -/
import Derived.Test.YtijbfebbogiiiaaQ33
import Derived.Test.YtijbfebbogiiiaaQ17
import Derived.Test.YtijbfebbogiiiaaPSeal
namespace Go.Proofs.Ytijbfebbogiiiaa.Pure
open Go.RowKit Go.Proofs.Ytijbfebbogiiiaa.Q Go.Proofs.YtijbfebbogiiiaaW.PrintWords Go.Proofs.YtijbfebbogiiiaaW.PrintLast
set_option linter.unusedVariables false
set_option linter.unusedSimpArgs false
theorem Bytes_l0 (M : Nat) (hM : M ≤ 1000) : ∀ (m : Nat) (n : Int) (acc : List Int), acc.length + m = M → 0 ≤ n → n ≤ 9223372036854775807 →
    Ev (fun k => masterdiscref01_Bytes.l0 k n (M : Int) acc (acc.length : Int)) (strOfNums (acc ++ leNums n m)) := by
  intro m
  induction m with
  | zero =>
    intro n acc hl h0 hn
    refine Ev.step (fun k => by rw [masterdiscref01_Bytes.l0]) (Ev.iteF (by omega) ?_)
    rw [show leNums n 0 = [] from rfl, List.append_nil]
    exact Ev.now _
  | succ m ih =>
    intro n acc hl h0 hn
    refine Ev.step (fun k => by rw [masterdiscref01_Bytes.l0]) (Ev.iteT (by omega) (Ev.iteT (by omega) ?_))
    have e1 : wrap64 (Int.tdiv n 256) = n / 256 := by rw [Int.tdiv_eq_ediv_of_nonneg h0, w64 _ (by omega)]
    have e2 : Int.tmod n 256 % 256 = n % 256 := by rw [tmod_pos _ _ h0]; omega
    have e3 : wrap64 ((acc.length : Int) + 1) = ((acc ++ [n % 256]).length : Int) := by rw [w64 _ (by omega)]; simp
    rw [e1, e2, e3, show leNums n (m + 1) = n % 256 :: leNums (n / 256) m from rfl, show acc ++ n % 256 :: leNums (n / 256) m = (acc ++ [n % 256]) ++ leNums (n / 256) m by simp]
    exact ih (n / 256) (acc ++ [n % 256]) (by simp; omega) (by omega) (by omega)
theorem Bytes_ev (n : Int) (M : Nat) (hM : M ≤ 1000) (h0 : 0 ≤ n) (hn : n ≤ 9223372036854775807) : Ev (fun k => masterdiscref01_Bytes.f k n (M : Int)) (strOfNums (leNums n M)) := by
  have := Bytes_l0 M hM M n [] (by simp) h0 hn
  simpa [masterdiscref01_Bytes.f] using this
/-- The string with its fifth byte set to the sum. -/
def sumOf (s : ByteArray) : ByteArray := (s.extract 0 4 ++ strOfNums [tagSum s]) ++ s.extract 5 s.size
theorem summed_f (s t : ByteArray) (n : Int) (ht : t = strOfNums [n]) (h1 : t.size = 1) (k : Nat) (h : 16 ≤ s.size) (hs : s.size ≤ 4611686018427387904) (hk : udftag_sum.f k s = some n) : udftag_summed.f k s = some ((s.extract 0 4 ++ t) ++ s.extract 5 s.size) := by
  rw [udftag_summed.f, if_pos (by omega), if_pos (by omega), hk, Option.bind_some, Option.bind_some, ← ht]
  rw [if_pos (by simp only [ByteArray.size_extract]; omega), if_pos (by omega), if_pos (by simp only [ByteArray.size_append, ByteArray.size_extract]; omega)]
theorem sumOf_ev (s : ByteArray) (h : 16 ≤ s.size) (hs : s.size ≤ 4611686018427387904) : Ev (fun k => udftag_summed.f k s) (sumOf s) :=
  Ev.of (udftag_summed.mono s) (k := 16) (summed_f s _ (tagSum s) rfl (by rw [strOfNums_size]; rfl) 16 h hs (sum_f s h))
theorem refsummed_f (s t : ByteArray) (n : Int) (ht : t = strOfNums [n]) (h1 : t.size = 1) (k : Nat) (h : 16 ≤ s.size) (hs : s.size ≤ 4611686018427387904) (hk : masterdiscref31_sum.f k s = some n) : masterdiscref31_summed.f k s = some ((s.extract 0 4 ++ t) ++ s.extract 5 s.size) := by
  rw [masterdiscref31_summed.f, if_pos (by omega), if_pos (by omega), hk, Option.bind_some, Option.bind_some, ← ht]
  rw [if_pos (by simp only [ByteArray.size_extract]; omega), if_pos (by omega), if_pos (by simp only [ByteArray.size_append, ByteArray.size_extract]; omega)]
theorem refsumOf_ev (s : ByteArray) (h : 16 ≤ s.size) (hs : s.size ≤ 4611686018427387904) : Ev (fun k => masterdiscref31_summed.f k s) (sumOf s) := by
  obtain ⟨k, hk⟩ := (sumref_ev s h).rounds
  exact Ev.of (masterdiscref31_summed.mono s) (k := k) (refsummed_f s _ (tagSum s) rfl (by rw [strOfNums_size]; rfl) k h hs hk)
def movedOf (s : ByteArray) (loc : Int) : ByteArray := (s.extract 0 12 ++ strOfNums (leNums loc 4)) ++ s.extract 16 s.size
theorem leNums_length (n : Int) (m : Nat) : (leNums n m).length = m := by
  induction m generalizing n with
  | zero => rfl
  | succ m ih => rw [leNums, List.length_cons, ih]
theorem movedOf_size (s : ByteArray) (loc : Int) (h : 16 ≤ s.size) : (movedOf s loc).size = s.size := by
  simp only [movedOf, ByteArray.size_append, ByteArray.size_extract, strOfNums_size, leNums_length]; omega
theorem Put_f (s t : ByteArray) (ht : t.size = 4) (h : 16 ≤ s.size) (hs : s.size ≤ 4611686018427387904) : endian_Put.f s 12 t = some ((s.extract 0 12 ++ t) ++ s.extract 16 s.size, 0) := by
  have e : wrap64 (12 + ((4 : Nat) : Int)) = 16 := by rw [w64 _ (by omega)]; rfl
  rw [endian_Put.f, endian_inside.f, ht, if_pos (by omega), w64 _ (by omega), decide_eq_true (by omega), Option.bind_some, if_pos rfl, if_pos (by omega), if_pos (by omega), e]
  rw [if_pos (by simp only [ByteArray.size_extract]; omega), if_pos (by omega), if_pos (by omega), if_pos (by simp only [ByteArray.size_append, ByteArray.size_extract, show (16 : Int).toNat = 16 from rfl, show (12 : Int).toNat = 12 from rfl]; omega)]
  rfl
def relocOf (s : ByteArray) (loc : Int) : ByteArray × Int :=
  if 0 ≤ loc ∧ loc ≤ 4294967295 then (if faultsAll s loc = [] ∨ faultsAll s loc = [6] then (sumOf (movedOf s loc), 0) else (⟨#[]⟩, 10)) else (⟨#[]⟩, 2)
theorem faults_six {s : ByteArray} {loc : Int} (h : ∀ x ∈ faultsAll s loc, x = 6) : faultsAll s loc = [] ∨ faultsAll s loc = [6] := by
  revert h
  unfold faultsAll faultsOf
  split
  · intro h; have := h 1 (by simp); omega
  · intro h
    simp only [List.mem_append] at h
    have h1 : (if bt s 4 ≠ tagSum s then [2] else ([] : List Int)) = [] := by
      split
      · rename_i c; have := h 2 (.inl (.inl (.inl (by rw [if_pos c]; simp)))); omega
      · rfl
    have h2 : (if leAt s 2 2 ≠ 2 ∧ leAt s 2 2 ≠ 3 then [3] else ([] : List Int)) = [] := by
      split
      · rename_i c; have := h 3 (.inl (.inl (.inr (by rw [if_pos c]; simp)))); omega
      · rfl
    have h3 : (if leAt s 10 2 > (s.size : Int) - 16 then [4] else if leAt s 8 2 ≠ crcOf (s.extract 16 (16 + leAt s 10 2).toNat) then [5] else ([] : List Int)) = [] := by
      split
      · rename_i c; have := h 4 (.inl (.inr (by rw [if_pos c]; simp))); omega
      · rename_i c
        split
        · rename_i c2; have := h 5 (.inl (.inr (by rw [if_neg c, if_pos c2]; simp))); omega
        · rfl
    rw [h1, h2, h3]
    split
    · exact .inr rfl
    · exact .inl rfl
theorem faults_big {s : ByteArray} {loc : Int} (h : faultsAll s loc = [] ∨ faultsAll s loc = [6]) : 16 ≤ s.size := by
  rcases Nat.lt_or_ge s.size 16 with h1 | h1
  · rw [faultsAll, if_pos h1] at h; simp at h
  · exact h1
theorem moved_gen (k : Nat) (s t u : ByteArray) (loc : Int) (hl : udftag_little.f loc 4 = some t) (ht : t.size = 4) (h : 16 ≤ s.size) (hs : s.size ≤ 4611686018427387904) :
    udftag_Relocate.j0 (k + 1) s loc false = (udftag_summed.f k ((s.extract 0 12 ++ t) ++ s.extract 16 s.size)).bind fun t455 => (some (t455, 0)) := by
  rw [udftag_Relocate.j0, if_neg (by decide), hl, Option.bind_some, Put_f s t ht h hs, Option.bind_some]
theorem Relocate_ev (s : ByteArray) (loc : Int) (hs : s.size ≤ 4611686018427387904) : Ev (fun k => udftag_Relocate.f k s loc) (relocOf s loc) := by
  unfold udftag_Relocate.f relocOf
  simp only [fits4, Option.bind_some, decide_eq_true_eq]
  by_cases c : 0 ≤ loc ∧ loc ≤ 4294967295
  · refine Ev.iteT c ?_
    rw [if_pos c]
    simp only [Faults_f s loc (by omega), Option.bind_some]
    have bad : Ev (fun k => udftag_Relocate.j0 k s loc true) (⟨#[]⟩, 10) := by
      refine Ev.step (fun k => by rw [udftag_Relocate.j0]) ?_
      exact Ev.iteT rfl (Ev.now _)
    have good : faultsAll s loc = [] ∨ faultsAll s loc = [6] → Ev (fun k => udftag_Relocate.j0 k s loc false) (sumOf (movedOf s loc), 0) := by
      intro hf
      have h16 := faults_big hf
      refine Ev.step (fun k => moved_gen k s (strOfNums (leNums loc 4)) ⟨#[]⟩ loc (little4 loc c) (by rw [strOfNums_size, leNums_length]) h16 hs) ?_
      exact Ev.bind (sumOf_ev (movedOf s loc) (by rw [movedOf_size s loc h16]; exact h16) (by rw [movedOf_size s loc h16]; exact hs)) (Ev.now _)
    generalize hF : faultsAll s loc = F at *
    rcases F with _ | ⟨a, _ | ⟨b, F⟩⟩
    · refine Ev.iteF (by simp) (Ev.iteF (by simp) ?_)
      rw [if_pos (.inl rfl)]; exact good (.inl rfl)
    · refine Ev.iteF (by simp) (Ev.iteT (by simp) (Ev.iteT (by simp) ?_))
      rw [show rd [a] 0 = a from rfl]
      by_cases h6 : a = 6
      · subst h6
        rw [if_pos (.inr rfl)]; exact good (.inr rfl)
      · rw [if_neg (by simp [h6]), show (a != 6) = true from bne_iff_ne.2 h6]; exact bad
    · refine Ev.iteT (by simp; omega) ?_
      rw [if_neg (by simp)]; exact bad
  · refine Ev.iteF c ?_
    rw [if_neg c]; exact Ev.now _
theorem Reloc_tail (s : ByteArray) (loc : Int) (l : List Int) (h : 16 ≤ s.size) (hs : s.size ≤ 4611686018427387904) (hl : 0 ≤ loc ∧ loc ≤ 4294967295) :
    Ev (fun k => (if 0 ≤ 12 then (if 12 ≤ (s.size : Int) then ((masterdiscref01_Bytes.f k loc 4).bind fun t464 => (if (s.extract 0 12).size + t464.size ≤ 9223372036854775807 then (if 16 ≤ (s.size : Int) then (if ((s.extract 0 12) ++ t464).size + (s.extract 16 s.size).size ≤ 9223372036854775807 then ((masterdiscref31_summed.f k (((s.extract 0 12) ++ t464) ++ (s.extract 16 s.size))).bind fun t465 => (some (t465, (0 : Int)))) else (none)) else (none)) else (none))) else (none)) else (none))) (sumOf (movedOf s loc), 0) := by
  refine Ev.iteT (by omega) (Ev.iteT (by omega) (Ev.bind (Bytes_ev loc 4 (by omega) hl.1 (by omega)) ?_))
  have e4 : (strOfNums (leNums loc 4)).size = 4 := by rw [strOfNums_size, leNums_length]
  have e5 := movedOf_size s loc h
  unfold movedOf at e5 ⊢
  generalize strOfNums (leNums loc 4) = t at *
  refine Ev.iteT (by simp only [ByteArray.size_extract]; omega) (Ev.iteT (by omega) (Ev.iteT (by rw [← ByteArray.size_append]; omega) ?_))
  exact Ev.bind (refsumOf_ev _ (by omega) (by omega)) (Ev.now _)
theorem Reloc_l0 (s : ByteArray) (loc : Int) (l : List Int) (hs : s.size ≤ 4611686018427387904) (hl : 0 ≤ loc ∧ loc ≤ 4294967295) (hn : l.length ≤ 1000) (h16 : (∀ x ∈ l, x = 6) → 16 ≤ s.size) : ∀ (m j : Nat), j + m = l.length → (∀ x ∈ l.take j, x = 6) →
    Ev (fun k => masterdiscref31_Relocate.l0 k s loc l (j : Int)) (if ∀ x ∈ l, x = 6 then (sumOf (movedOf s loc), 0) else (⟨#[]⟩, 10)) := by
  intro m
  induction m with
  | zero =>
    intro j hj ht
    rw [List.take_of_length_le (by omega)] at ht
    refine Ev.step (fun k => by rw [masterdiscref31_Relocate.l0]) (Ev.iteF (by omega) ?_)
    rw [if_pos ht]
    exact Reloc_tail s loc l (h16 ht) hs hl
  | succ m ih =>
    intro j hj ht
    have hlt : j < l.length := by omega
    have hrd : rd l (j : Int) = l[j] := by unfold rd; simp [hlt]
    refine Ev.step (fun k => by rw [masterdiscref31_Relocate.l0]) (Ev.iteT (by omega) (Ev.iteT (by omega) ?_))
    by_cases c : l[j] = 6
    · refine Ev.iteT (by rw [hrd]; exact c) ?_
      rw [w64 _ (by omega)]
      refine ih (j + 1) (by omega) ?_
      rw [← List.take_append_getElem hlt]
      intro x hx
      rcases List.mem_append.1 hx with hx | hx
      · exact ht x hx
      · rw [List.mem_singleton.1 hx]; exact c
    · refine Ev.iteF (by rw [hrd]; exact c) ?_
      rw [if_neg (fun h => c (h _ (List.getElem_mem hlt)))]
      exact Ev.now _
theorem faults_len' (s : ByteArray) (loc : Int) : (faultsAll s loc).length ≤ 6 := by
  unfold faultsAll faultsOf
  split
  · simp
  · simp only [List.length_append]
    repeat' split
    all_goals simp
theorem Relocref_ev (s : ByteArray) (loc : Int) (hs : s.size ≤ 4611686018427387904) : Ev (fun k => masterdiscref31_Relocate.f k s loc) (relocOf s loc) := by
  have bad : ∀ b, b = true → Ev (fun k => masterdiscref31_Relocate.j0 k s loc b) (⟨#[]⟩, 2) := by
    rintro b rfl
    refine Ev.step (fun k => by rw [masterdiscref31_Relocate.j0]) ?_
    exact Ev.iteT rfl (Ev.now _)
  unfold masterdiscref31_Relocate.f relocOf
  by_cases c1 : loc < 0
  · refine Ev.iteT c1 ?_
    rw [if_neg (by omega)]; exact bad true rfl
  · refine Ev.iteF c1 ?_
    by_cases c2 : loc ≥ 4294967296
    · rw [if_neg (by omega)]; exact bad _ (decide_eq_true c2)
    · rw [if_pos (by omega), decide_eq_false c2]
      refine Ev.step (fun k => by rw [masterdiscref31_Relocate.j0]) (Ev.iteF (by decide) ?_)
      refine Ev.bind (Faultsref_ev s loc (by omega)) ?_
      have hl := faults_len' s loc
      have h := Reloc_l0 s loc (faultsAll s loc) hs (by omega) (by omega) (fun h => faults_big (faults_six h)) (faultsAll s loc).length 0 (by omega) (by simp)
      by_cases c6 : ∀ x ∈ faultsAll s loc, x = 6
      · rw [if_pos c6] at h
        rw [if_pos (faults_six c6)]; exact h
      · rw [if_neg c6] at h
        rw [if_neg (fun e => c6 (by rcases e with e | e <;> simp [e]))]; exact h
end Go.Proofs.Ytijbfebbogiiiaa.Pure
