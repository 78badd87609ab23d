/- A descriptor that is moved, and moved back. -/
import Derived.Test.YtijbfebbogiiiaaQ38
import Derived.Test.YtijbfebbogiiiaaPReloc
import Derived.Test.YtijbfebbogiiiaaPAwake31
namespace Go.Proofs.Ytijbfebbogiiiaa.Pure
open Go.RowKit Go.Proofs.Ytijbfebbogiiiaa.Q Go.Proofs.YtijbfebbogiiiaaW.PrintWords Go.Proofs.YtijbfebbogiiiaaW.PrintLast
set_option linter.unusedVariables false
set_option linter.unusedSimpArgs false
theorem sixteen (l : List Int) (h : 16 ≤ l.length) : ∃ b0 b1 b2 b3 b4 b5 b6 b7 b8 b9 b10 b11 b12 b13 b14 b15 R, l = b0 :: b1 :: b2 :: b3 :: b4 :: b5 :: b6 :: b7 :: b8 :: b9 :: b10 :: b11 :: b12 :: b13 :: b14 :: b15 :: R := by
  obtain ⟨b0, l1, rfl⟩ := List.exists_cons_of_length_pos (l := l) (by (try simp only [List.length_cons] at h); omega)
  obtain ⟨b1, l2, rfl⟩ := List.exists_cons_of_length_pos (l := l1) (by (try simp only [List.length_cons] at h); omega)
  obtain ⟨b2, l3, rfl⟩ := List.exists_cons_of_length_pos (l := l2) (by (try simp only [List.length_cons] at h); omega)
  obtain ⟨b3, l4, rfl⟩ := List.exists_cons_of_length_pos (l := l3) (by (try simp only [List.length_cons] at h); omega)
  obtain ⟨b4, l5, rfl⟩ := List.exists_cons_of_length_pos (l := l4) (by (try simp only [List.length_cons] at h); omega)
  obtain ⟨b5, l6, rfl⟩ := List.exists_cons_of_length_pos (l := l5) (by (try simp only [List.length_cons] at h); omega)
  obtain ⟨b6, l7, rfl⟩ := List.exists_cons_of_length_pos (l := l6) (by (try simp only [List.length_cons] at h); omega)
  obtain ⟨b7, l8, rfl⟩ := List.exists_cons_of_length_pos (l := l7) (by (try simp only [List.length_cons] at h); omega)
  obtain ⟨b8, l9, rfl⟩ := List.exists_cons_of_length_pos (l := l8) (by (try simp only [List.length_cons] at h); omega)
  obtain ⟨b9, l10, rfl⟩ := List.exists_cons_of_length_pos (l := l9) (by (try simp only [List.length_cons] at h); omega)
  obtain ⟨b10, l11, rfl⟩ := List.exists_cons_of_length_pos (l := l10) (by (try simp only [List.length_cons] at h); omega)
  obtain ⟨b11, l12, rfl⟩ := List.exists_cons_of_length_pos (l := l11) (by (try simp only [List.length_cons] at h); omega)
  obtain ⟨b12, l13, rfl⟩ := List.exists_cons_of_length_pos (l := l12) (by (try simp only [List.length_cons] at h); omega)
  obtain ⟨b13, l14, rfl⟩ := List.exists_cons_of_length_pos (l := l13) (by (try simp only [List.length_cons] at h); omega)
  obtain ⟨b14, l15, rfl⟩ := List.exists_cons_of_length_pos (l := l14) (by (try simp only [List.length_cons] at h); omega)
  obtain ⟨b15, l16, rfl⟩ := List.exists_cons_of_length_pos (l := l15) (by (try simp only [List.length_cons] at h); omega)
  exact ⟨b0, b1, b2, b3, b4, b5, b6, b7, b8, b9, b10, b11, b12, b13, b14, b15, l16, rfl⟩
theorem leNums_range (n : Int) (m : Nat) : ∀ x ∈ leNums n m, 0 ≤ x ∧ x ≤ 255 := by
  induction m generalizing n with
  | zero => intro x hx; simp [leNums] at hx
  | succ m ih =>
    intro x hx
    rw [leNums, List.mem_cons] at hx
    rcases hx with rfl | hx
    · omega
    · exact ih _ x hx
theorem bytesOf_sumOf (m : ByteArray) : bytesOf (sumOf m) = (bytesOf m).take 4 ++ [sumL (bytesOf m)] ++ (bytesOf m).drop 5 := by
  have h := tagSum_bd m
  rw [sumOf, bytesOf_append, bytesOf_append, bytesOf_extract, bytesOf_extract, bytesOf_strOfNums _ (by simpa using h), ← bytesOf_length m, List.take_length, List.drop_zero, tagSum_bytes]
theorem bytesOf_movedOf (s : ByteArray) (loc : Int) : bytesOf (movedOf s loc) = (bytesOf s).take 12 ++ leNums loc 4 ++ (bytesOf s).drop 16 := by
  rw [movedOf, bytesOf_append, bytesOf_append, bytesOf_extract, bytesOf_extract, bytesOf_strOfNums _ (leNums_range loc 4), ← bytesOf_length s, List.take_length, List.drop_zero]
theorem le4_back (a b c d : Int) (ha : 0 ≤ a ∧ a ≤ 255) (hb : 0 ≤ b ∧ b ≤ 255) (hc : 0 ≤ c ∧ c ≤ 255) (hd : 0 ≤ d ∧ d ≤ 255) : leNums (a + 256 * b + 65536 * c + 16777216 * d) 4 = [a, b, c, d] := by
  show [_ % 256, _ / 256 % 256, _ / 256 / 256 % 256, _ / 256 / 256 / 256 % 256] = _
  congr 1
  · omega
  · congr 1
    · omega
    · congr 1
      · omega
      · congr 1
        omega
theorem ext_of {s : ByteArray} {hd R : List Int} (h16 : hd.length = 16) (hb : bytesOf s = hd ++ R) (n : Int) (h0 : 0 ≤ n) : bytesOf (s.extract 16 (16 + n).toNat) = R.take n.toNat := by
  rw [bytesOf_extract, hb, show (16 + n).toNat = 16 + n.toNat by omega, List.take_append, List.take_of_length_le (by omega), h16, show 16 + n.toNat - 16 = n.toNat by omega, ← h16, List.drop_left]
theorem faults_six_of {s : ByteArray} {a : Int} (b : Int) (h : faultsAll s a = []) : faultsAll s b = [] ∨ faultsAll s b = [6] := by
  obtain ⟨h16, h1, h2, h3, h4, _⟩ := faults_nil h
  apply faults_six
  intro x
  unfold faultsAll faultsOf
  rw [if_neg (by omega), if_neg (fun h => h h1), if_neg (by omega), if_neg (by omega), if_neg (fun h => h h4)]
  split <;> simp
theorem moves (s : ByteArray) (a1 a2 : Int) (hf : faultsAll s a1 = []) (hr : 0 ≤ a2 ∧ a2 ≤ 4294967295) :
    openOf (sumOf (movedOf s a2)) a2 = (leAt s 0 2, leAt s 6 2, leAt s 10 2, a2, s.extract 16 (16 + leAt s 10 2).toNat, 0) ∧ (sumOf (movedOf s a2)).size = s.size ∧ relocOf (sumOf (movedOf s a2)) a1 = (s, 0) := by
  obtain ⟨h16, h1, h2, h3, h4, h5⟩ := faults_nil hf
  obtain ⟨b0, b1, b2, b3, b4, b5, b6, b7, b8, b9, b10, b11, b12, b13, b14, b15, R, hB⟩ := sixteen (bytesOf s) (by rw [bytesOf_length]; exact h16)
  have hrg := bytesOf_range s
  rw [hB] at hrg
  have hm : bytesOf (movedOf s a2) = [b0, b1, b2, b3, b4, b5, b6, b7, b8, b9, b10, b11, a2 % 256, a2 / 256 % 256, a2 / 256 / 256 % 256, a2 / 256 / 256 / 256 % 256] ++ R := by rw [bytesOf_movedOf, hB]; rfl
  have hmL : [b0, b1, b2, b3, b4, b5, b6, b7, b8, b9, b10, b11, a2 % 256, a2 / 256 % 256, a2 / 256 / 256 % 256, a2 / 256 / 256 / 256 % 256] = [b0, b1, b2, b3, b4, b5, b6, b7, b8, b9, b10, b11] ++ leNums a2 4 := rfl
  obtain ⟨X, hX⟩ : ∃ X, X = sumL (bytesOf (movedOf s a2)) := ⟨_, rfl⟩
  have ht : bytesOf (sumOf (movedOf s a2)) = [b0, b1, b2, b3, X, b5, b6, b7, b8, b9, b10, b11, a2 % 256, a2 / 256 % 256, a2 / 256 / 256 % 256, a2 / 256 / 256 / 256 % 256] ++ R := by rw [bytesOf_sumOf, ← hX, hm]; rfl
  have hs : bytesOf s = [b0, b1, b2, b3, b4, b5, b6, b7, b8, b9, b10, b11, b12, b13, b14, b15] ++ R := hB
  generalize hT : sumOf (movedOf s a2) = t at *
  have tb : ∀ i : Int, bt t i = rd ([b0, b1, b2, b3, X, b5, b6, b7, b8, b9, b10, b11, a2 % 256, a2 / 256 % 256, a2 / 256 / 256 % 256, a2 / 256 / 256 / 256 % 256] ++ R) i := fun i => by rw [← rd_bytesOf, ht]
  have sb : ∀ i : Int, bt s i = rd ([b0, b1, b2, b3, b4, b5, b6, b7, b8, b9, b10, b11, b12, b13, b14, b15] ++ R) i := fun i => by rw [← rd_bytesOf, hs]
  have hts : tagSum t = X := by rw [tagSum_bytes, ht, hX, hm]; rfl
  have e2 : leAt t 2 2 = leAt s 2 2 := by rw [leAt_two, leAt_two, tb, tb, sb, sb]; rfl
  have e0 : leAt t 0 2 = leAt s 0 2 := by rw [leAt_two, leAt_two, tb, tb, sb, sb]; rfl
  have e6 : leAt t 6 2 = leAt s 6 2 := by rw [leAt_two, leAt_two, tb, tb, sb, sb]; rfl
  have e8 : leAt t 8 2 = leAt s 8 2 := by rw [leAt_two, leAt_two, tb, tb, sb, sb]; rfl
  have e10 : leAt t 10 2 = leAt s 10 2 := by rw [leAt_two, leAt_two, tb, tb, sb, sb]; rfl
  have e4 : bt t 4 = X := by rw [tb]; rfl
  have e12 : leAt t 12 4 = a2 := by
    rw [leAt_four, tb, tb, tb, tb]
    show a2 % 256 + 256 * (a2 / 256 % 256) + 65536 * (a2 / 256 / 256 % 256) + 16777216 * (a2 / 256 / 256 / 256 % 256) = a2
    omega
  have hsz : t.size = s.size := by rw [← bytesOf_length, ← bytesOf_length, ht, hs]; rfl
  have q10 := leAt_bd s 10 2
  have hx : t.extract 16 (16 + leAt s 10 2).toNat = s.extract 16 (16 + leAt s 10 2).toNat := by
    apply bytesOf_inj
    rw [ext_of rfl ht _ q10.1, ext_of rfl hs _ q10.1]
  have hft : faultsAll t a2 = [] := by
    refine faults_nil_of (by omega) (by rw [e4, hts]) (by rw [e2]; exact h2) (by rw [e10, hsz]; exact h3) ?_ e12
    rw [e8, e10, hx]; exact h4
  refine ⟨?_, hsz, ?_⟩
  · rw [openOf, if_pos hft, e0, e6, e10, e12, hx]
  · have q12 := leAt_bd s 12 4
    rw [h5] at q12
    rw [relocOf, if_pos ⟨q12.1, by omega⟩, if_pos (faults_six_of a1 hft)]
    refine congrArg (fun z => (z, (0 : Int))) (bytesOf_inj ?_)
    have hl : leNums a1 4 = [b12, b13, b14, b15] := by
      rw [← h5, leAt_four, sb, sb, sb, sb]
      exact le4_back b12 b13 b14 b15 (hrg _ (by simp)) (hrg _ (by simp)) (hrg _ (by simp)) (hrg _ (by simp))
    have h4s : b4 = sumL (bytesOf s) := by rw [← tagSum_bytes, ← h1, sb]; rfl
    have hmv : bytesOf (movedOf t a1) = [b0, b1, b2, b3, X, b5, b6, b7, b8, b9, b10, b11, b12, b13, b14, b15] ++ R := by rw [bytesOf_movedOf, ht, hl]; rfl
    have hsx : sumL ([b0, b1, b2, b3, X, b5, b6, b7, b8, b9, b10, b11, b12, b13, b14, b15] ++ R) = sumL ([b0, b1, b2, b3, b4, b5, b6, b7, b8, b9, b10, b11, b12, b13, b14, b15] ++ R) := rfl
    rw [hs] at h4s
    rw [bytesOf_sumOf, hmv, hsx, ← h4s, hs]
    rfl
theorem UdftagMoves : masterdisclaw31_UdftagMoves.Pure := by
  intro s a1 a2 hs0 _ _
  refine Ev.rounds (g := fun k => masterdisclaw31_UdftagMoves.f k s a1 a2) ?_
  unfold masterdisclaw31_UdftagMoves.f
  refine Ev.bind awake31_ev (Ev.iteT rfl ?_)
  by_cases c : (s.size : Int) > 2100
  · exact Ev.iteT c (Ev.now _)
  · refine Ev.iteF c ?_
    simp only [Open_f s a1 (by omega), Option.bind_some]
    by_cases hf : faultsAll s a1 = []
    · have ho : openOf s a1 = (leAt s 0 2, leAt s 6 2, leAt s 10 2, leAt s 12 4, s.extract 16 (16 + leAt s 10 2).toNat, 0) := by rw [openOf, if_pos hf]
      rw [ho]
      dsimp only
      refine Ev.iteT rfl (Ev.bind (Relocate_ev s a2 (by omega)) ?_)
      have bad : ∀ b l0 l1 l2 l3 body, b = true → ¬ (0 ≤ a2 ∧ a2 ≤ 4294967295) → Ev (fun k => masterdisclaw31_UdftagMoves.j0 k s a1 a2 body (relocOf s a2).2 (relocOf s a2).1 b l0 l1 l2 l3) true := by
        rintro b l0 l1 l2 l3 body rfl hn
        have e : relocOf s a2 = (⟨#[]⟩, 2) := by rw [relocOf, if_neg hn]
        rw [e]
        refine Ev.step (fun k => by rw [masterdisclaw31_UdftagMoves.j0]) (Ev.iteT rfl (Ev.iteT rfl ?_))
        have : ((⟨#[]⟩ : ByteArray).toList == ([] : List UInt8)) = true := by rw [bytes_toList]; rfl
        rw [this]
        exact Ev.now _
      by_cases c1 : a2 < 0
      · exact Ev.iteT c1 (bad _ _ _ _ _ _ rfl (by omega))
      · refine Ev.iteF c1 ?_
        by_cases c2 : a2 ≥ 4294967296
        · exact bad _ _ _ _ _ _ (decide_eq_true c2) (by omega)
        · rw [decide_eq_false c2]
          obtain ⟨m1, m2, m3⟩ := moves s a1 a2 hf (by omega)
          have e : relocOf s a2 = (sumOf (movedOf s a2), 0) := by rw [relocOf, if_pos (by omega), if_pos (faults_six_of a2 hf)]
          rw [e]
          dsimp only
          generalize sumOf (movedOf s a2) = t at *
          refine Ev.step (fun k => by rw [masterdisclaw31_UdftagMoves.j0]) (Ev.iteF (by decide) ?_)
          simp only [Open_f t a2 (by omega), m1, Option.bind_some]
          refine Ev.bind (Relocate_ev t a1 (by omega)) ?_
          rw [m3]
          dsimp only
          refine Ev.iteT (by simp) (Ev.iteT (by simp) (Ev.iteT (by simp) (Ev.iteT (by simp) (Ev.iteT (by omega) (Ev.iteT (by simp) ?_)))))
          rw [beq_self_eq_true]
          exact Ev.now _
    · have ho : openOf s a1 = (0, 0, 0, 0, ⟨#[]⟩, 10) := by rw [openOf, if_neg hf]
      rw [ho]
      exact Ev.iteF (by decide) (Ev.now _)
end Go.Proofs.Ytijbfebbogiiiaa.Pure
