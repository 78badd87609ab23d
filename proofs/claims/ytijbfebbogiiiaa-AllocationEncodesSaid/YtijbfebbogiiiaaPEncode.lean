/- The second ways of EncodeShort and EncodeLong compute what the program's do. -/
import Derived.Test.YtijbfebbogiiiaaPJoin
import Derived.Test.YtijbfebbogiiiaaPEv
import Derived.Test.YtijbfebbogiiiaaHAlloc
import Derived.Test.YtijbfebbogiiiaaQ20
namespace Go.Proofs.Ytijbfebbogiiiaa.Pure
open Go Go.RowKit Go.Proofs.Ytijbfebbogiiiaa.Q Go.Proofs.YtijbfebbogiiiaaW.PrintWords Go.Proofs.YtijbfebbogiiiaaW.PrintLast Go.Proofs.YtijbfebbogiiiaaW.PrintMore
set_option linter.unusedVariables false
set_option linter.unusedSimpArgs false
theorem rd46 (l : List S46) (j : Nat) (h : j < l.length) : rd_T46 l (j : Int) = l[j] := by simp [rd_T46, h]
theorem Formed_l0 (l : List S46) (hl : l.length ≤ 9223372036854775806) : ∀ (m j : Nat), j + m = l.length →
    Ev (fun k => masterdiscref33_Formed.l0 k l (j : Int)) (decide (l.length ≤ 64) && (l.drop j).all extOk) := by
  intro m
  induction m with
  | zero =>
    intro j hj
    rw [List.drop_of_length_le (by omega), List.all_nil, Bool.and_true]
    refine Ev.step (fun k => by rw [masterdiscref33_Formed.l0, if_neg (by omega)]) ?_
    rw [show decide (l.length ≤ 64) = decide ((l.length : Int) ≤ 64) by rw [decide_eq_decide]; omega]
    exact Ev.now _
  | succ m ih =>
    intro j hj
    have hlt : j < l.length := by omega
    have := ih (j + 1) (by omega)
    rw [List.drop_eq_getElem_cons hlt, List.all_cons]
    generalize hx : l[j] = x at *
    refine Ev.step (fun k => by rw [masterdiscref33_Formed.l0, if_pos (by omega), if_pos (by omega), rd46 l j hlt, hx, w64 ((j : Int) + 1) (by omega), show (j : Int) + 1 = ((j + 1 : Nat) : Int) by omega]) ?_
    have hbad : ¬ (0 ≤ x.f0 ∧ x.f0 ≤ 3 ∧ 1 ≤ x.f1 ∧ x.f1 < 1073741824 ∧ 0 ≤ x.f2.f0 ∧ x.f2.f0 < 4294967296 ∧ 0 ≤ x.f2.f1 ∧ x.f2.f1 ≤ 65535) → (decide (l.length ≤ 64) && (extOk x && (l.drop (j + 1)).all extOk)) = false := by
      intro h
      rw [extOk, decide_eq_false h, Bool.false_and, Bool.and_false]
    by_cases c1 : x.f0 < 0
    · rw [hbad (by omega)]; exact Ev.iteT c1 (Ev.now _)
    refine Ev.iteF c1 ?_
    by_cases c2 : x.f0 > 3
    · rw [hbad (by omega)]; exact Ev.iteT c2 (Ev.now _)
    refine Ev.iteF c2 ?_
    by_cases c3 : x.f1 < 1
    · rw [hbad (by omega)]; exact Ev.iteT c3 (Ev.now _)
    refine Ev.iteF c3 ?_
    by_cases c4 : x.f1 ≥ 1073741824
    · rw [hbad (by omega)]; exact Ev.iteT c4 (Ev.now _)
    refine Ev.iteF c4 ?_
    by_cases c5 : x.f2.f0 < 0
    · rw [hbad (by omega)]; exact Ev.iteT c5 (Ev.now _)
    refine Ev.iteF c5 ?_
    by_cases c6 : x.f2.f0 ≥ 4294967296
    · rw [hbad (by omega)]; exact Ev.iteT c6 (Ev.now _)
    refine Ev.iteF c6 ?_
    by_cases c7 : x.f2.f1 < 0
    · rw [hbad (by omega)]; exact Ev.iteT c7 (Ev.now _)
    refine Ev.iteF c7 ?_
    by_cases c8 : x.f2.f1 > 65535
    · rw [hbad (by omega)]; exact Ev.iteT c8 (Ev.now _)
    refine Ev.iteF c8 ?_
    rw [show extOk x = true by rw [extOk, decide_eq_true_iff]; omega, Bool.true_and]
    exact this
theorem Formedref_ev (l : List S46) (hl : l.length ≤ 9223372036854775806) : Ev (fun k => masterdiscref33_Formed.f k l) (formedB l) := by
  have := Formed_l0 l hl l.length 0 (by omega)
  exact this
theorem Bytes_l0' (M : Nat) (hM : M ≤ 1000) : ∀ (m : Nat) (n : Int) (out : List Int), m + out.length = M → 0 ≤ n → n ≤ 9223372036854775807 →
    Ev (fun k => masterdiscref01_Bytes.l0 k n (M : Int) out (out.length : Int)) (strOfNums (out ++ leNums n m)) := by
  intro m
  induction m with
  | zero =>
    intro n out hm h0 h1
    rw [leNums, List.append_nil]
    exact Ev.step (fun k => by rw [masterdiscref01_Bytes.l0, if_neg (by omega)]) (Ev.now _)
  | succ m ih =>
    intro n out hm h0 h1
    have := ih (n / 256) (out ++ [n % 256]) (by rw [List.length_append, List.length_singleton]; omega) (by omega) (by omega)
    rw [List.append_assoc, List.singleton_append] at this
    rw [leNums]
    refine Ev.step (fun k => by rw [masterdiscref01_Bytes.l0, if_pos (by omega), if_pos (by omega), Int.tdiv_eq_ediv_of_nonneg h0, tmod_pos n 256 h0, w64 (n / 256) (by omega), w64 ((out.length : Int) + 1) (by omega), show n % 256 % 256 = n % 256 by omega, show (out.length : Int) + 1 = ((out ++ [n % 256]).length : Int) by rw [List.length_append, List.length_singleton]; omega]) this
theorem Bytes33_ev (n : Int) (M : Nat) (hM : M ≤ 1000) (h0 : 0 ≤ n) (hn : n ≤ 9223372036854775807) : Ev (fun k => masterdiscref01_Bytes.f k n (M : Int)) (strOfNums (leNums n M)) := by
  have := Bytes_l0' M hM M n [] (by simp) h0 hn
  exact this
theorem short_ev (x : S46) (hx : Ok x) : Ev (fun k => masterdiscref33_short.f k x.f0 x.f1 x.f2.f0 x.f2.f1) (strOfNums (shortOf x)) := by
  have hk := hx.k; have hn := hx.n; have hb := hx.b
  refine Ev.congr (fun k => by rw [masterdiscref33_short.f, w64 (x.f0 * 1073741824) (by omega), w64 _ (by omega), Int.mul_comm x.f0 1073741824]) ?_
  refine Ev.bind (Bytes33_ev (x.f1 + 1073741824 * x.f0) 4 (by omega) (by omega) (by omega)) (Ev.bind (Bytes33_ev x.f2.f0 4 (by omega) (by omega) (by omega)) (Ev.iteT ?_ ?_))
  · rw [leNums4_size, leNums4_size]; omega
  · rw [shortOf, strOfNums_cat]; exact Ev.now _
theorem short_size (x : S46) : (strOfNums (shortOf x)).size = 8 := by
  rw [shortOf, strOfNums_cat, ByteArray.size_append, leNums4_size, leNums4_size]
theorem Short_l0 (l : List S46) (hl : l.length ≤ 64) (hx : ∀ x ∈ l, Ok x) : ∀ (m j : Nat) (s : ByteArray), j + m = l.length → s.size = 8 * j →
    Ev (fun k => masterdiscref33_EncodeShort.l0 k l s (j : Int)) (if ((l.drop j).all fun x => x.f2.f1 == (l.headD z46).f2.f1) = true then (s ++ strOfNums ((l.drop j).flatMap shortOf), 0) else (⟨#[]⟩, 2)) := by
  intro m
  induction m with
  | zero =>
    intro j s hj hs
    rw [List.drop_of_length_le (by omega), List.all_nil, if_pos rfl, List.flatMap_nil, show strOfNums [] = ByteArray.empty from rfl, ByteArray.append_empty]
    exact Ev.step (fun k => by rw [masterdiscref33_EncodeShort.l0, if_neg (by omega)]) (Ev.now _)
  | succ m ih =>
    intro j s hj hs
    have hlt : j < l.length := by omega
    have e0 : rd_T46 l 0 = l.headD z46 := by
      cases l with
      | nil => rfl
      | cons y l => rfl
    have ho := hx l[j] (List.getElem_mem hlt)
    rw [List.drop_eq_getElem_cons hlt, List.all_cons, List.flatMap_cons, strOfNums_cat, ← ByteArray.append_assoc]
    refine Ev.step (fun k => by rw [masterdiscref33_EncodeShort.l0, if_pos (by omega), if_pos (by omega), if_pos (by omega), rd46 l j hlt, e0, w64 ((j : Int) + 1) (by omega), show (j : Int) + 1 = ((j + 1 : Nat) : Int) by omega]) ?_
    by_cases c1 : l[j].f2.f1 = (l.headD z46).f2.f1
    · refine Ev.iteT c1 (Ev.bind (short_ev _ ho) (Ev.iteT (by rw [short_size]; omega) ?_))
      have := ih (j + 1) (s ++ strOfNums (shortOf l[j])) (by omega) (by rw [ByteArray.size_append, short_size]; omega)
      rw [beq_iff_eq.2 c1, Bool.true_and]
      exact this
    · refine Ev.iteF c1 ?_
      rw [beq_eq_false_iff_ne.2 c1, Bool.false_and, if_neg (by simp)]
      exact Ev.now _
theorem EncodeShort_both (l : List S46) (hl : l.length ≤ 70) : ∃ a, allocation_EncodeShort.f l = some a ∧ Ev (fun k => masterdiscref33_EncodeShort.f k l) a := by
  refine ⟨_, show allocation_EncodeShort.f l = some (if formedB l = true then (if (l.all fun x => x.f2.f1 == (l.headD z46).f2.f1) = true then (strOfNums (l.flatMap shortOf), 0) else (⟨#[]⟩, 2)) else (⟨#[]⟩, 1)) by unfold allocation_EncodeShort.f; split <;> (try split) <;> rfl, ?_⟩
  refine Ev.congr (fun k => by rw [masterdiscref33_EncodeShort.f]) (Ev.bind (Formedref_ev l (by omega)) ?_)
  by_cases hf : formedB l = true
  · rw [if_pos hf]
    obtain ⟨h1, h2⟩ := formedB_all hf
    have := Short_l0 l h1 (fun x hx => by
      have := h2 x hx
      unfold extOk at this
      rw [decide_eq_true_iff] at this
      exact ⟨⟨this.1, this.2.1⟩, ⟨this.2.2.1, this.2.2.2.1⟩, ⟨this.2.2.2.2.1, this.2.2.2.2.2.1⟩, ⟨this.2.2.2.2.2.2.1, this.2.2.2.2.2.2.2⟩⟩) l.length 0 ⟨#[]⟩ (by omega) rfl
    rw [List.drop_zero, show (⟨#[]⟩ : ByteArray) ++ strOfNums (l.flatMap shortOf) = strOfNums (l.flatMap shortOf) from ByteArray.empty_append] at this
    exact Ev.iteT hf this
  · rw [if_neg hf]
    exact Ev.iteF hf (Ev.now _)
theorem two_ev (n : Int) (h0 : 0 ≤ n) (h1 : n ≤ 65535) : Ev (fun k => masterdiscref01_Bytes.f k n 2) (strOfNums (leNums n 2)) := Bytes33_ev n 2 (by omega) h0 (by omega)
theorem six_ev : Ev (fun k => masterdiscref01_Repeat.f k 0 6) (strOfNums (leNums 0 6)) := Ev.of (masterdiscref01_Repeat.mono 0 6) (k := 8) (by kernel_rfl)
theorem Long_l0 (l : List S46) (hl : l.length ≤ 64) (hx : ∀ x ∈ l, Ok x) : ∀ (m j : Nat) (s : ByteArray), j + m = l.length → s.size = 16 * j →
    Ev (fun k => masterdiscref33_EncodeLong.l0 k l s (j : Int)) (s ++ strOfNums ((l.drop j).flatMap longOf), 0) := by
  intro m
  induction m with
  | zero =>
    intro j s hj hs
    rw [List.drop_of_length_le (by omega), List.flatMap_nil, show strOfNums [] = ByteArray.empty from rfl, ByteArray.append_empty]
    exact Ev.step (fun k => by rw [masterdiscref33_EncodeLong.l0, if_neg (by omega)]) (Ev.now _)
  | succ m ih =>
    intro j s hj hs
    have hlt : j < l.length := by omega
    have ho := hx l[j] (List.getElem_mem hlt)
    have hp := ho.p
    have z2 : (strOfNums (leNums l[j].f2.f1 2)).size = 2 := by rw [show leNums l[j].f2.f1 2 = [l[j].f2.f1 % 256, l[j].f2.f1 / 256 % 256] from rfl]; rfl
    have z6 : (strOfNums (leNums 0 6)).size = 6 := by rw [show leNums 0 6 = [0, 0, 0, 0, 0, 0] from rfl]; rfl
    have eL : strOfNums (longOf l[j]) = strOfNums (shortOf l[j]) ++ strOfNums (leNums l[j].f2.f1 2) ++ strOfNums (leNums 0 6) := by
      rw [longOf, strOfNums_cat, strOfNums_cat, ByteArray.append_assoc]
    have := ih (j + 1) (s ++ strOfNums (longOf l[j])) (by omega) (by rw [ByteArray.size_append, eL, ByteArray.size_append, ByteArray.size_append, short_size, z2, z6]; omega)
    rw [List.drop_eq_getElem_cons hlt, List.flatMap_cons, strOfNums_cat, ← ByteArray.append_assoc]
    rw [eL, ← ByteArray.append_assoc, ← ByteArray.append_assoc] at this
    rw [eL, ← ByteArray.append_assoc, ← ByteArray.append_assoc]
    refine Ev.step (fun k => by rw [masterdiscref33_EncodeLong.l0, if_pos (by omega), if_pos (by omega), rd46 l j hlt, w64 ((j : Int) + 1) (by omega), show (j : Int) + 1 = ((j + 1 : Nat) : Int) by omega]) ?_
    refine Ev.bind (short_ev _ ho) (Ev.iteT (by rw [short_size]; omega) (Ev.bind (two_ev _ hp.1 hp.2) (Ev.iteT (by rw [ByteArray.size_append, short_size, z2]; omega) (Ev.bind six_ev (Ev.iteT (by rw [ByteArray.size_append, ByteArray.size_append, short_size, z2, z6]; omega) this)))))
theorem EncodeLong_both (l : List S46) (hl : l.length ≤ 70) : ∃ a, allocation_EncodeLong.f l = some a ∧ Ev (fun k => masterdiscref33_EncodeLong.f k l) a := by
  refine ⟨_, show allocation_EncodeLong.f l = some (if formedB l = true then (strOfNums (l.flatMap longOf), 0) else (⟨#[]⟩, 1)) by unfold allocation_EncodeLong.f; split <;> rfl, ?_⟩
  refine Ev.congr (fun k => by rw [masterdiscref33_EncodeLong.f]) (Ev.bind (Formedref_ev l (by omega)) ?_)
  by_cases hf : formedB l = true
  · rw [if_pos hf]
    obtain ⟨h1, h2⟩ := formedB_all hf
    have := Long_l0 l h1 (fun x hx => by
      have := h2 x hx
      unfold extOk at this
      rw [decide_eq_true_iff] at this
      exact ⟨⟨this.1, this.2.1⟩, ⟨this.2.2.1, this.2.2.2.1⟩, ⟨this.2.2.2.2.1, this.2.2.2.2.2.1⟩, ⟨this.2.2.2.2.2.2.1, this.2.2.2.2.2.2.2⟩⟩) l.length 0 ⟨#[]⟩ (by omega) rfl
    rw [List.drop_zero, show (⟨#[]⟩ : ByteArray) ++ strOfNums (l.flatMap longOf) = strOfNums (l.flatMap longOf) from ByteArray.empty_append] at this
    exact Ev.iteT hf this
  · rw [if_neg hf]
    exact Ev.iteF hf (Ev.now _)
end Go.Proofs.Ytijbfebbogiiiaa.Pure
