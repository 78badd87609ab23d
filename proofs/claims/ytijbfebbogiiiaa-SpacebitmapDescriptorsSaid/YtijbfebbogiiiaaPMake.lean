/- Make, Pad, Seal and Block of the second way; Block of the program. -/
import Derived.Test.YtijbfebbogiiiaaQ36
import Derived.Test.YtijbfebbogiiiaaQ52
import Derived.Test.YtijbfebbogiiiaaQ19
import Derived.Test.YtijbfebbogiiiaaQ29
import Derived.Test.YtijbfebbogiiiaaPReloc
namespace Go.Proofs.Ytijbfebbogiiiaa.Pure
open Go.RowKit Go.Proofs.Ytijbfebbogiiiaa.Q Go.Proofs.YtijbfebbogiiiaaW.PrintWords Go.Proofs.YtijbfebbogiiiaaW.PrintLast
set_option linter.unusedVariables false
set_option linter.unusedSimpArgs false
theorem le_range (n : Int) (m : Nat) : ∀ x ∈ leNums n m, 0 ≤ x ∧ x ≤ 255 := by
  induction m generalizing n with
  | zero => intro x hx; simp [leNums] at hx
  | succ m ih =>
    intro x hx
    rw [leNums, List.mem_cons] at hx
    rcases hx with rfl | hx
    · omega
    · exact ih _ x hx
theorem bytes_sumOf (m : ByteArray) : bytesOf (sumOf m) = (bytesOf m).take 4 ++ [sumL (bytesOf m)] ++ (bytesOf m).drop 5 := by
  have h := tagSum_bd m
  rw [sumOf, bytesOf_append, bytesOf_append, bytesOf_extract, bytesOf_extract, bytesOf_strOfNums _ (by simpa using h), ← bytesOf_length m, List.take_length, List.drop_zero, tagSum_bytes]
theorem bytes_le (n : Int) (m : Nat) : bytesOf (strOfNums (leNums n m)) = leNums n m := bytesOf_strOfNums _ (le_range n m)
theorem head_le (id ver crc len loc : Int) : leNums id 2 ++ [3, 0, 0, 0] ++ leNums ver 2 ++ leNums crc 2 ++ leNums len 2 ++ leNums loc 4 = headOf id ver crc len loc 0 := rfl
theorem Make_ev (id ver loc : Int) (body : ByteArray) (h : inRange id ver loc) (hb : body.size ≤ 65535) : Ev (fun k => masterdiscref31_Make.f k id ver loc body) (sealOf id ver loc body) := by
  obtain ⟨h1, h2, h3⟩ := h
  have bc := crcOf_bd body
  have hz : bytesOf (⟨#[3, 0, 0, 0]⟩ : ByteArray) = [3, 0, 0, 0] := rfl
  have hzs : (⟨#[3, 0, 0, 0]⟩ : ByteArray).size = 4 := rfl
  unfold masterdiscref31_Make.f
  generalize (⟨#[3, 0, 0, 0]⟩ : ByteArray) = Z at *
  refine Ev.bind (Bytes_ev id 2 (by omega) h1.1 (by omega)) ?_
  have ea := bytes_le id 2
  have za : (strOfNums (leNums id 2)).size = 2 := by rw [strOfNums_size, leNums_length]
  generalize strOfNums (leNums id 2) = A at *
  refine Ev.iteT (by omega) (Ev.bind (Bytes_ev ver 2 (by omega) h2.1 (by omega)) ?_)
  have ev := bytes_le ver 2
  have zv : (strOfNums (leNums ver 2)).size = 2 := by rw [strOfNums_size, leNums_length]
  generalize strOfNums (leNums ver 2) = V at *
  refine Ev.iteT (by simp only [ByteArray.size_append]; omega) (Ev.bind (CRC16ref_ev body (by omega)) ?_)
  rw [w64 _ (by omega)]
  refine Ev.bind (Bytes_ev (crcOf body) 2 (by omega) (by omega) (by omega)) ?_
  have ec := bytes_le (crcOf body) 2
  have zc : (strOfNums (leNums (crcOf body) 2)).size = 2 := by rw [strOfNums_size, leNums_length]
  generalize strOfNums (leNums (crcOf body) 2) = C at *
  refine Ev.iteT (by simp only [ByteArray.size_append]; omega) (Ev.bind (Bytes_ev (body.size : Int) 2 (by omega) (by omega) (by omega)) ?_)
  have el := bytes_le (body.size : Int) 2
  have zl : (strOfNums (leNums (body.size : Int) 2)).size = 2 := by rw [strOfNums_size, leNums_length]
  generalize strOfNums (leNums (body.size : Int) 2) = L at *
  refine Ev.iteT (by simp only [ByteArray.size_append]; omega) (Ev.bind (Bytes_ev loc 4 (by omega) h3.1 (by omega)) ?_)
  have eo := bytes_le loc 4
  have zo : (strOfNums (leNums loc 4)).size = 4 := by rw [strOfNums_size, leNums_length]
  generalize strOfNums (leNums loc 4) = O at *
  refine Ev.iteT (by simp only [ByteArray.size_append]; omega) ?_
  have hsz : (((((A ++ Z) ++ V) ++ C) ++ L) ++ O).size = 16 := by simp only [ByteArray.size_append]; omega
  have hbs : bytesOf (((((A ++ Z) ++ V) ++ C) ++ L) ++ O) = headOf id ver (crcOf body) body.size loc 0 := by
    rw [bytesOf_append, bytesOf_append, bytesOf_append, bytesOf_append, bytesOf_append, ea, hz, ev, ec, el, eo, head_le]
  generalize (((((A ++ Z) ++ V) ++ C) ++ L) ++ O) = S at *
  have hsum : sumOf S = strOfNums (sealHead id ver loc body) := by
    rw [← strOfNums_bytesOf (sumOf S), bytes_sumOf, hbs, sealHead_of]
  have hss : (sumOf S).size = 16 := by rw [hsum, strOfNums_size, sealHead_length]
  refine Ev.bind (refsumOf_ev S (by omega) (by omega)) ?_
  refine Ev.iteT (by omega) ?_
  rw [hsum]
  exact Ev.now _
theorem ranged_f (id ver loc : Int) : masterdiscref31_ranged.f id ver loc = some (decide (inRange id ver loc)) := by
  unfold masterdiscref31_ranged.f
  have hi : inRange id ver loc ↔ ((0 ≤ id ∧ id ≤ 65535) ∧ (0 ≤ ver ∧ ver ≤ 65535) ∧ (0 ≤ loc ∧ loc ≤ 4294967295)) := Iff.rfl
  by_cases c1 : id ≥ 0
  · rw [if_pos c1]
    by_cases c2 : id < 65536
    · rw [if_pos c2]
      by_cases c3 : ver ≥ 0
      · rw [if_pos c3]
        by_cases c4 : ver < 65536
        · rw [if_pos c4]
          by_cases c5 : loc ≥ 0
          · rw [if_pos c5]
            congr 1
            rw [decide_eq_decide, hi]
            omega
          · rw [if_neg c5, decide_eq_false (by rw [hi]; omega)]
        · rw [if_neg c4, decide_eq_false (by rw [hi]; omega)]
      · rw [if_neg c3, decide_eq_false (by rw [hi]; omega)]
    · rw [if_neg c2, decide_eq_false (by rw [hi]; omega)]
  · rw [if_neg c1, decide_eq_false (by rw [hi]; omega)]
theorem Sealref_ev (id ver loc : Int) (body : ByteArray) : Ev (fun k => masterdiscref31_Seal.f k id ver loc body) (sealRes id ver loc body 65535) := by
  unfold masterdiscref31_Seal.f sealRes
  simp only [ranged_f, Option.bind_some, decide_eq_true_eq]
  by_cases h : inRange id ver loc
  · refine Ev.iteT h ?_
    rw [if_pos h]
    by_cases c : (body.size : Int) > 65535
    · rw [if_pos c]; exact Ev.iteT c (Ev.now _)
    · rw [if_neg c]; exact Ev.iteF c (Ev.bind (Make_ev id ver loc body h (by omega)) (Ev.now _))
  · rw [if_neg h]; exact Ev.iteF h (Ev.now _)
theorem Repeat_l0 (x : Int) (M : Nat) (hM : M ≤ 100000) : ∀ (m : Nat) (acc : List Int), acc.length + m = M →
    Ev (fun k => masterdiscref01_Repeat.l0 k x (M : Int) acc (acc.length : Int)) (strOfNums (acc ++ List.replicate m x)) := by
  intro m
  induction m with
  | zero =>
    intro acc hl
    refine Ev.step (fun k => by rw [masterdiscref01_Repeat.l0]) (Ev.iteF (by omega) ?_)
    rw [List.replicate_zero, List.append_nil]
    exact Ev.now _
  | succ m ih =>
    intro acc hl
    refine Ev.step (fun k => by rw [masterdiscref01_Repeat.l0]) (Ev.iteT (by omega) (Ev.iteT (by omega) ?_))
    have e3 : wrap64 ((acc.length : Int) + 1) = ((acc ++ [x]).length : Int) := by rw [w64 _ (by omega)]; simp
    rw [e3, List.replicate_succ, show acc ++ x :: List.replicate m x = (acc ++ [x]) ++ List.replicate m x by simp]
    exact ih (acc ++ [x]) (by simp; omega)
theorem zeroBytes_nums (n : Nat) : strOfNums (List.replicate n 0) = zeroBytes n := by
  unfold strOfNums zeroBytes
  rw [List.map_replicate]
  rfl
theorem zeroBytes_size (n : Nat) : (zeroBytes n).size = n := by rw [← zeroBytes_nums, strOfNums_size, List.length_replicate]
theorem Repeat_ev (n : Nat) (h : n ≤ 100000) : Ev (fun k => masterdiscref01_Repeat.f k 0 (n : Int)) (zeroBytes n) := by
  have := Repeat_l0 0 n h n [] (by simp)
  rw [List.nil_append, zeroBytes_nums] at this
  exact this
theorem Pad_ev (s : ByteArray) (n : Nat) (h : s.size ≤ n) (hn : n ≤ 100000) : Ev (fun k => masterdiscref31_Pad.f k s (n : Int)) (s ++ zeroBytes (n - s.size)) := by
  unfold masterdiscref31_Pad.f
  rw [w64 _ (by omega), show (n : Int) - (s.size : Int) = ((n - s.size : Nat) : Int) by omega]
  refine Ev.bind (Repeat_ev (n - s.size) (by omega)) ?_
  have hz := zeroBytes_size (n - s.size)
  generalize zeroBytes (n - s.size) = Z at *
  exact Ev.iteT (by omega) (Ev.now _)
def blockRes (id ver loc : Int) (body : ByteArray) : ByteArray × Int :=
  if inRange id ver loc then (if (body.size : Int) > 2032 then (⟨#[]⟩, 7) else (sealOf id ver loc body ++ zeroBytes (2048 - (sealOf id ver loc body).size), 0)) else (⟨#[]⟩, 2)
theorem Block_ev (id ver loc : Int) (body : ByteArray) : Ev (fun k => udftag_Block.f k id ver loc body) (blockRes id ver loc body) := by
  unfold udftag_Block.f blockRes
  refine Ev.bind (seal_ev id ver loc body 2032 (by decide)) ?_
  unfold sealRes
  by_cases h : inRange id ver loc
  · rw [if_pos h, if_pos h]
    by_cases c : (body.size : Int) > 2032
    · rw [if_pos c, if_pos c]; exact Ev.iteF (by decide) (Ev.now _)
    · rw [if_neg c, if_neg c]
      dsimp only
      have hs := sealOf_size id ver loc body
      generalize sealOf id ver loc body = S at *
      refine Ev.iteT rfl ?_
      have hr : strings_Repeat.f (⟨#[0]⟩ : ByteArray) (wrap64 (2048 - (S.size : Int))) = some (zeroBytes (2048 - S.size)) := by
        rw [w64 _ (by omega), strings_Repeat.f, if_pos ⟨rfl, by omega, by omega⟩, show ((2048 : Int) - (S.size : Int)).toNat = 2048 - S.size by omega]
      simp only [hr, Option.bind_some]
      have hz := zeroBytes_size (2048 - S.size)
      generalize zeroBytes (2048 - S.size) = Z at *
      exact Ev.iteT (by omega) (Ev.now _)
  · rw [if_neg h, if_neg h]; exact Ev.iteF (by decide) (Ev.now _)
theorem Blockref_ev (id ver loc : Int) (body : ByteArray) : Ev (fun k => masterdiscref31_Block.f k id ver loc body) (blockRes id ver loc body) := by
  unfold masterdiscref31_Block.f blockRes
  simp only [ranged_f, Option.bind_some, decide_eq_true_eq]
  by_cases h : inRange id ver loc
  · refine Ev.iteT h ?_
    rw [if_pos h]
    by_cases c : (body.size : Int) > 2032
    · rw [if_pos c]; exact Ev.iteT c (Ev.now _)
    · rw [if_neg c]
      refine Ev.iteF c (Ev.bind (Make_ev id ver loc body h (by omega)) ?_)
      have hs := sealOf_size id ver loc body
      generalize sealOf id ver loc body = S at *
      exact Ev.bind (Pad_ev S 2048 (by omega) (by omega)) (Ev.now _)
  · rw [if_neg h]; exact Ev.iteF h (Ev.now _)
end Go.Proofs.Ytijbfebbogiiiaa.Pure
