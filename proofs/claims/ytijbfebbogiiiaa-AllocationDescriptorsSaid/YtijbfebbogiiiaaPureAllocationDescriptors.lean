/- The law AllocationDescriptors in plain words: it returns true for any values and strings. -/
import Derived.Test.YtijbfebbogiiiaaQ37
import Derived.Test.YtijbfebbogiiiaaPMake
import Derived.Test.YtijbfebbogiiiaaPAwake33
namespace Go.Proofs.Ytijbfebbogiiiaa.Pure
open Go Go.RowKit Go.Proofs.Ytijbfebbogiiiaa.Q Go.Proofs.YtijbfebbogiiiaaW.PrintWords Go.Proofs.YtijbfebbogiiiaaW.PrintLast Go.Proofs.YtijbfebbogiiiaaW.PrintMore
set_option linter.unusedVariables false
set_option linter.unusedSimpArgs false
def parseOf (s : ByteArray) (loc : Int) : Int × ByteArray × Int :=
  if s.size = 2048 ∧ isOf s 258 loc = true then (if leAt s 20 4 > 2024 then (0, ⟨#[]⟩, 10) else (leAt s 16 4, s.extract 24 (24 + leAt s 20 4).toNat, 0)) else (0, ⟨#[]⟩, 10)
theorem aread33 (s : ByteArray) (i : Int) (hi : 0 ≤ i) (hn : i + 4 ≤ s.size) (hs : s.size ≤ 9223372036854775807) : allocation_read.f s i 4 = some (leAt s i 4) := by
  rw [allocation_read.f, endian_ReadLittle.f, if_pos ⟨by omega, by omega, hs⟩, if_pos ⟨hi, by omega⟩]
  rfl
theorem Parse_ev (s : ByteArray) (loc : Int) (hs : s.size ≤ 100000) : Ev (fun k => allocation_ParseDescriptor.f k s loc) (parseOf s loc) := by
  have hout : Ev (fun k => allocation_ParseDescriptor.j0 k s true) (0, ⟨#[]⟩, 10) := Ev.step (fun k => by rw [allocation_ParseDescriptor.j0, if_pos rfl]) (Ev.now _)
  unfold parseOf
  refine Ev.congr (fun k => by rw [allocation_ParseDescriptor.f]) ?_
  by_cases c1 : (s.size : Int) = 2048
  · have c1' : s.size = 2048 := by omega
    refine Ev.iteT c1 ?_
    refine Ev.congr (fun k => by rw [Is_f s 258 loc (by omega), Option.bind_some]) ?_
    by_cases c2 : isOf s 258 loc = true
    · rw [if_pos ⟨c1', c2⟩, c2]
      have b := leAt_bd s 20 4
      by_cases c3 : leAt s 20 4 > 2024
      · rw [if_pos c3]
        exact Ev.step (fun k => by rw [allocation_ParseDescriptor.j0, if_neg (by simp), aread33 s 20 (by omega) (by omega) (by omega), Option.bind_some, if_pos c3]) (Ev.now _)
      · rw [if_neg c3]
        refine Ev.step (fun k => by rw [allocation_ParseDescriptor.j0, if_neg (by simp), aread33 s 20 (by omega) (by omega) (by omega), Option.bind_some, if_neg c3, aread33 s 16 (by omega) (by omega) (by omega), Option.bind_some, w64 (24 + leAt s 20 4) (by omega)]) ?_
        exact Ev.iteT (by omega) (Ev.iteT (by omega) (Ev.now _))
    · rw [if_neg (fun h => c2 h.2), Bool.eq_false_iff.2 c2]
      exact hout
  · rw [if_neg (fun h => c1 (by omega))]
    exact Ev.iteF c1 hout
theorem num4_ev (s : ByteArray) (i : Int) (hi : 0 ≤ i) (hn : i + 4 ≤ s.size) (hs : s.size ≤ 9223372036854775807) : Ev (fun k => masterdiscref31_Number.f k s i 4) (leAt s i 4) := by
  have := Number_ev s i 4 hi (by omega) (by omega) hs
  exact this
theorem Parseref_ev (s : ByteArray) (loc : Int) (hs : s.size ≤ 100000) : Ev (fun k => masterdiscref33_ParseDescriptor.f k s loc) (parseOf s loc) := by
  have hout : Ev (fun k => masterdiscref33_ParseDescriptor.j0 k s true) (0, ⟨#[]⟩, 10) := Ev.step (fun k => by rw [masterdiscref33_ParseDescriptor.j0, if_pos rfl]) (Ev.now _)
  unfold parseOf
  refine Ev.congr (fun k => by rw [masterdiscref33_ParseDescriptor.f]) ?_
  by_cases c1 : (s.size : Int) = 2048
  · have c1' : s.size = 2048 := by omega
    refine Ev.iteT c1 (Ev.bind (Isref_ev s 258 loc (by omega)) ?_)
    by_cases c2 : isOf s 258 loc = true
    · rw [if_pos ⟨c1', c2⟩, c2]
      have b := leAt_bd s 20 4
      by_cases c3 : leAt s 20 4 > 2024
      · rw [if_pos c3]
        refine Ev.step (fun k => by rw [masterdiscref33_ParseDescriptor.j0, if_neg (by simp)]) ?_
        exact Ev.bind (num4_ev s 20 (by omega) (by omega) (by omega)) (Ev.iteT c3 (Ev.now _))
      · rw [if_neg c3]
        refine Ev.step (fun k => by rw [masterdiscref33_ParseDescriptor.j0, if_neg (by simp)]) ?_
        refine Ev.bind (num4_ev s 20 (by omega) (by omega) (by omega)) (Ev.iteF c3 (Ev.bind (num4_ev s 16 (by omega) (by omega) (by omega)) ?_))
        refine Ev.congr (fun k => by rw [w64 (24 + leAt s 20 4) (by omega)]) ?_
        exact Ev.iteT (by omega) (Ev.iteT (by omega) (Ev.now _))
    · rw [if_neg (fun h => c2 h.2), Bool.eq_false_iff.2 c2]
      exact hout
  · rw [if_neg (fun h => c1 (by omega))]
    exact Ev.iteF c1 hout
def descBody (p : Int) (body : ByteArray) : ByteArray := strOfNums (leNums p 4) ++ strOfNums (leNums (body.size : Int) 4) ++ body
def descOf (p loc : Int) (body : ByteArray) : ByteArray × Int :=
  if p < 0 ∨ p ≥ 4294967296 ∨ loc < 0 ∨ loc ≥ 4294967296 then (⟨#[]⟩, 2) else if (body.size : Int) > 2024 then (⟨#[]⟩, 7) else blockRes 258 1 loc (descBody p body)
theorem four_size (n : Int) : (strOfNums (leNums n 4)).size = 4 := by rw [strOfNums_size]; rfl
theorem descBody_size (p : Int) (body : ByteArray) : (descBody p body).size = 8 + body.size := by
  rw [descBody, ByteArray.size_append, ByteArray.size_append, four_size, four_size]
theorem Desc_ev (p loc : Int) (body : ByteArray) (hb : body.size ≤ 100000) : Ev (fun k => allocation_Descriptor.f k p loc body) (descOf p loc body) := by
  have hout : Ev (fun k => allocation_Descriptor.j0 k p loc body true) (⟨#[]⟩, 2) := Ev.step (fun k => by rw [allocation_Descriptor.j0, if_pos rfl]) (Ev.now _)
  unfold descOf
  refine Ev.congr (fun k => by rw [allocation_Descriptor.f]) ?_
  by_cases c1 : p < 0
  · rw [if_pos (.inl c1)]; exact Ev.iteT c1 hout
  refine Ev.iteF c1 ?_
  by_cases c2 : p ≥ 4294967296
  · rw [if_pos (.inr (.inl c2))]; exact Ev.iteT c2 hout
  refine Ev.iteF c2 ?_
  by_cases c3 : loc < 0
  · rw [if_pos (.inr (.inr (.inl c3)))]; exact Ev.iteT c3 hout
  refine Ev.iteF c3 ?_
  by_cases c4 : loc ≥ 4294967296
  · rw [if_pos (.inr (.inr (.inr c4))), decide_eq_true c4]; exact hout
  rw [if_neg (show ¬ (p < 0 ∨ p ≥ 4294967296 ∨ loc < 0 ∨ loc ≥ 4294967296) by omega), decide_eq_false c4]
  by_cases c5 : (body.size : Int) > 2024
  · rw [if_pos c5]; exact Ev.step (fun k => by rw [allocation_Descriptor.j0, if_neg (by simp), if_pos c5]) (Ev.now _)
  · rw [if_neg c5]
    have l1 := little4_f p (by omega) (by omega)
    have l2 := little4_f (body.size : Int) (by omega) (by omega)
    have hd : strOfNums (leNums p 4) ++ strOfNums (leNums (body.size : Int) 4) ++ body = descBody p body := rfl
    have z1 := four_size p
    have z2 := four_size (body.size : Int)
    generalize strOfNums (leNums p 4) = s1 at *
    generalize strOfNums (leNums (body.size : Int) 4) = s2 at *
    refine Ev.step (fun k => by rw [allocation_Descriptor.j0, if_neg (by simp), if_neg c5, l1, l2, Option.bind_some, Option.bind_some]) ?_
    refine Ev.iteT (by omega) (Ev.iteT (by rw [ByteArray.size_append]; omega) ?_)
    rw [hd]
    exact Ev.bind (Block_ev 258 1 loc (descBody p body)) (Ev.now _)
theorem Descref_ev (p loc : Int) (body : ByteArray) (hb : body.size ≤ 100000) : Ev (fun k => masterdiscref33_Descriptor.f k p loc body) (descOf p loc body) := by
  have hout : Ev (fun k => masterdiscref33_Descriptor.j0 k p loc body true) (⟨#[]⟩, 2) := Ev.step (fun k => by rw [masterdiscref33_Descriptor.j0, if_pos rfl]) (Ev.now _)
  unfold descOf
  refine Ev.congr (fun k => by rw [masterdiscref33_Descriptor.f]) ?_
  by_cases c1 : p < 0
  · rw [if_pos (.inl c1)]; exact Ev.iteT c1 hout
  refine Ev.iteF c1 ?_
  by_cases c2 : p ≥ 4294967296
  · rw [if_pos (.inr (.inl c2))]; exact Ev.iteT c2 hout
  refine Ev.iteF c2 ?_
  by_cases c3 : loc < 0
  · rw [if_pos (.inr (.inr (.inl c3)))]; exact Ev.iteT c3 hout
  refine Ev.iteF c3 ?_
  by_cases c4 : loc ≥ 4294967296
  · rw [if_pos (.inr (.inr (.inr c4))), decide_eq_true c4]; exact hout
  rw [if_neg (show ¬ (p < 0 ∨ p ≥ 4294967296 ∨ loc < 0 ∨ loc ≥ 4294967296) by omega), decide_eq_false c4]
  by_cases c5 : (body.size : Int) > 2024
  · rw [if_pos c5]; exact Ev.step (fun k => by rw [masterdiscref33_Descriptor.j0, if_neg (by simp), if_pos c5]) (Ev.now _)
  · rw [if_neg c5]
    have l1 := Bytes_ev p 4 (by omega) (by omega) (by omega)
    have l2 := Bytes_ev (body.size : Int) 4 (by omega) (by omega) (by omega)
    have hd : strOfNums (leNums p 4) ++ strOfNums (leNums (body.size : Int) 4) ++ body = descBody p body := rfl
    have z1 := four_size p
    have z2 := four_size (body.size : Int)
    generalize strOfNums (leNums p 4) = s1 at *
    generalize strOfNums (leNums (body.size : Int) 4) = s2 at *
    refine Ev.step (fun k => by rw [masterdiscref33_Descriptor.j0, if_neg (by simp), if_neg c5]) ?_
    refine Ev.bind l1 (Ev.bind l2 (Ev.iteT (by omega) (Ev.iteT (by rw [ByteArray.size_append]; omega) ?_)))
    rw [hd]
    exact Ev.bind (Blockref_ev 258 1 loc (descBody p body)) (Ev.now _)
theorem leAt_desc {T : ByteArray} {hd rest : List Int} {p n : Int} (h16 : hd.length = 16) (hb : bytesOf T = hd ++ (leNums p 4 ++ (leNums n 4 ++ rest))) (hp : 0 ≤ p ∧ p < 4294967296) (hn : 0 ≤ n ∧ n < 4294967296) : leAt T 16 4 = p ∧ leAt T 20 4 = n := by
  match hd, h16 with
  | [x0, x1, x2, x3, x4, x5, x6, x7, x8, x9, x10, x11, x12, x13, x14, x15], _ =>
    have r : ∀ i : Int, bt T i = rd ([x0, x1, x2, x3, x4, x5, x6, x7, x8, x9, x10, x11, x12, x13, x14, x15] ++ (leNums p 4 ++ (leNums n 4 ++ rest))) i := fun i => by rw [← rd_bytesOf, hb]
    simp only [leAt_four, r]
    refine ⟨?_, ?_⟩
    · show p % 256 + 256 * (p / 256 % 256) + 65536 * (p / 256 / 256 % 256) + 16777216 * (p / 256 / 256 / 256 % 256) = p; omega
    · show n % 256 + 256 * (n / 256 % 256) + 65536 * (n / 256 / 256 % 256) + 16777216 * (n / 256 / 256 / 256 % 256) = n; omega
theorem body_at {s : ByteArray} {hd : List Int} {body : ByteArray} {rest : List Int} (m : Nat) (hm : hd.length = m) (hb : bytesOf s = hd ++ (bytesOf body ++ rest)) : s.extract m ((m : Int) + (body.size : Int)).toNat = body := by
  apply bytesOf_inj
  rw [bytesOf_extract, hb, show ((m : Int) + (body.size : Int)).toNat = m + body.size by omega]
  have hbl := bytesOf_length body
  rw [List.take_append, List.take_of_length_le (by omega), hm, show m + body.size - m = body.size by omega, List.take_append_of_le_length (by omega), List.take_of_length_le (by omega), ← hm, List.drop_left]
theorem desc_back (p loc : Int) (body : ByteArray) (h : (descOf p loc body).2 = 0) : (descOf p loc body).1.size ≤ 100000 ∧ parseOf (descOf p loc body).1 loc = (p, body, 0) := by
  unfold descOf at h ⊢
  by_cases c1 : p < 0 ∨ p ≥ 4294967296 ∨ loc < 0 ∨ loc ≥ 4294967296
  · rw [if_pos c1] at h; exact absurd h (by decide)
  · rw [if_neg c1] at h ⊢
    by_cases c2 : (body.size : Int) > 2024
    · rw [if_pos c2] at h; exact absurd h (by decide)
    · rw [if_neg c2] at h ⊢
      have hin : inRange 258 1 loc := ⟨by omega, by omega, by omega⟩
      have hds := descBody_size p body
      have c3 : ¬ ((descBody p body).size : Int) > 2032 := by omega
      unfold blockRes
      rw [if_pos hin, if_neg c3]
      dsimp only
      have hs := sealOf_size 258 1 loc (descBody p body)
      have hb := sealOf_bytes 258 1 loc (descBody p body)
      have ho := fun more => opens 258 1 loc (descBody p body) more hin (by omega)
      have hl := sealHead_length 258 1 loc (descBody p body)
      have hbb : bytesOf (descBody p body) = leNums p 4 ++ (leNums (body.size : Int) 4 ++ bytesOf body) := by
        rw [descBody, bytesOf_append, bytesOf_append, bytes_le, bytes_le, List.append_assoc]
      generalize sealOf 258 1 loc (descBody p body) = S at *
      generalize sealHead 258 1 loc (descBody p body) = hd at *
      have hz := zeroBytes_size (2048 - S.size)
      generalize zeroBytes (2048 - S.size) = Z at *
      have hT : (S ++ Z).size = 2048 := by rw [ByteArray.size_append]; omega
      have hbT : bytesOf (S ++ Z) = hd ++ (leNums p 4 ++ (leNums (body.size : Int) 4 ++ (bytesOf body ++ bytesOf Z))) := by
        rw [bytesOf_append, hb, hbb]; simp only [List.append_assoc]
      obtain ⟨_, o1, o2, _⟩ := ho Z
      generalize S ++ Z = T at *
      have hl24 := leAt_desc hl hbT (by omega) (by omega)
      have hx : T.extract 24 ((24 : Nat) + (body.size : Int)).toNat = body := body_at (hd := hd ++ leNums p 4 ++ leNums (body.size : Int) 4) (rest := bytesOf Z) 24 (by rw [List.length_append, List.length_append, hl]; rfl) (by rw [hbT]; simp only [List.append_assoc])
      have hi : isOf T 258 loc = true := by rw [isOf, o1, o2]; rfl
      refine ⟨by omega, ?_⟩
      rw [parseOf, if_pos ⟨hT, hi⟩, hl24.1, hl24.2, if_neg c2]
      have hx' : T.extract 24 (24 + (body.size : Int)).toNat = body := hx
      rw [hx']
theorem AllocationDescriptors : masterdisclaw33_AllocationDescriptors.Pure := by
  intro p loc body block at_
  intros
  refine Ev.rounds (g := fun k => masterdisclaw33_AllocationDescriptors.f k p loc body block at_) ?_
  have hout : Ev (fun k => masterdisclaw33_AllocationDescriptors.j0 k p loc body block at_ true) true := Ev.step (fun k => by rw [masterdisclaw33_AllocationDescriptors.j0, if_pos rfl]) (Ev.now _)
  refine Ev.congr (fun k => by rw [masterdisclaw33_AllocationDescriptors.f]) (Ev.bind awake33_ev (Ev.iteT rfl ?_))
  by_cases c1 : (body.size : Int) > 2100
  · exact Ev.iteT c1 hout
  refine Ev.iteF c1 ?_
  by_cases c2 : (block.size : Int) > 2100
  · rw [decide_eq_true c2]; exact hout
  rw [decide_eq_false c2]
  have hback := desc_back p loc body
  refine Ev.step (fun k => by rw [masterdisclaw33_AllocationDescriptors.j0, if_neg (by simp)]) (Ev.bind (Desc_ev p loc body (by omega)) (Ev.bind (Descref_ev p loc body (by omega)) (Ev.bind (Parse_ev block at_ (by omega)) (Ev.bind (Parseref_ev block at_ (by omega)) ?_))))
  generalize parseOf block at_ = q
  generalize descOf p loc body = d at *
  refine Ev.iteT rfl (Ev.iteT rfl (Ev.iteT rfl (Ev.iteT rfl ?_)))
  rw [bne_self_eq_false]
  refine Ev.step (fun k => by rw [masterdisclaw33_AllocationDescriptors.j1, if_neg (by simp)]) ?_
  by_cases c3 : d.2 = 0
  · obtain ⟨hsz, hb⟩ := hback c3
    refine Ev.iteT c3 (Ev.bind (Parse_ev d.1 loc hsz) ?_)
    rw [hb]
    refine Ev.iteT rfl (Ev.iteT rfl ?_)
    rw [beq_self_eq_true]
    exact Ev.now _
  · exact Ev.iteF c3 (Ev.now _)
end Go.Proofs.Ytijbfebbogiiiaa.Pure
