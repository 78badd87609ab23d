/- Seal of the program: the descriptor that it makes, and that it opens. -/
import Derived.Test.YtijbfebbogiiiaaPRef31
namespace Go.Proofs.Ytijbfebbogiiiaa.Pure
open Go.RowKit Go.Proofs.Ytijbfebbogiiiaa.Q Go.Proofs.YtijbfebbogiiiaaW.PrintWords Go.Proofs.YtijbfebbogiiiaaW.PrintLast
set_option linter.unusedVariables false
set_option linter.unusedSimpArgs false
theorem most2 : udftag_most.f 2 = some 65535 := by kernel_rfl
theorem most4 : udftag_most.f 4 = some 4294967295 := by kernel_rfl
theorem fits2 (a : Int) : udftag_fits.f a 2 = some (decide (0 ≤ a ∧ a ≤ 65535)) := by
  rw [udftag_fits.f, most2]
  by_cases h : a ≥ 0
  · rw [if_pos h, Option.bind_some]; congr 1; simp [show (0 ≤ a) = True from eq_true h]
  · rw [if_neg h, decide_eq_false (by omega)]
theorem fits4 (a : Int) : udftag_fits.f a 4 = some (decide (0 ≤ a ∧ a ≤ 4294967295)) := by
  rw [udftag_fits.f, most4]
  by_cases h : a ≥ 0
  · rw [if_pos h, Option.bind_some]; congr 1; simp [show (0 ≤ a) = True from eq_true h]
  · rw [if_neg h, decide_eq_false (by omega)]
theorem little2 (a : Int) (h : 0 ≤ a ∧ a ≤ 65535) : udftag_little.f a 2 = some (strOfNums [a % 256, a / 256 % 256]) := by
  rw [udftag_little.f, endian_Little.f, if_pos (by omega), if_pos (by refine ⟨h.1, ?_⟩; show a < 65536; omega)]
  rfl
theorem little4 (a : Int) (h : 0 ≤ a ∧ a ≤ 4294967295) : udftag_little.f a 4 = some (strOfNums [a % 256, a / 256 % 256, a / 256 / 256 % 256, a / 256 / 256 / 256 % 256]) := by
  rw [udftag_little.f, endian_Little.f, if_pos (by omega), if_pos (by refine ⟨h.1, ?_⟩; show a < 4294967296; omega)]
  rfl
/-- The sixteen bytes of a tag, the fifth one given. -/
def headOf (id ver crc len loc sum : Int) : List Int :=
  [id % 256, id / 256 % 256, 3, 0, sum, 0, ver % 256, ver / 256 % 256, crc % 256, crc / 256 % 256, len % 256, len / 256 % 256, loc % 256, loc / 256 % 256, loc / 256 / 256 % 256, loc / 256 / 256 / 256 % 256]
def sumL (l : List Int) : Int := (l.take 4 ++ (l.take 16).drop 5).foldl (fun a b => (a + b) % 256) 0
theorem tagSum_bytes (s : ByteArray) : tagSum s = sumL (bytesOf s) := by
  rw [tagSum, sum8_bytes, bytesOf_append, bytesOf_extract, bytesOf_extract, List.drop_zero]; rfl
theorem sum8_bd (s : ByteArray) : 0 ≤ sum8 s ∧ sum8 s ≤ 255 := by
  have : ∀ (l : List UInt8) (a : Nat), a < 256 → l.foldl (fun a b => (a + b.toNat) % 256) a < 256 := by
    intro l
    induction l with
    | nil => exact fun _ h => h
    | cons b l ih => exact fun a _ => ih _ (Nat.mod_lt _ (by decide))
  have h := this s.data.toList 0 (by decide)
  unfold sum8
  omega
theorem tagSum_bd (s : ByteArray) : 0 ≤ tagSum s ∧ tagSum s ≤ 255 := sum8_bd _
theorem head_range (id ver crc len loc sum : Int) (h : 0 ≤ sum ∧ sum ≤ 255) : ∀ x ∈ headOf id ver crc len loc sum, 0 ≤ x ∧ x ≤ 255 := by
  intro x hx
  simp only [headOf, List.mem_cons, List.not_mem_nil, or_false] at hx
  rcases hx with rfl | rfl | rfl | rfl | rfl | rfl | rfl | rfl | rfl | rfl | rfl | rfl | rfl | rfl | rfl | rfl <;> omega
theorem sumL_head (id ver crc len loc sum : Int) (x : List Int) : sumL (headOf id ver crc len loc sum ++ x) = sumL (headOf id ver crc len loc 0) := rfl
theorem sumL_bd (s : List Int) : 0 ≤ sumL s ∧ sumL s ≤ 255 := by
  have : ∀ (l : List Int) (a : Int), 0 ≤ a ∧ a ≤ 255 → 0 ≤ l.foldl (fun a b => (a + b) % 256) a ∧ l.foldl (fun a b => (a + b) % 256) a ≤ 255 := by
    intro l
    induction l with
    | nil => exact fun _ h => h
    | cons b l ih => exact fun a _ => ih _ (by show 0 ≤ (a + b) % 256 ∧ (a + b) % 256 ≤ 255; omega)
  exact this _ 0 (by decide)
def sealHead (id ver loc : Int) (body : ByteArray) : List Int := headOf id ver (crcOf body) body.size loc (sumL (headOf id ver (crcOf body) body.size loc 0))
def sealOf (id ver loc : Int) (body : ByteArray) : ByteArray := strOfNums (sealHead id ver loc body) ++ body
theorem sealOf_size (id ver loc : Int) (body : ByteArray) : (sealOf id ver loc body).size = 16 + body.size := by
  rw [sealOf, ByteArray.size_append, strOfNums_size]; rfl
theorem sealOf_bytes (id ver loc : Int) (body : ByteArray) : bytesOf (sealOf id ver loc body) = sealHead id ver loc body ++ bytesOf body := by
  rw [sealOf, bytesOf_append, sealHead, bytesOf_strOfNums _ (head_range _ _ _ _ _ _ (sumL_bd _))]
theorem summed_ev (l : List Int) (h16 : l.length = 16) (hl : ∀ x ∈ l, 0 ≤ x ∧ x ≤ 255) : Ev (fun k => udftag_summed.f k (strOfNums l)) (strOfNums (l.take 4 ++ [sumL l] ++ l.drop 5)) := by
  have hs : (strOfNums l).size = 16 := by rw [strOfNums_size, h16]
  have hb := bytesOf_strOfNums l hl
  have e1 : (strOfNums l).extract 0 4 = strOfNums (l.take 4) := by
    rw [← strOfNums_bytesOf ((strOfNums l).extract 0 4), bytesOf_extract, hb]; rfl
  have e2 : (strOfNums l).extract 5 16 = strOfNums (l.drop 5) := by
    rw [← strOfNums_bytesOf ((strOfNums l).extract 5 16), bytesOf_extract, hb, List.take_of_length_le (by omega)]
  refine Ev.of (udftag_summed.mono (strOfNums l)) (k := 16) ?_
  rw [udftag_summed.f, if_pos (by omega), if_pos (by omega), sum_f _ (by omega), tagSum_bytes, hb, Option.bind_some, Option.bind_some, e1, hs, e2, if_pos (by simp only [strOfNums_size]; simp; omega), if_pos (by omega),
    if_pos (by simp only [ByteArray.size_append, strOfNums_size]; simp; omega), strOfNums_app, strOfNums_app]
theorem str00 : (⟨#[0, 0]⟩ : ByteArray) = strOfNums [0, 0] := rfl
def inRange (id ver loc : Int) : Prop := (0 ≤ id ∧ id ≤ 65535) ∧ (0 ≤ ver ∧ ver ≤ 65535) ∧ (0 ≤ loc ∧ loc ≤ 4294967295)
instance (id ver loc : Int) : Decidable (inRange id ver loc) := by unfold inRange; infer_instance
def sealRes (id ver loc : Int) (body : ByteArray) (most : Int) : ByteArray × Int :=
  if inRange id ver loc then (if (body.size : Int) > most then (⟨#[]⟩, 7) else (sealOf id ver loc body, 0)) else (⟨#[]⟩, 2)
theorem chain {α : Type} (la lb lc ld le lf lg : List Int) (h : la.length + lb.length + lc.length + ld.length + le.length + lf.length + lg.length ≤ 100) (F : ByteArray → Option α) :
    (if (strOfNums la).size + (strOfNums lb).size ≤ 9223372036854775807 then (if (strOfNums la ++ strOfNums lb).size + 2 ≤ 9223372036854775807 then (if ((strOfNums la ++ strOfNums lb) ++ (⟨#[0, 0]⟩ : ByteArray)).size + (strOfNums lc).size ≤ 9223372036854775807 then (if (((strOfNums la ++ strOfNums lb) ++ (⟨#[0, 0]⟩ : ByteArray)) ++ strOfNums lc).size + (strOfNums ld).size ≤ 9223372036854775807 then (if ((((strOfNums la ++ strOfNums lb) ++ (⟨#[0, 0]⟩ : ByteArray)) ++ strOfNums lc) ++ strOfNums ld).size + (strOfNums le).size ≤ 9223372036854775807 then (if (((((strOfNums la ++ strOfNums lb) ++ (⟨#[0, 0]⟩ : ByteArray)) ++ strOfNums lc) ++ strOfNums ld) ++ strOfNums le).size + (strOfNums lf).size ≤ 9223372036854775807 then F ((((((strOfNums la ++ strOfNums lb) ++ (⟨#[0, 0]⟩ : ByteArray)) ++ strOfNums lc) ++ strOfNums ld) ++ strOfNums le) ++ strOfNums lf) else none) else none) else none) else none) else none) else none) = F (strOfNums (la ++ lb ++ [0, 0] ++ lc ++ ld ++ le ++ lf)) := by
  rw [str00]
  simp only [← strOfNums_app, strOfNums_size, List.length_append, List.length_cons, List.length_nil]
  rw [if_pos (by omega), if_pos (by omega), if_pos (by omega), if_pos (by omega), if_pos (by omega), if_pos (by omega)]
theorem sealHead_of (id ver loc : Int) (body : ByteArray) : (headOf id ver (crcOf body) body.size loc 0).take 4 ++ [sumL (headOf id ver (crcOf body) body.size loc 0)] ++ (headOf id ver (crcOf body) body.size loc 0).drop 5 = sealHead id ver loc body := by
  unfold sealHead
  generalize sumL (headOf id ver (crcOf body) body.size loc 0) = x
  generalize crcOf body = c
  generalize (body.size : Int) = b
  rfl
theorem sealHead_length (id ver loc : Int) (body : ByteArray) : (sealHead id ver loc body).length = 16 := by
  unfold sealHead headOf
  simp only [List.length_cons, List.length_nil]
theorem seal_end (id ver loc : Int) (body : ByteArray) (hs : body.size ≤ 65535) : Ev (fun k => (udftag_summed.f k (strOfNums (headOf id ver (crcOf body) body.size loc 0))).bind fun t120 => (if t120.size + body.size ≤ 9223372036854775807 then (some (t120 ++ body, (0 : Int))) else (none))) (sealOf id ver loc body, 0) := by
  have hsum := summed_ev (headOf id ver (crcOf body) body.size loc 0) rfl (head_range _ _ _ _ _ _ (by decide))
  rw [sealHead_of] at hsum
  refine Ev.bind hsum (Ev.iteT ?_ ?_)
  · rw [strOfNums_size, sealHead_length]; omega
  · exact Ev.now _
theorem head_cat (id ver crc len loc : Int) : [id % 256, id / 256 % 256] ++ [(3 : Int), 0] ++ [0, 0] ++ [ver % 256, ver / 256 % 256] ++ [crc % 256, crc / 256 % 256] ++ [len % 256, len / 256 % 256] ++ [loc % 256, loc / 256 % 256, loc / 256 / 256 % 256, loc / 256 / 256 / 256 % 256] = headOf id ver crc len loc 0 := rfl
theorem seal_j0_gen (k : Nat) (id ver loc crc : Int) (body : ByteArray) (most : Int) (c : ¬ (body.size : Int) > most) (hcrc : checksum_CRC16.f body = some crc) (a b v cc l o z : ByteArray)
    (ha : udftag_little.f id 2 = some a) (hb : udftag_little.f 3 2 = some b) (hv : udftag_little.f ver 2 = some v) (hc : udftag_little.f (wrap64 crc) 2 = some cc) (hl : udftag_little.f (body.size : Int) 2 = some l) (ho : udftag_little.f loc 4 = some o)
    (s1 : a.size ≤ 9) (s2 : b.size ≤ 9) (s3 : v.size ≤ 9) (s4 : cc.size ≤ 9) (s5 : l.size ≤ 9) (s6 : o.size ≤ 9) (hz : z = (⟨#[0, 0]⟩ : ByteArray)) (hz2 : z.size = 2) :
    udftag_seal.j0 (k + 1) id ver loc body most false = (udftag_summed.f k ((((((a ++ b) ++ z) ++ v) ++ cc) ++ l) ++ o)).bind fun t120 => (if t120.size + body.size ≤ 9223372036854775807 then (some (t120 ++ body, (0 : Int))) else (none)) := by
  rw [udftag_seal.j0, if_neg (by decide), if_neg c, ← hz, ha, Option.bind_some, hb, Option.bind_some, hv, Option.bind_some, hcrc, Option.bind_some, hc, Option.bind_some, hl, Option.bind_some, ho, Option.bind_some]
  simp only [ByteArray.size_append, hz2]
  rw [if_pos (by omega), if_pos (by omega), if_pos (by omega), if_pos (by omega), if_pos (by omega), if_pos (by omega)]
theorem seal_j0_eq (k : Nat) (id ver loc crc : Int) (body : ByteArray) (most : Int) (h : inRange id ver loc) (c : ¬ (body.size : Int) > most) (hm : body.size ≤ 65535) (hcrc : checksum_CRC16.f body = some crc) (bc : 0 ≤ crc ∧ crc ≤ 65535) :
    udftag_seal.j0 (k + 1) id ver loc body most false = (udftag_summed.f k (strOfNums (headOf id ver crc body.size loc 0))).bind fun t120 => (if t120.size + body.size ≤ 9223372036854775807 then (some (t120 ++ body, (0 : Int))) else (none)) := by
  obtain ⟨h1, h2, h3⟩ := h
  rw [seal_j0_gen k id ver loc crc body most c hcrc _ _ _ _ _ _ _ (little2 id h1) (little2 3 (by decide)) (little2 ver h2) (by rw [w64 crc (by omega)]; exact little2 crc bc) (little2 (body.size : Int) (by omega)) (little4 loc h3)
    (by rw [strOfNums_size]; simp) (by rw [strOfNums_size]; simp) (by rw [strOfNums_size]; simp) (by rw [strOfNums_size]; simp) (by rw [strOfNums_size]; simp) (by rw [strOfNums_size]; simp) str00.symm (by rw [strOfNums_size]; simp), ← head_cat,
    strOfNums_app, strOfNums_app, strOfNums_app, strOfNums_app, strOfNums_app, strOfNums_app]
  rfl
theorem seal_j0_ev (id ver loc : Int) (body : ByteArray) (most : Int) (hm : most ≤ 65535) (h : inRange id ver loc) :
    Ev (fun k => udftag_seal.j0 k id ver loc body most false) (if (body.size : Int) > most then (⟨#[]⟩, 7) else (sealOf id ver loc body, 0)) := by
  by_cases c : (body.size : Int) > most
  · rw [if_pos c]
    refine Ev.step (fun k => by rw [udftag_seal.j0]) ?_
    exact Ev.iteF (by decide) (Ev.iteT c (Ev.now _))
  · rw [if_neg c]
    have bc := crcOf_bd body
    exact Ev.step (fun k => seal_j0_eq k id ver loc (crcOf body) body most h c (by omega) (by rw [checksum_CRC16.f, if_pos (by omega)]) (by omega)) (seal_end id ver loc body (by omega))
theorem seal_ev (id ver loc : Int) (body : ByteArray) (most : Int) (hm : most ≤ 65535) : Ev (fun k => udftag_seal.f k id ver loc body most) (sealRes id ver loc body most) := by
  have hbad : Ev (fun k => udftag_seal.j0 k id ver loc body most true) (⟨#[]⟩, 2) := by
    refine Ev.step (fun k => by rw [udftag_seal.j0]) ?_
    exact Ev.iteT rfl (Ev.now _)
  unfold udftag_seal.f sealRes
  simp only [fits2, fits4, Option.bind_some, decide_eq_true_eq]
  by_cases h1 : 0 ≤ id ∧ id ≤ 65535
  · refine Ev.iteT h1 ?_
    by_cases h2 : 0 ≤ ver ∧ ver ≤ 65535
    · refine Ev.iteT h2 ?_
      by_cases h3 : 0 ≤ loc ∧ loc ≤ 4294967295
      · rw [if_pos (show inRange id ver loc from ⟨h1, h2, h3⟩)]
        simp only [h3, and_self, decide_true, Bool.not_true]
        exact seal_j0_ev id ver loc body most hm ⟨h1, h2, h3⟩
      · rw [if_neg (fun h => h3 h.2.2), decide_eq_false h3]
        exact hbad
    · rw [if_neg (fun h => h2 h.2.1)]
      exact Ev.iteF h2 hbad
  · rw [if_neg (fun h => h1 h.1)]
    exact Ev.iteF h1 hbad
theorem Seal_ev (id ver loc : Int) (body : ByteArray) : Ev (fun k => udftag_Seal.f k id ver loc body) (sealRes id ver loc body 65535) := by
  unfold udftag_Seal.f
  simp only [most2, Option.bind_some]
  exact Ev.bind (seal_ev id ver loc body 65535 (by decide)) (Ev.now _)

/-- A string that begins with a descriptor's tag. -/
theorem tag_read {s : ByteArray} {id ver crc len loc sum : Int} {rest : List Int} (hb : bytesOf s = headOf id ver crc len loc sum ++ rest) (h : inRange id ver loc) (hc : 0 ≤ crc ∧ crc ≤ 65535) (hl : 0 ≤ len ∧ len ≤ 65535) :
    leAt s 0 2 = id ∧ leAt s 2 2 = 3 ∧ bt s 4 = sum ∧ leAt s 6 2 = ver ∧ leAt s 8 2 = crc ∧ leAt s 10 2 = len ∧ leAt s 12 4 = loc ∧ tagSum s = sumL (headOf id ver crc len loc 0) ∧ s.size = 16 + rest.length := by
  obtain ⟨h1, h2, h3⟩ := h
  have hs : s.size = 16 + rest.length := by rw [← bytesOf_length, hb, List.length_append]; rfl
  have ht : tagSum s = sumL (headOf id ver crc len loc 0) := by rw [tagSum_bytes, hb, sumL_head]
  have r : ∀ i : Int, bt s i = rd (headOf id ver crc len loc sum ++ rest) i := fun i => by rw [← rd_bytesOf, hb]
  simp only [leAt_two, leAt_four, r]
  refine ⟨?_, ?_, ?_, ?_, ?_, ?_, ?_, ht, hs⟩
  · show id % 256 + 256 * (id / 256 % 256) = id; omega
  · rfl
  · rfl
  · show ver % 256 + 256 * (ver / 256 % 256) = ver; omega
  · show crc % 256 + 256 * (crc / 256 % 256) = crc; omega
  · show len % 256 + 256 * (len / 256 % 256) = len; omega
  · show loc % 256 + 256 * (loc / 256 % 256) + 65536 * (loc / 256 / 256 % 256) + 16777216 * (loc / 256 / 256 / 256 % 256) = loc; omega
theorem body_of {s : ByteArray} {hd : List Int} {body : ByteArray} {rest : List Int} (h16 : hd.length = 16) (hb : bytesOf s = hd ++ (bytesOf body ++ rest)) : s.extract 16 (16 + (body.size : Int)).toNat = body := by
  apply bytesOf_inj
  rw [bytesOf_extract, hb, show (16 + (body.size : Int)).toNat = 16 + body.size by omega]
  have hbl := bytesOf_length body
  rw [List.take_append, List.take_of_length_le (by omega), h16, show 16 + body.size - 16 = body.size by omega, List.take_append_of_le_length (by omega), List.take_of_length_le (by omega), ← h16, List.drop_left]
/-- A descriptor, with further bytes behind it, opens. -/
theorem opens (id ver loc : Int) (body more : ByteArray) (h : inRange id ver loc) (hl : body.size ≤ 65535) :
    openOf (sealOf id ver loc body ++ more) loc = (id, ver, (body.size : Int), loc, body, 0) ∧ faultsAll (sealOf id ver loc body ++ more) loc = [] ∧ leAt (sealOf id ver loc body ++ more) 0 2 = id ∧ leAt (sealOf id ver loc body ++ more) 12 4 = loc := by
  have hb : bytesOf (sealOf id ver loc body ++ more) = sealHead id ver loc body ++ (bytesOf body ++ bytesOf more) := by rw [bytesOf_append, sealOf_bytes, List.append_assoc]
  have bc := crcOf_bd body
  obtain ⟨t1, t2, t3, t4, t5, t6, t7, t8, t9⟩ := tag_read hb h (by omega) (by omega)
  have hx := body_of (hd := sealHead id ver loc body) rfl hb
  have hf : faultsAll (sealOf id ver loc body ++ more) loc = [] := by
    refine faults_nil_of (by omega) (by rw [t3, t8]) (.inr t2) ?_ ?_ t7
    · rw [t6, t9, List.length_append, bytesOf_length]; omega
    · rw [t5, t6, hx]
  refine ⟨?_, hf, t1, t7⟩
  rw [openOf, if_pos hf, t1, t4, t6, t7, hx]
end Go.Proofs.Ytijbfebbogiiiaa.Pure
