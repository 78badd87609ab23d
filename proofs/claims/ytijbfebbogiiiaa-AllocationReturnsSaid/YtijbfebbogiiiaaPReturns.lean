/- Decoding what was encoded gives the extents, in plain words. -/
import Derived.Test.YtijbfebbogiiiaaPJoin
import Derived.Test.YtijbfebbogiiiaaPList
import Derived.Test.YtijbfebbogiiiaaHAlloc
import Derived.Test.YtijbfebbogiiiaaHDecode
namespace Go.Proofs.Ytijbfebbogiiiaa.Pure
open Go Go.RowKit Go.Proofs.Ytijbfebbogiiiaa.Q Go.Proofs.YtijbfebbogiiiaaW.PrintWords Go.Proofs.YtijbfebbogiiiaaW.PrintLast Go.Proofs.YtijbfebbogiiiaaW.PrintMore
set_option linter.unusedVariables false
set_option linter.unusedSimpArgs false
theorem le_bd (n : Int) (m : Nat) : ∀ x ∈ leNums n m, 0 ≤ x ∧ x ≤ 255 := by
  induction m generalizing n with
  | zero => intro x hx; simp [leNums] at hx
  | succ m ih =>
    intro x hx
    rw [leNums, List.mem_cons] at hx
    rcases hx with rfl | hx
    · omega
    · exact ih _ x hx
theorem short_bd (x : S46) : ∀ y ∈ shortOf x, 0 ≤ y ∧ y ≤ 255 := by
  intro y hy
  rcases List.mem_append.1 hy with h | h <;> exact le_bd _ _ y h
theorem long_bd (x : S46) : ∀ y ∈ longOf x, 0 ≤ y ∧ y ≤ 255 := by
  intro y hy
  rcases List.mem_append.1 hy with h | h
  · exact short_bd x y h
  · rcases List.mem_append.1 h with h | h <;> exact le_bd _ _ y h
theorem long_length (x : S46) : (longOf x).length = 16 := rfl
theorem short_length (x : S46) : (shortOf x).length = 8 := rfl
theorem flat_length (f : S46 → List Int) (n : Nat) (hf : ∀ x, (f x).length = n) (l : List S46) : (l.flatMap f).length = n * l.length := by
  induction l with
  | nil => simp
  | cons x l ih => rw [List.flatMap_cons, List.length_append, ih, hf, List.length_cons, Nat.mul_succ]; omega
/-- The values that stand at a descriptor. -/
theorem at_short {s : ByteArray} {pre rest : List Int} (x : S46) (hx : Ok x) (hb : bytesOf s = pre ++ (shortOf x ++ rest)) : leAt s (pre.length : Int) 4 = x.f1 + 1073741824 * x.f0 ∧ leAt s ((pre.length : Int) + 4) 4 = x.f2.f0 := by
  have hk := hx.k; have hn := hx.n; have hbk := hx.b
  have r : ∀ i : Int, (pre.length : Int) ≤ i → bt s i = rd (shortOf x ++ rest) (i - pre.length) := fun i hi => by rw [← rd_bytesOf, hb, rd_append_right _ _ _ hi]
  rw [leAt_four, leAt_four, r _ (by omega), r _ (by omega), r _ (by omega), r _ (by omega), r _ (by omega), r _ (by omega), r _ (by omega), r _ (by omega)]
  rw [show (pre.length : Int) - pre.length = 0 by omega, show (pre.length : Int) + 1 - pre.length = 1 by omega, show (pre.length : Int) + 2 - pre.length = 2 by omega, show (pre.length : Int) + 3 - pre.length = 3 by omega,
    show (pre.length : Int) + 4 - pre.length = 4 by omega, show (pre.length : Int) + 4 + 1 - pre.length = 5 by omega, show (pre.length : Int) + 4 + 2 - pre.length = 6 by omega, show (pre.length : Int) + 4 + 3 - pre.length = 7 by omega]
  obtain ⟨v, hv⟩ : ∃ v, v = x.f1 + 1073741824 * x.f0 := ⟨_, rfl⟩
  have e : shortOf x ++ rest = [v % 256, v / 256 % 256, v / 256 / 256 % 256, v / 256 / 256 / 256 % 256, x.f2.f0 % 256, x.f2.f0 / 256 % 256, x.f2.f0 / 256 / 256 % 256, x.f2.f0 / 256 / 256 / 256 % 256] ++ rest := by rw [hv]; rfl
  rw [e, ← hv]
  refine ⟨?_, ?_⟩
  · show v % 256 + 256 * (v / 256 % 256) + 65536 * (v / 256 / 256 % 256) + 16777216 * (v / 256 / 256 / 256 % 256) = v; omega
  · show x.f2.f0 % 256 + 256 * (x.f2.f0 / 256 % 256) + 65536 * (x.f2.f0 / 256 / 256 % 256) + 16777216 * (x.f2.f0 / 256 / 256 / 256 % 256) = x.f2.f0; omega
theorem at_long {s : ByteArray} {pre rest : List Int} (x : S46) (hx : Ok x) (hb : bytesOf s = pre ++ (longOf x ++ rest)) : leAt s ((pre.length : Int) + 8) 2 = x.f2.f1 := by
  have hp := hx.p
  have r : ∀ i : Int, (pre.length : Int) ≤ i → bt s i = rd (longOf x ++ rest) (i - pre.length) := fun i hi => by rw [← rd_bytesOf, hb, rd_append_right _ _ _ hi]
  rw [leAt_two, r _ (by omega), r _ (by omega)]
  rw [show (pre.length : Int) + 8 - pre.length = 8 by omega, show (pre.length : Int) + 8 + 1 - pre.length = 9 by omega]
  show x.f2.f1 % 256 + 256 * (x.f2.f1 / 256 % 256) = x.f2.f1
  omega
theorem dec_all (s : ByteArray) (size : Nat) (part : Int → Int) (f : S46 → List Int) (hf : ∀ x, (f x).length = size) (hs : ∀ (pre rest : List Int) (x : S46), Ok x → bytesOf s = pre ++ (f x ++ rest) → leAt s (pre.length : Int) 4 = x.f1 + 1073741824 * x.f0 ∧ leAt s ((pre.length : Int) + 4) 4 = x.f2.f0)
    (P : S46 → Prop) (hp : ∀ (pre rest : List Int) (x : S46), Ok x → P x → bytesOf s = pre ++ (f x ++ rest) → part (pre.length : Int) = x.f2.f1) :
    ∀ (l : List S46) (pre : List Int) (acc : List S46), bytesOf s = pre ++ l.flatMap f → (∀ x ∈ l, Ok x) → (∀ x ∈ l, P x) → acc.length + l.length ≤ 64 → decFrom s size part l.length (pre.length : Int) acc = (acc ++ l, 0) := by
  intro l
  induction l with
  | nil => intro pre acc _ _ _ _; rw [List.append_nil]; rfl
  | cons x l ih =>
    intro pre acc hb hok hP hl
    have hx := hok x (List.mem_cons_self ..)
    have hk := hx.k; have hn := hx.n
    rw [List.flatMap_cons] at hb
    obtain ⟨e1, e2⟩ := hs pre _ x hx hb
    have e3 := hp pre _ x hx (hP x (List.mem_cons_self ..)) hb
    have := ih (pre ++ f x) (acc ++ [x]) (by rw [hb, List.append_assoc]) (fun y hy => hok y (List.mem_cons_of_mem _ hy)) (fun y hy => hP y (List.mem_cons_of_mem _ hy)) (by rw [List.length_append, List.length_singleton]; rw [List.length_cons] at hl; omega)
    rw [List.length_append, hf] at this
    rw [List.length_cons, decFrom, e1, e2, e3, if_neg (by omega), if_neg (by rw [List.length_cons] at hl; omega)]
    rw [show (x.f1 + 1073741824 * x.f0) / 1073741824 = x.f0 by omega, show (x.f1 + 1073741824 * x.f0) % 1073741824 = x.f1 by omega]
    rw [List.append_assoc, List.singleton_append] at this
    rw [show (pre.length : Int) + (size : Int) = ((pre.length + size : Nat) : Int) by omega]
    exact this
theorem long_back (l : List S46) (hl : l.length ≤ 64) (hx : ∀ x ∈ l, Ok x) : (strOfNums (l.flatMap longOf)).size = 16 * l.length ∧ allocation_DecodeLong.f (strOfNums (l.flatMap longOf)) = some (l, 0) := by
  have hz : (strOfNums (l.flatMap longOf)).size = 16 * l.length := by rw [strOfNums_size, flat_length longOf 16 long_length]
  have hb : bytesOf (strOfNums (l.flatMap longOf)) = l.flatMap longOf := bytesOf_strOfNums _ (fun y hy => by
    obtain ⟨x, _, h⟩ := List.mem_flatMap.1 hy
    exact long_bd x y h)
  refine ⟨hz, ?_⟩
  generalize strOfNums (l.flatMap longOf) = s at *
  have := dec_all s 16 (fun i => leAt s (i + 8) 2) longOf long_length (fun pre rest x hx h => at_short x hx (rest := leNums x.f2.f1 2 ++ leNums 0 6 ++ rest) (by rw [h, longOf]; simp only [List.append_assoc])) (fun _ => True)
    (fun pre rest x hx _ h => at_long x hx h) l [] [] hb hx (fun _ _ => trivial) (by simpa using hl)
  rw [allocation_DecodeLong.f, if_neg (by omega), if_neg (by omega), show s.size / 16 = l.length by omega]
  exact congrArg some this
theorem short_back (l : List S46) (p : Int) (hp : 0 ≤ p ∧ p ≤ 65535) (hl : l.length ≤ 64) (hx : ∀ x ∈ l, Ok x) (hs : ∀ x ∈ l, x.f2.f1 = p) : (strOfNums (l.flatMap shortOf)).size = 8 * l.length ∧ allocation_DecodeShort.f (strOfNums (l.flatMap shortOf)) p = some (l, 0) := by
  have hz : (strOfNums (l.flatMap shortOf)).size = 8 * l.length := by rw [strOfNums_size, flat_length shortOf 8 short_length]
  have hb : bytesOf (strOfNums (l.flatMap shortOf)) = l.flatMap shortOf := bytesOf_strOfNums _ (fun y hy => by
    obtain ⟨x, _, h⟩ := List.mem_flatMap.1 hy
    exact short_bd x y h)
  refine ⟨hz, ?_⟩
  generalize strOfNums (l.flatMap shortOf) = s at *
  have := dec_all s 8 (fun _ => p) shortOf short_length (fun pre rest x hx h => at_short x hx h) (fun x => x.f2.f1 = p) (fun pre rest x hx h _ => h.symm) l [] [] hb hx hs (by simpa using hl)
  rw [allocation_DecodeShort.f, if_neg (by omega), if_neg (by omega), if_neg (by omega), show s.size / 8 = l.length by omega]
  exact congrArg some this
end Go.Proofs.Ytijbfebbogiiiaa.Pure
