/- A slice of structs that comes in as an argument: the list of its structs, read from its cells. -/
import Derived.Test.YtijbfebbogiiiaaQ0
import Derived.Carry
import Derived.OpenShut
import Derived.ChangeOld
namespace Go.Proofs.Ytijbfebbogiiiaa.Q
open Go.RowKit Go.Proofs.YtijbfebbogiiiaaW.PrintWords Go.Proofs.YtijbfebbogiiiaaW.PrintLast Go.Proofs.YtijbfebbogiiiaaW.PrintMore
open Go.ChangeShapes Go.WideShapes
set_option linter.unusedVariables false
section
variable {H : Type} {enc : TypeId × Value → H} {w : World} {base : Nat} {spare : Nat → Bool} {held : Bool}
variable {P : Program}
theorem list2 {α : Type} {l : List α} (h : l.length = 2) : ∃ a b, l = [a, b] := by
  match l, h with
  | [a, b], _ => exact ⟨a, b, rfl⟩
theorem list3 {α : Type} {l : List α} (h : l.length = 3) : ∃ a b c, l = [a, b, c] := by
  match l, h with
  | [a, b, c], _ => exact ⟨a, b, c, rfl⟩
theorem list4 {α : Type} {l : List α} (h : l.length = 4) : ∃ a b c d, l = [a, b, c, d] := by
  match l, h with
  | [a, b, c, d], _ => exact ⟨a, b, c, d, rfl⟩
theorem trod_pair {t i : TypeId} {f0 f1 : Field} (ht : P.underlying t = some (.struct #[f0, f1])) (hi : P.underlying i = some (.int .i64)) (hc : P.cellsOf t = 2) (h1 : P.cellsOf i = 1) (t0 : f0.type = i) (t1 : f1.type = i) (o0 : f0.offset = 0) (o1 : f1.offset = 1)
    {fuel : Nat} {cs : List Value} {x : DataW H × List MemPlace} (h : DataW.trod enc P w base spare held fuel t cs = some x) : ∃ a b : Int, cs = [.int .i64 a, .int .i64 b] := by
  obtain ⟨xs, n, _, _, hlen, hxs, hf⟩ := DataW.trod_struct ht h
  obtain ⟨c0, c1, rfl⟩ := list2 (hlen.trans hc)
  obtain ⟨x0, x1, rfl⟩ := list2 (show xs.length = 2 from hxs)
  have g0 := hf 0 f0 rfl
  have g1 := hf 1 f1 rfl
  rw [t0, o0, h1] at g0
  rw [t1, o1, h1] at g1
  obtain ⟨a, ha, _⟩ := DataW.trod_int hi g0
  obtain ⟨b, hb, _⟩ := DataW.trod_int hi g1
  simp only [List.drop_zero, List.take_succ_cons, List.take_zero, List.cons.injEq, and_true] at ha
  simp only [List.drop_succ_cons, List.drop_zero, List.take_succ_cons, List.take_zero, List.cons.injEq, and_true] at hb
  exact ⟨a, b, by rw [ha, hb]⟩
theorem trod_ext {t i u : TypeId} {f0 f1 f2 g0 g1 : Field} (ht : P.underlying t = some (.struct #[f0, f1, f2])) (hu : P.underlying u = some (.struct #[g0, g1])) (hi : P.underlying i = some (.int .i64)) (hc : P.cellsOf t = 4) (hcu : P.cellsOf u = 2) (h1 : P.cellsOf i = 1)
    (t0 : f0.type = i) (t1 : f1.type = i) (t2 : f2.type = u) (o0 : f0.offset = 0) (o1 : f1.offset = 1) (o2 : f2.offset = 2) (s0 : g0.type = i) (s1 : g1.type = i) (q0 : g0.offset = 0) (q1 : g1.offset = 1)
    {fuel : Nat} {cs : List Value} {x : DataW H × List MemPlace} (h : DataW.trod enc P w base spare held fuel t cs = some x) : ∃ a b p q : Int, cs = [.int .i64 a, .int .i64 b, .int .i64 p, .int .i64 q] := by
  obtain ⟨xs, n, _, _, hlen, hxs, hf⟩ := DataW.trod_struct ht h
  obtain ⟨c0, c1, c2, c3, rfl⟩ := list4 (hlen.trans hc)
  obtain ⟨x0, x1, x2, rfl⟩ := list3 (show xs.length = 3 from hxs)
  have k0 := hf 0 f0 rfl
  have k1 := hf 1 f1 rfl
  have k2 := hf 2 f2 rfl
  rw [t0, o0, h1] at k0
  rw [t1, o1, h1] at k1
  rw [t2, o2, hcu] at k2
  obtain ⟨a, ha, _⟩ := DataW.trod_int hi k0
  obtain ⟨b, hb, _⟩ := DataW.trod_int hi k1
  obtain ⟨p, q, hpq⟩ := trod_pair hu hi hcu h1 s0 s1 q0 q1 k2
  simp only [List.drop_zero, List.take_succ_cons, List.take_zero, List.cons.injEq, and_true] at ha
  simp only [List.drop_succ_cons, List.drop_zero, List.take_succ_cons, List.take_zero, List.cons.injEq, and_true] at hb hpq
  exact ⟨a, b, p, q, by rw [ha, hb, hpq.1, hpq.2]⟩
theorem open_structs {α : Type} (d : Kd α) (t e : TypeId) (f : α → List Value) (ht : P.underlying t = some (.slice e)) (hc : P.cellsOf e = d.sz) (hK : ∀ (w : World) (x : α), d.K w x (f x)) (z : α)
    (hel : ∀ {fuel : Nat} {cs : List Value} {x : DataW H × List MemPlace}, DataW.trod enc P w base spare held fuel e cs = some x → ∃ y : α, cs = f y)
    {r : Reach} {b0 : Nat} {v : Value} {dd : DataW H} {ps : List MemPlace} (hval : Value.okWide P w r b0 t v) (hd : DataW.Trod enc P w base spare held t v dd ps) :
    ∃ (A : Option Addr) (c : Nat) (l : List α), v = .slice A l.length c ∧ l.length ≤ c ∧ c ≤ maxLen ∧ Kd.C d w A l.length l := by
  obtain ⟨A, len, cap, rfl⟩ := okWide_slice ht hval
  obtain ⟨fuel, hf⟩ := hd
  rcases DataW.trod_slice ht hf with ⟨h0, _⟩ | ⟨a, len', cap', elems, rest, n, _, h0, _, hb, hl, hm, hlen, hels, _, _⟩
  · have e : A = none ∧ len = 0 ∧ cap = 0 := by simpa [Value.cells] using h0
    obtain ⟨rfl, rfl, rfl⟩ := e
    exact ⟨none, 0, [], rfl, Nat.le_refl _, Nat.zero_le _, Kd.C_nil d w⟩
  · have e : A = some a ∧ len = len' ∧ cap = cap' := by simpa [Value.cells] using h0
    obtain ⟨rfl, rfl, rfl⟩ := e
    have hex : ∀ i, i < len → ∃ y : α, ∀ j u, (f y)[j]? = some u → w.cell? (a.add (i * d.sz + j)) = some u := by
      intro i hi
      have h1 := hels i hi
      rw [List.getElem?_eq_getElem (by omega)] at h1
      rw [Option.bind_eq_some_iff] at h1
      obtain ⟨cs, h2, h3⟩ := h1
      obtain ⟨y, rfl⟩ := hel h3
      obtain ⟨_, h4, h5⟩ := World.cells?_some h2
      refine ⟨y, fun j u hj => ?_⟩
      have hjl : j < P.cellsOf e := by rw [← h4]; exact (List.getElem?_eq_some_iff.1 hj).1
      have := h5 j hjl
      rw [hj, hc, Go.Addr.add_add] at this
      exact this
    let g : Nat → α := fun i => if h : i < len then (hex i h).choose else z
    have hg : ∀ i, i < len → ∀ j u, (f (g i))[j]? = some u → w.cell? (a.add (i * d.sz + j)) = some u := by
      intro i hi
      have : g i = (hex i hi).choose := dif_pos hi
      rw [this]
      exact (hex i hi).choose_spec
    have hll : ((List.range len).map g).length = len := by simp
    refine ⟨some a, cap, (List.range len).map g, by rw [hll], by rw [hll]; exact hl, hm, ?_⟩
    rw [hll]
    refine ⟨hll, Nat.le_trans (Nat.le_trans hl hm) (by decide), fun _ => ⟨a, rfl, fun j p hp => ?_⟩⟩
    rw [List.getElem?_map, Option.map_eq_some_iff] at hp
    obtain ⟨i, hi, rfl⟩ := hp
    have hi' := List.getElem?_eq_some_iff.1 hi
    obtain ⟨hlt, hi''⟩ := hi'
    simp at hi'' hlt
    subst hi''
    exact ⟨f (g j), d.K_len (hK w _), hK w _, hg j hlt⟩
theorem cells3 : Try.prog.cellsOf 3 = 1 := by kernel_rfl
theorem cells44 : Try.prog.cellsOf 44 = 2 := by kernel_rfl
theorem cells46 : Try.prog.cellsOf 46 = 4 := by kernel_rfl
theorem cells76 : Try.prog.cellsOf 76 = 2 := by kernel_rfl
theorem laidOut : laidOutB Try.prog = true := by kernel_rfl
theorem readable37 : Try.prog.readableRec 37 = true := by kernel_rfl
theorem rowed37 : 37 < Try.prog.types.size := of_decide_eq_true (by kernel_rfl)
theorem sz46 : 4 = k46.sz := rfl
theorem trod46 {fuel : Nat} {cs : List Value} {x : DataW H × List MemPlace} (h : DataW.trod enc Try.prog w base spare held fuel 46 cs = some x) : ∃ y : S46, cs = [.int .i64 y.f0, .int .i64 y.f1, .int .i64 y.f2.f0, .int .i64 y.f2.f1] := by
  obtain ⟨a, b, p, q, e⟩ := trod_ext Try.underlying46 Try.underlying44 Try.underlying3 cells46 cells44 cells3 rfl rfl rfl rfl rfl rfl rfl rfl rfl rfl h
  exact ⟨⟨a, b, ⟨p, q⟩⟩, e⟩
set_option maxRecDepth 100000 in
theorem open46 {r : Reach} {b0 : Nat} {v : Value} {dd : DataW H} {ps : List MemPlace} (hval : Value.okWide Try.prog w r b0 37 v) (hd : DataW.Trod enc Try.prog w base spare held 37 v dd ps) :
    ∃ (A : Option Addr) (c : Nat) (l : List S46), v = .slice A l.length c ∧ l.length ≤ c ∧ c ≤ maxLen ∧ Kd.C k46 w A l.length l :=
  by
  have hsz : Try.prog.cellsOf 46 = k46.sz := cells46.trans sz46
  have h1 := open_structs (H := H) (enc := enc) (w := w) (base := base) (spare := spare) (held := held) (P := Try.prog) k46 37 46 (fun y => [.int .i64 y.f0, .int .i64 y.f1, .int .i64 y.f2.f0, .int .i64 y.f2.f1]) Try.underlying37 hsz k46_mk z46 (fun h => trod46 h) (r := r) (b0 := b0) (v := v) (dd := dd) (ps := ps)
  exact h1 hval hd
end
end Go.Proofs.Ytijbfebbogiiiaa.Q
