/- A slice of spans that comes in as an argument. -/
import Derived.Test.YtijbfebbogiiiaaPRow
namespace Go.Proofs.Ytijbfebbogiiiaa.Q
open Go.RowKit Go.Proofs.YtijbfebbogiiiaaW.PrintWords Go.Proofs.YtijbfebbogiiiaaW.PrintLast Go.Proofs.YtijbfebbogiiiaaW.PrintMore
open Go.ChangeShapes Go.WideShapes
set_option linter.unusedVariables false
section
variable {H : Type} {enc : TypeId × Value → H} {w : World} {base : Nat} {spare : Nat → Bool} {held : Bool}
theorem readable70 : Try.prog.readableRec 70 = true := by kernel_rfl
theorem rowed70 : 70 < Try.prog.types.size := of_decide_eq_true (by kernel_rfl)
theorem sz76 : 2 = k76.sz := rfl
theorem trod76 {fuel : Nat} {cs : List Value} {x : DataW H × List MemPlace} (h : DataW.trod enc Try.prog w base spare held fuel 76 cs = some x) : ∃ y : S76, cs = [.int .i64 y.f0, .int .i64 y.f1] := by
  obtain ⟨a, b, e⟩ := trod_pair Try.underlying76 Try.underlying3 cells76 cells3 rfl rfl rfl rfl h
  exact ⟨⟨a, b⟩, e⟩
set_option maxRecDepth 100000 in
theorem open76 {r : Reach} {b0 : Nat} {v : Value} {dd : DataW H} {ps : List MemPlace} (hval : Value.okWide Try.prog w r b0 70 v) (hd : DataW.Trod enc Try.prog w base spare held 70 v dd ps) :
    ∃ (A : Option Addr) (c : Nat) (l : List S76), v = .slice A l.length c ∧ l.length ≤ c ∧ c ≤ maxLen ∧ Kd.C k76 w A l.length l :=
  by
  have hsz : Try.prog.cellsOf 76 = k76.sz := cells76.trans sz76
  have h1 := open_structs (H := H) (enc := enc) (w := w) (base := base) (spare := spare) (held := held) (P := Try.prog) k76 70 76 (fun y => [.int .i64 y.f0, .int .i64 y.f1]) Try.underlying70 hsz k76_mk z76 (fun h => trod76 h) (r := r) (b0 := b0) (v := v) (dd := dd) (ps := ps)
  exact h1 hval hd
end
end Go.Proofs.Ytijbfebbogiiiaa.Q
