/- Sums of strings as sums of lists. -/
import Derived.Test.YtijbfebbogiiiaaPTag
import Derived.Test.YtijbfebbogiiiaaPList
namespace Go.Proofs.Ytijbfebbogiiiaa.Pure
open Go.RowKit Go.Proofs.Ytijbfebbogiiiaa.Q Go.Proofs.YtijbfebbogiiiaaW.PrintWords Go.Proofs.YtijbfebbogiiiaaW.PrintLast
set_option linter.unusedVariables false
set_option linter.unusedSimpArgs false
theorem sum8_bytes (s : ByteArray) : sum8 s = (bytesOf s).foldl (fun a b => (a + b) % 256) 0 := by
  have : ∀ (l : List UInt8) (a : Nat), ((l.foldl (fun a b => (a + b.toNat) % 256) a : Nat) : Int) = (l.map fun b => (b.toNat : Int)).foldl (fun a b => (a + b) % 256) (a : Int) := by
    intro l
    induction l with
    | nil => intro a; rfl
    | cons b l ih => intro a; rw [List.foldl_cons, ih]; simp
  exact this _ 0
end Go.Proofs.Ytijbfebbogiiiaa.Pure
