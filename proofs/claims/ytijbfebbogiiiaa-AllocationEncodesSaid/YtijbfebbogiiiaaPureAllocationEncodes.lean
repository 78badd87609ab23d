/- The law AllocationEncodes in plain words: it returns true for any extents. -/
import Derived.Test.YtijbfebbogiiiaaQ21
import Derived.Test.YtijbfebbogiiiaaPEncode
import Derived.Test.YtijbfebbogiiiaaPAwake33
namespace Go.Proofs.Ytijbfebbogiiiaa.Pure
open Go Go.RowKit Go.Proofs.Ytijbfebbogiiiaa.Q Go.Proofs.YtijbfebbogiiiaaW.PrintWords Go.Proofs.YtijbfebbogiiiaaW.PrintLast Go.Proofs.YtijbfebbogiiiaaW.PrintMore
set_option linter.unusedVariables false
theorem pureAllocationEncodes (l : List S46) : Ev (fun k => masterdisclaw33_AllocationEncodes.f k l) true := by
  refine Ev.congr (fun k => by rw [masterdisclaw33_AllocationEncodes.f]) (Ev.bind awake33_ev (Ev.iteT rfl ?_))
  by_cases hl : (l.length : Int) > 70
  · exact Ev.iteT hl (Ev.now _)
  · refine Ev.iteF hl ?_
    obtain ⟨a, ha1, ha2⟩ := EncodeShort_both l (by omega)
    obtain ⟨b, hb1, hb2⟩ := EncodeLong_both l (by omega)
    refine Ev.congr (fun k => by rw [ha1, Option.bind_some]) (Ev.bind ha2 (Ev.congr (fun k => by rw [hb1, Option.bind_some]) (Ev.bind hb2 (Ev.iteT rfl (Ev.iteT rfl (Ev.iteT rfl ?_))))))
    rw [beq_self_eq_true]
    exact Ev.now _
end Go.Proofs.Ytijbfebbogiiiaa.Pure
