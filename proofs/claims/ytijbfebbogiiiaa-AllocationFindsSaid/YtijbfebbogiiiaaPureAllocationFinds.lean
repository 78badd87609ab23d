/- The law AllocationFinds in plain words: it returns true for any extents and numbers. -/
import Derived.Test.YtijbfebbogiiiaaQ42
import Derived.Test.YtijbfebbogiiiaaPFinds
import Derived.Test.YtijbfebbogiiiaaPAwake33
namespace Go.Proofs.Ytijbfebbogiiiaa.Pure
open Go Go.RowKit Go.Proofs.Ytijbfebbogiiiaa.Q Go.Proofs.YtijbfebbogiiiaaW.PrintWords Go.Proofs.YtijbfebbogiiiaaW.PrintLast Go.Proofs.YtijbfebbogiiiaaW.PrintMore
set_option linter.unusedVariables false
theorem pureAllocationFinds (l : List S46) (a1 a2 a3 : Int) (w3 : (Lit.int .i64 a3).wf = true) : Ev (fun k => masterdisclaw33_AllocationFinds.f k l a1 a2 a3) true := by
  have hq : -9223372036854775808 ≤ a3 ∧ a3 ≤ 9223372036854775807 := by simp [Lit.wf, IntKind.min, IntKind.max, IntKind.bits, IntKind.signed] at w3; omega
  clear w3
  refine Ev.congr (fun k => by rw [masterdisclaw33_AllocationFinds.f]) (Ev.bind awake33_ev (Ev.iteT rfl ?_))
  by_cases hl : (l.length : Int) > 70
  · exact Ev.iteT hl (Ev.now _)
  · have h70 : l.length ≤ 70 := by omega
    have n1 : (piecesOf l a1 a2).1.length ≤ 70 := by
      unfold piecesOf
      split
      · split
        · exact Nat.zero_le _
        · exact Nat.le_trans (length_pieces l a1 a2) h70
      · exact Nat.zero_le _
    have n2 : (joinOf l).length ≤ 70 := by
      unfold joinOf
      split
      · unfold joinL; rw [List.length_reverse]; have := length_fold l []; simp only [List.length_nil] at this; omega
      · exact Nat.zero_le _
    refine Ev.iteF hl (Ev.bind (Pieces_ev l a1 a2) (Ev.bind (Pref_ev l h70 a1 a2) (Ev.bind (Loc_ev l a3 hq.1 hq.2) (Ev.bind (Locref_ev l h70 a3) ?_))))
    refine Ev.bind (Length_ev l) (Ev.bind (Lref_ev l h70) (Ev.iteT rfl (Ev.bind (Blocks_ev l) (Ev.bind (Bref_ev l h70) (Ev.iteT rfl (Ev.bind (Valid_ev l) (Ev.bind (Vref_ev l h70) (Ev.iteT (by simp) ?_))))))))
    refine Ev.bind (Equal_ev (piecesOf l a1 a2).1 (by omega)) (Ev.iteT rfl (Ev.iteT rfl (Ev.iteT (by simp) (Ev.iteT rfl (Ev.iteT rfl (Ev.bind (Join_ev l) (Ev.bind (Jref_ev l h70) ?_)))))))
    exact Ev.bind (Equal_ev (joinOf l) (by omega)) (Ev.now _)
end Go.Proofs.Ytijbfebbogiiiaa.Pure
