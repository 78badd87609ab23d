/- The law AllocationJoins in plain words: it returns true for any extents. -/
import Derived.Test.YtijbfebbogiiiaaQ22
import Derived.Test.YtijbfebbogiiiaaPAlloc
import Derived.Test.YtijbfebbogiiiaaPAwake33
namespace Go.Proofs.Ytijbfebbogiiiaa.Pure
open Go.RowKit Go.Proofs.Ytijbfebbogiiiaa.Q Go.Proofs.YtijbfebbogiiiaaW.PrintWords Go.Proofs.YtijbfebbogiiiaaW.PrintLast Go.Proofs.YtijbfebbogiiiaaW.PrintMore
set_option linter.unusedVariables false
theorem Valid.formed {l : List S46} (h : Valid l) : formedB l = true := (formed_iff l).2 ⟨h.n, h.ok⟩
theorem Valid.join {l : List S46} (h : Valid l) : Valid (joinL l) ∧ (joinL l).length ≤ l.length ∧ lenS (joinL l) = lenS l ∧ blkS (joinL l) = blkS l := by
  have e1 : lenS (joinL l) = lenS l := by unfold joinL; rw [lenS_reverse, lenS_fold, lenS, Int.zero_add]
  have e2 : blkS (joinL l) = blkS l := by unfold joinL; rw [blkS_reverse, blkS_fold, blkS, Int.zero_add]
  have e3 : (joinL l).length ≤ l.length := by unfold joinL; rw [List.length_reverse]; simpa using length_fold l []
  refine ⟨⟨Nat.le_trans e3 h.n, fun x hx => ?_, by rw [e1]; exact h.len, whole_fold l [] (by simp) h.whole, fun x hx => ?_⟩, e3, e1, e2⟩
  · exact all_fold Ok Ok.join l [] (by simp) h.ok x (List.mem_reverse.1 hx)
  · exact all_fold Fine Fine.join l [] (by simp) h.fine x (List.mem_reverse.1 hx)
theorem pureAllocationJoins (l : List S46) : Ev (fun k => masterdisclaw33_AllocationJoins.f k l) true := by
  refine Ev.congr (fun k => by rw [masterdisclaw33_AllocationJoins.f]) (Ev.bind awake33_ev (Ev.iteT rfl ?_))
  have hout : Ev (fun k => masterdisclaw33_AllocationJoins.j0 k l true) true := Ev.step (fun k => by rw [masterdisclaw33_AllocationJoins.j0]) (Ev.iteT rfl (Ev.now _))
  by_cases hl : (l.length : Int) > 70
  · exact Ev.iteT hl hout
  · refine Ev.iteF hl (Ev.bind (Valid_ev l) ?_)
    by_cases hv : validL l = true
    · have hV := (valid_iff l).1 hv
      obtain ⟨hJ, j1, j2, j3⟩ := hV.join
      have ej : joinOf l = joinL l := if_pos hV.formed
      have ejj : joinOf (joinL l) = joinL l := by rw [joinOf, if_pos hJ.formed]; exact join_join l (fun x hx => by have := (hV.ok x hx).n; omega)
      rw [hv]
      refine Ev.step (fun k => by rw [masterdisclaw33_AllocationJoins.j0]) (Ev.iteF (by simp) (Ev.bind (Join_ev l) ?_))
      rw [ej]
      refine Ev.bind (Valid_ev _) (Ev.iteT ((valid_iff _).2 hJ) (Ev.iteT (by omega) (Ev.bind (Length_ev _) (Ev.bind (Length_ev _) (Ev.iteT ?_ (Ev.bind (Blocks_ev _) (Ev.bind (Blocks_ev _) (Ev.iteT ?_ (Ev.bind (Join_ev _) ?_)))))))))
      · rw [lengthOf, lengthOf, if_pos hJ.formed, if_pos hV.formed, j2]
      · rw [blocksOf, blocksOf, if_pos hJ.formed, if_pos hV.formed, j3]
      · rw [ejj]
        exact Ev.bind (Equal_ev _ (by have := hJ.n; omega)) (Ev.now _)
    · rw [Bool.eq_false_iff.2 hv]
      exact hout
end Go.Proofs.Ytijbfebbogiiiaa.Pure
