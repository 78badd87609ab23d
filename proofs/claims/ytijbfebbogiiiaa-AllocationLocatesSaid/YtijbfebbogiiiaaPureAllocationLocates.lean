/- The law AllocationLocates in plain words: it returns true for any extents and block. -/
import Derived.Test.YtijbfebbogiiiaaQ43
import Derived.Test.YtijbfebbogiiiaaPLocate
import Derived.Test.YtijbfebbogiiiaaPAwake33
namespace Go.Proofs.Ytijbfebbogiiiaa.Pure
open Go Go.RowKit Go.Proofs.Ytijbfebbogiiiaa.Q Go.Proofs.YtijbfebbogiiiaaW.PrintWords Go.Proofs.YtijbfebbogiiiaaW.PrintLast Go.Proofs.YtijbfebbogiiiaaW.PrintMore
set_option linter.unusedVariables false
theorem pureAllocationLocates (l : List S46) (a1 : Int) (w1 : (Lit.int .u32 a1).wf = true) : Ev (fun k => masterdisclaw33_AllocationLocates.f k l a1) true := by
  have hq : 0 ≤ a1 ∧ a1 ≤ 4294967295 := by simp [Lit.wf, IntKind.min, IntKind.max, IntKind.bits, IntKind.signed] at w1; omega
  clear w1
  refine Ev.congr (fun k => by rw [masterdisclaw33_AllocationLocates.f]) (Ev.bind awake33_ev (Ev.iteT rfl ?_))
  have hout : Ev (fun k => masterdisclaw33_AllocationLocates.j0 k l a1 true) true := Ev.step (fun k => by rw [masterdisclaw33_AllocationLocates.j0]) (Ev.iteT rfl (Ev.now _))
  by_cases hl : (l.length : Int) > 70
  · exact Ev.iteT hl hout
  · refine Ev.iteF hl (Ev.bind (Valid_ev l) ?_)
    by_cases hv : validL l = true
    · have hV := (valid_iff l).1 hv
      refine Ev.iteT hv ?_
      by_cases hnil : l = []
      · subst hnil; exact hout
      · have hne : ((l.length : Int) == 0) = false := beq_eq_false_iff_ne.2 (by have := List.length_pos_iff.2 hnil; omega)
        have hpos : ∀ x ∈ l, 1 ≤ x.f1 := fun x hx => (hV.ok x hx).n.1
        have hT0 : 1 ≤ lenS l := by
          cases l with
          | nil => exact absurd rfl hnil
          | cons x l => have := hpos x (List.mem_cons_self ..); have := lenS_pos l (fun y hy => hpos y (List.mem_cons_of_mem _ hy)); simp only [lenS]; omega
        have hT1 := hV.len
        have eT : lengthOf l = lenS l := if_pos hV.formed
        have ej : joinOf l = joinL l := if_pos hV.formed
        have hJ := hV.join.1
        have hat := piece_at l hpos
        have hlj := locate_join l hpos
        have hpo : ∀ k, 0 ≤ k → 2048 * k < lenS l → piecesOf l (k * 2048) (min 2048 (lenS l - k * 2048)) = (pieces l (k * 2048) (min 2048 (lenS l - k * 2048)), 0) := fun k h0 h1 => by
          rw [piecesOf, if_pos hv, if_neg (by omega)]
        rw [hne]
        refine Ev.step (fun k => by rw [masterdisclaw33_AllocationLocates.j0]) (Ev.iteF (by simp) (Ev.bind (Length_ev l) ?_))
        rw [eT]
        have hw := hV.whole
        generalize lenS l = T at *
        have eD : wrap64 (Int.tdiv (wrap64 (wrap64 (T + 2048) - 1)) 2048) = (T + 2047) / 2048 := by
          rw [w64 (T + 2048) (by omega), w64 (T + 2048 - 1) (by omega), Int.tdiv_eq_ediv_of_nonneg (by omega), w64 _ (by omega), show T + 2048 - 1 = T + 2047 by omega]
        have hm0 : 0 ≤ a1 % ((T + 2047) / 2048) := Int.emod_nonneg _ (by omega)
        have hm1 : a1 % ((T + 2047) / 2048) < (T + 2047) / 2048 := Int.emod_lt_of_pos _ (by omega)
        have eK : Int.tmod (wrap64 a1) ((T + 2047) / 2048) = a1 % ((T + 2047) / 2048) := by rw [w64 a1 (by omega), tmod_pos _ _ hq.1]
        obtain ⟨c, hc⟩ : ∃ c, c = a1 % ((T + 2047) / 2048) := ⟨_, rfl⟩
        rw [← hc] at hm0 hm1 eK
        have c1 : 2048 * c < T := by omega
        have eA : wrap64 (c * 2048) = c * 2048 := w64 _ (by omega)
        have eN : mn 2048 (wrap64 (T - c * 2048)) = min 2048 (T - c * 2048) := by rw [w64 _ (by omega), mn_min]
        refine Ev.iteF (by omega) (Ev.congr (fun k => by rw [eD, eK, eA, eN]) (Ev.iteF (by omega) ?_))
        clear eD eK eN hc
        obtain ⟨b, p, q, h1, h2⟩ := hat c hw hm0 c1
        refine Ev.bind (Locate_ev l hV c hm0 (by omega)) (Ev.bind (Pieces_ev l _ _) ?_)
        rw [hpo c hm0 c1, h1, h2]
        refine Ev.iteT rfl (Ev.iteT rfl (Ev.bind (Equal_ev _ (by simp)) ?_))
        refine Ev.step (fun k => by rw [masterdisclaw33_AllocationLocates.j1]) (Ev.iteF (by simp) (Ev.bind (Join_ev l) ?_))
        rw [ej]
        refine Ev.bind (Locate_ev _ hJ c hm0 (by omega)) ?_
        rw [hlj c hm0, h1]
        refine Ev.iteT rfl (Ev.iteT (by simp [locRes]) ?_)
        simp only [locRes, beq_self_eq_true]
        exact Ev.now _
    · exact Ev.iteF hv hout
end Go.Proofs.Ytijbfebbogiiiaa.Pure
