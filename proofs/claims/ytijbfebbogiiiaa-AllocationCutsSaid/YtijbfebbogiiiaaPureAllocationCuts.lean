/- The law AllocationCuts in plain words: it returns true for any extents and cut. -/
import Derived.Test.YtijbfebbogiiiaaQ39
import Derived.Test.YtijbfebbogiiiaaPAlloc
import Derived.Test.YtijbfebbogiiiaaPAwake33
namespace Go.Proofs.Ytijbfebbogiiiaa.Pure
open Go Go.RowKit Go.Proofs.Ytijbfebbogiiiaa.Q Go.Proofs.YtijbfebbogiiiaaW.PrintWords Go.Proofs.YtijbfebbogiiiaaW.PrintLast Go.Proofs.YtijbfebbogiiiaaW.PrintMore
set_option linter.unusedVariables false
theorem pureAllocationCuts (l : List S46) (a1 : Int) (w1 : (Lit.int .u32 a1).wf = true) : Ev (fun k => masterdisclaw33_AllocationCuts.f k l a1) true := by
  have hq : 0 ≤ a1 ∧ a1 ≤ 4294967295 := by simp [Lit.wf, IntKind.min, IntKind.max, IntKind.bits, IntKind.signed] at w1; omega
  clear w1
  refine Ev.congr (fun k => by rw [masterdisclaw33_AllocationCuts.f]) (Ev.bind awake33_ev (Ev.iteT rfl ?_))
  have hout : Ev (fun k => masterdisclaw33_AllocationCuts.j0 k l a1 true) true := Ev.step (fun k => by rw [masterdisclaw33_AllocationCuts.j0]) (Ev.iteT rfl (Ev.now _))
  by_cases hl : (l.length : Int) > 30
  · exact Ev.iteT hl hout
  · refine Ev.iteF hl (Ev.bind (Valid_ev l) ?_)
    by_cases hv : validL l = true
    · have hV := (valid_iff l).1 hv
      have hpos : ∀ x ∈ l, 1 ≤ x.f1 := fun x hx => (hV.ok x hx).n.1
      have hT0 : 0 ≤ lenS l := lenS_pos l hpos
      have hT1 := hV.len
      have eT : lengthOf l = lenS l := if_pos hV.formed
      have ej : joinOf l = joinL l := if_pos hV.formed
      have hcut : ∀ c, 0 ≤ c → c ≤ lenS l → c % 2048 = 0 → (pieces l 0 c ++ pieces l c (lenS l - c)).foldl jr [] = l.foldl jr [] :=
        fun c h0 h1 h2 => fold_cut l hpos [] c (by simp) hV.whole h0 h1 (fun _ => h2) (by simp only [lenS]; omega)
      have hp0 : ∀ c, 0 ≤ c → c ≤ lenS l → c % 2048 = 0 → piecesOf l 0 c = (pieces l 0 c, 0) := fun c h0 h1 h2 => by
        rw [piecesOf, if_pos hv, if_neg (by omega)]
      have hp1 : ∀ c, 0 ≤ c → c ≤ lenS l → c % 2048 = 0 → piecesOf l c (lenS l - c) = (pieces l c (lenS l - c), 0) := fun c h0 h1 h2 => by
        rw [piecesOf, if_pos hv, if_neg (by omega)]
      have hok : ∀ off len, 0 ≤ off → 0 ≤ len → ∀ y ∈ pieces l off len, Ok y := ok_pieces l (fun x hx => ⟨hV.ok x hx, hV.fine x hx⟩)
      have hln : ∀ off len, (pieces l off len).length ≤ l.length := length_pieces l
      have hls : ∀ off len, 0 ≤ off → 0 ≤ len → off + len ≤ lenS l → lenS (pieces l off len) = len := lenS_pieces l hpos
      rw [hv]
      refine Ev.step (fun k => by rw [masterdisclaw33_AllocationCuts.j0]) (Ev.iteF (by simp) (Ev.bind (Length_ev l) ?_))
      rw [eT]
      have eL : lenS (joinL l) = lenS l ∧ True := ⟨by unfold joinL; rw [lenS_reverse, lenS_fold, lenS, Int.zero_add], trivial⟩
      generalize lenS l = T at *
      have eD : wrap64 (wrap64 (Int.tdiv T 2048) + 1) = T / 2048 + 1 := by
        rw [Int.tdiv_eq_ediv_of_nonneg hT0, w64 (T / 2048) (by omega), w64 _ (by omega)]
      have hm0 : 0 ≤ a1 % (T / 2048 + 1) := Int.emod_nonneg _ (by omega)
      have hm1 : a1 % (T / 2048 + 1) < T / 2048 + 1 := Int.emod_lt_of_pos _ (by omega)
      obtain ⟨c, hc⟩ : ∃ c, c = a1 % (T / 2048 + 1) * 2048 := ⟨_, rfl⟩
      have c0 : 0 ≤ c := by omega
      have c1 : c ≤ T := by omega
      have c2 : c % 2048 = 0 := by omega
      have eA : wrap64 (Int.tmod (wrap64 a1) (T / 2048 + 1) * 2048) = c := by
        rw [w64 a1 (by omega), tmod_pos _ _ hq.1, w64 _ (by omega), hc]
      have eN : wrap64 (T - c) = T - c := w64 _ (by omega)
      clear hm0 hm1 hc
      refine Ev.iteF (by omega) (Ev.congr (fun k => by rw [eD, eA, eN]) (Ev.iteF (by omega) ?_))
      clear eD eA eN
      refine Ev.bind (Pieces_ev l 0 c) (Ev.bind (Pieces_ev l c (T - c)) ?_)
      have f0 : formedB (pieces l 0 c) = true := (formed_iff _).2 ⟨by have := hln 0 c; omega, hok 0 c (by omega) c0⟩
      have e0 : lengthOf (pieces l 0 c) = c := by rw [lengthOf, if_pos f0]; exact hls 0 c (by omega) c0 (by omega)
      have fb : formedB (pieces l 0 c ++ pieces l c (T - c)) = true := by
        refine (formed_iff _).2 ⟨by have := hln 0 c; have := hln c (T - c); rw [List.length_append]; omega, fun y hy => ?_⟩
        rcases List.mem_append.1 hy with h | h
        · exact hok 0 c (by omega) c0 y h
        · exact hok c (T - c) c0 (by omega) y h
      have eb : lengthOf (pieces l 0 c ++ pieces l c (T - c)) = T := by
        rw [lengthOf, if_pos fb, lenS_append, hls 0 c (by omega) c0 (by omega), hls c (T - c) c0 (by omega) (by omega)]; omega
      have ejb : joinOf (pieces l 0 c ++ pieces l c (T - c)) = joinL l := by
        rw [joinOf, if_pos fb, joinL, joinL, hcut c c0 c1 c2]
      have hjl : (joinL l).length ≤ 64 := by have := hV.join.2.1; have := hV.n; omega
      have n0 := hln 0 c
      have n1 := hln c (T - c)
      rw [hp0 c c0 c1 c2, hp1 c c0 c1 c2]
      refine Ev.iteT rfl (Ev.iteT rfl (Ev.bind (Length_ev _) ?_))
      show Ev (fun k => masterdisclaw33_AllocationCuts.j1 k l T (pieces l 0 c) (pieces l c (T - c)) (lengthOf (pieces l 0 c) != c)) true
      rw [e0]
      refine Ev.step (fun k => by rw [masterdisclaw33_AllocationCuts.j1, api_Extent_54.f, if_pos (show (pieces l 0 c).length ≤ 4096 by omega), Option.bind_some, Option.bind_some]) (Ev.iteF (by simp) (Ev.iteT (by omega) (Ev.bind (Length_ev _) (Ev.iteT eb (Ev.bind (Join_ev _) (Ev.bind (Join_ev l) ?_))))))
      rw [ejb, ej]
      exact Ev.bind (Equal_ev _ (by omega)) (Ev.now _)
    · rw [Bool.eq_false_iff.2 hv]
      exact hout
end Go.Proofs.Ytijbfebbogiiiaa.Pure
