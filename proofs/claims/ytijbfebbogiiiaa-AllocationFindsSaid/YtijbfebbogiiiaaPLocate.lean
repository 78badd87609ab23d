/- What allocation.Locate computes, in plain words. -/
import Derived.Test.YtijbfebbogiiiaaPAlloc
import Derived.Test.YtijbfebbogiiiaaQLoc
namespace Go.Proofs.Ytijbfebbogiiiaa.Pure
open Go.RowKit Go.Proofs.Ytijbfebbogiiiaa.Q Go.Proofs.YtijbfebbogiiiaaW.PrintWords Go.Proofs.YtijbfebbogiiiaaW.PrintLast Go.Proofs.YtijbfebbogiiiaaW.PrintMore
set_option linter.unusedVariables false
def locRes : Option (Int × Int × Int) → Int × Int × Int × Int
  | some (b, p, q) => (b, p, q, 0)
  | none => (0, 0, 0, 2)
theorem Locate_l0 (l : List S46) (hl : l.length ≤ 64) (hx : ∀ x ∈ l, Ok x) : ∀ (m j : Nat) (k : Int), j + m = l.length → 0 ≤ k → k ≤ 9223372036854775807 →
    Ev (fun n => allocation_Locate.l0 n k l (l.length : Int) (j : Int)) (locRes (locate (l.drop j) k)) := by
  intro m
  induction m with
  | zero =>
    intro j k hj h0 h1
    rw [List.drop_of_length_le (by omega), locate, locRes]
    exact Ev.step (fun n => by rw [allocation_Locate.l0, if_neg (by omega)]) (Ev.now _)
  | succ m ih =>
    intro j k hj h0 h1
    have hlt : j < l.length := by omega
    have ho := hx l[j] (List.getElem_mem hlt)
    have hn := ho.n; have hb := ho.b
    have hk := blk_bd l[j].f1 (by omega) hn.2
    rw [List.drop_eq_getElem_cons hlt, locate]
    refine Ev.step (fun n => by rw [allocation_Locate.l0, if_pos (by omega), if_pos (by omega), if_pos (by omega), rd46 l j hlt, blocks_f _ (by omega) (by omega), Option.bind_some]) (Ev.iteT h0 ?_)
    by_cases c1 : k < blk l[j].f1
    · rw [if_pos ⟨h0, c1⟩, decide_eq_true c1, locRes]
      exact Ev.step (fun n => by rw [allocation_Locate.j1, if_pos rfl, w64 (l[j].f2.f0 + k) (by omega)]) (Ev.now _)
    · rw [if_neg (fun h => c1 h.2), if_neg (by omega), decide_eq_false c1]
      refine Ev.step (fun n => by rw [allocation_Locate.j1, w64 (k - blk l[j].f1) (by omega), w64 ((j : Int) + 1) (by omega), show (j : Int) + 1 = ((j + 1 : Nat) : Int) by omega]) (Ev.iteF (by simp) (Ev.iteF (by omega) ?_))
      exact ih (j + 1) (k - blk l[j].f1) (by omega) (by omega) (by omega)
theorem Locate_ev (l : List S46) (hv : Valid l) (k : Int) (h0 : 0 ≤ k) (h1 : k ≤ 4611686018427387904) : Ev (fun n => allocation_Locate.f n l k) (locRes (locate l k)) := by
  refine Ev.congr (fun n => by rw [allocation_Locate.f]) (Ev.bind (Valid_ev l) (Ev.iteT ((valid_iff l).2 hv) ?_))
  exact Locate_l0 l hv.n hv.ok l.length 0 k (by omega) h0 (by omega)
end Go.Proofs.Ytijbfebbogiiiaa.Pure
