/- A descriptor that was made opens to what it was made of. -/
import Derived.Test.YtijbfebbogiiiaaQ10
import Derived.Test.YtijbfebbogiiiaaPAwake31
import Derived.Test.YtijbfebbogiiiaaPSeal
namespace Go.Proofs.Ytijbfebbogiiiaa.Pure
open Go.RowKit Go.Proofs.Ytijbfebbogiiiaa.Q Go.Proofs.YtijbfebbogiiiaaW.PrintWords Go.Proofs.YtijbfebbogiiiaaW.PrintLast
set_option linter.unusedVariables false
theorem faults_loc {s : ByteArray} {loc loc' : Int} (h : leAt s 12 4 = loc) (hn : loc' ≠ loc) : faultsAll s loc' ≠ [] := fun e => hn ((faults_nil e).2.2.2.2.2.symm.trans h)
theorem Returns_j0 (id ver loc : Int) (body more : ByteArray) (hb : body.size ≤ 2100) (hm : more.size ≤ 2100) : Ev (fun k => masterdisclaw31_UdftagReturns.j0 k id ver loc body more false) true := by
  refine Ev.step (fun k => by rw [masterdisclaw31_UdftagReturns.j0]) ?_
  refine Ev.iteF (by decide) ?_
  refine Ev.bind (Seal_ev id ver loc body) ?_
  by_cases hr : inRange id ver loc
  · have e : sealRes id ver loc body 65535 = (sealOf id ver loc body, 0) := by rw [sealRes, if_pos hr, if_neg (by omega)]
    rw [e]
    dsimp only
    obtain ⟨o1, o2, o3, o4⟩ := opens id ver loc body more hr (by omega)
    have hsz := sealOf_size id ver loc body
    have hss : (sealOf id ver loc body ++ more).size ≤ 9223372036854775807 := by rw [ByteArray.size_append]; omega
    obtain ⟨⟨i1, i2⟩, _, l1, l2⟩ := hr
    generalize hS : sealOf id ver loc body ++ more = S at *
    refine Ev.iteT rfl (Ev.iteT (by omega) ?_)
    simp only [Open_f S loc hss, o1, Option.bind_some, Is_f S _ _ hss]
    have b1 : isOf S id loc = true := by simp [isOf, o2, o3]
    have b2 : isOf S id (wrap64 (loc + 1)) = false := by
      rw [w64 _ (by omega), isOf, decide_eq_false (faults_loc o4 (by omega))]; rfl
    have b3 : isOf S (wrap64 (id + 1)) loc = false := by
      rw [w64 _ (by omega), isOf, o3]
      have : (id == id + 1) = false := beq_eq_false_iff_ne.2 (by omega)
      rw [this, Bool.and_false]
    rw [b1, b2, b3]
    refine Ev.iteT (by simp) (Ev.iteT (by simp) (Ev.iteT (by simp) (Ev.iteT ?_ (Ev.iteT (by simp) (Ev.iteF (by decide) (Ev.now _))))))
    rw [hsz, w64 _ (by omega)]; omega
  · have e : sealRes id ver loc body 65535 = (⟨#[]⟩, 2) := by rw [sealRes, if_neg hr]
    rw [e]
    refine Ev.iteF (by decide) ?_
    have : ((⟨#[]⟩ : ByteArray).toList == ([] : List UInt8)) = true := by rw [bytes_toList]; rfl
    rw [this]
    exact Ev.now _
theorem UdftagReturns : masterdisclaw31_UdftagReturns.Pure := by
  intro id ver loc body more _ _ _ _ _
  refine Ev.rounds (g := fun k => masterdisclaw31_UdftagReturns.f k id ver loc body more) ?_
  unfold masterdisclaw31_UdftagReturns.f
  refine Ev.bind awake31_ev (Ev.iteT rfl ?_)
  have big : ∀ b, b = true → Ev (fun k => masterdisclaw31_UdftagReturns.j0 k id ver loc body more b) true := by
    rintro b rfl
    refine Ev.step (fun k => by rw [masterdisclaw31_UdftagReturns.j0]) ?_
    exact Ev.iteT rfl (Ev.now _)
  by_cases c : (body.size : Int) > 2100
  · exact Ev.iteT c (big true rfl)
  · refine Ev.iteF c ?_
    by_cases c2 : (more.size : Int) > 2100
    · exact big _ (decide_eq_true c2)
    · rw [decide_eq_false c2]
      exact Returns_j0 id ver loc body more (by omega) (by omega)
end Go.Proofs.Ytijbfebbogiiiaa.Pure
