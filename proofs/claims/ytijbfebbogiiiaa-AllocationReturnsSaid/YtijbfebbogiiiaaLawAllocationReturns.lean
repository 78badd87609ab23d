/- The row of the law: the program's function returns true for any arguments within the bounds. Written by wip/handrow.py for this claim. -/
import Derived.Test.YtijbfebbogiiiaaRows
import Derived.Test.YtijbfebbogiiiaaHReturns
import Derived.Test.YtijbfebbogiiiaaPRow
import Derived.Test.YtijbfebbogiiiaaPFits
import Derived.WalkKit
import Derived.ProofKit
import Derived.OpenShut
import Derived.ShutString
import Derived.ChangeOld
import Derived.Below
import Derived.SizedLaws
import Derived.Carry
namespace Go.Proofs.Ytijbfebbogiiiaa.allocationReturns
open Go.ChangeShapes Go.WideShapes Go.ChangeAt Go.RowKit
open Go.ChangeMaps (open_string shut_string)
set_option linter.unusedVariables false
theorem own : ownKnob Try.prog.godebug = none := by kernel_rfl
set_option maxRecDepth 100000 in
theorem lifted (os : Os) (started : os.Started) (H : Type) (enc : TypeId × Value → H) :
    ReturnsInHanded {} Try.checked os 17 .any (Rows.allocationReturnsSpec.pre6 enc Try.prog Try.f17 Rows.allocationReturnsRow.domain false) (Rows.allocationReturnsSpec.post enc Try.prog Try.f17 false true false false) := by
  refine returnsInHanded_of_change_sized (C := Try.checked) own started (by kernel_rfl) Try.func17
    (ChangeSpec.witness6 (enc := enc) (C := Try.checked) false ⟨#[], #[.slice none 0 0], []⟩ 8 (by kernel_rfl) (by kernel_rfl) (by kernel_rfl) (by kernel_rfl)) ?_
  intro W base args ds gs before hval0 hW hcnd hsz0 _
  have hsz : (DataW.weightsEach Try.prog (Try.f17.params.toList ++ Rows.allocationReturnsSpec.plain.varTypes Try.prog) (ds ++ gs)).all (· ≤ reachBytes) = true := hsz0
  have hval : ∀ (j : Nat) t v, Try.f17.params[j]? = some t → args[j]? = some v → Value.okWide Try.prog W .any base t v := hval0
  have hW' := hW
  obtain ⟨p, q, hA0, hV, rfl, hfz, hnd⟩ := hW
  have hA : DataW.TrodAll enc Try.prog W 0 (fun _ => true) true Try.f17.params.toList args.toList ds p := hA0
  rw [Try.params17] at hA hval hsz
  obtain ⟨v0, vs0, d0, ds0, p0, q0, hargs, rfl, rfl, h0, r0⟩ := trodAll_cons hA
  obtain ⟨rfl, rfl, rfl⟩ := trodAll_nil r0
  obtain rfl : args = #[v0] := by cases args; simp_all
  obtain ⟨rfl, rfl⟩ := trodVars_none hV
  have h0k := h0
  obtain ⟨A0, c0, a0, rfl, hc0, hm0, hr0⟩ := Q.open46 (hval 0 37 v0 rfl rfl) h0
  have hlt0 : ∀ x ∈ p0, x.block < W.heap.size := fun x hx => hW'.lt x (by simp [hx])
  clear hA0 hval0 hsz0 hsz
  refine (Q.masterdisclaw33_AllocationReturns.calls A0 c0 a0 W hr0 hc0).mono fun e W' ⟨he, bel⟩ => ?_
  subst he
  exact ⟨_, rfl, _, _, _, [], _, [], hW', trodAll_mk1 (shut_bool Try.underlying4 _), (trodAll_cons_mk (Below.trod Q.laidOut Q.readable37 Q.rowed37 h0k bel hlt0) trodAll_mk0), rfl, bel.frame _, fun h => by cases h⟩
theorem pA : Fits.partA Try.prog Try.f17 Rows.allocationReturnsSpec Rows.allocationReturnsRow = true := by kernel_rfl
theorem pB : Fits.partB Try.prog Try.f17 Rows.allocationReturnsSpec Rows.allocationReturnsRow = true := by kernel_rfl
theorem pK : Fits.partK Try.prog Try.f17 Rows.allocationReturnsRow = true := by kernel_rfl
theorem pC : Fits.partC Try.prog Rows.allocationReturnsRow = true := by kernel_rfl
theorem p5 : (Rows.allocationReturnsRow.inPlace == Try.prog.inPlace 17) = true := by kernel_rfl
theorem p6 : (Rows.allocationReturnsRow.unfollowed == Try.prog.unfollowed 17) = true := by kernel_rfl
theorem p7 : (Rows.allocationReturnsRow.recurses == Try.prog.recurses 17) = true := by kernel_rfl
theorem p8 : (Rows.allocationReturnsRow.named == Try.prog.varsNamed 17) = true := by kernel_rfl
theorem closed : joinedFacts Try.prog 17 Try.f17 Rows.allocationReturnsSpec Rows.allocationReturnsRow = true := Fits.joined_of _ _ _ _ _ pA pB pK pC Fits.laid Fits.rowed Fits.stops Fits.knobs p5 p6 p7 p8 Fits.heard Fits.enter Fits.finals Fits.made rfl rfl
theorem over : Rows.allocationReturnsRow.holds Try.pinned (OpenSpec.ofChange Rows.allocationReturnsSpec) :=
  OpenClaim.holds_of_wide 17 Try.f17 rfl rfl rfl rfl rfl rfl rfl ⟨rfl, rfl, rfl, rfl, rfl⟩ rfl rfl rfl rfl rfl (by kernel_rfl) Try.func17 closed
    (of_decide_eq_true (by kernel_rfl)) (by unfold Func.isWrapper; first | (rw [if_pos (by decide +kernel)]; kernel_rfl) | (rw [if_neg (by decide +kernel)]; exact ⟨rfl, rfl⟩))
    (fun os started H enc _ => lifted os started H enc)
theorem proved : Rows.AllocationReturnsSaid := over
#print axioms proved
end Go.Proofs.Ytijbfebbogiiiaa.allocationReturns
namespace Go.Proofs.Ytijbfebbogiiiaa
/-- The row, under a short name, for the claim. -/
theorem allocationReturns_holds : Rows.AllocationReturnsSaid := allocationReturns.proved
end Go.Proofs.Ytijbfebbogiiiaa
