/- The row of the law: the program's function returns true for any arguments within the bounds. Written by wip/gen.py for this claim. -/
import Derived.Test.YtijbfebbogiiiaaRows
import Derived.Test.YtijbfebbogiiiaaQ37
import Derived.Test.YtijbfebbogiiiaaPureAllocationDescriptors
import Derived.Test.YtijbfebbogiiiaaPFits
import Derived.WalkKit
import Derived.ProofKit
import Derived.OpenShut
import Derived.ShutString
import Derived.ChangeOld
import Derived.Below
import Derived.SizedLaws
namespace Go.Proofs.Ytijbfebbogiiiaa.allocationDescriptors
open Go.ChangeShapes Go.WideShapes Go.ChangeAt Go.RowKit
open Go.ChangeMaps (open_string shut_string)
set_option linter.unusedVariables false
theorem own : ownKnob Try.prog.godebug = none := by kernel_rfl
set_option maxRecDepth 100000 in
theorem lifted (os : Os) (started : os.Started) (H : Type) (enc : TypeId × Value → H) :
    ReturnsInHanded {} Try.checked os 10 .any (Rows.allocationDescriptorsSpec.pre6 enc Try.prog Try.f10 Rows.allocationDescriptorsRow.domain false) (Rows.allocationDescriptorsSpec.post enc Try.prog Try.f10 false true false false) := by
  refine returnsInHanded_of_change_sized (C := Try.checked) own started (by kernel_rfl) Try.func10
    (ChangeSpec.witness6 (enc := enc) (C := Try.checked) false ⟨#[], #[.int .i64 0, .int .i64 0, .string ByteArray.empty, .string ByteArray.empty, .int .i64 0], []⟩ 8 (by kernel_rfl) (by kernel_rfl) (by kernel_rfl) (by kernel_rfl)) ?_
  intro W base args ds gs before hval0 hW hcnd hsz0 _
  have hsz : (DataW.weightsEach Try.prog (Try.f10.params.toList ++ Rows.allocationDescriptorsSpec.plain.varTypes Try.prog) (ds ++ gs)).all (· ≤ reachBytes) = true := hsz0
  have hval : ∀ (j : Nat) t v, Try.f10.params[j]? = some t → args[j]? = some v → Value.okWide Try.prog W .any base t v := hval0
  have hW' := hW
  obtain ⟨p, q, hA0, hV, rfl, hfz, hnd⟩ := hW
  have hA : DataW.TrodAll enc Try.prog W 0 (fun _ => true) true Try.f10.params.toList args.toList ds p := hA0
  rw [Try.params10] at hA hval hsz
  obtain ⟨v0, vs0, d0, ds0, p0, q0, hargs, rfl, rfl, h0, r0⟩ := trodAll_cons hA
  obtain ⟨v1, vs1, d1, ds1, p1, q1, rfl, rfl, rfl, h1, r1⟩ := trodAll_cons r0
  obtain ⟨v2, vs2, d2, ds2, p2, q2, rfl, rfl, rfl, h2, r2⟩ := trodAll_cons r1
  obtain ⟨v3, vs3, d3, ds3, p3, q3, rfl, rfl, rfl, h3, r3⟩ := trodAll_cons r2
  obtain ⟨v4, vs4, d4, ds4, p4, q4, rfl, rfl, rfl, h4, r4⟩ := trodAll_cons r3
  obtain ⟨rfl, rfl, rfl⟩ := trodAll_nil r4
  obtain rfl : args = #[v0, v1, v2, v3, v4] := by cases args; simp_all
  obtain ⟨rfl, rfl⟩ := trodVars_none hV
  obtain ⟨a0, rfl, rfl, rfl, w0⟩ := open_int Try.underlying3 (hval 0 3 v0 rfl rfl) h0
  obtain ⟨a1, rfl, rfl, rfl, w1⟩ := open_int Try.underlying3 (hval 1 3 v1 rfl rfl) h1
  obtain ⟨a2, rfl, rfl, rfl, y2⟩ := open_string Try.underlying9 (hval 2 9 v2 rfl rfl) h2
  have w2 : a2.size ≤ 140737488351232 := by
    have z := sized_string hsz (j := 2) (t := 9) rfl rfl
    rw [Array.length_toList] at z
    exact z
  obtain ⟨a3, rfl, rfl, rfl, y3⟩ := open_string Try.underlying9 (hval 3 9 v3 rfl rfl) h3
  have w3 : a3.size ≤ 140737488351232 := by
    have z := sized_string hsz (j := 3) (t := 9) rfl rfl
    rw [Array.length_toList] at z
    exact z
  obtain ⟨a4, rfl, rfl, rfl, w4⟩ := open_int Try.underlying3 (hval 4 3 v4 rfl rfl) h4
  clear hA0 hval0 hsz0 hsz
  refine (Q.masterdisclaw33_AllocationDescriptors.walk Pure.AllocationDescriptors a0 a1 a2 a3 a4 W w0 w1 w2 w3 w4).mono fun e W' ⟨he, bel⟩ => ?_
  subst he
  exact ⟨_, rfl, _, _, _, [], _, [], hW', trodAll_mk1 (shut_bool Try.underlying4 _), (trodAll_cons_mk (shut_int Try.underlying3 w0) (trodAll_cons_mk (shut_int Try.underlying3 w1) (trodAll_cons_mk (shut_string Try.underlying9 y2) (trodAll_cons_mk (shut_string Try.underlying9 y3) (trodAll_cons_mk (shut_int Try.underlying3 w4) trodAll_mk0))))), rfl, bel.frame _, fun h => by cases h⟩
theorem pA : Fits.partA Try.prog Try.f10 Rows.allocationDescriptorsSpec Rows.allocationDescriptorsRow = true := by kernel_rfl
theorem pB : Fits.partB Try.prog Try.f10 Rows.allocationDescriptorsSpec Rows.allocationDescriptorsRow = true := by kernel_rfl
theorem pK : Fits.partK Try.prog Try.f10 Rows.allocationDescriptorsRow = true := by kernel_rfl
theorem pC : Fits.partC Try.prog Rows.allocationDescriptorsRow = true := by kernel_rfl
theorem p5 : (Rows.allocationDescriptorsRow.inPlace == Try.prog.inPlace 10) = true := by kernel_rfl
theorem p6 : (Rows.allocationDescriptorsRow.unfollowed == Try.prog.unfollowed 10) = true := by kernel_rfl
theorem p7 : (Rows.allocationDescriptorsRow.recurses == Try.prog.recurses 10) = true := by kernel_rfl
theorem p8 : (Rows.allocationDescriptorsRow.named == Try.prog.varsNamed 10) = true := by kernel_rfl
theorem closed : joinedFacts Try.prog 10 Try.f10 Rows.allocationDescriptorsSpec Rows.allocationDescriptorsRow = true := Fits.joined_of _ _ _ _ _ pA pB pK pC Fits.laid Fits.rowed Fits.stops Fits.knobs p5 p6 p7 p8 Fits.heard Fits.enter Fits.finals Fits.made rfl rfl
theorem over : Rows.allocationDescriptorsRow.holds Try.pinned (OpenSpec.ofChange Rows.allocationDescriptorsSpec) :=
  OpenClaim.holds_of_wide 10 Try.f10 rfl rfl rfl rfl rfl rfl rfl ⟨rfl, rfl, rfl, rfl, rfl⟩ rfl rfl rfl rfl rfl (by kernel_rfl) Try.func10 closed
    (of_decide_eq_true (by kernel_rfl)) (by unfold Func.isWrapper; first | (rw [if_pos (by decide +kernel)]; kernel_rfl) | (rw [if_neg (by decide +kernel)]; exact ⟨rfl, rfl⟩))
    (fun os started H enc _ => lifted os started H enc)
theorem proved : Rows.AllocationDescriptorsSaid := over
#print axioms proved
end Go.Proofs.Ytijbfebbogiiiaa.allocationDescriptors
namespace Go.Proofs.Ytijbfebbogiiiaa
/-- The row, under a short name, for the claim. -/
theorem allocationDescriptors_holds : Rows.AllocationDescriptorsSaid := allocationDescriptors.proved
end Go.Proofs.Ytijbfebbogiiiaa
