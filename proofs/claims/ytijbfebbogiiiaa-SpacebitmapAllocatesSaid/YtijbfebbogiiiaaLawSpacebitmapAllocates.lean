/- The row of the law: the program's function returns true for any arguments within the bounds. Written by wip/gen.py for this claim. -/
import Derived.Test.YtijbfebbogiiiaaRows
import Derived.Test.YtijbfebbogiiiaaQ58
import Derived.Test.YtijbfebbogiiiaaPureSpacebitmapAllocates
import Derived.Test.YtijbfebbogiiiaaPFits
import Derived.WalkKit
import Derived.ProofKit
import Derived.OpenShut
import Derived.ShutString
import Derived.ChangeOld
import Derived.Below
import Derived.SizedLaws
namespace Go.Proofs.Ytijbfebbogiiiaa.spacebitmapAllocates
open Go.ChangeShapes Go.WideShapes Go.ChangeAt Go.RowKit
open Go.ChangeMaps (open_string shut_string)
set_option linter.unusedVariables false
theorem own : ownKnob Try.prog.godebug = none := by kernel_rfl
set_option maxRecDepth 100000 in
theorem lifted (os : Os) (started : os.Started) (H : Type) (enc : TypeId × Value → H) :
    ReturnsInHanded {} Try.checked os 21 .any (Rows.spacebitmapAllocatesSpec.pre6 enc Try.prog Try.f21 Rows.spacebitmapAllocatesRow.domain false) (Rows.spacebitmapAllocatesSpec.post enc Try.prog Try.f21 false true false false) := by
  refine returnsInHanded_of_change_sized (C := Try.checked) own started (by kernel_rfl) Try.func21
    (ChangeSpec.witness6 (enc := enc) (C := Try.checked) false ⟨#[], #[.string ByteArray.empty, .int .i64 0, .int .i64 0], []⟩ 8 (by kernel_rfl) (by kernel_rfl) (by kernel_rfl) (by kernel_rfl)) ?_
  intro W base args ds gs before hval0 hW hcnd hsz0 _
  have hsz : (DataW.weightsEach Try.prog (Try.f21.params.toList ++ Rows.spacebitmapAllocatesSpec.plain.varTypes Try.prog) (ds ++ gs)).all (· ≤ reachBytes) = true := hsz0
  have hval : ∀ (j : Nat) t v, Try.f21.params[j]? = some t → args[j]? = some v → Value.okWide Try.prog W .any base t v := hval0
  have hW' := hW
  obtain ⟨p, q, hA0, hV, rfl, hfz, hnd⟩ := hW
  have hA : DataW.TrodAll enc Try.prog W 0 (fun _ => true) true Try.f21.params.toList args.toList ds p := hA0
  rw [Try.params21] at hA hval hsz
  obtain ⟨v0, vs0, d0, ds0, p0, q0, hargs, rfl, rfl, h0, r0⟩ := trodAll_cons hA
  obtain ⟨v1, vs1, d1, ds1, p1, q1, rfl, rfl, rfl, h1, r1⟩ := trodAll_cons r0
  obtain ⟨v2, vs2, d2, ds2, p2, q2, rfl, rfl, rfl, h2, r2⟩ := trodAll_cons r1
  obtain ⟨rfl, rfl, rfl⟩ := trodAll_nil r2
  obtain rfl : args = #[v0, v1, v2] := by cases args; simp_all
  obtain ⟨rfl, rfl⟩ := trodVars_none hV
  obtain ⟨a0, rfl, rfl, rfl, y0⟩ := open_string Try.underlying9 (hval 0 9 v0 rfl rfl) h0
  have w0 : a0.size ≤ 140737488351232 := by
    have z := sized_string hsz (j := 0) (t := 9) rfl rfl
    rw [Array.length_toList] at z
    exact z
  obtain ⟨a1, rfl, rfl, rfl, w1⟩ := open_int Try.underlying3 (hval 1 3 v1 rfl rfl) h1
  obtain ⟨a2, rfl, rfl, rfl, w2⟩ := open_int Try.underlying3 (hval 2 3 v2 rfl rfl) h2
  clear hA0 hval0 hsz0 hsz
  refine (Q.masterdisclaw41_SpacebitmapAllocates.walk Pure.SpacebitmapAllocates a0 a1 a2 W w0 w1 w2).mono fun e W' ⟨he, bel⟩ => ?_
  subst he
  exact ⟨_, rfl, _, _, _, [], _, [], hW', trodAll_mk1 (shut_bool Try.underlying4 _), (trodAll_cons_mk (shut_string Try.underlying9 y0) (trodAll_cons_mk (shut_int Try.underlying3 w1) (trodAll_cons_mk (shut_int Try.underlying3 w2) trodAll_mk0))), rfl, bel.frame _, fun h => by cases h⟩
theorem pA : Fits.partA Try.prog Try.f21 Rows.spacebitmapAllocatesSpec Rows.spacebitmapAllocatesRow = true := by kernel_rfl
theorem pB : Fits.partB Try.prog Try.f21 Rows.spacebitmapAllocatesSpec Rows.spacebitmapAllocatesRow = true := by kernel_rfl
theorem pK : Fits.partK Try.prog Try.f21 Rows.spacebitmapAllocatesRow = true := by kernel_rfl
theorem pC : Fits.partC Try.prog Rows.spacebitmapAllocatesRow = true := by kernel_rfl
theorem p5 : (Rows.spacebitmapAllocatesRow.inPlace == Try.prog.inPlace 21) = true := by kernel_rfl
theorem p6 : (Rows.spacebitmapAllocatesRow.unfollowed == Try.prog.unfollowed 21) = true := by kernel_rfl
theorem p7 : (Rows.spacebitmapAllocatesRow.recurses == Try.prog.recurses 21) = true := by kernel_rfl
theorem p8 : (Rows.spacebitmapAllocatesRow.named == Try.prog.varsNamed 21) = true := by kernel_rfl
theorem closed : joinedFacts Try.prog 21 Try.f21 Rows.spacebitmapAllocatesSpec Rows.spacebitmapAllocatesRow = true := Fits.joined_of _ _ _ _ _ pA pB pK pC Fits.laid Fits.rowed Fits.stops Fits.knobs p5 p6 p7 p8 Fits.heard Fits.enter Fits.finals Fits.made rfl rfl
theorem over : Rows.spacebitmapAllocatesRow.holds Try.pinned (OpenSpec.ofChange Rows.spacebitmapAllocatesSpec) :=
  OpenClaim.holds_of_wide 21 Try.f21 rfl rfl rfl rfl rfl rfl rfl ⟨rfl, rfl, rfl, rfl, rfl⟩ rfl rfl rfl rfl rfl (by kernel_rfl) Try.func21 closed
    (of_decide_eq_true (by kernel_rfl)) (by unfold Func.isWrapper; first | (rw [if_pos (by decide +kernel)]; kernel_rfl) | (rw [if_neg (by decide +kernel)]; exact ⟨rfl, rfl⟩))
    (fun os started H enc _ => lifted os started H enc)
theorem proved : Rows.SpacebitmapAllocatesSaid := over
#print axioms proved
end Go.Proofs.Ytijbfebbogiiiaa.spacebitmapAllocates
namespace Go.Proofs.Ytijbfebbogiiiaa
/-- The row, under a short name, for the claim. -/
theorem spacebitmapAllocates_holds : Rows.SpacebitmapAllocatesSaid := spacebitmapAllocates.proved
end Go.Proofs.Ytijbfebbogiiiaa
