/- FirstFit returns the first block of the first run of free blocks of the length. -/
import Derived.Test.YtijbfebbogiiiaaQ32
import Derived.Test.YtijbfebbogiiiaaPAwake41
import Derived.Test.YtijbfebbogiiiaaPBits
import Derived.Test.YtijbfebbogiiiaaHSpace2
namespace Go.Proofs.Ytijbfebbogiiiaa.Pure
open Go.RowKit Go.Proofs.Ytijbfebbogiiiaa.Q Go.Proofs.YtijbfebbogiiiaaW.PrintWords Go.Proofs.YtijbfebbogiiiaaW.PrintLast
set_option linter.unusedVariables false
set_option linter.unusedSimpArgs false
theorem fits_l0 (s : ByteArray) (N c : Nat) (hN : N ≤ 8 * s.size) (h4 : N ≤ 4096) (hc : c ≤ 255) (F : Int) (hF : spacebitmap_FirstFit.f s (N : Int) (c : Int) = some F) : ∀ (m i run : Nat), i + m = N → run < c → run ≤ i → F = scan (bitOf s) c m i run →
    Ev (fun k => masterdisclaw41_SpacebitmapFits.l0 k s (N : Int) (c : Int) (-1) (run : Int) (N : Int) (i : Int)) true := by
  intro m
  induction m with
  | zero =>
    intro i run hi h1 h2 hs
    refine Ev.step (fun k => by rw [masterdisclaw41_SpacebitmapFits.l0, if_neg (by omega), w64 _ (by omega), hF, Option.bind_some]) ?_
    rw [hs, scan]
    exact Ev.now _
  | succ m ih =>
    intro i run hi h1 h2 hs
    rw [scan] at hs
    refine Ev.step (fun k => by rw [masterdisclaw41_SpacebitmapFits.l0, if_pos (by omega), free_f s i (by omega) (by omega), Option.bind_some, w64 ((run : Int) + 1) (by omega), w64 (c : Int) (by omega), w64 ((i : Int) + 1) (by omega)]) ?_
    by_cases hp : bitOf s i = true
    · rw [if_pos hp] at hs
      refine Ev.iteT hp ?_
      by_cases hr : run + 1 = c
      · rw [if_pos hr] at hs
        refine Ev.iteT (by omega) ?_
        rw [hF, Option.bind_some, hs, w64 ((i : Int) - ((run : Int) + 1)) (by omega), w64 _ (by omega), show (((i - run : Nat)) : Int) = (i : Int) - ((run : Int) + 1) + 1 by omega, beq_self_eq_true]
        exact Ev.now _
      · rw [if_neg hr] at hs
        refine Ev.iteF (by omega) ?_
        rw [show (run : Int) + 1 = ((run + 1 : Nat) : Int) by omega, show (i : Int) + 1 = ((i + 1 : Nat) : Int) by omega]
        exact ih (i + 1) (run + 1) (by omega) (by omega) (by omega) hs
    · rw [if_neg hp] at hs
      refine Ev.iteF hp ?_
      rw [show (i : Int) + 1 = ((i + 1 : Nat) : Int) by omega]
      exact ih (i + 1) 0 (by omega) (by omega) (by omega) hs
theorem fits_j0 (s : ByteArray) (n c : Int) : Ev (fun k => masterdisclaw41_SpacebitmapFits.j0 k s n c true) true :=
  Ev.step (fun k => by rw [masterdisclaw41_SpacebitmapFits.j0]) (Ev.iteT rfl (Ev.now _))
theorem fits_ev (s : ByteArray) (n c : Int) (hc : 0 ≤ c ∧ c ≤ 255) : Ev (fun k => masterdisclaw41_SpacebitmapFits.f k s n c) true := by
  unfold masterdisclaw41_SpacebitmapFits.f
  refine Ev.bind awake41_ev (Ev.iteT rfl ?_)
  by_cases h60 : (s.size : Int) > 60
  · exact Ev.iteT h60 (fits_j0 s n c)
  · refine Ev.iteF h60 (Ev.bind (Valid_ev s n (by omega)) ?_)
    by_cases hv : validB s n = true
    · refine Ev.iteT hv ?_
      by_cases h0 : c = 0
      · rw [h0]; exact fits_j0 s n 0
      · rw [show (c == 0) = false by simpa using h0]
        refine Ev.step (fun k => by rw [masterdisclaw41_SpacebitmapFits.j0]) (Ev.iteF (by decide) ?_)
        obtain ⟨hz, _⟩ := (validB_iff s n).1 hv
        obtain ⟨N, rfl⟩ : ∃ N : Nat, n = N := ⟨n.toNat, by omega⟩
        obtain ⟨C, rfl⟩ : ∃ C : Nat, c = C := ⟨c.toNat, by omega⟩
        refine fits_l0 s N C (by omega) (by omega) (by omega) (firstRun (runsOf s (N : Int)) (C : Int)) (by rw [spacebitmap_FirstFit.f, if_pos (by omega), if_neg (by omega)]) N 0 0 (by omega) (by omega) (by omega) ?_
        rw [scan_first _ _ _ _ _ (by omega) (by omega), if_pos rfl, runsOf, if_pos hv, Int.toNat_natCast]
    · exact Ev.iteF hv (fits_j0 s n c)
theorem SpacebitmapFits : masterdisclaw41_SpacebitmapFits.Pure := fun s n c _ _ w => (fits_ev s n c (by simp [Lit.wf, IntKind.min, IntKind.max, IntKind.bits, IntKind.signed] at w; omega)).rounds
end Go.Proofs.Ytijbfebbogiiiaa.Pure
