/- What the second way's Number computes. -/
import Derived.Test.YtijbfebbogiiiaaPEv
import Derived.Test.YtijbfebbogiiiaaHLe
import Derived.Test.YtijbfebbogiiiaaQNum
namespace Go.Proofs.Ytijbfebbogiiiaa.Pure
open Go.RowKit Go.Proofs.Ytijbfebbogiiiaa.Q Go.Proofs.YtijbfebbogiiiaaW.PrintWords Go.Proofs.YtijbfebbogiiiaaW.PrintLast
set_option linter.unusedVariables false
set_option linter.unusedSimpArgs false
theorem pow256_le (n : Nat) (h : n ≤ 7) : (256 : Int) ^ n ≤ 72057594037927936 := by
  have : n = 0 ∨ n = 1 ∨ n = 2 ∨ n = 3 ∨ n = 4 ∨ n = 5 ∨ n = 6 ∨ n = 7 := by omega
  rcases this with rfl | rfl | rfl | rfl | rfl | rfl | rfl | rfl <;> decide
theorem Number_l0 (s : ByteArray) (i : Int) (hi : 0 ≤ i) : ∀ (j m : Nat), j + m ≤ 7 → i + j + m ≤ s.size → s.size ≤ 9223372036854775807 →
    masterdiscref31_Number.l0 (j + 1) s i (leAt s (i + j) m) ((j : Int) - 1) = some (leAt s i (j + m)) := by
  intro j
  induction j with
  | zero =>
    intro m h7 hs hb
    rw [masterdiscref31_Number.l0, if_neg (by omega)]
    simp
  | succ j ih =>
    intro m h7 hs hb
    have hp := pow256_le (m + 1) (by omega)
    rw [Int.pow_succ] at hp
    have hbd := leAt_bd s (i + ((j + 1 : Nat) : Int)) m
    have hbt := bt_range s (i + j)
    have e0 : (((j + 1 : Nat) : Int) - 1) = j := by omega
    have e1 : wrap64 (i + (j : Int)) = i + j := w64 _ (by omega)
    have e2 : wrap64 ((j : Int) - 1) = (j : Int) - 1 := w64 _ (by omega)
    have e3 : wrap64 (leAt s (i + ((j + 1 : Nat) : Int)) m * 256) = leAt s (i + ((j + 1 : Nat) : Int)) m * 256 := w64 _ (by omega)
    have e4 : wrap64 (bt s (i + j)) = bt s (i + j) := w64 _ (by omega)
    have e5 : leAt s (i + ((j + 1 : Nat) : Int)) m * 256 + bt s (i + j) = leAt s (i + j) (m + 1) := by
      rw [leAt, show i + ((j + 1 : Nat) : Int) = i + j + 1 by omega]; omega
    have e6 := leAt_bd s (i + j) (m + 1)
    have e7 := pow256_le (m + 1) (by omega)
    rw [masterdiscref31_Number.l0, e0, if_pos (by omega), e1, if_pos (by omega), if_pos (by omega), e2, e3, e4, e5, w64 _ (by omega), ih (m + 1) (by omega) (by omega) hb, show j + (m + 1) = j + 1 + m by omega]
theorem Number_ev (s : ByteArray) (i : Int) (n : Nat) (hi : 0 ≤ i) (h7 : n ≤ 7) (hn : i + n ≤ s.size) (hs : s.size ≤ 9223372036854775807) : Ev (fun k => masterdiscref31_Number.f k s i (n : Int)) (leAt s i n) := by
  refine Ev.of (masterdiscref31_Number.mono s i n) (k := n + 1) ?_
  have := Number_l0 s i hi n 0 (by omega) (by omega) hs
  rw [masterdiscref31_Number.f, w64 _ (by omega)]
  simpa [leAt] using this

end Go.Proofs.Ytijbfebbogiiiaa.Pure
