/- The runs of free blocks: spacebitmap.free, runs and the iterator that runs returns. -/
import Derived.Test.YtijbfebbogiiiaaQ0
import Derived.Test.YtijbfebbogiiiaaQ24
import Derived.RangeFuncNested
import Derived.RangeFuncBound
import Derived.RangeFuncCalls
import Derived.RangeFuncLeaves
import Derived.RangeFuncBox
import Derived.RangeFuncFrom
import Derived.Shelf.Abstract
import Derived.Shelf.RegionOpen
import Derived.WalkKit
import Derived.OwnWalkIn
import Derived.TacticsInMore
import Derived.LoopNIn
import Derived.LoopIn
import Derived.Maps.AppendAt
import Derived.Test.YtijbfebbogiiiaaHBase
import Derived.Test.YtijbfebbogiiiaaQ24
import Derived.Lib.Hide
namespace Go.Proofs.Ytijbfebbogiiiaa.Q
open Go.RowKit Go.Proofs.YtijbfebbogiiiaaW.PrintWords Go.Proofs.YtijbfebbogiiiaaW.PrintLast Go.Proofs.YtijbfebbogiiiaaW.PrintMore
attribute [local go_sem] max2_int min2_int max_two min_two max_three min_three max_four min_four
set_option linter.unusedVariables false
set_option linter.unusedSimpArgs false
open Go.Shelf

def bitOf (s : ByteArray) (i : Nat) : Bool := bt s ((i / 8 : Nat) : Int) / 2 ^ (i % 8) % 2 == 1
/-- The runs from block i on, r blocks to go; st: where an open run began. -/
def runsAux (p : Nat → Bool) : Nat → Nat → Option Nat → List S76
  | 0, _, none => []
  | 0, i, some st => [⟨(st : Int), ((i - st : Nat) : Int)⟩]
  | r + 1, i, none => if p i = true then runsAux p r (i + 1) (some i) else runsAux p r (i + 1) none
  | r + 1, i, some st => if p i = true then runsAux p r (i + 1) (some st) else ⟨(st : Int), ((i - st : Nat) : Int)⟩ :: runsAux p r (i + 1) none
def validB (s : ByteArray) (n : Int) : Bool :=
  decide (0 ≤ n ∧ n ≤ 4096 ∧ (s.size : Int) = (n + 7) / 8) && (decide (n % 8 = 0) || decide (bt s ((s.size : Int) - 1) / 2 ^ (n % 8).toNat = 0))
def runsOf (s : ByteArray) (n : Int) : List S76 := if validB s n = true then runsAux (bitOf s) n.toNat 0 none else []
def countOf (l : List S76) : Int := l.foldl (fun a x => a + x.f1) 0
def inSpans (l : List S76) (i : Nat) : Bool := l.any fun x => decide (x.f0 ≤ i ∧ (i : Int) < x.f0 + x.f1)
/-- The first blocks of runs. -/
def takeRuns : List S76 → Int → List S76
  | [], _ => []
  | x :: l, c => if c = 0 then [] else ⟨x.f0, if c < x.f1 then c else x.f1⟩ :: takeRuns l (c - if c < x.f1 then c else x.f1)
theorem and_one : ∀ n : Fin 256, Go.bits .and .u8 ((n.val : Nat) : Int) 1 = ((n.val % 2 : Nat) : Int) := by decide +kernel
theorem and_one' (x : Int) (h0 : 0 ≤ x) (h1 : x < 256) : Go.bits .and .u8 x 1 = x % 2 := by
  have := and_one ⟨x.toNat, by omega⟩
  rw [show (((⟨x.toNat, by omega⟩ : Fin 256).val : Nat) : Int) = x by show ((x.toNat : Nat) : Int) = x; omega] at this
  rw [this]; show ((x.toNat % 2 : Nat) : Int) = x % 2; omega
theorem div_pow_bd (x : Int) (h0 : 0 ≤ x) (h1 : x ≤ 255) (r : Nat) : 0 ≤ x / 2 ^ r ∧ x / 2 ^ r < 256 := by
  have hp : (0 : Int) < 2 ^ r := Int.pow_pos (by omega)
  refine ⟨Int.ediv_nonneg h0 (by omega), ?_⟩
  have := Int.ediv_le_self (b := 2 ^ r) (a := x) h0
  omega
set_option maxRecDepth 100000 in
theorem free_calls (s : ByteArray) (i : Nat) (w : World) (hi : i < 8 * s.size) (hb : i ≤ 100000) : Calls Try.prog 146 #[.string s, .int .i64 (i : Int)] w fun e w' => e = .returned (.bool (bitOf s i)) ∧ w' = w := by
  obtain ⟨q, hq⟩ : ∃ q, q = i / 8 := ⟨_, rfl⟩
  obtain ⟨r, hr⟩ : ∃ r, r = i % 8 := ⟨_, rfl⟩
  have hbr := bt_range s (q : Int)
  have t1 : Int.tdiv (i : Int) 8 = (q : Int) := by rw [Int.tdiv_eq_ediv_of_nonneg (by omega)]; omega
  have t2 : Int.tmod (i : Int) 8 = (r : Int) := by rw [Int.tmod_eq_emod_of_nonneg (by omega)]; omega
  have t3 : IntKind.i64.wrap (q : Int) = (q : Int) := IntWalk.i64_in _ (by omega)
  have hql : (q : Int) < (s.size : Int) := by omega
  have hrl : r < 8 := by omega
  have hz := div_pow_bd _ hbr.1 hbr.2 r
  have hand := and_one' _ hz.1 hz.2
  have hbit : (bt s (q : Int) / 2 ^ r % 2 == 1) = bitOf s i := by rw [bitOf, hq, hr]
  have hx := bt_at s (q : Int)
  have hqs : q < s.size := by omega
  have hxx := hx (by rw [Int.toNat_natCast]; exact hqs)
  have hx2 : (((s[q]'hqs).toNat : Nat) : Int) = bt s (q : Int) := by simpa using hxx
  have p7 := eq_true (show (0 : Int) ≤ (q : Int) by omega)
  have p9 := eq_true (show (0 : Int) ≤ (r : Int) by omega)
  have q7 := eq_true hql
  have e1 : (r : Int).toNat = r := Int.toNat_natCast r
  have e2 : min r 8 = r := by omega
  obtain ⟨j, hj⟩ : ∃ j, j = bt s (q : Int) / 2 ^ r := ⟨_, rfl⟩
  rw [← hj] at hand hbit
  have hj1 : bt s (q : Int) / 2 ^ min (r : Int).toNat 8 = j := by rw [e1, e2, hj]
  have hj2 : bt s (q : Int) / 2 ^ (r : Int).toNat = j := by rw [e1, hj]
  have hj3 : bt s (q : Int) / 2 ^ r = j := hj.symm
  have HB := Lib.hid hbit
  have HA := Lib.hid hand
  clear hj
  clear hbit hq hr hz hbr hi hb hx
  go_enter Try.func146, Try.ntmps146
  go_wp2
  go_ret
  exact ⟨by rw [← HB.out]; rfl, rfl⟩
theorem runs_calls (s : ByteArray) (n : Int) (w : World) : Calls Try.prog 113 #[.string s, .int .i64 n] w fun e w' =>
    e = .returned (.func (.func 145) #[] #[.pointer (some ⟨w.heap.size, 0, none⟩), .pointer (some ⟨w.heap.size + 1, 0, none⟩)]) ∧ w' = (w.alloc (.cells #[.string s] 9)).alloc (.cells #[.int .i64 n] 3) := by
  go_enter Try.func113, Try.ntmps113
  go_wp2
  go_ret
  exact ⟨by simp, rfl⟩
theorem set_other46 (w : World) (g g' j : Nat) (v : Value) (h : g' ≠ g) : (w.setCell ⟨g, j, none⟩ v).heap[g']? = w.heap[g']? := by
  unfold World.setCell
  simp [Array.getElem?_modify, Ne.symm h]
theorem find_below {w w' : World} (h : Below w.heap.size w w') : w.grownBy w' none := ⟨h.os, h.tape, h.output, h.size, fun k hk _ => h.block k hk⟩
theorem runsAux_skip (p : Nat → Bool) (n i : Nat) (h : i < n) (hp : p i = false) : runsAux p (n - i) i none = runsAux p (n - (i + 1)) (i + 1) none := by
  rw [show n - i = (n - (i + 1)) + 1 by omega, runsAux, if_neg (by rw [hp]; simp)]
theorem runsAux_open (p : Nat → Bool) (n i : Nat) (h : i < n) (hp : p i = true) : runsAux p (n - i) i none = runsAux p (n - i) i (some i) := by
  rw [show n - i = (n - (i + 1)) + 1 by omega, runsAux, runsAux, if_pos hp, if_pos hp]
theorem runsAux_more (p : Nat → Bool) (n i st : Nat) (h : i < n) (hp : p i = true) : runsAux p (n - i) i (some st) = runsAux p (n - (i + 1)) (i + 1) (some st) := by
  rw [show n - i = (n - (i + 1)) + 1 by omega, runsAux, if_pos hp]
theorem runsAux_shut (p : Nat → Bool) (n i st : Nat) (h : i ≤ n) (hp : i < n → p i = false) : runsAux p (n - i) i (some st) = ⟨(st : Int), ((i - st : Nat) : Int)⟩ :: runsAux p (n - (i + 1)) (i + 1) none := by
  by_cases c : i < n
  · rw [show n - i = (n - (i + 1)) + 1 by omega, runsAux, if_neg (by rw [hp c]; simp)]
  · rw [show n - i = 0 by omega, show n - (i + 1) = 0 by omega]; rfl
set_option maxRecDepth 100000 in
set_option maxHeartbeats 4000000 in
theorem runs1_in (n : Nat) (hn : 3 ≤ n) (l B1 B2 : Nat) (s : ByteArray) (m : Int) (J Jx : List S76 → World → Prop) (W : World)
    (hv : spacebitmap_valid.f s m = some (validB s m))
    (hY : ∀ pre x W, J pre W → pre.length < (runsOf s m).length → YieldAt Fence.wide (n - 1) Try.prog l #[.agg #[.int .i64 x.f0, .int .i64 x.f1]] W fun e W' =>
      (e = .returned (.bool true) ∧ J (pre ++ [x]) W' ∧ ∀ k, k = B1 ∨ k = B2 → W'.heap[k]? = W.heap[k]?) ∨ (e = .returned (.bool false) ∧ Jx (pre ++ [x]) W'))
    (hJ : AbidesFrom W.heap.size J) (h1 : W.heap[B1]? = some (.cells #[.string s] 9 (0, 0))) (h2 : W.heap[B2]? = some (.cells #[.int .i64 m] 3 (0, 0))) (h0 : J [] W) :
    CallsIn Fence.wide n Try.prog 145 #[.func (.yield l) #[] #[], .pointer (some ⟨B1, 0, none⟩), .pointer (some ⟨B2, 0, none⟩)] W fun e W' => (∃ v, e = .returned v) ∧
      ((∃ ys, ys = runsOf s m ∧ J ys W') ∨ (∃ pre, pre <+: runsOf s m ∧ Jx pre W')) := by
  refine callsIn_of_wp Try.func145 rfl trivial ?_ rfl
  simp only [Try.ntmps145, List.size_toArray, List.length_cons, List.length_nil, Nat.reduceAdd, Nat.reduceSub, Array.replicate_succ, Array.replicate_zero, List.push_toArray, List.append_toArray, List.nil_append, List.cons_append]
  have c1 : W.cell? ⟨B1, 0, none⟩ = some (.string s) := (blk_cell h1 0).trans rfl
  have c2 : W.cell? ⟨B2, 0, none⟩ = some (.int .i64 m) := (blk_cell h2 0).trans rfl
  have HV := Lib.hid hv
  have HY := Lib.hid hY
  have H1 := Lib.hid h1
  have H2 := Lib.hid h2
  have H0 := Lib.hid h0
  have HJ := Lib.hid hJ
  have h134 : Fence.wide.fn 134 := trivial
  have h146 : Fence.wide.fn 146 := trivial
  have hn1 : 1 ≤ n := by omega
  clear hv hY h1 h2 h0 hJ
  cases hb : validB s m with
  | false =>
    rw [hb] at HV
    have HE := Lib.hid (show runsOf s m = [] by rw [runsOf, hb]; rfl)
    gi_wp2_with (gi_at_call 134; (with_reducible refine (callsIn_wide.2 (spacebitmap_valid.calls s m false _ HV.out)).mono ?_); rintro e w1 ⟨rfl, ⟨nd, rfl⟩⟩)
    refine bodyPost_ret (results_none rfl _ _ _) rfl ?_
    exact ⟨⟨_, rfl⟩, .inl ⟨[], HE.out.symm, HJ.out _ _ _ none H0.out (find_below (pw_below_drewN (Below.refl _ _) nd)) (fun r h => by cases h)⟩⟩
  | true =>
    rw [hb] at HV
    obtain ⟨N, hN⟩ : ∃ N : Nat, m = N := ⟨m.toNat, by unfold validB at hb; rw [Bool.and_eq_true, decide_eq_true_iff] at hb; omega⟩
    subst hN
    have hN4 : N ≤ 4096 ∧ N ≤ 8 * s.size := by unfold validB at hb; rw [Bool.and_eq_true, decide_eq_true_iff] at hb; omega
    have HE := Lib.hid (show runsOf s (N : Int) = runsAux (bitOf s) N 0 none by rw [runsOf, if_pos hb, Int.toNat_natCast])
    clear hb
    gi_wp2_with (gi_at_call 134; (with_reducible refine (callsIn_wide.2 (spacebitmap_valid.calls s (N : Int) true _ HV.out)).mono ?_); rintro e w1 ⟨rfl, ⟨nd, rfl⟩⟩)
    gi_loopw [4] (fun v4 wr => ∃ (i : Nat) (pre : List S76), i ≤ N + 1 ∧ v4 = .int .i64 (i : Int) ∧ Aside0 (runsOf s (N : Int) = pre ++ runsAux (bitOf s) (N - i) i none) ∧ Aside0 (J pre wr) ∧ Aside0 (wr.heap[B1]? = some (.cells #[.string s] 9 (0, 0))) ∧ Aside0 (wr.heap[B2]? = some (.cells #[.int .i64 (N : Int)] 3 (0, 0))))
      (fun v4 _ => N + 1 - (intOf v4).toNat)
    case atStart => exact ⟨0, [], by omega, rfl, ⟨HE.out⟩, ⟨HJ.out _ _ _ none H0.out (find_below (pw_below_drewN (Below.refl _ _) nd)) (fun r h => by cases h)⟩, ⟨H1.out⟩, ⟨H2.out⟩⟩
    case round =>
      obtain ⟨i, pre, hi, rfl, HP, HJs, HX1, HX2⟩ := hrel
      have c1 : wr.cell? ⟨B1, 0, none⟩ = some (.string s) := (blk_cell HX1.out 0).trans rfl
      have c2 : wr.cell? ⟨B2, 0, none⟩ = some (.int .i64 (N : Int)) := (blk_cell HX2.out 0).trans rfl
      by_cases hlt : i < N
      · have hl1 := decide_eq_true (show (i : Int) < (N : Int) by omega)
        have hl2 : decide (i < N) = true := decide_eq_true hlt
        have hw1 : IntKind.i64.wrap ((i : Int) + 1) = (i : Int) + 1 := IntWalk.i64_in _ (by omega)
        have HFR := Lib.hid (free_calls s i wr (by omega) (by omega))
        cases hbit : bitOf s i with
        | false =>
          rw [hbit] at HFR
          have HN := Lib.hid (runsAux_skip (bitOf s) N i hlt hbit)
          gi_wp2_with (gi_at_call 146; (with_reducible refine (callsIn_wide.2 HFR.out).mono ?_); rintro e w1 ⟨rfl, rfl⟩)
          go_roundw
          case rel => exact ⟨i + 1, pre, by omega, by go_num, ⟨by rw [← HN.out]; exact HP.out⟩, HJs, HX1, HX2⟩
          case measure => simp [intOf]; omega
        | true =>
          rw [hbit] at HFR
          have HN := Lib.hid (runsAux_open (bitOf s) N i hlt hbit)
          gi_wp2_with (gi_at_call 146; (with_reducible refine (callsIn_wide.2 HFR.out).mono ?_); rintro e w1 ⟨rfl, rfl⟩)
          have HB2 := Aside0.mk (below_alloc (Below.refl w1.heap.size w1) (.cells #[.int .i64 (i : Int), .int .i64 0] 76))
          have HG := Aside0.mk (blk_new w1 (.cells #[.int .i64 (i : Int), .int .i64 0] 76))
          have HX1' := Aside0.mk (blk_alloc HX1.out (.cells #[.int .i64 (i : Int), .int .i64 0] 76))
          have HX2' := Aside0.mk (blk_alloc HX2.out (.cells #[.int .i64 (i : Int), .int .i64 0] 76))
          generalize w1.alloc (.cells #[.int .i64 (i : Int), .int .i64 0] 76) = W2 at HB2 HG HX1' HX2' ⊢
          obtain ⟨g, hgs⟩ : ∃ g, w1.heap.size = g := ⟨_, rfl⟩
          rw [hgs] at HG ⊢
          have d1 : W2.cell? ⟨B1, 0, none⟩ = some (.string s) := (blk_cell HX1'.out 0).trans rfl
          have d2 : W2.cell? ⟨B2, 0, none⟩ = some (.int .i64 (N : Int)) := (blk_cell HX2'.out 0).trans rfl
          have g0 : W2.cell? ⟨g, 0, none⟩ = some (.int .i64 (i : Int)) := (blk_cell HG.out 0).trans rfl
          have g1 : W2.cell? ⟨g, 1, none⟩ = some (.int .i64 0) := (blk_cell HG.out 1).trans rfl
          have f1 := blk_frozen HG.out 1
          clear c1 c2 HFR hl1 hl2 hw1
          gi_loopw [4] (fun v4 wq => ∃ (k : Nat), i ≤ k ∧ k ≤ N ∧ v4 = .int .i64 (k : Int) ∧ wq = W2 ∧ Aside0 (runsAux (bitOf s) (N - i) i (some i) = runsAux (bitOf s) (N - k) k (some i))) (fun v4 _ => N - (intOf v4).toNat)
          case atStart => exact ⟨i, Nat.le_refl _, by omega, rfl, rfl, ⟨rfl⟩⟩
          case round =>
            obtain ⟨k, hik, hkN, rfl, rfl, HR⟩ := hrel
            by_cases hkl : k < N
            · have hl1 := decide_eq_true (show (k : Int) < (N : Int) by omega)
              have hl2 : decide (k < N) = true := decide_eq_true hkl
              have hw2 : IntKind.i64.wrap ((k : Int) + 1) = (k : Int) + 1 := IntWalk.i64_in _ (by omega)
              have HFR := Lib.hid (free_calls s k wr (by omega) (by omega))
              cases hkb : bitOf s k with
              | true =>
                rw [hkb] at HFR
                have HM := Lib.hid (runsAux_more (bitOf s) N k i hkl hkb)
                gi_wp2_with (gi_at_call 146; (with_reducible refine (callsIn_wide.2 HFR.out).mono ?_); rintro e w9 ⟨rfl, rfl⟩)
                go_roundw
                case rel => exact ⟨k + 1, by omega, by omega, by go_num, by first | trivial | rfl, ⟨by rw [HR.out, HM.out]⟩⟩
                case measure => simp [intOf]; omega
              | false =>
                rw [hkb] at HFR
                have hw3 : IntKind.i64.wrap ((k : Int) - (i : Int)) = (k : Int) - (i : Int) := IntWalk.i64_in _ (by omega)
                have HSH := Lib.hid (runsAux_shut (bitOf s) N k i (by omega) (fun _ => hkb))
                have HPX := Lib.hid (show runsOf s (N : Int) = (pre ++ [⟨(i : Int), (k : Int) - (i : Int)⟩]) ++ runsAux (bitOf s) (N - (k + 1)) (k + 1) none by
                  rw [HP.out, HN.out, HR.out, HSH.out, List.append_assoc, List.singleton_append, show (((k - i : Nat)) : Int) = (k : Int) - (i : Int) by omega])
                have hJ2 := HJ.out _ _ _ none HJs.out (find_below (below_set (j := 1) HB2.out (Nat.le_of_eq hgs) (v := .int .i64 ((k : Int) - (i : Int))))) (fun r h => by cases h)
                obtain ⟨fn, tmps, assign, body, hy, hRY⟩ := HY.out pre ⟨(i : Int), (k : Int) - (i : Int)⟩ _ hJ2 (by rw [HPX.out]; simp only [List.length_append, List.length_singleton]; omega)
                dsimp only at hy
                gi_wp2_with (gi_at_call 146; (with_reducible refine (callsIn_wide.2 HFR.out).mono ?_); rintro e w9 ⟨rfl, rfl⟩)
                refine hRY.mono ?_
                rintro e W3 (⟨rfl, hJ3, hk3⟩ | ⟨rfl, hJx3⟩)
                · have HJ3 := Aside0.mk hJ3
                  have HX3 := Aside0.mk ((hk3 B1 (.inl rfl)).trans ((set_other46 _ _ _ _ _ (fun h => by have := (Array.getElem?_eq_some_iff.1 HX1.out).1; omega)).trans HX1'.out))
                  have HX4 := Aside0.mk ((hk3 B2 (.inr rfl)).trans ((set_other46 _ _ _ _ _ (fun h => by have := (Array.getElem?_eq_some_iff.1 HX2.out).1; omega)).trans HX2'.out))
                  clear hJ3 hk3
                  gi_wp2
                  go_roundw
                  case rel => exact ⟨k + 1, pre ++ [⟨(i : Int), (k : Int) - (i : Int)⟩], by omega, by go_num, ⟨HPX.out⟩, HJ3, HX3, HX4⟩
                  case measure => simp [intOf]; omega
                · gi_wp2
                  refine bodyPost_ret (results_none rfl _ _ _) rfl ?_
                  exact ⟨⟨_, rfl⟩, .inr ⟨pre ++ [⟨(i : Int), (k : Int) - (i : Int)⟩], ⟨_, HPX.out.symm⟩, hJx3⟩⟩
            · have hl1 := decide_eq_false (show ¬ (k : Int) < (N : Int) by omega)
              have hl2 : decide (k < N) = false := decide_eq_false hkl
              have hw3 : IntKind.i64.wrap ((k : Int) - (i : Int)) = (k : Int) - (i : Int) := IntWalk.i64_in _ (by omega)
              have HSH := Lib.hid (runsAux_shut (bitOf s) N k i (by omega) (fun h => absurd h hkl))
              have HPX := Lib.hid (show runsOf s (N : Int) = (pre ++ [⟨(i : Int), (k : Int) - (i : Int)⟩]) ++ runsAux (bitOf s) (N - (k + 1)) (k + 1) none by
                rw [HP.out, HN.out, HR.out, HSH.out, List.append_assoc, List.singleton_append, show (((k - i : Nat)) : Int) = (k : Int) - (i : Int) by omega])
              have hJ2 := HJ.out _ _ _ none HJs.out (find_below (below_set (j := 1) HB2.out (Nat.le_of_eq hgs) (v := .int .i64 ((k : Int) - (i : Int))))) (fun r h => by cases h)
              obtain ⟨fn, tmps, assign, body, hy, hRY⟩ := HY.out pre ⟨(i : Int), (k : Int) - (i : Int)⟩ _ hJ2 (by rw [HPX.out]; simp only [List.length_append, List.length_singleton]; omega)
              dsimp only at hy
              gi_wp2
              refine hRY.mono ?_
              rintro e W3 (⟨rfl, hJ3, hk3⟩ | ⟨rfl, hJx3⟩)
              · have HJ3 := Aside0.mk hJ3
                have HX3 := Aside0.mk ((hk3 B1 (.inl rfl)).trans ((set_other46 _ _ _ _ _ (fun h => by have := (Array.getElem?_eq_some_iff.1 HX1.out).1; omega)).trans HX1'.out))
                have HX4 := Aside0.mk ((hk3 B2 (.inr rfl)).trans ((set_other46 _ _ _ _ _ (fun h => by have := (Array.getElem?_eq_some_iff.1 HX2.out).1; omega)).trans HX2'.out))
                clear hJ3 hk3
                gi_wp2
                go_roundw
                case rel => exact ⟨k + 1, pre ++ [⟨(i : Int), (k : Int) - (i : Int)⟩], by omega, by go_num, ⟨HPX.out⟩, HJ3, HX3, HX4⟩
                case measure => simp [intOf]; omega
              · gi_wp2
                refine bodyPost_ret (results_none rfl _ _ _) rfl ?_
                exact ⟨⟨_, rfl⟩, .inr ⟨pre ++ [⟨(i : Int), (k : Int) - (i : Int)⟩], ⟨_, HPX.out.symm⟩, hJx3⟩⟩
      · have hl1 := decide_eq_false (show ¬ (i : Int) < (N : Int) by omega)
        have hl2 : decide (i < N) = false := decide_eq_false hlt
        have HQ := Lib.hid (show pre = runsOf s (N : Int) by rw [HP.out, show N - i = 0 by omega]; simp [runsAux])
        gi_wp2
        go_end0
        exact ⟨⟨_, rfl⟩, .inl ⟨pre, HQ.out, HJs.out⟩⟩
theorem valid_f (s : ByteArray) (m : Int) (hs : s.size ≤ 9223372036854775807) : spacebitmap_valid.f s m = some (validB s m) := by
  have hbr := bt_range s ((s.size : Int) - 1)
  rw [spacebitmap_valid.f]
  unfold validB
  by_cases c1 : m < 0
  · rw [if_pos c1, decide_eq_false (show ¬ (0 ≤ m ∧ m ≤ 4096 ∧ (s.size : Int) = (m + 7) / 8) by omega), Bool.false_and]
  · rw [if_neg c1]
    by_cases c2 : m > 4096
    · rw [if_pos c2, decide_eq_false (show ¬ (0 ≤ m ∧ m ≤ 4096 ∧ (s.size : Int) = (m + 7) / 8) by omega), Bool.false_and]
    · rw [if_neg c2]
      have e1 : spacebitmap_bytes.f m = some ((m + 7) / 8) := by
        rw [spacebitmap_bytes.f, Go.IntWalk.wrap64_in (m + 7) (by omega), Int.tdiv_eq_ediv_of_nonneg (by omega), Go.IntWalk.wrap64_in _ (by omega)]
      rw [e1, Option.bind_some]
      have e2 : Int.tmod m 8 = m % 8 := Int.tmod_eq_emod_of_nonneg (by omega)
      rw [e2]
      by_cases c3 : (s.size : Int) = (m + 7) / 8
      · rw [if_pos c3, decide_eq_true (show 0 ≤ m ∧ m ≤ 4096 ∧ (s.size : Int) = (m + 7) / 8 by omega), Bool.true_and]
        by_cases c4 : m % 8 = 0
        · rw [if_pos c4, decide_eq_true c4, Bool.true_or]
        · have e3 : wrap64 ((s.size : Int) - 1) = (s.size : Int) - 1 := Go.IntWalk.wrap64_in _ (by omega)
          rw [if_neg c4, decide_eq_false c4, Bool.false_or, e3, if_pos (show (0 : Int) ≤ (s.size : Int) - 1 by omega), if_pos (show (s.size : Int) - 1 < s.size by omega), if_pos (show (0 : Int) ≤ m % 8 by omega)]
          unfold shr
          rw [show min (m % 8).toNat (IntKind.bits .u8) = (m % 8).toNat by rw [show IntKind.bits .u8 = 8 from rfl]; omega]
          congr 1
      · rw [if_neg c3, decide_eq_false (show ¬ (0 ≤ m ∧ m ≤ 4096 ∧ (s.size : Int) = (m + 7) / 8) from fun h => c3 h.2.2), Bool.false_and]
theorem runs1_stops (n : Nat) (hn : 3 ≤ n) (B1 B2 : Nat) (s : ByteArray) (m : Int) (hs : s.size ≤ 9223372036854775807) (w : World) (l1 : B1 < w.heap.size) (l2 : B2 < w.heap.size) (h1 : w.heap[B1]? = some (.cells #[.string s] 9 (0, 0))) (h2 : w.heap[B2]? = some (.cells #[.int .i64 m] 3 (0, 0))) :
    SeqStopsK Fence.wide n Try.prog 145 #[.pointer (some ⟨B1, 0, none⟩), .pointer (some ⟨B2, 0, none⟩)] (fun x : S76 => #[.agg #[.int .i64 x.f0, .int .i64 x.f1]]) (fun W W' => ∀ k, k = B1 ∨ k = B2 → W'.heap[k]? = W.heap[k]?)
      (fun ys => ys = runsOf s m) (fun pre => pre <+: runsOf s m) (runsOf s m).length w := fun l J Jx W hW hJ _ hY h0 =>
  runs1_in n hn l B1 B2 s m J Jx W (valid_f s m hs) hY hJ ((hW.block B1 l1).trans h1) ((hW.block B2 l2).trans h2) h0
end Go.Proofs.Ytijbfebbogiiiaa.Q
