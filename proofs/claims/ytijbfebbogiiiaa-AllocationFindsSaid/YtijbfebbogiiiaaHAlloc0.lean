/- The closures of allocation.formed and EncodeShort: an extent is out of range; an extent lies in another partition. -/
import Derived.Test.YtijbfebbogiiiaaQ0
import Derived.Test.YtijbfebbogiiiaaHBase
import Derived.Test.YtijbfebbogiiiaaHLay
import Derived.Outline
import Derived.WalkSpells
import Derived.BigQuiet
import Derived.Lib.Hide
namespace Go.Proofs.Ytijbfebbogiiiaa.Q
open Go.RowKit Go.Proofs.YtijbfebbogiiiaaW.PrintWords Go.Proofs.YtijbfebbogiiiaaW.PrintLast Go.Proofs.YtijbfebbogiiiaaW.PrintMore
attribute [local go_sem] max2_int min2_int max_two min_two max_three min_three max_four min_four
set_option linter.unusedVariables false
set_option linter.unusedSimpArgs false
def extOk (x : S46) : Bool := decide (0 ≤ x.f0 ∧ x.f0 ≤ 3 ∧ 1 ≤ x.f1 ∧ x.f1 < 1073741824 ∧ 0 ≤ x.f2.f0 ∧ x.f2.f0 < 4294967296 ∧ 0 ≤ x.f2.f1 ∧ x.f2.f1 ≤ 65535)
def formedB (l : List S46) : Bool := decide (l.length ≤ 64) && l.all extOk
def extBad (a b c d : Int) : Bool := decide (a < 0) || decide (3 < a) || decide (b < 1) || decide (1073741824 ≤ b) || decide (c < 0) || decide (4294967296 ≤ c) || decide (d < 0) || decide (65535 < d)
set_option maxHeartbeats 2000000 in
theorem formed1_calls (a b c d : Int) (w : World) :
    Calls Try.prog 144 #[.agg #[.int .i64 a, .int .i64 b, .int .i64 c, .int .i64 d]] w fun e w' => e = .returned (.bool (extBad a b c d)) ∧ w' = w.alloc (.cells #[.int .i64 a, .int .i64 b, .int .i64 c, .int .i64 d] 46) := by
  cases c0 : decide (a < 0) with
  | true =>
    have E := Lib.hid (show extBad a b c d = true by simp only [extBad, c0, Bool.true_or, Bool.or_true])
    go_enter Try.func144, Try.ntmps144
    go_wp2
    go_ret
    exact ⟨by rw [E.out]; rfl, rfl⟩
  | false =>
    cases c1 : decide (3 < a) with
    | true =>
      have E := Lib.hid (show extBad a b c d = true by simp only [extBad, c0, c1, Bool.true_or, Bool.or_true])
      go_enter Try.func144, Try.ntmps144
      go_wp2
      go_ret
      exact ⟨by rw [E.out]; rfl, rfl⟩
    | false =>
      cases c2 : decide (b < 1) with
      | true =>
        have E := Lib.hid (show extBad a b c d = true by simp only [extBad, c0, c1, c2, Bool.true_or, Bool.or_true])
        go_enter Try.func144, Try.ntmps144
        go_wp2
        go_ret
        exact ⟨by rw [E.out]; rfl, rfl⟩
      | false =>
        cases c3 : decide (1073741824 ≤ b) with
        | true =>
          have E := Lib.hid (show extBad a b c d = true by simp only [extBad, c0, c1, c2, c3, Bool.true_or, Bool.or_true])
          go_enter Try.func144, Try.ntmps144
          go_wp2
          go_ret
          exact ⟨by rw [E.out]; rfl, rfl⟩
        | false =>
          cases c4 : decide (c < 0) with
          | true =>
            have E := Lib.hid (show extBad a b c d = true by simp only [extBad, c0, c1, c2, c3, c4, Bool.true_or, Bool.or_true])
            go_enter Try.func144, Try.ntmps144
            go_wp2
            go_ret
            exact ⟨by rw [E.out]; rfl, rfl⟩
          | false =>
            cases c5 : decide (4294967296 ≤ c) with
            | true =>
              have E := Lib.hid (show extBad a b c d = true by simp only [extBad, c0, c1, c2, c3, c4, c5, Bool.true_or, Bool.or_true])
              go_enter Try.func144, Try.ntmps144
              go_wp2
              go_ret
              exact ⟨by rw [E.out]; rfl, rfl⟩
            | false =>
              cases c6 : decide (d < 0) with
              | true =>
                have E := Lib.hid (show extBad a b c d = true by simp only [extBad, c0, c1, c2, c3, c4, c5, c6, Bool.true_or, Bool.or_true])
                go_enter Try.func144, Try.ntmps144
                go_wp2
                go_ret
                exact ⟨by rw [E.out]; rfl, rfl⟩
              | false =>
                cases c7 : decide (65535 < d) with
                | true =>
                  have E := Lib.hid (show extBad a b c d = true by simp only [extBad, c0, c1, c2, c3, c4, c5, c6, c7, Bool.true_or, Bool.or_true])
                  go_enter Try.func144, Try.ntmps144
                  go_wp2
                  go_ret
                  exact ⟨by rw [E.out]; rfl, rfl⟩
                | false =>
                  have E := Lib.hid (show extBad a b c d = false by simp only [extBad, c0, c1, c2, c3, c4, c5, c6, c7, Bool.or_self])
                  go_enter Try.func144, Try.ntmps144
                  go_wp2
                  go_ret
                  exact ⟨by rw [E.out]; rfl, rfl⟩
def enc46 (x : S46) : List Value := [.int .i64 x.f0, .int .i64 x.f1, .int .i64 x.f2.f0, .int .i64 x.f2.f1]
/-- A slice of extents that is read: empty, or at an address without a spot. -/
theorem C_46_at {w : World} {A : Option Addr} {l : List S46} (h : Kd.C k46 w A l.length l) : l = [] ∨ ∃ b off, A = some ⟨b, off, none⟩ ∧ ∀ j, j < l.length → ∀ (i : Nat) (v : Value), (enc46 (rd_T46 l (j : Int)))[i]? = some v → w.cell? ⟨b, off + j * 4 + i, none⟩ = some v := by
  rcases Nat.eq_zero_or_pos l.length with h0 | h0
  · exact .inl (List.eq_nil_of_length_eq_zero h0)
  · refine .inr ?_
    obtain ⟨ad, hA, hc⟩ := at_T46 h 0 (by omega) (by omega)
    obtain ⟨b, off, spot⟩ := ad
    have hs : spot = none := by
      cases spot with
      | none => rfl
      | some s => have hc0 := hc.1; simp [World.cell?, Addr.add] at hc0; split at hc0 <;> simp at hc0
    subst hs
    refine ⟨b, off, hA, fun j hj => ?_⟩
    obtain ⟨ad', hA', hc'⟩ := at_T46 h (j : Int) (by omega) (by omega)
    rw [hA] at hA'
    injection hA' with hA'
    subst hA'
    rw [Int.toNat_natCast, Addr.add_lit] at hc'
    obtain ⟨q0, q1, q2, q3⟩ := hc'
    intro i v hv
    rcases i with _ | _ | _ | _ | i
    · rw [← Option.some.inj hv]; exact q0
    · rw [← Option.some.inj hv]; exact q1
    · rw [← Option.some.inj hv]; exact q2
    · rw [← Option.some.inj hv]; exact q3
    · simp [enc46] at hv
theorem extBad_ok (x : S46) : extBad x.f0 x.f1 x.f2.f0 x.f2.f1 = !extOk x := by
  unfold extBad extOk
  rw [Bool.eq_iff_iff]
  simp only [Bool.or_eq_true, decide_eq_true_eq, Bool.not_eq_true', decide_eq_false_iff_not]
  omega
theorem notAll (l : List S46) : (!(l.any fun x => !extOk x)) = l.all extOk := by
  rw [List.not_any_eq_all_not]; simp
instance : Inhabited S46 := ⟨z46⟩
set_option maxHeartbeats 1000000 in
theorem index46_empty (a : Option Addr) (c : Nat) (fv : Value) (w : World) :
    Calls Try.prog 129 #[.slice a 0 c, fv] w fun e w' => e = .returned (.int .i64 (-1)) ∧ w' = w := by
  go_enter Try.func129, Try.ntmps129
  go_wp2
  go_loopg [5, 8] 0 (fun _ _ s8 wr => s8 = .int .i64 0 ∧ wr = w)
  case atStart => exact ⟨rfl, rfl⟩
  case round =>
    obtain ⟨rfl, rfl⟩ := hrel
    go_wp2
    go_ret
    exact ⟨rfl, rfl⟩
theorem any46_empty (a : Option Addr) (c : Nat) (fv : Value) (w : World) :
    Calls Try.prog 70 #[.slice a 0 c, fv] w fun e w' => e = .returned (.bool false) ∧ w' = w := by
  go_enter Try.func70, Try.ntmps70
  go_wp2_with (go_at_call 129; refine (index46_empty a c fv _).mono ?_; rintro e w' ⟨rfl, rfl⟩)
  go_ret
  exact ⟨rfl, rfl⟩
/-- slices.ContainsFunc over extents, whatever predicate. -/
theorem any46 (g : Nat) (lb : Array Value) (p : S46 → Bool) (eg : ∀ args w, (callFunc g args).run Try.prog w = .ok (.enter g args) w) (A : Option Addr) (c : Nat) (l : List S46) (w : World) (hr : Kd.C k46 w A l.length l) (hl : l.length ≤ 64)
    (hp : l ≠ [] → ∀ (W : World) (x : S46), Below w.heap.size w W → Calls Try.prog g (#[.agg #[.int .i64 x.f0, .int .i64 x.f1, .int .i64 x.f2.f0, .int .i64 x.f2.f1]] ++ lb) W fun e w' => e = .returned (.bool (p x)) ∧ Below w.heap.size w w') :
    Calls Try.prog 70 #[.slice A l.length c, .func (.func g) #[] lb] w fun e w' => e = .returned (.bool (l.any p)) ∧ Below w.heap.size w w' := by
  rcases C_46_at hr with rfl | ⟨b, off, rfl, hcell⟩
  · refine (any46_empty A c _ w).mono ?_
    rintro e w' ⟨rfl, rfl⟩
    exact ⟨rfl, Below.refl _ _⟩
  · by_cases h0 : l = []
    · subst h0
      refine (any46_empty _ c _ w).mono ?_
      rintro e w' ⟨rfl, rfl⟩
      exact ⟨rfl, Below.refl _ _⟩
    · have := Go.Proofs.AnyQ.slices_ContainsFunc Try.laysQ8 4 Try.isAgg46 Try.sizeOf46 enc46 (fun _ => rfl) p g lb eg b off l.length c l w (hp h0) (Nat.le_refl _) (by omega) ?_ ?_
      · refine this.mono ?_
        rintro e w' ⟨rfl, hb⟩
        exact ⟨by rw [List.take_length], hb⟩
      · have h1 := hcell 0 (List.length_pos_iff.2 h0) 0 _ rfl
        rcases Nat.lt_or_ge b w.heap.size with hlt | hge
        · exact hlt
        · simp [World.cell?, Array.getElem?_eq_none hge] at h1
      · intro j hj i v hv
        refine hcell j hj i v ?_
        have e : l[j]! = rd_T46 l (j : Int) := by simp [rd_T46, hj]
        rw [← e]; exact hv
theorem formed_any (A : Option Addr) (c : Nat) (l : List S46) (w : World) (hr : Kd.C k46 w A l.length l) (hl : l.length ≤ 64) :
    Calls Try.prog 70 #[.slice A l.length c, .func (.func 144) #[] #[]] w fun e w' => e = .returned (.bool (l.any fun x => !extOk x)) ∧ Below w.heap.size w w' := by
  have eg : ∀ args w, (callFunc 144 args).run Try.prog w = .ok (.enter 144 args) w := enters_of Try.func144 (by kernel_rfl) rfl
  refine any46 144 #[] (fun x => !extOk x) eg A c l w hr hl ?_
  intro _ W x hb
  refine (formed1_calls x.f0 x.f1 x.f2.f0 x.f2.f1 W).mono ?_
  rintro e w' ⟨rfl, rfl⟩
  exact ⟨by rw [extBad_ok], hb.alloc hb.size _⟩
set_option maxHeartbeats 1000000 in
/-- The closure of EncodeShort: an extent lies in another partition than the first one. -/
theorem other_calls (a b c d p : Int) (B b1 off n cap : Nat) (W : World) (hn : 0 < n) (hB : W.cell? ⟨B, 0, none⟩ = some (.slice (some ⟨b1, off, none⟩) n cap)) (hp : W.cell? ⟨b1, off + 3, none⟩ = some (.int .i64 p)) :
    Calls Try.prog 101 #[.agg #[.int .i64 a, .int .i64 b, .int .i64 c, .int .i64 d], .pointer (some ⟨B, 0, none⟩)] W fun e w' => e = .returned (.bool (d != p)) ∧ ∃ q, w' = (W.alloc (.cells #[.int .i64 a, .int .i64 b, .int .i64 c, .int .i64 d] 46)).drewN q := by
  have hB1 := Lib.cell?_alloc_some (.cells #[.int .i64 a, .int .i64 b, .int .i64 c, .int .i64 d] 46) hB
  have hp1 := Lib.cell?_alloc_some (.cells #[.int .i64 a, .int .i64 b, .int .i64 c, .int .i64 d] 46) hp
  go_enter Try.func101, Try.ntmps101
  go_wp2
  go_quiet (fail)
  go_wp2
  go_ret
  exact ⟨rfl, _, rfl⟩
end Go.Proofs.Ytijbfebbogiiiaa.Q
