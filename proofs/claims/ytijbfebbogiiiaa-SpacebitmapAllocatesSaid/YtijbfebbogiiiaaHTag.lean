/- Contracts of udftag.Faults and udftag.has. -/
import Derived.Test.YtijbfebbogiiiaaHBase
import Derived.Test.YtijbfebbogiiiaaQ0
import Derived.Test.YtijbfebbogiiiaaQ7
import Derived.Test.YtijbfebbogiiiaaQ8
import Derived.Test.YtijbfebbogiiiaaHBase
import Derived.Test.YtijbfebbogiiiaaHLe
import Derived.Test.YtijbfebbogiiiaaHLay
import Derived.Test.YtijbfebbogiiiaaQ7
import Derived.Test.YtijbfebbogiiiaaQ8
import Derived.Outline
import Derived.Deep.RegionHeld3
import Derived.Deep.RegionWith
import Derived.Deep.DeepCutAuto
import Derived.WalkSpells
import Derived.Lib.Hide
namespace Go.Proofs.Ytijbfebbogiiiaa.Q
open Go.RowKit Go.Proofs.YtijbfebbogiiiaaW.PrintWords Go.Proofs.YtijbfebbogiiiaaW.PrintLast Go.Proofs.YtijbfebbogiiiaaW.PrintMore
attribute [local go_sem] max2_int min2_int max_two min_two max_three min_three max_four min_four
set_option linter.unusedVariables false
set_option linter.unusedSimpArgs false

def sum8 (s : ByteArray) : Int := (s.data.toList.foldl (fun a b => (a + b.toNat) % 256) 0 : Nat)
def tagSum (s : ByteArray) : Int := sum8 (s.extract 0 4 ++ s.extract 5 16)
def faultsOf (s : ByteArray) (loc : Int) : List Int :=
  (if bt s 4 ≠ tagSum s then [2] else []) ++ (if leAt s 2 2 ≠ 2 ∧ leAt s 2 2 ≠ 3 then [3] else []) ++
  (if leAt s 10 2 > (s.size : Int) - 16 then [4] else if leAt s 8 2 ≠ crcOf (s.extract 16 (16 + leAt s 10 2).toNat) then [5] else []) ++
  (if leAt s 12 4 ≠ loc then [6] else [])
def udftag_Faults.f (a0 : ByteArray) (a1 : Int) : Option (List Int) :=
  if 9223372036854775807 < a0.size then none else if a0.size < 16 then some [1] else some (faultsOf a0 a1)
def udftag_has.f (l0 l1 : List Int) : Option Bool := if l0.length ≤ 4096 ∧ l1.length ≤ 4096 then some (l1.any fun x => l0.contains x) else none
def idxI : List Int → Int → Nat → Int
  | [], _, _ => -1
  | y :: l, x, k => if x = y then (k : Int) else idxI l x (k + 1)
theorem idxI_iff (l : List Int) (x : Int) : ∀ k, 0 ≤ idxI l x k ↔ x ∈ l := by
  induction l with
  | nil => intro k; simp [idxI]
  | cons y l ih =>
    intro k
    rw [idxI, List.mem_cons]
    by_cases h : x = y
    · rw [if_pos h]; simp [h]
    · rw [if_neg h, ih]; simp [h]
set_option maxHeartbeats 1000000 in
theorem index_calls (A : Option Addr) (c : Nat) (l : List Int) (x : Int) (w : World) (hr : Kd.C (Kd.int .i64) w A l.length l) :
    Calls Try.prog 166 #[.slice A l.length c, .int .i64 x] w fun e w' => e = .returned (.int .i64 (idxI l x 0)) ∧ w = w' := by
  have hn := hr.2.1
  have HR := Aside0.mk hr
  clear hr
  obtain ⟨n, hln⟩ : ∃ n, n = l.length := ⟨_, rfl⟩
  rw [← hln] at hn
  have HL := Lib.hid hln
  rw [← hln]
  clear hln
  go_enter Try.func166, Try.ntmps166
  go_wp2
  go_loop [5, 8] (fun j i => ∃ k : Nat, k ≤ n ∧ i = .int .i64 k ∧ Aside0 (idxI l x 0 = idxI (l.drop k) x k)) (fun _ i => n - (intOf i).toNat)
  case atStart => exact ⟨0, by omega, rfl, ⟨rfl⟩⟩
  case round =>
    obtain ⟨k, hk, rfl, HI⟩ := hrel
    by_cases hlt : k < n
    · have hl : k < l.length := by have := HL.out; omega
      obtain ⟨ad, hA, hcell⟩ := Kd.at_int HR.out (k : Int) (by omega) (by omega)
      subst hA
      have hd : l.drop k = l[k] :: l.drop (k + 1) := List.drop_eq_getElem_cons hl
      rw [Int.toNat_natCast] at hcell
      have hrd : rd l (k : Int) = l[k] := by unfold rd; simp [hl]
      have HX := Lib.hid (show idxI l x 0 = if x = rd l (k : Int) then (k : Int) else idxI (l.drop (k + 1)) x (k + 1) by rw [HI.out, hd, idxI, hrd])
      clear hd hrd HI
      generalize rd l (k : Int) = y at hcell HX
      by_cases hxy : x = y
      · have hb : (x == y) = true := beq_iff_eq.2 hxy
        have HE := Lib.hid hxy
        clear hxy
        go_wp2
        go_ret
        exact ⟨by rw [HX.out, if_pos HE.out]; rfl, rfl⟩
      · have hb : (x == y) = false := beq_eq_false_iff_ne.2 hxy
        have HE := Lib.hid hxy
        clear hxy
        go_wp2
        exact ⟨⟨k + 1, by omega, by go_num, ⟨by rw [HX.out, if_neg HE.out]⟩⟩, by simp [intOf]; omega⟩
    · have e : k = l.length := by have := HL.out; omega
      have HX := Lib.hid (show idxI l x 0 = -1 by rw [HI.out, List.drop_of_length_le (by omega)]; rfl)
      clear e HI
      go_wp2
      go_ret
      exact ⟨by rw [HX.out]; rfl, rfl⟩
theorem contains_calls (A : Option Addr) (c : Nat) (l : List Int) (x : Int) (w : World) (hr : Kd.C (Kd.int .i64) w A l.length l) :
    Calls Try.prog 150 #[.slice A l.length c, .int .i64 x] w fun e w' => e = .returned (.bool (l.contains x)) ∧ w = w' := by
  have HI := Lib.hid (fun w hr => index_calls A c l x w hr)
  have HR := Aside0.mk hr
  have HE := Lib.hid (show decide (0 ≤ idxI l x 0) = l.contains x by
    rw [Bool.eq_iff_iff, decide_eq_true_iff, idxI_iff]; simp)
  clear hr
  generalize idxI l x 0 = i at HI HE
  go_enter Try.func150, Try.ntmps150
  go_wp2_with (go_at_call 166; refine (HI.out _ HR.out).mono ?_; rintro e w' ⟨rfl, rfl⟩)
  go_ret
  exact ⟨congrArg (fun b => Ending.returned (.bool b)) HE.out, rfl⟩
theorem has1_calls (B : Nat) (A : Option Addr) (c : Nat) (l : List Int) (x : Int) (W : World) (hc : W.cell? ⟨B, 0, none⟩ = some (.slice A l.length c)) (hr : Kd.C (Kd.int .i64) W A l.length l) :
    Calls Try.prog 149 #[.int .i64 x, .pointer (some ⟨B, 0, none⟩)] W fun e w' => e = .returned (.bool (l.contains x)) ∧ W = w' := by
  have HI := Lib.hid (fun w hr => contains_calls A c l x w hr)
  have HR := Aside0.mk hr
  clear hr
  generalize l.length = n at hc HI HR
  generalize l.contains x = b at HI
  go_enter Try.func149, Try.ntmps149
  go_wp2_with (go_at_call 150; refine (HI.out _ HR.out).mono ?_; rintro e w' ⟨rfl, rfl⟩)
  go_ret
  exact ⟨rfl, rfl⟩
/-- A slice of whole numbers that is read: empty, or at an address without a spot. -/
theorem C_int_at {w : World} {A : Option Addr} {l : List Int} (h : Kd.C (Kd.int .i64) w A l.length l) : l = [] ∨ ∃ b off, A = some ⟨b, off, none⟩ ∧ ∀ j, j < l.length → w.cell? ⟨b, off + j, none⟩ = some (.int .i64 l[j]!) := by
  rcases Nat.eq_zero_or_pos l.length with h0 | h0
  · exact .inl (List.eq_nil_of_length_eq_zero h0)
  · refine .inr ?_
    obtain ⟨ad, hA, hc⟩ := Kd.at_int h 0 (by omega) (by omega)
    obtain ⟨b, off, spot⟩ := ad
    have hs : spot = none := by
      cases spot with
      | none => rfl
      | some s => simp [World.cell?, Addr.add] at hc; split at hc <;> simp at hc
    subst hs
    refine ⟨b, off, hA, fun j hj => ?_⟩
    obtain ⟨ad', hA', hc'⟩ := Kd.at_int h (j : Int) (by omega) (by omega)
    rw [hA] at hA'
    injection hA' with hA'
    subst hA'
    rw [Int.toNat_natCast, Addr.add_lit] at hc'
    rw [hc']
    unfold rd
    simp [hj]
set_option maxHeartbeats 1000000 in
theorem udftag_has.calls (A0 : Option Addr) (c0 : Nat) (l0 : List Int) (A1 : Option Addr) (c1 : Nat) (l1 : List Int) (r : Bool) (w : World) (hr0 : Kd.C (Kd.int .i64) w A0 l0.length l0) (hc0 : l0.length ≤ c0) (hr1 : Kd.C (Kd.int .i64) w A1 l1.length l1) (hc1 : l1.length ≤ c1) (h : udftag_has.f l0 l1 = some r) :
    Calls Try.prog 122 #[.slice A0 l0.length c0, .slice A1 l1.length c1] w fun e w' => e = .returned (.bool r) ∧ Below w.heap.size w w' := by
  unfold udftag_has.f at h
  split at h
  · rename_i hl
    obtain rfl := Option.some.inj h
    have eg : ∀ args w, (callFunc 149 args).run Try.prog w = .ok (.enter 149 args) w := enters_of Try.func149 (by kernel_rfl) rfl
    have hcon : ∀ W, W = w.alloc (.cells #[.slice A0 l0.length c0] 27) → Calls Try.prog 148 #[.slice A1 l1.length c1, .func (.func 149) #[] #[.pointer (some ⟨w.heap.size, 0, none⟩)]] W fun e w' => e = .returned (.bool (l1.any fun x => l0.contains x)) ∧ Below w.heap.size W w' := by
      rintro W rfl
      rcases C_int_at hr1 with rfl | ⟨b, off, rfl, hc⟩
      · refine (Try.slices_ContainsFunc_empty (α := Int) A1 c1 _ _).mono ?_
        rintro e w' ⟨rfl, rfl⟩
        exact ⟨rfl, Below.refl _ _⟩
      · have := Try.slices_ContainsFunc (α := Int) (fun x => .int .i64 x) (fun x => l0.contains x) 149 #[.pointer (some ⟨w.heap.size, 0, none⟩)] eg b off l1.length c1 l1 (w.alloc (.cells #[.slice A0 l0.length c0] 27)) ?_ (Nat.le_refl _) (by omega) ?_
        · refine this.mono ?_
          rintro e w' ⟨rfl, q, rfl⟩
          exact ⟨by rw [List.take_of_length_le (Nat.le_refl _)], pw_below_drewN (Below.refl _ _) q⟩
        · intro W x hb
          have hcW : W.cell? ⟨w.heap.size, 0, none⟩ = some (.slice A0 l0.length c0) := (hb.cell (p := ⟨w.heap.size, 0, none⟩) (by simp)).trans (by simp)
          refine (has1_calls w.heap.size A0 c0 l0 x W hcW ?_).mono ?_
          · exact Kd.C_below (Kd.C_below hr0 ((Below.refl _ _).alloc (Nat.le_refl _) _)) hb
          · rintro e w' ⟨rfl, rfl⟩
            exact ⟨rfl, 0, rfl⟩
        · intro j hj
          exact Lib.cell?_alloc_some _ (hc j hj)
    have HC := Lib.hid hcon
    clear hcon hr0 hr1 hl
    generalize (l1.any fun x => l0.contains x) = r at HC
    generalize l0.length = n0 at HC
    generalize l1.length = n1 at HC
    go_enter Try.func122, Try.ntmps122
    go_wp2_with (go_at_call 148; refine (HC.out _ rfl).mono ?_; rintro e w' ⟨rfl, hb⟩; have HB := Aside0.mk hb; clear hb)
    go_ret
    exact ⟨rfl, ((Below.refl _ _).alloc (Nat.le_refl _) _).trans HB.out⟩
  · simp at h
theorem row_set' (w : World) (g j : Nat) (v : Value) (cs : Array Value) (t : TypeId) (fr : Nat × Nat) (hg : w.heap[g]? = some (.cells cs t fr)) : (w.setCell ⟨g, j, none⟩ v).heap[g]? = some (.cells (cs.setIfInBounds j v) t fr) := by
  have hlt : g < w.heap.size := (Array.getElem?_eq_some_iff.1 hg).1
  unfold World.setCell
  simp [Array.getElem?_modify, hg]
theorem set_other' (w : World) (g g' j : Nat) (v : Value) (h : g' ≠ g) : (w.setCell ⟨g, j, none⟩ v).heap[g']? = w.heap[g']? := by
  unfold World.setCell
  simp [Array.getElem?_modify, Ne.symm h]
/-- The list of faults so far, in the variable at block B; the tag's values at block T. -/
structure FInv (w0 : World) (B T : Nat) (tv : Array Value) (xs : List Int) (W : World) : Prop where
  below : Below w0.heap.size w0 W
  base : w0.heap.size ≤ B ∧ w0.heap.size ≤ T ∧ T ≠ B
  tag : W.heap[T]? = some (.cells tv 32 (0, 0))
  out : ∃ v, W.heap[B]? = some (.cells #[v] 27 (0, 0)) ∧ Kd.R (Kd.int .i64) 3 W w0.heap.size (fun k => k ≠ B ∧ k ≠ T) v xs
theorem FInv.drewN {w0 : World} {B T : Nat} {tv : Array Value} {xs : List Int} {W : World} (h : FInv w0 B T tv xs W) (n : Nat) : FInv w0 B T tv xs (W.drewN n) :=
  ⟨pw_below_drewN h.below n, h.base, h.tag, h.out.imp fun v hv => ⟨hv.1, Kd.R_drewN hv.2 n⟩⟩
theorem FInv.drew {w0 : World} {B T : Nat} {tv : Array Value} {xs : List Int} {W : World} (h : FInv w0 B T tv xs W) : FInv w0 B T tv xs W.drew :=
  ⟨below_drew1 h.below, h.base, h.tag, h.out.imp fun v hv => ⟨hv.1, Kd.R_drew hv.2⟩⟩
theorem FInv.later {w0 : World} {B T : Nat} {tv : Array Value} {xs : List Int} {W W' : World} (h : FInv w0 B T tv xs W) (hb : Below W.heap.size W W') : FInv w0 B T tv xs W' := by
  obtain ⟨v, h1, h2⟩ := h.out
  exact ⟨below_step h.below hb, h.base, (hb.block T (Array.getElem?_eq_some_iff.1 h.tag).1).trans h.tag, v, (hb.block B (Array.getElem?_eq_some_iff.1 h1).1).trans h1, Kd.R_below h2 hb⟩
theorem FInv.cell {w0 : World} {B T : Nat} {tv : Array Value} {xs : List Int} {W : World} (h : FInv w0 B T tv xs W) : ∃ v, W.cell? ⟨B, 0, none⟩ = some v ∧ W.frozen? ⟨B, 0, none⟩ = false := by
  obtain ⟨v, h1, h2⟩ := h.out
  exact ⟨v, by simp [World.cell?, h1], by simp [World.frozen?, h1]⟩

set_option maxHeartbeats 1000000 in
theorem add_calls (w0 : World) (B T : Nat) (tv : Array Value) (xs : List Int) (f : Int) (b : Bool) (W : World) (h : FInv w0 B T tv xs W) (hx : xs.length ≤ 4096) :
    Calls Try.prog 93 #[.int .i64 f, .bool b, .pointer (some ⟨B, 0, none⟩)] W fun e w' => e = .returned (.bool b) ∧ FInv w0 B T tv (if b = true then xs ++ [f] else xs) w' := by
  cases b with
  | false =>
    have HF := Aside0.mk h
    clear h
    go_enter Try.func93, Try.ntmps93
    go_wp2
    go_ret
    exact ⟨rfl, HF.out⟩
  | true =>
    obtain ⟨v, h1, h2⟩ := h.out
    have hc : W.cell? ⟨B, 0, none⟩ = some v := by simp [World.cell?, h1]
    have hf : W.frozen? ⟨B, 0, none⟩ = false := by simp [World.frozen?, h1]
    have H1 := Aside0.mk h1
    have H2 := Aside0.mk h2
    have HF := Aside0.mk h
    obtain ⟨Ao, co, ho⟩ := Kd.R_slice h2
    have hbase := h.below.size
    clear h h1 h2
    subst ho
    go_enter Try.func93, Try.ntmps93
    go_wp2_with (at_builtin; refine Kd.R_append (Kd.int .i64) (w0 := w0) w0.heap.size rfl _ _ 27 3 (.int .i64 0) 8 rfl Try.underlying27 info3 rfl (by decide) (by omega) (.slice Ao xs.length co) xs f [.int .i64 f] (fun k => k ≠ B ∧ k ≠ T) (fun _ => False) rfl rfl ?aM (fun _ h => h.elim) ?aF H2.out HF.out.below hbase (by omega) ?_)
    case aM => exact rfl
    case aF =>
      intro k hk
      have e1 := (Array.getElem?_eq_some_iff.1 H1.out).1
      have e2 := (Array.getElem?_eq_some_iff.1 HF.out.tag).1
      omega
    intro v1 w1 hR hB hg _
    have hB1 : w1.heap[B]? = some (.cells #[Value.slice Ao xs.length co] 27 (0, 0)) := by
      rw [← H1.out]
      exact hg.block B (Array.getElem?_eq_some_iff.1 H1.out).1 (fun e => ((H2.out.1 B e.symm).1) rfl)
    have hT1 : w1.heap[T]? = some (.cells tv 32 (0, 0)) := by
      rw [← HF.out.tag]
      exact hg.block T (Array.getElem?_eq_some_iff.1 HF.out.tag).1 (fun e => ((H2.out.1 T e.symm).2) rfl)
    have hc1 : w1.cell? ⟨B, 0, none⟩ = some (Value.slice Ao xs.length co) := by simp [World.cell?, hB1]
    have hf1 : w1.frozen? ⟨B, 0, none⟩ = false := by simp [World.frozen?, hB1]
    obtain ⟨Ao1, co1, ho1⟩ := Kd.R_slice hR
    have HR := Aside0.mk hR
    have HB := Aside0.mk hB
    have HB1 := Aside0.mk hB1
    have HT1 := Aside0.mk hT1
    clear hR hB hg hB1 hT1
    subst ho1
    go_wp2
    go_ret
    refine ⟨rfl, ?_⟩
    have hba := HF.out.base
    refine ⟨below_set HB.out hba.1, hba, ?_, _, row_set' _ _ _ _ _ _ _ HB1.out, ?_⟩
    · rw [set_other' _ _ _ _ _ hba.2.2]; exact HT1.out
    · rw [show xs.length + 1 = (xs ++ [f]).length by simp]
      exact Kd.R_step HR.out (fun k hk _ => set_other' _ _ _ _ _ hk.1)

theorem FInv.len {w0 : World} {B T : Nat} {t0 t1 t2 t3 : Int} {xs : List Int} {W : World} (h : FInv w0 B T #[.int .i64 t0, .int .i64 t1, .int .i64 t2, .int .i64 t3] xs W) : W.cell? ⟨T, 2, none⟩ = some (.int .i64 t2) := by
  simp [World.cell?, h.tag]
theorem FInv.loc {w0 : World} {B T : Nat} {t0 t1 t2 t3 : Int} {xs : List Int} {W : World} (h : FInv w0 B T #[.int .i64 t0, .int .i64 t1, .int .i64 t2, .int .i64 t3] xs W) : W.cell? ⟨T, 3, none⟩ = some (.int .i64 t3) := by
  simp [World.cell?, h.tag]
theorem udftag_Faults.short (a0 : ByteArray) (a1 : Int) (w : World) (h : a0.size < 16) :
    Calls Try.prog 28 #[.string a0, .int .i64 a1] w fun e w' => ∃ v0_ : Value, e = .returned (v0_) ∧ Kd.R (Kd.int .i64) 3 w' w.heap.size (fun _ => True) v0_ [1] ∧ Below w.heap.size w w' := by
  have hd : ((a0.size : Int) < 16) = True := eq_true (by omega)
  have hd2 : (a0.size < 16) = True := eq_true (by omega)
  clear h
  go_enter Try.func28, Try.ntmps28
  go_wp2
  go_ret
  have hR : Kd.R (Kd.int .i64) 3 (w.alloc (.cells #[Value.int .i64 1] 3)) w.heap.size (fun _ => True) (.slice (some ⟨w.heap.size, 0, none⟩) 1 1) [1] := by
    have h0 : (w.alloc (.cells #[Value.int .i64 1] 3)).ownsRow w.heap.size 3 1 (.slice (some ⟨w.heap.size, 0, none⟩) 1 1) 1 [Value.int .i64 1] := ⟨rfl, .inr ⟨w.heap.size, 1, #[Value.int .i64 1], rfl, Nat.le_refl _, heap_alloc_new w _, Nat.le_refl _, by simp [maxLen], rfl, by simp⟩⟩
    exact Kd.R_of_own h0 (fun _ _ => trivial)
  exact ⟨_, rfl, hR, (Below.refl _ _).alloc (Nat.le_refl _) _⟩
def addIf (b : Bool) (f : Int) (xs : List Int) : List Int := if b = true then xs ++ [f] else xs
set_option maxHeartbeats 4000000 in
set_option maxRecDepth 100000 in
theorem udftag_Faults.walk (a0 : ByteArray) (a1 : Int) (sm t0 t1 t2 t3 vr r8 cr : Int) (k : Nat) (w : World) (h : 16 ≤ a0.size) (hs : a0.size ≤ 9223372036854775807)
    (hv : udftag_values.f a0 = some (t0, t1, t2, t3)) (hr2 : udftag_read.f a0 2 2 = some vr) (hr8 : udftag_read.f a0 8 2 = some r8) (hsum : udftag_sum.f k a0 = some sm)
    (ht2 : 0 ≤ t2) (ht2' : t2 ≤ 65535) (hcr : 0 ≤ cr) (hcr' : cr ≤ 65535) (hc : t2 ≤ (a0.size : Int) - 16 → checksum_CRC16.f (a0.extract 16 (16 + t2).toNat) = some cr) :
    Calls Try.prog 28 #[.string a0, .int .i64 a1] w fun e w' => ∃ v0_ : Value, e = .returned (v0_) ∧ Kd.R (Kd.int .i64) 3 w' w.heap.size (fun _ => True) v0_
      (addIf (t3 != a1) 6 (if t2 > (a0.size : Int) - 16 then addIf true 4 (addIf (vr != 2 && vr != 3) 3 (addIf (bt a0 4 != sm) 2 [])) else addIf (r8 != cr) 5 (addIf (vr != 2 && vr != 3) 3 (addIf (bt a0 4 != sm) 2 [])))) ∧ Below w.heap.size w w' := by
  have hd : decide (a0.size < 16) = false := decide_eq_false (by omega)
  have hd' : decide ((a0.size : Int) < 16) = false := decide_eq_false (by omega)
  have h4 : 4 < a0.size := by omega
  have hb4 : ((a0[4]'h4).toNat : Int) = bt a0 4 := bt_at a0 4 h4
  have h4i : ((4 : Int) < a0.size) = True := eq_true (by omega)
  have HV := Lib.hid hv
  have HR2 := Lib.hid hr2
  have HR8 := Lib.hid hr8
  have HS := Lib.hid hsum
  have HC0 := Lib.hid hc
  clear hv hr2 hr8 hsum hc
  go_enter Try.func28, Try.ntmps28
  go_wp2_with (first | (go_at_call 94; refine (udftag_values.calls a0 _ _ _ _ _ HV.out).mono ?_; rintro e w1 ⟨rfl, hb⟩; have HB1 := Aside0.mk hb; clear hb) | (go_at_call 95; refine (udftag_read.calls a0 2 2 _ _ HR2.out).mono ?_; rintro e w2 ⟨rfl, hd2⟩; have HD2 := Aside0.mk hd2; clear hd2))
  have HF : Aside0 (FInv w w.heap.size w1.heap.size #[.int .i64 t0, .int .i64 t1, .int .i64 t2, .int .i64 t3] [] w2) := by
    obtain ⟨n, rfl⟩ := HD2.out
    have hsz := HB1.out.size
    rw [World.size_alloc] at hsz
    refine ⟨FInv.drewN ⟨?_, ⟨Nat.le_refl _, by omega, by omega⟩, heap_alloc_new _ _, _, ?_, Kd.R_nil _ _ _ _ _⟩ n⟩
    · exact (((Below.refl _ _).alloc (Nat.le_refl _) _).trans (HB1.out.mono (by simp))).alloc (by omega) _
    · rw [Below.heap_alloc _ _ _ (by omega), HB1.out.block _ (by simp)]
      exact heap_alloc_new _ _
  have HBT := Aside0.mk HF.out.base
  clear HD2 HB1 HV
  generalize hT : w1.heap.size = T at HF HBT ⊢
  clear hT w1
  obtain ⟨B, hB⟩ : ∃ B, w.heap.size = B := ⟨_, rfl⟩
  have HBW := Lib.hid hB
  rw [hB] at HF HBT ⊢
  clear hB
  refine start_ (n := 7) (S := fun w' => FInv w B T #[.int .i64 t0, .int .i64 t1, .int .i64 t2, .int .i64 t3] [] w') (ds := [6]) #[false, false, false, false, false, false, false] (by kernel_rfl) rfl rfl (HF.out.drew) (fun hHeld => ?_)
  refine pure_ (i := 0) (N := some 18) (v := ?_) (a' := ?_) #[true, false, false, false, false, false, false] rfl rfl (by kernel_rfl) (fun _ _ _ h => h) (Or.inl ⟨by rfl, ?_⟩) ?_ ?_
  rotate_left
  · intro w'
    go_simp
    with_reducible rfl
  rotate_left
  · simp only [Act.put, List.setIfInBounds_toArray, List.set_cons_zero, List.set_cons_succ, i64_w, i32_w]
    rfl
  refine pure_ (i := 1) (N := some 19) (v := ?_) (a' := ?_) #[true, true, false, false, false, false, false] rfl rfl (by kernel_rfl) (fun _ _ _ h => h) (Or.inl ⟨by rfl, ?_⟩) ?_ ?_
  rotate_left
  · intro w'
    go_simp
    with_reducible rfl
  rotate_left
  · simp only [Act.put, List.setIfInBounds_toArray, List.set_cons_zero, List.set_cons_succ, i64_w, i32_w]
    rfl
  refine pure_ (i := 3) (N := some 21) (v := ?_) (a' := ?_) #[true, true, false, true, false, false, false] rfl rfl (by kernel_rfl) (fun _ _ _ h => h) (Or.inl ⟨by rfl, ?_⟩) ?_ ?_
  rotate_left
  · intro w'
    go_simp
    with_reducible rfl
  rotate_left
  · simp only [Act.put, List.setIfInBounds_toArray, List.set_cons_zero, List.set_cons_succ, i64_w, i32_w]
    rfl
  refine take_ (i := 2) (N := some 20) (v := ?_) (a' := ?_) #[true, true, true, true, false, false, false] rfl rfl (by kernel_rfl) (fun _ _ _ h => h) (Or.inl ⟨by rfl, ?_⟩) hHeld ?_ ?_
  rotate_left
  · intro w' s0
    go_simp
    with_reducible rfl
  rotate_left
  · simp only [Act.put, List.setIfInBounds_toArray, List.set_cons_zero, List.set_cons_succ, i64_w, i32_w]
    rfl
  refine one_ (i := 4) (N := some 22) #[true, true, true, true, true, false, false] rfl rfl (by kernel_rfl) (by decide) (fun K hK => ?_)
  refine goes_ Try.func96 (by kernel_rfl) rfl #[.string a0] (by rfl) rfl rfl (by simp only [List.map_toArray, List.map_cons, List.map_nil]; rfl) ?_
  with_reducible refine (udftag_sum.calls k a0 _ _ HS.out).mono ?_
  rintro e w3 ⟨rfl, ⟨nd, rfl⟩⟩
  refine ⟨_, rfl, ?_⟩
  refine hK.out _ _ ((hHeld.drewN nd)) (fun hHeld => ?_)
  clear hK K
  refine norm_ (a' := ?_) ?_ ?_
  rotate_left
  · show Act.put _ (some 22) _ = _
    simp only [Act.put, List.setIfInBounds_toArray, List.set_cons_zero, List.set_cons_succ, i64_w, i32_w]
    rfl
  refine pure_ (i := 5) (N := some 23) (v := ?_) (a' := ?_) #[true, true, true, true, true, true, false] rfl rfl (by kernel_rfl) (fun _ _ _ h => h) (Or.inl ⟨by rfl, ?_⟩) ?_ ?_
  rotate_left
  · intro w'
    go_simp
    with_reducible rfl
  rotate_left
  · simp only [Act.put, List.setIfInBounds_toArray, List.set_cons_zero, List.set_cons_succ, i64_w, i32_w]
    rfl
  refine last_ (i := 6) (N := some 24) #[true, true, true, true, true, true, true] rfl rfl (by kernel_rfl) (by decide) (fun K hK => ?_)
  refine call_ 93 #[.int .i64 2, .bool (bt a0 4 != sm), .pointer (some ⟨B, 0, none⟩)] (by rfl) rfl (by go_simp) ?_
  with_reducible refine (add_calls w B T #[.int .i64 t0, .int .i64 t1, .int .i64 t2, .int .i64 t3] [] 2 _ _ hHeld (by simp)).mono ?_
  rintro e w4 ⟨rfl, hF4⟩
  refine ⟨_, rfl, ?_⟩
  have HF4 := Aside0.mk hF4
  clear hF4
  refine hK.out _ _ ?_
  clear hK K
  refine norm_ (a' := ?_) ?_ ?_
  rotate_left
  · show Act.put _ (some 24) _ = _
    simp only [Act.put, List.setIfInBounds_toArray, List.set_cons_zero, List.set_cons_succ, i64_w, i32_w]
    rfl
  refine done_ (by kernel_rfl) ?_
  obtain ⟨x7, hx7⟩ : ∃ x, x = addIf (bt a0 4 != sm) 2 [] := ⟨_, rfl⟩
  have hl7 : x7.length ≤ 1 := by rw [hx7]; unfold addIf; split <;> simp
  replace HF4 : Aside0 (FInv w B T #[.int .i64 t0, .int .i64 t1, .int .i64 t2, .int .i64 t3] x7 w4) := by rw [hx7]; exact HF4
  have HX7 := Lib.hid hx7
  clear hx7 HF HS
  go_upto_region 8 with (fail)
  go_cut [] (fun wc => ∃ x8 : List Int, x8.length ≤ 2 ∧ Aside0 (x8 = addIf (vr != 2 && vr != 3) 3 x7) ∧ Aside0 (FInv w B T #[.int .i64 t0, .int .i64 t1, .int .i64 t2, .int .i64 t3] x8 wc))
  case first =>
    have hl8 : ∀ b, (addIf b 3 x7).length ≤ 2 := by
      intro b; unfold addIf; split
      · rw [List.length_append]; simp; omega
      · omega
    have HL8 := Lib.hid hl8
    clear hl8
    by_cases hv2 : vr = 2
    · have e1 : (vr != 2) = false := bne_eq_false_iff_eq.2 hv2
      have e2 : (vr == 2) = true := beq_iff_eq.2 hv2
      have HE := Lib.hid (show (vr != 2 && vr != 3) = false by rw [e1]; rfl)
      clear hv2
      go_wp2_with (go_at_call 93; refine (add_calls w B T #[.int .i64 t0, .int .i64 t1, .int .i64 t2, .int .i64 t3] x7 3 false _ HF4.out (by omega)).mono ?_; rintro e w5 ⟨rfl, hF5⟩; have HF5 := Aside0.mk hF5; clear hF5)
      go_meet
      case rel => exact ⟨_, HL8.out _, ⟨rfl⟩, ⟨by rw [HE.out]; exact HF5.out⟩⟩
    · have e1 : (vr != 2) = true := bne_iff_ne.2 hv2
      have e2 : (vr == 2) = false := beq_eq_false_iff_ne.2 hv2
      have HE := Lib.hid (show (vr != 2 && vr != 3) = (vr != 3) by rw [e1]; rfl)
      clear hv2
      go_wp2_with (go_at_call 93; refine (add_calls w B T #[.int .i64 t0, .int .i64 t1, .int .i64 t2, .int .i64 t3] x7 3 (vr != 3) _ HF4.out (by omega)).mono ?_; rintro e w5 ⟨rfl, hF5⟩; have HF5 := Aside0.mk hF5; clear hF5)
      go_meet
      case rel => exact ⟨_, HL8.out _, ⟨rfl⟩, ⟨by rw [HE.out]; exact HF5.out⟩⟩
  case rest =>
    obtain ⟨x8, hl8, HX8, HF8⟩ := hcut
    have HX9 := Lib.hid (show addIf (vr != 2 && vr != 3) 3 (addIf (bt a0 4 != sm) 2 []) = x8 by rw [HX8.out, HX7.out])
    clear HX8 HX7 HR2 HF4 hHeld
    by_cases hlen : t2 > (a0.size : Int) - 16
    · have c9 : decide ((a0.size : Int) - 16 < t2) = true := decide_eq_true hlen
      have hcell := HF8.out.len
      have HL := Lib.hid hlen
      clear hlen
      go_wp2_with (first | (go_at_call 93; refine (add_calls w B T #[.int .i64 t0, .int .i64 t1, .int .i64 t2, .int .i64 t3] (x8 ++ [4]) 6 (t3 != a1) _ HF9.out (by rw [List.length_append]; simp; omega)).mono ?_; rintro e w6 ⟨rfl, hF⟩; have HF11 := Aside0.mk hF; clear hF; obtain ⟨v, hv1, hv2⟩ := HF11.out.out; have hout : w6.cell? ⟨B, 0, none⟩ = some v := (by simp [World.cell?, hv1]); have HV2 := Aside0.mk hv2; clear hv1 hv2) | (go_at_call 93; refine (add_calls w B T #[.int .i64 t0, .int .i64 t1, .int .i64 t2, .int .i64 t3] x8 4 true _ HF8.out (by omega)).mono ?_; rintro e w5 ⟨rfl, hF9⟩; have HF9 := Aside0.mk hF9; have hloc := hF9.loc; clear hF9))
      go_ret
      refine ⟨v, rfl, ?_, HF11.out.below⟩
      rw [HX9.out]
      have := Kd.R_mono HV2.out (fun _ _ => trivial : ∀ k, k ≠ B ∧ k ≠ T → True)
      exact this
    · have c9 : decide ((a0.size : Int) - 16 < t2) = false := decide_eq_false hlen
      have hcell := HF8.out.len
      have HC := Lib.hid (HC0.out (by omega))
      have hfit : 16 + t2 ≤ (a0.size : Int) := by omega
      have HL := Lib.hid hlen
      clear hlen
      go_wp2_with (go_at_call 93; refine (add_calls w B T #[.int .i64 t0, .int .i64 t1, .int .i64 t2, .int .i64 t3] x8 4 false _ HF8.out (by omega)).mono ?_; rintro e w5 ⟨rfl, hF9⟩; have HF9 := Aside0.mk hF9; clear hF9)
      replace HF9 : Aside0 (FInv w B T #[.int .i64 t0, .int .i64 t1, .int .i64 t2, .int .i64 t3] x8 w5) := HF9
      have hs1 : (0 : Int) ≤ 16 + t2 := by omega
      have hs2 : (16 : Int) ≤ 16 + t2 := by omega
      have hw1 : IntKind.i64.wrap (16 + t2) = 16 + t2 := IntWalk.i64_in _ (by omega)
      have hw2 : IntKind.i64.wrap cr = cr := IntWalk.i64_in _ (by omega)
      refine start_ (n := 12) (S := fun w' => FInv w B T #[.int .i64 t0, .int .i64 t1, .int .i64 t2, .int .i64 t3] x8 w' ∧ w'.cell? ⟨T, 2, none⟩ = some (.int .i64 t2)) (ds := [11]) #[false, false, false, false, false, false, false, false, false, false, false, false] (by kernel_rfl) rfl rfl ⟨HF9.out.drew, (HF9.out.drew.len)⟩ (fun hHeld => ?_)
      refine pure_ (i := 0) (N := some 42) (v := ?_) (a' := ?_) #[true, false, false, false, false, false, false, false, false, false, false, false] rfl rfl (by kernel_rfl) (fun _ _ _ h => h) (Or.inl ⟨by rfl, ?_⟩) ?_ ?_
      rotate_left
      · intro w'
        go_simp
        with_reducible rfl
      rotate_left
      · simp only [Act.put, List.setIfInBounds_toArray, List.set_cons_zero, List.set_cons_succ, i64_w, i32_w]
        rfl
      refine pure_ (i := 1) (N := some 43) (v := ?_) (a' := ?_) #[true, true, false, false, false, false, false, false, false, false, false, false] rfl rfl (by kernel_rfl) (fun _ _ _ h => h) (Or.inl ⟨by rfl, ?_⟩) ?_ ?_
      rotate_left
      · intro w'
        go_simp
        with_reducible rfl
      rotate_left
      · simp only [Act.put, List.setIfInBounds_toArray, List.set_cons_zero, List.set_cons_succ, i64_w, i32_w]
        rfl
      refine pure_ (i := 3) (N := some 45) (v := ?_) (a' := ?_) #[true, true, false, true, false, false, false, false, false, false, false, false] rfl rfl (by kernel_rfl) (fun _ _ _ h => h) (Or.inl ⟨by rfl, ?_⟩) ?_ ?_
      rotate_left
      · intro w'
        go_simp
        with_reducible rfl
      rotate_left
      · simp only [Act.put, List.setIfInBounds_toArray, List.set_cons_zero, List.set_cons_succ, i64_w, i32_w]
        rfl
      refine pure_ (i := 4) (N := some 46) (v := ?_) (a' := ?_) #[true, true, false, true, true, false, false, false, false, false, false, false] rfl rfl (by kernel_rfl) (fun _ _ _ h => h) (Or.inl ⟨by rfl, ?_⟩) ?_ ?_
      rotate_left
      · intro w'
        go_simp
        with_reducible rfl
      rotate_left
      · simp only [Act.put, List.setIfInBounds_toArray, List.set_cons_zero, List.set_cons_succ, i64_w, i32_w]
        rfl
      refine take_ (i := 5) (N := some 47) (v := ?_) (a' := ?_) #[true, true, false, true, true, true, false, false, false, false, false, false] rfl rfl (by kernel_rfl) (fun _ _ _ h => h) (Or.inl ⟨by rfl, ?_⟩) hHeld ?_ ?_
      rotate_left
      · rintro w' ⟨s0, s1⟩
        go_simp
        with_reducible rfl
      rotate_left
      · simp only [Act.put, List.setIfInBounds_toArray, List.set_cons_zero, List.set_cons_succ, i64_w, i32_w]
        rfl
      refine pure_ (i := 6) (N := some 48) (v := ?_) (a' := ?_) #[true, true, false, true, true, true, true, false, false, false, false, false] rfl rfl (by kernel_rfl) (fun _ _ _ h => h) (Or.inl ⟨by rfl, ?_⟩) ?_ ?_
      rotate_left
      · intro w'
        go_simp
        with_reducible rfl
      rotate_left
      · simp only [Act.put, List.setIfInBounds_toArray, List.set_cons_zero, List.set_cons_succ, i64_w, i32_w]
        rfl
      refine pure_ (i := 7) (N := some 49) (v := ?_) (a' := ?_) #[true, true, false, true, true, true, true, true, false, false, false, false] rfl rfl (by kernel_rfl) (fun _ _ _ h => h) (Or.inl ⟨by rfl, ?_⟩) ?_ ?_
      rotate_left
      · intro w'
        go_simp
        with_reducible rfl
      rotate_left
      · simp only [Act.put, List.setIfInBounds_toArray, List.set_cons_zero, List.set_cons_succ, i64_w, i32_w]
        rfl
      refine one_ (i := 2) (N := some 44) #[true, true, true, true, true, true, true, true, false, false, false, false] rfl rfl (by kernel_rfl) (by decide) (fun K hK => ?_)
      refine goes_ Try.func95 (by kernel_rfl) rfl #[.string a0, .int .i64 8, .int .i64 2] (by rfl) rfl rfl (by simp only [List.map_toArray, List.map_cons, List.map_nil]; rfl) ?_
      with_reducible refine (udftag_read.calls a0 8 2 _ _ HR8.out).mono ?_
      rintro e w3 ⟨rfl, ⟨nd, rfl⟩⟩
      refine ⟨_, rfl, ?_⟩
      refine hK.out _ _ ⟨(hHeld.1.drewN nd), (hHeld.1.drewN nd).len⟩ (fun hHeld => ?_)
      clear hK K
      refine norm_ (a' := ?_) ?_ ?_
      rotate_left
      · show Act.put _ (some 44) _ = _
        simp only [Act.put, List.setIfInBounds_toArray, List.set_cons_zero, List.set_cons_succ, i64_w, i32_w]
        rfl
      refine one_ (i := 8) (N := some 50) #[true, true, true, true, true, true, true, true, true, false, false, false] rfl rfl (by kernel_rfl) (by decide) (fun K hK => ?_)
      refine goes_ Try.func97 (by kernel_rfl) rfl #[.string (a0.extract 16 (16 + t2).toNat)] (by rfl) rfl rfl (by simp only [List.map_toArray, List.map_cons, List.map_nil]; rfl) ?_
      with_reducible refine (checksum_CRC16.calls _ _ _ HC.out).mono ?_
      rintro e w5 ⟨rfl, hb5⟩
      refine ⟨_, rfl, ?_⟩
      refine hK.out _ _ ⟨(hHeld.1.later hb5), (hHeld.1.later hb5).len⟩ (fun hHeld => ?_)
      clear hK K
      refine norm_ (a' := ?_) ?_ ?_
      rotate_left
      · show Act.put _ (some 50) _ = _
        simp only [Act.put, List.setIfInBounds_toArray, List.set_cons_zero, List.set_cons_succ, i64_w, i32_w]
        rfl
      refine pure_ (i := 9) (N := some 51) (v := ?_) (a' := ?_) #[true, true, true, true, true, true, true, true, true, true, false, false] rfl rfl (by kernel_rfl) (fun _ _ _ h => h) (Or.inl ⟨by rfl, ?_⟩) ?_ ?_
      rotate_left
      · intro w'
        go_simp
        with_reducible rfl
      rotate_left
      · simp only [Act.put, List.setIfInBounds_toArray, List.set_cons_zero, List.set_cons_succ, i64_w, i32_w]
        rfl
      refine pure_ (i := 10) (N := some 52) (v := ?_) (a' := ?_) #[true, true, true, true, true, true, true, true, true, true, true, false] rfl rfl (by kernel_rfl) (fun _ _ _ h => h) (Or.inl ⟨by rfl, ?_⟩) ?_ ?_
      rotate_left
      · intro w'
        go_simp
        with_reducible rfl
      rotate_left
      · simp only [Act.put, List.setIfInBounds_toArray, List.set_cons_zero, List.set_cons_succ, i64_w, i32_w]
        rfl
      refine last_ (i := 11) (N := some 53) #[true, true, true, true, true, true, true, true, true, true, true, true] rfl rfl (by kernel_rfl) (by decide) (fun K hK => ?_)
      refine call_ 93 #[.int .i64 5, .bool (r8 != cr), .pointer (some ⟨B, 0, none⟩)] (by rfl) rfl (by go_simp) ?_
      with_reducible refine (add_calls w B T #[.int .i64 t0, .int .i64 t1, .int .i64 t2, .int .i64 t3] x8 5 _ _ hHeld.1 (by omega)).mono ?_
      rintro e w4 ⟨rfl, hF4⟩
      refine ⟨_, rfl, ?_⟩
      have HF10 := Aside0.mk hF4
      clear hF4
      refine hK.out _ _ ?_
      clear hK K
      refine norm_ (a' := ?_) ?_ ?_
      rotate_left
      · show Act.put _ (some 53) _ = _
        simp only [Act.put, List.setIfInBounds_toArray, List.set_cons_zero, List.set_cons_succ, i64_w, i32_w]
        rfl
      refine done_ (by kernel_rfl) ?_
      have hloc := HF10.out.loc
      clear hw1 hw2
      go_wp2_with (go_at_call 93; refine (add_calls w B T #[.int .i64 t0, .int .i64 t1, .int .i64 t2, .int .i64 t3] (addIf (r8 != cr) 5 x8) 6 (t3 != a1) _ HF10.out (by unfold addIf; split; (rw [List.length_append]; simp; omega); omega)).mono ?_; rintro e w6 ⟨rfl, hF⟩; have HF11 := Aside0.mk hF; clear hF; obtain ⟨v, hv1, hv2⟩ := HF11.out.out; have hout : w6.cell? ⟨B, 0, none⟩ = some v := (by simp [World.cell?, hv1]); have HV2 := Aside0.mk hv2; clear hv1 hv2)
      go_ret
      refine ⟨v, rfl, ?_, HF11.out.below⟩
      rw [HX9.out]
      have := Kd.R_mono HV2.out (fun _ _ => trivial : ∀ k, k ≠ B ∧ k ≠ T → True)
      exact this

theorem sum8_l0 (s : ByteArray) : ∀ (m j acc : Nat), j + m = s.size → s.size ≤ 9223372036854775807 →
    checksum_Sum8.l0 (m + 1) s (acc : Int) (s.size : Int) (j : Int) = some (((s.data.toList.drop j).foldl (fun a b => (a + b.toNat) % 256) acc : Nat) : Int) := by
  intro m
  induction m with
  | zero =>
    intro j acc hj hs
    rw [checksum_Sum8.l0, if_neg (by omega), List.drop_of_length_le (by simp only [Array.length_toList]; show s.size ≤ j; omega)]
    rfl
  | succ m ih =>
    intro j acc hj hs
    have hl : j < s.data.toList.length := by simp only [Array.length_toList]; show j < s.size; omega
    have hlt : j < s.size := by omega
    have e1 : bt s (j : Int) = ((s[j]'hlt).toNat : Int) := (bt_at s (j : Int) (by simpa using hlt)).symm
    have e2 : wrap64 ((j : Int) + 1) = ((j + 1 : Nat) : Int) := by rw [Go.IntWalk.wrap64_in _ (by omega)]; simp
    have e3 : ((acc : Int) + bt s (j : Int)) % 256 = (((acc + (s[j]'hlt).toNat) % 256 : Nat) : Int) := by rw [e1]; simp
    rw [checksum_Sum8.l0, if_pos (by omega), if_pos (by omega), if_pos (by omega), e2, e3, ih (j + 1) _ (by omega) hs, List.drop_eq_getElem_cons hl, List.foldl_cons]
    simp only [Array.getElem_toList]
    rfl
theorem Sum8_f (s : ByteArray) (h : s.size ≤ 9223372036854775807) : checksum_Sum8.f (s.size + 1) s = some (sum8 s) := by
  have := sum8_l0 s s.size 0 0 (by omega) h
  simpa [checksum_Sum8.f, sum8] using this
theorem sum_f (s : ByteArray) (h : 16 ≤ s.size) : udftag_sum.f 16 s = some (tagSum s) := by
  have e : (s.extract 0 4 ++ s.extract 5 16).size = 15 := by simp [ByteArray.size_append, ByteArray.size_extract]; omega
  have h15 := Sum8_f (s.extract 0 4 ++ s.extract 5 16) (by omega)
  rw [e] at h15
  rw [udftag_sum.f, if_pos (by omega), if_pos (by omega), if_pos (by omega), if_pos (by omega), if_pos (by simp [ByteArray.size_extract]; omega), h15]
  rfl
theorem read_f (s : ByteArray) (i n : Int) (h1 : 1 ≤ n) (h7 : n ≤ 7) (hi : 0 ≤ i) (hn : i + n ≤ s.size) (hs : s.size ≤ 9223372036854775807) : udftag_read.f s i n = some (leAt s i n.toNat) := by
  rw [udftag_read.f, endian_ReadLittle.f, if_pos ⟨h1, h7, hs⟩, if_pos ⟨hi, by omega⟩]
  rfl
theorem values_f (s : ByteArray) (h : 16 ≤ s.size) (hs : s.size ≤ 9223372036854775807) : udftag_values.f s = some (leAt s 0 2, leAt s 6 2, leAt s 10 2, leAt s 12 4) := by
  rw [udftag_values.f, read_f s 0 2 (by omega) (by omega) (by omega) (by omega) hs, read_f s 6 2 (by omega) (by omega) (by omega) (by omega) hs, read_f s 10 2 (by omega) (by omega) (by omega) (by omega) hs, read_f s 12 4 (by omega) (by omega) (by omega) (by omega) hs]
  rfl
theorem crcOf_bd (s : ByteArray) : 0 ≤ crcOf s ∧ crcOf s < 65536 := by
  unfold crcOf
  have := foldl_crc_lt s.data.toList 0 (by omega)
  omega
theorem udftag_Faults.calls (a0 : ByteArray) (a1 : Int) (r : List Int) (w : World) (h : udftag_Faults.f a0 a1 = some r) :
    Calls Try.prog 28 #[.string a0, .int .i64 a1] w fun e w' => ∃ v0_ : Value, e = .returned (v0_) ∧ Kd.R (Kd.int .i64) 3 w' w.heap.size (fun _ => True) v0_ r ∧ Below w.heap.size w w' := by
  unfold udftag_Faults.f at h
  split at h
  · simp at h
  · rename_i hs
    split at h
    · rename_i h16
      obtain rfl := Option.some.inj h
      exact udftag_Faults.short a0 a1 w h16
    · rename_i h16
      obtain rfl := Option.some.inj h
      have b10 := leAt_bd a0 10 2
      have bc := crcOf_bd (a0.extract 16 (16 + leAt a0 10 2).toNat)
      have := udftag_Faults.walk a0 a1 (tagSum a0) (leAt a0 0 2) (leAt a0 6 2) (leAt a0 10 2) (leAt a0 12 4) (leAt a0 2 2) (leAt a0 8 2) (crcOf (a0.extract 16 (16 + leAt a0 10 2).toNat)) 16 w (by omega) (by omega)
        (values_f a0 (by omega) (by omega)) (read_f a0 2 2 (by omega) (by omega) (by omega) (by omega) (by omega)) (read_f a0 8 2 (by omega) (by omega) (by omega) (by omega) (by omega)) (sum_f a0 (by omega))
        b10.1 (by omega) bc.1 (by omega) (fun _ => by rw [checksum_CRC16.f, if_pos (by simp only [ByteArray.size_extract]; omega)])
      refine this.mono ?_
      rintro e w' ⟨v, rfl, hR, hb⟩
      refine ⟨v, rfl, ?_, hb⟩
      refine (congrArg (fun l => Kd.R (Kd.int .i64) 3 w' w.heap.size (fun _ => True) v l) ?_).mp hR
      unfold faultsOf addIf
      by_cases c1 : bt a0 4 = tagSum a0 <;> by_cases c2 : leAt a0 2 2 = 2 <;> by_cases c3 : leAt a0 2 2 = 3 <;> by_cases c4 : leAt a0 10 2 > (a0.size : Int) - 16 <;>
        by_cases c5 : leAt a0 8 2 = crcOf (a0.extract 16 (16 + leAt a0 10 2).toNat) <;> by_cases c6 : leAt a0 12 4 = a1 <;> simp [c1, c2, c3, c4, c5, c6]
end Go.Proofs.Ytijbfebbogiiiaa.Q
