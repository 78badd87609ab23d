/- The contract of spacebitmap.Allocate. -/
import Derived.Test.YtijbfebbogiiiaaHSpace1
import Derived.Test.YtijbfebbogiiiaaHSpace4
import Derived.Test.YtijbfebbogiiiaaQ0
import Derived.Test.YtijbfebbogiiiaaQ24
import Derived.Test.YtijbfebbogiiiaaHSpace1
import Derived.Test.YtijbfebbogiiiaaHSpace3
import Derived.Test.YtijbfebbogiiiaaHSpace4
namespace Go.Proofs.Ytijbfebbogiiiaa.Q
open Go.RowKit Go.Proofs.YtijbfebbogiiiaaW.PrintWords Go.Proofs.YtijbfebbogiiiaaW.PrintLast Go.Proofs.YtijbfebbogiiiaaW.PrintMore
attribute [local go_sem] max2_int min2_int max_two min_two max_three min_three max_four min_four
set_option linter.unusedVariables false
set_option linter.unusedSimpArgs false
open Go.Shelf
attribute [local go_sem] Oper.semAt_some
theorem grownBy_cell (W : World) (B j : Nat) (v : Value) : W.grownBy (W.setCell ⟨B, j, none⟩ v) (some B) :=
  ⟨rfl, rfl, rfl, (KeepsWalks.setCell W _ v).size, fun k _ hk => Below.heap_setCell _ _ _ k (fun e => hk (by rw [e]))⟩
theorem wp_normal {P : Program} {c : Code} {Q : Exit → Act → World → Prop} {a : Act} {w : World} (h : c.wp P (fun e a w => e = .normal ∧ Q .normal a w) a w) : c.wp P Q a w :=
  Code.wp_mono (fun e a w hq => by obtain ⟨rfl, hq⟩ := hq; exact hq) h
/-- Allocate's loop as the machine reckons it: the spans, and how many blocks are still wanted. -/
def takeW : List S76 → Int → List S76
  | [], _ => []
  | x :: l, c => if c = 0 then [] else ⟨x.f0, if c < x.f1 then c else x.f1⟩ :: takeW l (IntKind.i64.wrap (c - if c < x.f1 then c else x.f1))
def remW : List S76 → Int → Int
  | [], c => c
  | x :: l, c => if c = 0 then 0 else remW l (IntKind.i64.wrap (c - if c < x.f1 then c else x.f1))
theorem take_snoc (x : S76) : ∀ (l : List S76) (c : Int), takeW (l ++ [x]) c = (if remW l c = 0 then takeW l c else takeW l c ++ [⟨x.f0, if remW l c < x.f1 then remW l c else x.f1⟩]) ∧
    remW (l ++ [x]) c = (if remW l c = 0 then 0 else IntKind.i64.wrap (remW l c - if remW l c < x.f1 then remW l c else x.f1)) := by
  intro l
  induction l with
  | nil =>
    intro c
    by_cases h : c = 0
    · simp [takeW, remW, h]
    · have e1 : takeW [x] c = [⟨x.f0, if c < x.f1 then c else x.f1⟩] := by rw [takeW, if_neg h]; rfl
      have e2 : remW [x] c = IntKind.i64.wrap (c - if c < x.f1 then c else x.f1) := by rw [remW, if_neg h]; rfl
      have e3 : remW [] c = c := rfl
      have e4 : takeW [] c = [] := rfl
      rw [List.nil_append, e1, e2, e3, e4, if_neg h, if_neg h]
      exact ⟨rfl, rfl⟩
  | cons y l ih =>
    intro c
    by_cases h : c = 0
    · simp [takeW, remW, h]
    · have h1 := ih (IntKind.i64.wrap (c - if c < y.f1 then c else y.f1))
      rw [List.cons_append, takeW, if_neg h, takeW, if_neg h, remW, if_neg h, remW, if_neg h, h1.1, h1.2]
      refine ⟨?_, rfl⟩
      by_cases hz : remW l (IntKind.i64.wrap (c - if c < y.f1 then c else y.f1)) = 0
      · rw [if_pos hz, if_pos hz]
      · rw [if_neg hz, if_neg hz]; rfl
theorem take_stop : ∀ (l t : List S76) (c : Int), remW l c = 0 → takeW (l ++ t) c = takeW l c := by
  intro l
  induction l with
  | nil =>
    intro t c h
    have h : c = 0 := h
    subst h
    cases t <;> simp [takeW]
  | cons y l ih =>
    intro t c h
    by_cases h0 : c = 0
    · simp [takeW, h0]
    · rw [remW, if_neg h0] at h
      rw [List.cons_append, takeW, if_neg h0, takeW, if_neg h0, ih t _ h]
theorem takeW_eq : ∀ (l : List S76) (c : Int), 0 ≤ c → c ≤ 4611686018427387904 → (∀ x ∈ l, 0 ≤ x.f1) → takeW l c = takeRuns l c := by
  intro l
  induction l with
  | nil => intro c _ _ _; rfl
  | cons y l ih =>
    intro c h0 h1 hx
    have hy := hx y (List.mem_cons_self ..)
    rw [takeW, takeRuns]
    by_cases hz : c = 0
    · rw [if_pos hz, if_pos hz]
    · rw [if_neg hz, if_neg hz]
      have hb : 0 ≤ c - (if c < y.f1 then c else y.f1) ∧ c - (if c < y.f1 then c else y.f1) ≤ c := by split <;> omega
      rw [show IntKind.i64.wrap (c - if c < y.f1 then c else y.f1) = c - (if c < y.f1 then c else y.f1) from IntWalk.i64_in _ (by omega)]
      rw [ih _ hb.1 (by omega) (fun z hz => hx z (List.mem_cons_of_mem _ hz))]
theorem takeW_len : ∀ (l : List S76) (c : Int), (takeW l c).length ≤ l.length := by
  intro l
  induction l with
  | nil => intro c; simp [takeW]
  | cons y l ih =>
    intro c
    rw [takeW]
    split
    · simp
    · rw [List.length_cons, List.length_cons]; exact Nat.succ_le_succ (ih _)
theorem runs_in (p : Nat → Bool) : ∀ r i st, (∀ s, st = some s → s ≤ i) → ∀ x ∈ runsAux p r i st, 0 ≤ x.f0 ∧ 0 ≤ x.f1 ∧ x.f0 + x.f1 ≤ i + r := by
  intro r
  induction r with
  | zero =>
    intro i st hs x hx
    cases st with
    | none => simp [runsAux] at hx
    | some st => have := hs st rfl; simp only [runsAux, List.mem_singleton] at hx; rw [hx]; refine ⟨by simp, by simp, by simp; omega⟩
  | succ r ih =>
    intro i st hs x hx
    cases st with
    | none =>
      rw [runsAux] at hx
      split at hx
      · have := ih _ _ (by intro s e; cases e; omega) x hx; omega
      · have := ih _ _ (by intro s e; cases e) x hx; omega
    | some st =>
      have h0 := hs st rfl
      rw [runsAux] at hx
      split at hx
      · have := ih _ _ (by intro s e; cases e; omega) x hx; omega
      · rcases List.mem_cons.1 hx with e | hx
        · rw [e]; refine ⟨by simp, by simp, by simp; omega⟩
        · have := ih _ _ (by intro s e; cases e) x hx; omega
theorem take_in (n : Int) : ∀ (l : List S76) (c : Int), 0 ≤ c → (∀ x ∈ l, 0 ≤ x.f0 ∧ 0 ≤ x.f1 ∧ x.f0 + x.f1 ≤ n) → ∀ x ∈ takeRuns l c, 0 ≤ x.f0 ∧ 0 ≤ x.f1 ∧ x.f0 + x.f1 ≤ n := by
  intro l
  induction l with
  | nil => intro c _ _ x hx; simp [takeRuns] at hx
  | cons y l ih =>
    intro c hc hl x hx
    have hy := hl y (List.mem_cons_self ..)
    rw [takeRuns] at hx
    by_cases h0 : c = 0
    · rw [if_pos h0] at hx; simp at hx
    · rw [if_neg h0] at hx
      rcases List.mem_cons.1 hx with e | hx
      · rw [e]; refine ⟨hy.1, ?_, ?_⟩
        · show 0 ≤ (if c < y.f1 then c else y.f1); split <;> omega
        · show y.f0 + (if c < y.f1 then c else y.f1) ≤ n; split <;> omega
      · exact ih _ (by split <;> omega) (fun z hz => hl z (List.mem_cons_of_mem _ hz)) x hx
theorem take_len : ∀ (l : List S76) (c : Int), (takeRuns l c).length ≤ l.length := by
  intro l
  induction l with
  | nil => intro c; simp [takeRuns]
  | cons y l ih =>
    intro c
    rw [takeRuns]
    split
    · simp
    · rw [List.length_cons, List.length_cons]; exact Nat.succ_le_succ (ih _)
theorem marked_take (s : ByteArray) (m c : Int) (h : validB s m = true) (hc : 0 ≤ c) (b : Bool) : spacebitmap_marked.f s (takeRuns (runsOf s m) c) b = some (strOfNums (markNums s (takeRuns (runsOf s m) c) b)) := by
  have hv := h
  unfold validB at hv
  rw [Bool.and_eq_true, decide_eq_true_iff] at hv
  obtain ⟨⟨h0, h1, h2⟩, _⟩ := hv
  have hl := runsOf_len s m
  have hk := take_len (runsOf s m) c
  rw [spacebitmap_marked.f, if_pos]
  refine ⟨by omega, by omega, fun x hx => ?_⟩
  have := take_in (8 * s.size) (runsOf s m) c hc (fun y hy => by
    rw [runsOf, if_pos h] at hy
    have := runs_in (bitOf s) m.toNat 0 none (by intro s e; cases e) y hy
    omega) x hx
  exact this
def spacebitmap_Allocate.f (a0 : ByteArray) (a1 a2 : Int) : Option (List S76 × ByteArray × Int) :=
  if a0.size ≤ 1000000 then (if validB a0 a1 = true then (if a2 < 0 then some ([], ⟨#[]⟩, 2) else if countOf (runsOf a0 a1) < a2 then some ([], ⟨#[]⟩, 12)
    else some (takeRuns (runsOf a0 a1) a2, strOfNums (markNums a0 (takeRuns (runsOf a0 a1) a2) false), 0)) else some ([], ⟨#[]⟩, 1)) else none
set_option maxRecDepth 100000 in
set_option maxHeartbeats 8000000 in
theorem spacebitmap_Allocate.calls (a0 : ByteArray) (a1 a2 : Int) (r1 : List S76) (r2 : ByteArray) (r3 : Int) (w : World) (h : spacebitmap_Allocate.f a0 a1 a2 = some (r1, r2, r3)) :
    Calls Try.prog 84 #[.string a0, .int .i64 a1, .int .i64 a2] w fun e w' => ∃ v0_ : Value, e = .returned (.tuple #[v0_, .string r2, .int .i64 r3]) ∧ Kd.R k76 76 w' w.heap.size (fun _ => True) v0_ r1 ∧ Below w.heap.size w w' := by
  unfold spacebitmap_Allocate.f at h
  split at h
  · rename_i hs
    have hvf := valid_f a0 a1 (by omega)
    refine (callsIn_wide (n := 9)).1 ?_
    have h113 : Fence.wide.fn 113 := trivial
    have h134 : Fence.wide.fn 134 := trivial
    have h145 : Fence.wide.fn 145 := trivial
    have hn1 : 1 ≤ 9 := by omega
    obtain ⟨b, hb⟩ : ∃ b, w.heap.size = b := ⟨_, rfl⟩
    cases hv : validB a0 a1 with
    | false =>
      rw [hv] at h hvf
      simp only [Bool.false_eq_true, if_false, Option.some.injEq, Prod.mk.injEq] at h
      obtain ⟨rfl, rfl, rfl⟩ := h
      have HV := Lib.hid hvf
      clear hvf hv
      refine callsIn_of_wp_marks Try.func84 rfl trivial ?_ rfl
      simp only [Try.ntmps84, List.size_toArray, List.length_cons, List.length_nil, Nat.reduceAdd, Nat.reduceSub, Array.replicate_succ, Array.replicate_zero, List.push_toArray, List.append_toArray, List.nil_append, List.cons_append]
      gi_wp2_with (gi_at_call 134; (with_reducible refine (callsIn_wide.2 (spacebitmap_valid.calls a0 a1 false _ HV.out)).mono ?_); rintro e w1 ⟨rfl, ⟨nd, rfl⟩⟩)
      rw [← hb]
      exact ⟨.tuple #[.slice none 0 0, .string ⟨#[]⟩, .int .i64 1], by simp [results, Try.f84, go_sem], .slice none 0 0, rfl, Kd.R_nil _ _ _ _ _, pw_below_drewN (below_alloc (Below.refl _ _) _) nd⟩
    | true =>
      rw [hv] at h hvf
      rw [if_pos rfl] at h
      have HV := Lib.hid hvf
      have HVB := Lib.hid hv
      clear hvf hv
      by_cases hneg : a2 < 0
      · rw [if_pos hneg] at h
        simp only [Option.some.injEq, Prod.mk.injEq] at h
        obtain ⟨rfl, rfl, rfl⟩ := h
        have d1 := decide_eq_true hneg
        clear hneg
        refine callsIn_of_wp_marks Try.func84 rfl trivial ?_ rfl
        simp only [Try.ntmps84, List.size_toArray, List.length_cons, List.length_nil, Nat.reduceAdd, Nat.reduceSub, Array.replicate_succ, Array.replicate_zero, List.push_toArray, List.append_toArray, List.nil_append, List.cons_append]
        gi_wp2_with (gi_at_call 134; (with_reducible refine (callsIn_wide.2 (spacebitmap_valid.calls a0 a1 true _ HV.out)).mono ?_); rintro e w1 ⟨rfl, ⟨nd, rfl⟩⟩)
        rw [← hb]
        exact ⟨.tuple #[.slice none 0 0, .string ⟨#[]⟩, .int .i64 2], by simp [results, Try.f84, go_sem], .slice none 0 0, rfl, Kd.R_nil _ _ _ _ _, pw_below_drewN (below_alloc (Below.refl _ _) _) nd⟩
      · rw [if_neg hneg] at h
        have d1 := decide_eq_false hneg
        have HF := Lib.hid (show spacebitmap_Free.f a0 a1 = some (countOf (runsOf a0 a1)) by rw [spacebitmap_Free.f, if_pos hs])
        have hcnt := (runsOf_sum a0 a1).2
        have hpos : 0 ≤ a2 := by omega
        clear hneg
        have HH := Lib.hid h
        clear h
        obtain ⟨fr, hfr⟩ : ∃ fr, countOf (runsOf a0 a1) = fr := ⟨_, rfl⟩
        rw [hfr] at HF hcnt HH
        clear hfr
        refine callsIn_of_wp_marks Try.func84 rfl trivial ?_ rfl
        simp only [Try.ntmps84, List.size_toArray, List.length_cons, List.length_nil, Nat.reduceAdd, Nat.reduceSub, Array.replicate_succ, Array.replicate_zero, List.push_toArray, List.append_toArray, List.nil_append, List.cons_append]
        gi_wp2_with (gi_at_call 134; (with_reducible refine (callsIn_wide.2 (spacebitmap_valid.calls a0 a1 true _ HV.out)).mono ?_); rintro e w1 ⟨rfl, ⟨nd, rfl⟩⟩)
        have HC := Aside0.mk (show ((w.alloc (.cells #[.int .i64 a2] 3)).drewN nd).heap[b]? = some (.cells #[.int .i64 a2] 3 (0, 0)) by rw [← hb]; exact blk_new w _)
        have HB0 := Aside0.mk (pw_below_drewN (below_alloc (Below.refl w.heap.size w) (.cells #[.int .i64 a2] 3)) nd)
        generalize (w.alloc (.cells #[.int .i64 a2] 3)).drewN nd = W1 at HC HB0 ⊢
        refine wpIn_wide.2 (wp_normal ?_)
        refine start_ (n := 6) (S := fun w' => w'.heap[b]? = some (.cells #[.int .i64 a2] 3 (0, 0)) ∧ Below w.heap.size w w' ∧ w'.cell? ⟨b, 0, none⟩ = some (.int .i64 a2)) (ds := []) #[false, false, false, false, false, false] (by kernel_rfl) rfl rfl ⟨(blk_drew HC.out), (below_drew1 HB0.out), ((blk_cell (blk_drew HC.out) 0).trans rfl)⟩ (fun hHeld => ?_)
        refine pure_ (i := 0) (N := some 20) (v := ?_) (a' := ?_) #[true, false, false, false, false, false] rfl rfl (by kernel_rfl) (fun _ _ _ h => nomatch h.1) (Or.inl ⟨by rfl, ?_⟩) ?_ ?_
        rotate_left
        · intro w'
          go_simp
          with_reducible rfl
        rotate_left
        · simp only [Act.put, List.setIfInBounds_toArray, List.set_cons_zero, List.set_cons_succ, i64_w, i32_w]
          rfl
        refine pure_ (i := 1) (N := some 21) (v := ?_) (a' := ?_) #[true, true, false, false, false, false] rfl rfl (by kernel_rfl) (fun _ _ _ h => nomatch h.1) (Or.inl ⟨by rfl, ?_⟩) ?_ ?_
        rotate_left
        · intro w'
          go_simp
          with_reducible rfl
        rotate_left
        · simp only [Act.put, List.setIfInBounds_toArray, List.set_cons_zero, List.set_cons_succ, i64_w, i32_w]
          rfl
        refine take_ (i := 3) (N := some 23) (v := ?_) (a' := ?_) #[true, true, false, true, false, false] rfl rfl (by kernel_rfl) (fun _ _ _ h => nomatch h.1) (Or.inl ⟨by rfl, ?_⟩) hHeld ?_ ?_
        rotate_left
        · rintro w' ⟨s0, s1, s2⟩
          go_simp
          with_reducible rfl
        rotate_left
        · simp only [Act.put, List.setIfInBounds_toArray, List.set_cons_zero, List.set_cons_succ, i64_w, i32_w]
          rfl
        refine one_ (i := 2) (N := some 22) #[true, true, true, true, false, false] rfl rfl (by kernel_rfl) (by decide) (fun K hK => ?_)
        refine goes_ Try.func79 (by kernel_rfl) rfl #[.string a0, .int .i64 a1] (by rfl) rfl rfl (by simp only [List.map_toArray, List.map_cons, List.map_nil]; rfl) ?_
        with_reducible refine (spacebitmap_Free.calls a0 a1 _ _ HF.out).mono ?_
        rintro e w3 ⟨rfl, hb3⟩
        refine ⟨_, rfl, ?_⟩
        refine hK.out _ _ ⟨(blk_below hHeld.1 hb3), (below_step hHeld.2.1 hb3), ((blk_cell (blk_below hHeld.1 hb3) 0).trans rfl)⟩ (fun hHeld => ?_)
        clear hK K
        refine norm_ (a' := ?_) ?_ ?_
        rotate_left
        · show Act.put _ (some 22) _ = _
          simp only [Act.put, List.setIfInBounds_toArray, List.set_cons_zero, List.set_cons_succ, i64_w, i32_w]
          rfl
        refine pure_ (i := 4) (N := some 24) (v := ?_) (a' := ?_) #[true, true, true, true, true, false] rfl rfl (by kernel_rfl) (fun _ _ _ h => nomatch h.1) (Or.inl ⟨by rfl, ?_⟩) ?_ ?_
        rotate_left
        · intro w'
          go_simp
          with_reducible rfl
        rotate_left
        · simp only [Act.put, List.setIfInBounds_toArray, List.set_cons_zero, List.set_cons_succ, i64_w, i32_w]
          rfl
        refine pure_ (i := 5) (N := some 19) (v := ?_) (a' := ?_) #[true, true, true, true, true, true] rfl rfl (by kernel_rfl) (fun _ _ _ h => nomatch h.1) (Or.inl ⟨by rfl, ?_⟩) ?_ ?_
        rotate_left
        · intro w'
          go_simp
          with_reducible rfl
        rotate_left
        · simp only [Act.put, List.setIfInBounds_toArray, List.set_cons_zero, List.set_cons_succ, i64_w, i32_w]
          rfl
        refine done_ (by kernel_rfl) ?_
        refine ⟨rfl, ?_⟩
        have HCC := Aside0.mk hHeld.1
        have HBB := Aside0.mk hHeld.2.1
        clear hHeld
        generalize w3 = W3 at HCC HBB ⊢
        by_cases hfull : fr < a2
        · have d2 := decide_eq_true hfull
          have h := HH.out
          rw [if_pos hfull] at h
          simp only [Option.some.injEq, Prod.mk.injEq] at h
          obtain ⟨rfl, rfl, rfl⟩ := h
          clear hfull HH
          rw [d2]
          gi_wp2
          rw [← hb]
          exact ⟨.tuple #[.slice none 0 0, .string ⟨#[]⟩, .int .i64 12], by simp [results, Try.f84, go_sem], .slice none 0 0, rfl, Kd.R_nil _ _ _ _ _, HBB.out⟩
        · have d2 := decide_eq_false hfull
          have h := HH.out
          rw [if_neg hfull] at h
          simp only [Option.some.injEq, Prod.mk.injEq] at h
          obtain ⟨h1, h2, h3⟩ := h
          have HM := Lib.hid (marked_take a0 a1 a2 HVB.out hpos false)
          rw [h2, h1] at HM
          have H1 := Lib.hid h1
          clear h1 h2 HH
          subst h3
          rw [d2]
          gi_wp2_with (gi_at_call 113; (with_reducible refine (callsIn_wide.2 (runs_calls a0 a1 _)).mono ?_); rintro e w' ⟨rfl, rfl⟩)
          obtain ⟨s1, hs1⟩ : ∃ s1, W3.heap.size = s1 := ⟨_, rfl⟩
          have hbs : b < s1 := by rw [← hs1]; exact (Array.getElem?_eq_some_iff.1 HCC.out).1
          have hC := blk_alloc (blk_alloc (blk_alloc HCC.out (.cells #[.slice none 0 0] 70)) (.cells #[.string a0] 9)) (.cells #[.int .i64 a1] 3)
          have hO := blk_alloc (blk_alloc (blk_new W3 (.cells #[.slice none 0 0] 70)) (.cells #[.string a0] 9)) (.cells #[.int .i64 a1] 3)
          have hS := blk_alloc (blk_new (W3.alloc (.cells #[.slice none 0 0] 70)) (.cells #[.string a0] 9)) (.cells #[.int .i64 a1] 3)
          have hM := blk_new ((W3.alloc (.cells #[.slice none 0 0] 70)).alloc (.cells #[.string a0] 9)) (.cells #[.int .i64 a1] 3)
          have hBa : Below w.heap.size w (((W3.alloc (.cells #[.slice none 0 0] 70)).alloc (.cells #[.string a0] 9)).alloc (.cells #[.int .i64 a1] 3)) := below_alloc (below_alloc (below_alloc HBB.out _) _) _
          have hsz : (((W3.alloc (.cells #[.slice none 0 0] 70)).alloc (.cells #[.string a0] 9)).alloc (.cells #[.int .i64 a1] 3)).heap.size = s1 + 3 := by simp [hs1]
          simp only [World.size_alloc] at hS hM hO
          obtain ⟨W0, hW0⟩ : ∃ W0, ((W3.alloc (.cells #[.slice none 0 0] 70)).alloc (.cells #[.string a0] 9)).alloc (.cells #[.int .i64 a1] 3) = W0 := ⟨_, rfl⟩
          rw [hW0] at hC hO hS hM hBa hsz ⊢
          rw [hs1] at hO hS hM ⊢
          clear hW0 HCC HBB
          rw [hb] at hBa
          obtain ⟨i0, hi, hz0, hz1, hz2⟩ := info_parts info76
          have hlen := runsOf_len a0 a1
          have hnn : ∀ x ∈ runsOf a0 a1, 0 ≤ x.f1 := fun x hx => by
            rw [runsOf, if_pos HVB.out] at hx
            exact (runs_nonneg (bitOf a0) _ _ _ x hx).2
          refine wpIn_rangeFunc_ownH rfl hn1 (gf := 145) (lb := #[.pointer (some ⟨s1 + 1, 0, none⟩), .pointer (some ⟨s1 + 1 + 1, 0, none⟩)]) rfl h145 (enters_of Try.func145 (by kernel_rfl) rfl)
            (runs1_stops 8 (by omega) (s1 + 1) (s1 + 1 + 1) a0 a1 (by omega) W0 (by omega) (by omega) hS hM) (fun h1 h2 k hk => (h2 k hk).trans (h1 k hk)) (fun W l o o' hl ho hc hw k hk => set_obj _ _ _ _ (by omega)) (Below.refl _ _) (fun _ => rfl)
            (fun pre W => (((∃ v, Boxed W s1 70 v ∧ W.ownsRow b 76 2 v (takeW pre a2).length (spanCells (takeW pre a2)) ∧ True) ∧ W.heap[b]? = some (.cells #[.int .i64 (remW pre a2)] 3 (0, 0)) ∧ W.heap[s1 + 1]? = some (.cells #[.string a0] 9 (0, 0)) ∧ W.heap[s1 + 1 + 1]? = some (.cells #[.int .i64 a1] 3 (0, 0))) ∧ Below b w W))
            (fun c pre W => ((c = .exit 1 ∧ remW pre a2 = 0) ∧ (∃ v, Boxed W s1 70 v ∧ W.ownsRow b 76 2 v (takeW pre a2).length (spanCells (takeW pre a2)) ∧ True)) ∧ Below b w W)
            (OwnFrom.and (OwnFrom.and (Own.from (holdsRow_own b s1 70 76 2 (fun pre : List S76 => (takeW pre a2).length) (fun pre => spanCells (takeW pre a2)) (fun _ _ => True)) _) (OwnFrom.and (Own.from (block_own b (fun pre => #[.int .i64 (remW pre a2)]) 3) _) (OwnFrom.and (Own.from (block_own (s1 + 1) (fun _ => #[.string a0]) 9) _) (Own.from (block_own (s1 + 1 + 1) (fun _ => #[.int .i64 a1]) 3) _)))) (ownFrom_below (Nat.le_of_eq hb.symm) (by omega)))
            (fun c => OwnFrom.and (OwnFrom.and (ownFrom_pure _ _) (Own.from (holdsRow_own b s1 70 76 2 (fun pre : List S76 => (takeW pre a2).length) (fun pre => spanCells (takeW pre a2)) (fun _ _ => True)) _)) (ownFrom_below (Nat.le_of_eq hb.symm) (by omega)))
            ⟨⟨⟨_, hO, World.ownsRow_nil _ _ _ _, trivial⟩, hC, hS, hM⟩, hBa⟩
            (fun x a' W => ∃ Bx v', s1 + 1 + 1 < Bx ∧ W.heap[Bx]? = some (.cells #[.int .i64 x.f0, .int .i64 x.f1] 76 (0, 0)) ∧ Boxed W s1 70 v' ∧ v'.ownBlock ≠ some Bx ∧ a' = { tmps := #[.string a0, .int .i64 a1, .int .i64 a2, undef, undef, .pointer (some ⟨b, 0, none⟩), .slice none 0 0, .string ⟨#[]⟩, .int .i64 0, .pointer (some ⟨s1, 0, none⟩), .pointer (some ⟨Bx, 0, none⟩), .bool false, .string a0, .int .i64 a1, .bool true, .bool false, .bool false, .int .i64 a2, .bool false, .bool false, .string a0, .int .i64 a1, .int .i64 fr, .int .i64 a2, .bool false, .string a0, .int .i64 a1, .func (.func 145) #[] #[.pointer (some ⟨s1 + 1, 0, none⟩), .pointer (some ⟨s1 + 1 + 1, 0, none⟩)], .agg #[.int .i64 x.f0, .int .i64 x.f1], undef, undef, undef, undef, undef, undef, undef, undef, undef, undef, undef, undef, undef, undef, undef, undef, undef, undef, undef], defers := [] })
            (fun x a' _ X Y row hs hg hr => by obtain ⟨Bx, v', h1, h2, h3, h4, h5⟩ := hs; exact ⟨Bx, v', h1, block_own Bx (fun (_ : Unit) => #[.int .i64 x.f0, .int .i64 x.f1]) 76 () X Y row h2 hg (fun r e => (hr r e).2), block_own s1 (fun (_ : Unit) => #[v']) 70 () X Y row h3 hg (fun r e => (hr r e).2), h4, h5⟩)
            ?assign ?body ?done ?stop
          case assign =>
            rintro l pre x W K ⟨⟨⟨v, hv, hrow, _⟩, b1, b2, b3⟩, hB1⟩ hK
            gi_wp2
            have h3 := (Array.getElem?_eq_some_iff.1 b3).1
            exact hK _ _ ((KeepsOthers.alloc _ _).from _) (fun k hk => Below.heap_alloc _ _ k (by omega)) ⟨⟨⟨v, hv.alloc _, hrow.alloc _, trivial⟩, blk_alloc b1 _, blk_alloc b2 _, blk_alloc b3 _⟩, hB1.alloc (by omega) _⟩ ⟨W.heap.size, v, h3, blk_new _ _, hv.alloc _, fun e => absurd (hrow.lt _ e).2 (Nat.lt_irrefl _), rfl⟩
          case body =>
            rintro l pre x a' W hl ⟨rr1, hr1⟩ ⟨⟨⟨v, hv, hrow, _⟩, b1, b2, b3⟩, hB1⟩ ⟨Bx, v', hBx, bX, hv', hne, rfl⟩ hlt
            have ev : v' = v := by
              have := (show W.heap[s1]? = _ from hv').symm.trans hv
              simpa using this
            subst ev
            have hsn := take_snoc x pre a2
            obtain ⟨rem, hrem⟩ : ∃ rem, remW pre a2 = rem := ⟨_, rfl⟩
            rw [hrem] at hsn b1
            have hlx : (takeW pre a2).length ≤ 4097 := by have := takeW_len pre a2; omega
            by_cases hz : rem = 0
            · rw [if_pos hz, if_pos hz] at hsn
              have z1 : (rem == 0) = true := beq_iff_eq.2 hz
              have cN := (blk_cell b1 0).trans rfl
              have HSN := Lib.hid hsn
              clear hsn hz
              gi_wp2
              exact ⟨KeepsFrom.refl _ _, ⟨⟨rfl, HSN.out.2⟩, ⟨v', hv, by rw [HSN.out.1]; exact hrow, trivial⟩⟩, hB1⟩
            · rw [if_neg hz, if_neg hz] at hsn
              have z1 : (rem == 0) = false := beq_eq_false_iff_ne.2 hz
              obtain ⟨m, hm⟩ : ∃ m, (if rem < x.f1 then rem else x.f1) = m := ⟨_, rfl⟩
              obtain ⟨d, hd⟩ : ∃ d, IntKind.i64.wrap (rem - m) = d := ⟨_, rfl⟩
              rw [hm, hd] at hsn
              have HSN := Lib.hid hsn
              clear hsn hz
              have cN := (blk_cell b1 0).trans rfl
              have fN := blk_frozen b1 0
              have cX0 := (blk_cell bX 0).trans rfl
              have cX := (blk_cell bX 1).trans rfl
              have fX := blk_frozen bX 1
              have g1 := grownBy_cell W Bx 1 (.int .i64 m)
              have g2 := grownBy_cell (W.setCell ⟨Bx, 1, none⟩ (.int .i64 m)) b 0 (.int .i64 d)
              have hb1' : Boxed (W.setCell ⟨Bx, 1, none⟩ (.int .i64 m)) b 3 (.int .i64 rem) := (set_other46 _ _ _ _ _ (by omega)).trans b1
              have hrow1 := hrow.kept g1 (.inr hne)
              have hrow2 := hrow1.kept g2 (.inr (fun e => Boxed.not_row hb1' (by decide) hrow1 e.symm))
              have hv2 : Boxed ((W.setCell ⟨Bx, 1, none⟩ (.int .i64 m)).setCell ⟨b, 0, none⟩ (.int .i64 d)) s1 70 v' := (set_other46 _ _ _ _ _ (by omega)).trans ((set_other46 _ _ _ _ _ (by omega)).trans hv)
              have hc := hv2.cell
              have hB2 : Below b w ((W.setCell ⟨Bx, 1, none⟩ (.int .i64 m)).setCell ⟨b, 0, none⟩ (.int .i64 d)) := (hB1.setCell (p := ⟨Bx, 1, none⟩) (by show b ≤ Bx; omega) _).setCell (p := ⟨b, 0, none⟩) (Nat.le_refl _) _
              have hsz2 := hB2.size
              have hsz3 : ((W.setCell ⟨Bx, 1, none⟩ (.int .i64 m)).setCell ⟨b, 0, none⟩ (.int .i64 d)).heap.size = W.heap.size := by simp
              have hcn := cell_two_new ((W.setCell ⟨Bx, 1, none⟩ (.int .i64 m)).setCell ⟨b, 0, none⟩ (.int .i64 d)) (.int .i64 x.f0) (.int .i64 m) 76
              rw [hsz3] at hcn
              gi_wp2_with (gi_at_builtin; refine wpListIn_append_own _ rfl _ _ 70 rfl b 76 i0 (.agg #[(.int .i64 0), (.int .i64 0)]) 2 16 Try.underlying70 hi hz0 hz1 hz2 rfl (by decide) _ _ _ rfl (hrow2.alloc _) ⟨W.heap.size, 0, none⟩ 1 1 [.int .i64 x.f0, .int .i64 m] rfl rfl hcn (by simp [Value.oneCell']) (Nat.le_trans (show (takeW pre a2).length + 1 ≤ 5000 by omega) (by decide)) (by omega) (by simp only [World.size_alloc]; omega) ?_; intro v1 w1 hown' hgrow _; obtain ⟨g', cap', rfl⟩ := ownsRow_succ hown'; obtain ⟨hv3, hv4, hr4, hk4, hb4⟩ := hv2.appended (by decide) hrow2 (by omega) (by omega) hown' hgrow; have hc1 := hv3.cell; have hf1 := hv3.frozen)
              have q2 : Boxed ((W.setCell ⟨Bx, 1, none⟩ (.int .i64 m)).setCell ⟨b, 0, none⟩ (.int .i64 d)) (s1 + 1) 9 (.string a0) := (set_other46 _ _ _ _ _ (by omega)).trans ((set_other46 _ _ _ _ _ (by omega)).trans b2)
              have q3 : Boxed ((W.setCell ⟨Bx, 1, none⟩ (.int .i64 m)).setCell ⟨b, 0, none⟩ (.int .i64 d)) (s1 + 1 + 1) 3 (.int .i64 a1) := (set_other46 _ _ _ _ _ (by omega)).trans ((set_other46 _ _ _ _ _ (by omega)).trans b3)
              have q1 : Boxed ((W.setCell ⟨Bx, 1, none⟩ (.int .i64 m)).setCell ⟨b, 0, none⟩ (.int .i64 d)) b 3 (.int .i64 d) := (row_set0 _ _ _ _ _ _ _ hb1').trans rfl
              have t1 := (set_other46 w1 s1 b 0 (.slice (some ⟨g', 0, none⟩) ((takeW pre a2).length + 1) cap') (by omega)).trans ((q1.alloc _).kept hgrow (q1.not_row (by decide) hrow2))
              have t2 := (set_other46 w1 s1 (s1 + 1) 0 (.slice (some ⟨g', 0, none⟩) ((takeW pre a2).length + 1) cap') (by omega)).trans ((q2.alloc _).kept hgrow (q2.not_row (by decide) hrow2))
              have t3 := (set_other46 w1 s1 (s1 + 1 + 1) 0 (.slice (some ⟨g', 0, none⟩) ((takeW pre a2).length + 1) cap') (by omega)).trans ((q3.alloc _).kept hgrow (q3.not_row (by decide) hrow2))
              refine ⟨(((KeepsOthers.setCell _ _ _).trans (KeepsOthers.setCell _ _ _)).trans hk4).from _, fun k hk => ?_, ⟨⟨_, hv4, ?_, trivial⟩, ?_, t2, t3⟩, hB2.trans hb4⟩
              · rcases hk with rfl | rfl
                · exact t2.trans b2.symm
                · exact t3.trans b3.symm
              · rw [HSN.out.1, spanCells_snoc]; simpa using hr4
              · rw [HSN.out.2]; exact t1
          case done =>
            rintro D ys W hD rfl ⟨⟨⟨v, hv, hrow, _⟩, b1, b2, b3⟩, hB1⟩ hK
            rw [takeW_eq _ _ hpos (by omega) hnn, H1.out] at hrow
            obtain ⟨A9, c9, rfl⟩ : ∃ A c, v = .slice A r1.length c := Kd.R_slice (row76 hrow)
            have hrd := Kd.R_reads' (row76 hrow)
            have HC9 := Lib.hid hrd.2.2
            have HN9 := Lib.hid hrd.2.1
            clear hrd
            have hc := hv.cell
            have hcS : W.drew.cell? ⟨s1, 0, none⟩ = some (.slice A9 r1.length c9) := hc
            have hDl := (Array.getElem?_eq_some_iff.1 hK).1
            have HHK := Lib.hid hK
            have HHR := Lib.hid hrow
            have HHB := Lib.hid hB1
            clear hK hrow hB1 hv
            gi_wp2
            refine wpIn_wide.2 (wp_normal ?_)
            refine start_ (n := 7) (S := fun w' => w'.cell? ⟨s1, 0, none⟩ = some (.slice A9 r1.length c9) ∧ Below W.heap.size W w') (ds := []) #[false, false, false, false, false, false, false] (by kernel_rfl) rfl rfl ⟨hcS, (below_drew1 (Below.refl _ _))⟩ (fun hHeld => ?_)
            refine pure_ (i := 1) (N := some 45) (v := ?_) (a' := ?_) #[false, true, false, false, false, false, false] rfl rfl (by kernel_rfl) (fun _ _ _ h => nomatch h.1) (Or.inl ⟨by rfl, ?_⟩) ?_ ?_
            rotate_left
            · intro w'
              go_simp
              with_reducible rfl
            rotate_left
            · simp only [Act.put, List.setIfInBounds_toArray, List.set_cons_zero, List.set_cons_succ, i64_w, i32_w]
              rfl
            refine take_ (i := 0) (N := some 44) (v := ?_) (a' := ?_) #[true, true, false, false, false, false, false] rfl rfl (by kernel_rfl) (fun _ _ _ h => nomatch h.1) (Or.inl ⟨by rfl, ?_⟩) hHeld ?_ ?_
            rotate_left
            · rintro w' ⟨s0, s1⟩
              go_simp
              with_reducible rfl
            rotate_left
            · simp only [Act.put, List.setIfInBounds_toArray, List.set_cons_zero, List.set_cons_succ, i64_w, i32_w]
              rfl
            refine take_ (i := 2) (N := some 46) (v := ?_) (a' := ?_) #[true, true, true, false, false, false, false] rfl rfl (by kernel_rfl) (fun _ _ _ h => nomatch h.1) (Or.inl ⟨by rfl, ?_⟩) hHeld ?_ ?_
            rotate_left
            · rintro w' ⟨s0, s1⟩
              go_simp
              with_reducible rfl
            rotate_left
            · simp only [Act.put, List.setIfInBounds_toArray, List.set_cons_zero, List.set_cons_succ, i64_w, i32_w]
              rfl
            refine one_ (i := 3) (N := some 47) #[true, true, true, true, false, false, false] rfl rfl (by kernel_rfl) (by decide) (fun K hK => ?_)
            refine goes_ Try.func135 (by kernel_rfl) rfl #[.string a0, .slice A9 r1.length c9, .bool false] (by rfl) rfl rfl (by simp only [List.map_toArray, List.map_cons, List.map_nil]; rfl) ?_
            with_reducible refine (spacebitmap_marked.calls a0 _ _ r1 false _ _ (Kd.C_below HC9.out hHeld.2) HN9.out HM.out).mono ?_
            rintro e w3 ⟨rfl, hb3⟩
            refine ⟨_, rfl, ?_⟩
            refine hK.out _ _ ⟨((hb3.cell (World.block_lt_of_cell? _ _ hHeld.1)).trans hHeld.1), (below_step hHeld.2 hb3)⟩ (fun hHeld => ?_)
            clear hK K
            refine norm_ (a' := ?_) ?_ ?_
            rotate_left
            · show Act.put _ (some 47) _ = _
              simp only [Act.put, List.setIfInBounds_toArray, List.set_cons_zero, List.set_cons_succ, i64_w, i32_w]
              rfl
            refine pure_ (i := 4) (N := some 6) (v := ?_) (a' := ?_) #[true, true, true, true, true, false, false] rfl rfl (by kernel_rfl) (fun _ _ _ h => nomatch h.1) (Or.inl ⟨by rfl, ?_⟩) ?_ ?_
            rotate_left
            · intro w'
              go_simp
              with_reducible rfl
            rotate_left
            · simp only [Act.put, List.setIfInBounds_toArray, List.set_cons_zero, List.set_cons_succ, i64_w, i32_w]
              rfl
            refine pure_ (i := 5) (N := some 7) (v := ?_) (a' := ?_) #[true, true, true, true, true, true, false] rfl rfl (by kernel_rfl) (fun _ _ _ h => nomatch h.1) (Or.inl ⟨by rfl, ?_⟩) ?_ ?_
            rotate_left
            · intro w'
              go_simp
              with_reducible rfl
            rotate_left
            · simp only [Act.put, List.setIfInBounds_toArray, List.set_cons_zero, List.set_cons_succ, i64_w, i32_w]
              rfl
            refine pure_ (i := 6) (N := some 8) (v := ?_) (a' := ?_) #[true, true, true, true, true, true, true] rfl rfl (by kernel_rfl) (fun _ _ _ h => nomatch h.1) (Or.inl ⟨by rfl, ?_⟩) ?_ ?_
            rotate_left
            · intro w'
              go_simp
              with_reducible rfl
            rotate_left
            · simp only [Act.put, List.setIfInBounds_toArray, List.set_cons_zero, List.set_cons_succ, i64_w, i32_w]
              rfl
            refine done_ (by kernel_rfl) ?_
            refine ⟨rfl, ?_⟩
            have hW3 := hHeld.2
            have hK3 := (hW3.block D hDl).trans HHK.out
            have hR3 := pw_own_below HHR.out hW3
            have hB3 := below_then HHB.out (Nat.le_trans (Nat.le_of_eq hb.symm) HHB.out.size) hW3
            gi_wp2
            refine ⟨by simp, .inl ⟨_, _, rfl, run_takeDeferred hK3, ?_⟩⟩
            refine ⟨.tuple #[.slice A9 r1.length c9, .string r2, .int .i64 0], by simp [results, Try.f84, go_sem], _, rfl, ?_, ?_⟩
            · rw [hb]; exact row76 (ownsRow_putObj hR3 _ hK3 rfl)
            · rw [hb]; exact hB3.trans (belowK_b (w := w) (Nat.le_of_eq hb.symm) _ D _ _ (by omega) hK3 rfl rfl)
          case stop =>
            rintro D c pre W hD hpre ⟨⟨⟨rfl, hz⟩, ⟨v, hv, hrow, _⟩⟩, hB1⟩ hK
            obtain ⟨tl, htl⟩ := hpre
            rw [show takeW pre a2 = r1 by rw [← H1.out, ← takeW_eq _ _ hpos (by omega) hnn, ← htl, take_stop _ _ _ hz]] at hrow
            clear hz htl
            obtain ⟨A9, c9, rfl⟩ : ∃ A c, v = .slice A r1.length c := Kd.R_slice (row76 hrow)
            have hrd := Kd.R_reads' (row76 hrow)
            have HC9 := Lib.hid hrd.2.2
            have HN9 := Lib.hid hrd.2.1
            clear hrd
            have hc := hv.cell
            have hcS : W.drew.cell? ⟨s1, 0, none⟩ = some (.slice A9 r1.length c9) := hc
            have hDl := (Array.getElem?_eq_some_iff.1 hK).1
            have HHK := Lib.hid hK
            have HHR := Lib.hid hrow
            have HHB := Lib.hid hB1
            clear hK hrow hB1 hv
            gi_wp2
            refine wpIn_wide.2 (wp_normal ?_)
            refine start_ (n := 7) (S := fun w' => w'.cell? ⟨s1, 0, none⟩ = some (.slice A9 r1.length c9) ∧ Below W.heap.size W w') (ds := []) #[false, false, false, false, false, false, false] (by kernel_rfl) rfl rfl ⟨hcS, (below_drew1 (Below.refl _ _))⟩ (fun hHeld => ?_)
            refine pure_ (i := 1) (N := some 45) (v := ?_) (a' := ?_) #[false, true, false, false, false, false, false] rfl rfl (by kernel_rfl) (fun _ _ _ h => nomatch h.1) (Or.inl ⟨by rfl, ?_⟩) ?_ ?_
            rotate_left
            · intro w'
              go_simp
              with_reducible rfl
            rotate_left
            · simp only [Act.put, List.setIfInBounds_toArray, List.set_cons_zero, List.set_cons_succ, i64_w, i32_w]
              rfl
            refine take_ (i := 0) (N := some 44) (v := ?_) (a' := ?_) #[true, true, false, false, false, false, false] rfl rfl (by kernel_rfl) (fun _ _ _ h => nomatch h.1) (Or.inl ⟨by rfl, ?_⟩) hHeld ?_ ?_
            rotate_left
            · rintro w' ⟨s0, s1⟩
              go_simp
              with_reducible rfl
            rotate_left
            · simp only [Act.put, List.setIfInBounds_toArray, List.set_cons_zero, List.set_cons_succ, i64_w, i32_w]
              rfl
            refine take_ (i := 2) (N := some 46) (v := ?_) (a' := ?_) #[true, true, true, false, false, false, false] rfl rfl (by kernel_rfl) (fun _ _ _ h => nomatch h.1) (Or.inl ⟨by rfl, ?_⟩) hHeld ?_ ?_
            rotate_left
            · rintro w' ⟨s0, s1⟩
              go_simp
              with_reducible rfl
            rotate_left
            · simp only [Act.put, List.setIfInBounds_toArray, List.set_cons_zero, List.set_cons_succ, i64_w, i32_w]
              rfl
            refine one_ (i := 3) (N := some 47) #[true, true, true, true, false, false, false] rfl rfl (by kernel_rfl) (by decide) (fun K hK => ?_)
            refine goes_ Try.func135 (by kernel_rfl) rfl #[.string a0, .slice A9 r1.length c9, .bool false] (by rfl) rfl rfl (by simp only [List.map_toArray, List.map_cons, List.map_nil]; rfl) ?_
            with_reducible refine (spacebitmap_marked.calls a0 _ _ r1 false _ _ (Kd.C_below HC9.out hHeld.2) HN9.out HM.out).mono ?_
            rintro e w3 ⟨rfl, hb3⟩
            refine ⟨_, rfl, ?_⟩
            refine hK.out _ _ ⟨((hb3.cell (World.block_lt_of_cell? _ _ hHeld.1)).trans hHeld.1), (below_step hHeld.2 hb3)⟩ (fun hHeld => ?_)
            clear hK K
            refine norm_ (a' := ?_) ?_ ?_
            rotate_left
            · show Act.put _ (some 47) _ = _
              simp only [Act.put, List.setIfInBounds_toArray, List.set_cons_zero, List.set_cons_succ, i64_w, i32_w]
              rfl
            refine pure_ (i := 4) (N := some 6) (v := ?_) (a' := ?_) #[true, true, true, true, true, false, false] rfl rfl (by kernel_rfl) (fun _ _ _ h => nomatch h.1) (Or.inl ⟨by rfl, ?_⟩) ?_ ?_
            rotate_left
            · intro w'
              go_simp
              with_reducible rfl
            rotate_left
            · simp only [Act.put, List.setIfInBounds_toArray, List.set_cons_zero, List.set_cons_succ, i64_w, i32_w]
              rfl
            refine pure_ (i := 5) (N := some 7) (v := ?_) (a' := ?_) #[true, true, true, true, true, true, false] rfl rfl (by kernel_rfl) (fun _ _ _ h => nomatch h.1) (Or.inl ⟨by rfl, ?_⟩) ?_ ?_
            rotate_left
            · intro w'
              go_simp
              with_reducible rfl
            rotate_left
            · simp only [Act.put, List.setIfInBounds_toArray, List.set_cons_zero, List.set_cons_succ, i64_w, i32_w]
              rfl
            refine pure_ (i := 6) (N := some 8) (v := ?_) (a' := ?_) #[true, true, true, true, true, true, true] rfl rfl (by kernel_rfl) (fun _ _ _ h => nomatch h.1) (Or.inl ⟨by rfl, ?_⟩) ?_ ?_
            rotate_left
            · intro w'
              go_simp
              with_reducible rfl
            rotate_left
            · simp only [Act.put, List.setIfInBounds_toArray, List.set_cons_zero, List.set_cons_succ, i64_w, i32_w]
              rfl
            refine done_ (by kernel_rfl) ?_
            refine ⟨rfl, ?_⟩
            have hW3 := hHeld.2
            have hK3 := (hW3.block D hDl).trans HHK.out
            have hR3 := pw_own_below HHR.out hW3
            have hB3 := below_then HHB.out (Nat.le_trans (Nat.le_of_eq hb.symm) HHB.out.size) hW3
            gi_wp2
            refine ⟨by simp, .inl ⟨_, _, rfl, run_takeDeferred hK3, ?_⟩⟩
            refine ⟨.tuple #[.slice A9 r1.length c9, .string r2, .int .i64 0], by simp [results, Try.f84, go_sem], _, rfl, ?_, ?_⟩
            · rw [hb]; exact row76 (ownsRow_putObj hR3 _ hK3 rfl)
            · rw [hb]; exact hB3.trans (belowK_b (w := w) (Nat.le_of_eq hb.symm) _ D _ _ (by omega) hK3 rfl rfl)
  · simp at h
end Go.Proofs.Ytijbfebbogiiiaa.Q
