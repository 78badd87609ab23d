/- Contracts of allocation.formed, EncodeShort, EncodeLong, DecodeShort, DecodeLong. -/
import Derived.Test.YtijbfebbogiiiaaHBase
import Derived.Test.YtijbfebbogiiiaaQ0
import Derived.Test.YtijbfebbogiiiaaQ13
import Derived.Test.YtijbfebbogiiiaaHBase
import Derived.Test.YtijbfebbogiiiaaHAlloc0
import Derived.Test.YtijbfebbogiiiaaHAlloc1
import Derived.Outline
import Derived.WalkSpells
import Derived.Lib.Hide
namespace Go.Proofs.Ytijbfebbogiiiaa.Q
open Go.RowKit Go.Proofs.YtijbfebbogiiiaaW.PrintWords Go.Proofs.YtijbfebbogiiiaaW.PrintLast Go.Proofs.YtijbfebbogiiiaaW.PrintMore
attribute [local go_sem] max2_int min2_int max_two min_two max_three min_three max_four min_four
set_option linter.unusedVariables false
set_option linter.unusedSimpArgs false

def allocation_formed.f (l0 : List S46) : Option Bool := some (formedB l0)
theorem allocation_formed.calls (A0 : Option Addr) (c0 : Nat) (l0 : List S46) (r : Bool) (w : World) (hr0 : Kd.C k46 w A0 l0.length l0) (hc0 : l0.length ≤ c0) (h : allocation_formed.f l0 = some r) :
    Calls Try.prog 100 #[.slice A0 l0.length c0] w fun e w' => e = .returned (.bool r) ∧ Below w.heap.size w w' := by
  have hr' := Option.some.inj h
  by_cases hl : l0.length ≤ 64
  · have HC := Lib.hid (formed_any A0 c0 l0 w hr0 hl)
    have HE := Lib.hid (show (!(l0.any fun x => !extOk x)) = r by rw [← hr', notAll, formedB, decide_eq_true hl, Bool.true_and])
    clear h hr' hr0 hc0
    generalize (l0.any fun x => !extOk x) = b at HC HE
    generalize l0.length = n at HC hl ⊢
    have hd : decide ((n : Int) ≤ 64) = true := decide_eq_true (by omega)
    go_enter Try.func100, Try.ntmps100
    go_wp2_with (go_at_call 70; refine HC.out.mono ?_; rintro e w' ⟨rfl, hb⟩; have HB := Aside0.mk hb; clear hb)
    go_ret
    exact ⟨by rw [← HE.out]; rfl, HB.out⟩
  · have hf : r = false := by rw [← hr', formedB, decide_eq_false hl, Bool.false_and]
    subst hf
    clear h hr' hr0 hc0
    generalize l0.length = n at hl ⊢
    have hd : decide ((n : Int) ≤ 64) = false := decide_eq_false (by omega)
    clear hl
    go_enter Try.func100, Try.ntmps100
    go_wp2
    go_ret
    exact ⟨rfl, Below.refl _ _⟩

theorem strOfNums_cat (a b : List Int) : strOfNums (a ++ b) = strOfNums a ++ strOfNums b := by
  apply ByteArray.ext
  apply Array.toList_inj.1
  simp [strOfNums_data]
theorem encAll_eq (R : S46 → ByteArray) (f : S46 → List Int) (hf : ∀ x, encOf R x = strOfNums (f x)) (l : List S46) : ∀ s, encAll R s l = s ++ strOfNums (l.flatMap f) := by
  induction l with
  | nil => intro s; show s = s ++ strOfNums []; rw [show strOfNums [] = ByteArray.empty from rfl, ByteArray.append_empty]
  | cons x l ih => intro s; show encAll R (s ++ encOf R x) l = _; rw [ih, List.flatMap_cons, strOfNums_cat, hf, ByteArray.append_assoc]
theorem formedB_all {l : List S46} (h : formedB l = true) : l.length ≤ 64 ∧ ∀ x ∈ l, extOk x = true := by
  unfold formedB at h
  rw [Bool.and_eq_true, decide_eq_true_iff, List.all_eq_true] at h
  exact h
theorem short2_calls (a b c d : Int) (W : World) :
    Calls Try.prog 103 #[.agg #[.int .i64 a, .int .i64 b, .int .i64 c, .int .i64 d]] W fun e w' => e = .returned (.string ⟨#[]⟩) ∧ Below W.heap.size W w' := by
  go_enter Try.func103, Try.ntmps103
  go_wp2
  go_ret
  exact ⟨rfl, (Below.refl _ _).alloc (Nat.le_refl _) _⟩
theorem little2_f (n : Int) (h0 : 0 ≤ n) (h1 : n ≤ 65535) : allocation_little.f n 2 = some (strOfNums (leNums n 2)) := by
  rw [allocation_little.f, endian_Little.f, if_pos ⟨by omega, by omega⟩, if_pos ⟨h0, by show n < 65536; omega⟩]
  rfl
theorem little6_f : allocation_little.f 0 6 = some (strOfNums (leNums 0 6)) := by
  rw [allocation_little.f, endian_Little.f, if_pos ⟨by omega, by omega⟩, if_pos ⟨by omega, by show (0 : Int) < 281474976710656; omega⟩]
  rfl
theorem long1_calls (a b c d : Int) (h0 : 0 ≤ d) (h1 : d ≤ 65535) (W : World) :
    Calls Try.prog 106 #[.agg #[.int .i64 a, .int .i64 b, .int .i64 c, .int .i64 d]] W fun e w' => e = .returned (.string (strOfNums (leNums d 2 ++ leNums 0 6))) ∧ Below W.heap.size W w' := by
  have H1 := Lib.hid (little2_f d h0 h1)
  have H2 := Lib.hid little6_f
  have HE := Lib.hid (strOfNums_cat (leNums d 2) (leNums 0 6))
  have z1 : (strOfNums (leNums d 2)).size = 2 := by rw [show leNums d 2 = [d % 256, d / 256 % 256] from rfl]; rfl
  have z2 : (strOfNums (leNums 0 6)).size = 6 := by rw [show leNums 0 6 = [0, 0, 0, 0, 0, 0] from rfl]; rfl
  generalize strOfNums (leNums d 2 ++ leNums 0 6) = s3 at HE ⊢
  generalize strOfNums (leNums d 2) = s1 at H1 HE z1
  generalize strOfNums (leNums 0 6) = s2 at H2 HE z2
  have m1 : s1.size + s2.size ≤ 9223372036854775807 := by omega
  have m1a := eq_true m1
  have m1b : (9223372036854775807 < s1.size + s2.size) = False := eq_false (Nat.not_lt.2 m1)
  try (have m1c := m1b; conv at m1c => lhs; simp [go_sem])
  clear m1 z1 z2
  go_enter Try.func106, Try.ntmps106
  go_wp2_with (first | (go_at_call 107; (with_reducible refine (allocation_little.calls d 2 _ _ H1.out).mono ?_); rintro e w1 ⟨rfl, hb⟩; have HB1 := Aside0.mk hb; clear hb) | (go_at_call 107; (with_reducible refine (allocation_little.calls 0 6 _ _ H2.out).mono ?_); rintro e w2 ⟨rfl, hb⟩; have HB2 := Aside0.mk hb; clear hb))
  go_ret
  exact ⟨by rw [HE.out]; rfl, below_step (below_step ((Below.refl _ _).alloc (Nat.le_refl _) _) HB1.out) HB2.out⟩
def shortOf (x : S46) : List Int := leNums (x.f1 + 1073741824 * x.f0) 4 ++ leNums x.f2.f0 4
def longOf (x : S46) : List Int := shortOf x ++ (leNums x.f2.f1 2 ++ leNums 0 6)
def allocation_EncodeShort.f (l0 : List S46) : Option (ByteArray × Int) :=
  if formedB l0 = true then (if (l0.all fun x => x.f2.f1 == (l0.headD z46).f2.f1) = true then some (strOfNums (l0.flatMap shortOf), 0) else some (⟨#[]⟩, 2)) else some (⟨#[]⟩, 1)
theorem other_any (A : Option Addr) (c : Nat) (l : List S46) (w : World) (hr : Kd.C k46 w A l.length l) (hl : l.length ≤ 64) (W : World) (B : Nat) (hB : W.cell? ⟨B, 0, none⟩ = some (.slice A l.length c)) (hb : Below w.heap.size w W) :
    Calls Try.prog 70 #[.slice A l.length c, .func (.func 101) #[] #[.pointer (some ⟨B, 0, none⟩)]] W fun e w' => e = .returned (.bool (l.any fun x => x.f2.f1 != (l.headD z46).f2.f1)) ∧ Below W.heap.size W w' := by
  have eg : ∀ args w, (callFunc 101 args).run Try.prog w = .ok (.enter 101 args) w := enters_of Try.func101 (by kernel_rfl) rfl
  have hrW := Kd.C_below hr hb
  refine any46 101 #[.pointer (some ⟨B, 0, none⟩)] (fun x => x.f2.f1 != (l.headD z46).f2.f1) eg A c l W hrW hl ?_
  intro hne V x hV
  rcases C_46_at hrW with h0 | ⟨b1, off, rfl, hcell⟩
  · exact absurd h0 hne
  · have hpos := List.length_pos_iff.2 hne
    have e0 : rd_T46 l ((0 : Nat) : Int) = l.headD z46 := by
      cases l with
      | nil => exact absurd rfl hne
      | cons y l => rfl
    have hp := hcell 0 hpos 3 (.int .i64 (l.headD z46).f2.f1) (by rw [e0]; rfl)
    rw [Nat.zero_mul, Nat.add_zero] at hp
    have hpV : V.cell? ⟨b1, off + 3, none⟩ = some (.int .i64 (l.headD z46).f2.f1) := (hV.cell (World.block_lt_of_cell? W _ hp)).trans hp
    have hBV : V.cell? ⟨B, 0, none⟩ = some (.slice (some ⟨b1, off, none⟩) l.length c) := (hV.cell (World.block_lt_of_cell? W _ hB)).trans hB
    refine (other_calls x.f0 x.f1 x.f2.f0 x.f2.f1 (l.headD z46).f2.f1 B b1 off l.length c V hpos hBV hpV).mono ?_
    rintro e w' ⟨rfl, n, rfl⟩
    exact ⟨rfl, pw_below_drewN (hV.alloc hV.size _) n⟩
theorem any_notAll (l : List S46) (p : Int) : (l.any fun x => x.f2.f1 != p) = !(l.all fun x => x.f2.f1 == p) := by
  rw [List.not_all_eq_any_not]; rfl
set_option maxHeartbeats 1000000 in
theorem allocation_EncodeShort.calls (A0 : Option Addr) (c0 : Nat) (l0 : List S46) (r1 : ByteArray) (r2 : Int) (w : World) (hr0 : Kd.C k46 w A0 l0.length l0) (hc0 : l0.length ≤ c0) (h : allocation_EncodeShort.f l0 = some (r1, r2)) :
    Calls Try.prog 34 #[.slice A0 l0.length c0] w fun e w' => e = .returned (.tuple #[.string r1, .int .i64 r2]) ∧ Below w.heap.size w w' := by
  unfold allocation_EncodeShort.f at h
  have hbox : Below w.heap.size w (w.alloc (.cells #[.slice A0 l0.length c0] 37)) := (Below.refl _ _).alloc (Nat.le_refl _) _
  have HF := Lib.hid (allocation_formed.calls A0 c0 l0 (formedB l0) (w.alloc (.cells #[.slice A0 l0.length c0] 37)) (Kd.C_below hr0 hbox) hc0 rfl)
  by_cases hf : formedB l0 = true
  · rw [if_pos hf] at h
    rw [hf] at HF
    obtain ⟨hl, hok⟩ := formedB_all hf
    have hcellW : ∀ W, Below (w.alloc (.cells #[.slice A0 l0.length c0] 37)).heap.size (w.alloc (.cells #[.slice A0 l0.length c0] 37)) W → W.cell? ⟨w.heap.size, 0, none⟩ = some (.slice A0 l0.length c0) := by
      intro W hW
      exact (hW.cell (p := ⟨w.heap.size, 0, none⟩) (by simp)).trans (by simp)
    have HCW := Lib.hid hcellW
    have HO := Lib.hid (fun (W : World) (hW : Below (w.alloc (.cells #[.slice A0 l0.length c0] 37)).heap.size (w.alloc (.cells #[.slice A0 l0.length c0] 37)) W) =>
      other_any A0 c0 l0 w hr0 hl W w.heap.size (hcellW W hW) (hbox.trans (hW.mono hbox.size)))
    by_cases ha : (l0.all fun x => x.f2.f1 == (l0.headD z46).f2.f1) = true
    · rw [if_pos ha] at h
      rw [any_notAll, ha] at HO
      injection h with h
      injection h with h1 h2
      have he : r1 = encAll (fun _ => ⟨#[]⟩) ⟨#[]⟩ l0 := by
        rw [encAll_eq (fun _ => ⟨#[]⟩) shortOf (fun x => by rw [shortOf, strOfNums_cat, encOf]; exact ByteArray.append_empty) l0 ⟨#[]⟩, ← h1]
        exact (ByteArray.empty_append).symm
      have HN := Lib.hid (fun (W : World) (hW : Below w.heap.size w W) =>
        encode_calls 103 (fun _ => ⟨#[]⟩) (enters_of Try.func103 (by kernel_rfl) rfl) (fun _ => Nat.zero_le _) (fun x _ W => short2_calls x.f0 x.f1 x.f2.f0 x.f2.f1 W) A0 c0 l0 W (Kd.C_below hr0 hW) hl hok)
      rw [← he] at HN
      subst h2
      clear h1 he ha hok hl hf hr0 hc0 hcellW
      generalize l0.length = n at HF HCW HO HN hbox ⊢
      go_enter Try.func34, Try.ntmps34
      go_wp2_with (first
        | (go_at_call 100; refine HF.out.mono ?_; rintro e w1 ⟨rfl, hb⟩; have HB1 := Aside0.mk hb; have hcell1 := HCW.out _ hb; clear hb)
        | (go_at_call 70; refine (HO.out _ HB1.out).mono ?_; rintro e w2 ⟨rfl, hb⟩; have HB2 := Aside0.mk (below_step HB1.out hb); have hcell2 := HCW.out _ HB2.out; clear hb)
        | (go_at_call 102; refine (HN.out _ (hbox.trans (HB2.out.mono hbox.size))).mono ?_; rintro e w3 ⟨rfl, hb⟩; have HB3 := Aside0.mk (below_step HB2.out hb); clear hb))
      go_ret2
      exact ⟨rfl, hbox.trans (HB3.out.mono hbox.size)⟩
    · rw [if_neg ha] at h
      rw [any_notAll, Bool.eq_false_iff.2 ha] at HO
      injection h with h
      injection h with h1 h2
      subst h1 h2
      clear ha hok hl hf hr0 hc0 hcellW
      generalize l0.length = n at HF HCW HO hbox ⊢
      go_enter Try.func34, Try.ntmps34
      go_wp2_with (first
        | (go_at_call 100; refine HF.out.mono ?_; rintro e w1 ⟨rfl, hb⟩; have HB1 := Aside0.mk hb; have hcell1 := HCW.out _ hb; clear hb)
        | (go_at_call 70; refine (HO.out _ HB1.out).mono ?_; rintro e w2 ⟨rfl, hb⟩; have HB2 := Aside0.mk (below_step HB1.out hb); clear hb))
      go_ret2
      exact ⟨rfl, hbox.trans (HB2.out.mono hbox.size)⟩
  · rw [if_neg hf] at h
    rw [Bool.eq_false_iff.2 hf] at HF
    injection h with h
    injection h with h1 h2
    subst h1 h2
    clear hf hr0 hc0
    generalize l0.length = n at HF hbox ⊢
    have hc : (w.alloc (.cells #[.slice A0 n c0] 37)).cell? ⟨w.heap.size, 0, none⟩ = some (.slice A0 n c0) := by simp
    go_enter Try.func34, Try.ntmps34
    go_wp2_with (go_at_call 100; refine HF.out.mono ?_; rintro e w1 ⟨rfl, hb⟩; have HB1 := Aside0.mk hb; clear hb)
    go_ret2
    exact ⟨rfl, hbox.trans (HB1.out.mono hbox.size)⟩

def allocation_EncodeLong.f (l0 : List S46) : Option (ByteArray × Int) :=
  if formedB l0 = true then some (strOfNums (l0.flatMap longOf), 0) else some (⟨#[]⟩, 1)
theorem allocation_EncodeLong.calls (A0 : Option Addr) (c0 : Nat) (l0 : List S46) (r1 : ByteArray) (r2 : Int) (w : World) (hr0 : Kd.C k46 w A0 l0.length l0) (hc0 : l0.length ≤ c0) (h : allocation_EncodeLong.f l0 = some (r1, r2)) :
    Calls Try.prog 36 #[.slice A0 l0.length c0] w fun e w' => e = .returned (.tuple #[.string r1, .int .i64 r2]) ∧ Below w.heap.size w w' := by
  unfold allocation_EncodeLong.f at h
  have HF := Lib.hid (allocation_formed.calls A0 c0 l0 (formedB l0) w hr0 hc0 rfl)
  by_cases hf : formedB l0 = true
  · rw [if_pos hf] at h
    rw [hf] at HF
    obtain ⟨hl, hok⟩ := formedB_all hf
    injection h with h
    injection h with h1 h2
    have he : r1 = encAll (fun x => strOfNums (leNums x.f2.f1 2 ++ leNums 0 6)) ⟨#[]⟩ l0 := by
      rw [encAll_eq (fun x => strOfNums (leNums x.f2.f1 2 ++ leNums 0 6)) longOf (fun x => by rw [longOf, shortOf, strOfNums_cat, strOfNums_cat, encOf]) l0 ⟨#[]⟩, ← h1]
      exact (ByteArray.empty_append).symm
    have HN := Lib.hid (fun (W : World) (hW : Below w.heap.size w W) =>
      encode_calls 106 (fun x => strOfNums (leNums x.f2.f1 2 ++ leNums 0 6)) (enters_of Try.func106 (by kernel_rfl) rfl) (fun x => by rw [show leNums x.f2.f1 2 ++ leNums 0 6 = [x.f2.f1 % 256, x.f2.f1 / 256 % 256, 0, 0, 0, 0, 0, 0] from rfl]; show 8 ≤ 8; omega)
        (fun x hx W => long1_calls x.f0 x.f1 x.f2.f0 x.f2.f1 (by unfold extOk at hx; rw [decide_eq_true_iff] at hx; omega) (by unfold extOk at hx; rw [decide_eq_true_iff] at hx; omega) W) A0 c0 l0 W (Kd.C_below hr0 hW) hl hok)
    rw [← he] at HN
    subst h2
    clear h1 he hok hl hf hr0 hc0
    generalize l0.length = n at HF HN ⊢
    go_enter Try.func36, Try.ntmps36
    go_wp2_with (first
      | (go_at_call 100; refine HF.out.mono ?_; rintro e w1 ⟨rfl, hb⟩; have HB1 := Aside0.mk hb; clear hb)
      | (go_at_call 102; refine (HN.out _ HB1.out).mono ?_; rintro e w3 ⟨rfl, hb⟩; have HB3 := Aside0.mk (below_step HB1.out hb); clear hb))
    go_ret2
    exact ⟨rfl, HB3.out⟩
  · rw [if_neg hf] at h
    rw [Bool.eq_false_iff.2 hf] at HF
    injection h with h
    injection h with h1 h2
    subst h1 h2
    clear hf hr0 hc0
    generalize l0.length = n at HF ⊢
    go_enter Try.func36, Try.ntmps36
    go_wp2_with (go_at_call 100; refine HF.out.mono ?_; rintro e w1 ⟨rfl, hb⟩; have HB1 := Aside0.mk hb; clear hb)
    go_ret2
    exact ⟨rfl, HB1.out⟩
end Go.Proofs.Ytijbfebbogiiiaa.Q
