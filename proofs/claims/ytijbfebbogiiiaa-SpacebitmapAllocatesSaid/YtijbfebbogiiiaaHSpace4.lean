/- The contract of spacebitmap.marked: the bits of spans set or cleared in a copy of the bitmap. -/
import Derived.Test.YtijbfebbogiiiaaQ0
import Derived.BigRegion
import Derived.Test.YtijbfebbogiiiaaHSpace1
namespace Go.Proofs.Ytijbfebbogiiiaa.Q
open Go.RowKit Go.Proofs.YtijbfebbogiiiaaW.PrintWords Go.Proofs.YtijbfebbogiiiaaW.PrintLast Go.Proofs.YtijbfebbogiiiaaW.PrintMore
attribute [local go_sem] max2_int min2_int max_two min_two max_three min_three max_four min_four
set_option linter.unusedVariables false
set_option linter.unusedSimpArgs false
def packB (b0 b1 b2 b3 b4 b5 b6 b7 : Bool) : Nat := (cond b0 1 0) + (cond b1 2 0) + (cond b2 4 0) + (cond b3 8 0) + (cond b4 16 0) + (cond b5 32 0) + (cond b6 64 0) + (cond b7 128 0)
def packByte (f : Nat → Bool) : Nat := packB (f 0) (f 1) (f 2) (f 3) (f 4) (f 5) (f 6) (f 7)
/-- The bytes of n groups of eight bits. -/
def packNums (n : Nat) (f : Nat → Bool) : List Int := (List.range n).map fun j => ((packByte fun k => f (8 * j + k) : Nat) : Int)
def markF (l : List S76) (b : Bool) (f : Nat → Bool) (i : Nat) : Bool := if inSpans l i = true then b else f i
def markNums (s : ByteArray) (l : List S76) (b : Bool) : List Int := packNums s.size (markF l b (bitOf s))
def setBit (f : Nat → Bool) (i : Nat) (b : Bool) (k : Nat) : Bool := if k = i then b else f k
theorem packB_clear : ∀ (b0 b1 b2 b3 b4 b5 b6 b7 : Bool) (r : Fin 8), Go.bits .andNot .u8 ((packB b0 b1 b2 b3 b4 b5 b6 b7 : Nat) : Int) ((2 ^ r.val : Nat) : Int) =
    ((packB (bif r.val == 0 then false else b0) (bif r.val == 1 then false else b1) (bif r.val == 2 then false else b2) (bif r.val == 3 then false else b3) (bif r.val == 4 then false else b4) (bif r.val == 5 then false else b5) (bif r.val == 6 then false else b6) (bif r.val == 7 then false else b7) : Nat) : Int) := by decide +kernel
theorem packB_set : ∀ (b0 b1 b2 b3 b4 b5 b6 b7 : Bool) (r : Fin 8), Go.bits .or .u8 ((packB b0 b1 b2 b3 b4 b5 b6 b7 : Nat) : Int) ((2 ^ r.val : Nat) : Int) =
    ((packB (bif r.val == 0 then true else b0) (bif r.val == 1 then true else b1) (bif r.val == 2 then true else b2) (bif r.val == 3 then true else b3) (bif r.val == 4 then true else b4) (bif r.val == 5 then true else b5) (bif r.val == 6 then true else b6) (bif r.val == 7 then true else b7) : Nat) : Int) := by decide +kernel
theorem packB_byte : ∀ n : Fin 256, packB ((n.val : Int) / 2 ^ 0 % 2 == 1) ((n.val : Int) / 2 ^ 1 % 2 == 1) ((n.val : Int) / 2 ^ 2 % 2 == 1) ((n.val : Int) / 2 ^ 3 % 2 == 1) ((n.val : Int) / 2 ^ 4 % 2 == 1) ((n.val : Int) / 2 ^ 5 % 2 == 1) ((n.val : Int) / 2 ^ 6 % 2 == 1) ((n.val : Int) / 2 ^ 7 % 2 == 1) = n.val := by decide +kernel
theorem packByte_clear (f : Nat → Bool) (r : Nat) (h : r < 8) : Go.bits .andNot .u8 ((packByte f : Nat) : Int) ((2 ^ r : Nat) : Int) = ((packByte (setBit f r false) : Nat) : Int) := by
  have e := packB_clear (f 0) (f 1) (f 2) (f 3) (f 4) (f 5) (f 6) (f 7) ⟨r, h⟩
  rw [packByte, e]
  rcases (show r = 0 ∨ r = 1 ∨ r = 2 ∨ r = 3 ∨ r = 4 ∨ r = 5 ∨ r = 6 ∨ r = 7 by omega) with rfl | rfl | rfl | rfl | rfl | rfl | rfl | rfl <;> rfl
theorem packByte_set (f : Nat → Bool) (r : Nat) (h : r < 8) : Go.bits .or .u8 ((packByte f : Nat) : Int) ((2 ^ r : Nat) : Int) = ((packByte (setBit f r true) : Nat) : Int) := by
  have e := packB_set (f 0) (f 1) (f 2) (f 3) (f 4) (f 5) (f 6) (f 7) ⟨r, h⟩
  rw [packByte, e]
  rcases (show r = 0 ∨ r = 1 ∨ r = 2 ∨ r = 3 ∨ r = 4 ∨ r = 5 ∨ r = 6 ∨ r = 7 by omega) with rfl | rfl | rfl | rfl | rfl | rfl | rfl | rfl <;> rfl
theorem packByte_bt (s : ByteArray) (j : Nat) : ((packByte fun k => bitOf s (8 * j + k) : Nat) : Int) = bt s (j : Int) := by
  have hb := bt_range s (j : Int)
  have e := packB_byte ⟨(bt s (j : Int)).toNat, by omega⟩
  have e2 : ((((⟨(bt s (j : Int)).toNat, by omega⟩ : Fin 256).val : Nat)) : Int) = bt s (j : Int) := by show (((bt s (j : Int)).toNat : Nat) : Int) = _; omega
  have hk : ∀ k, k < 8 → bitOf s (8 * j + k) = (bt s (j : Int) / 2 ^ k % 2 == 1) := by
    intro k hk
    rw [bitOf, show (8 * j + k) / 8 = j by omega, show (8 * j + k) % 8 = k by omega]
  rw [e2] at e
  have e3 : (packByte fun k => bitOf s (8 * j + k)) = (bt s (j : Int)).toNat := by
    rw [packByte, hk 0 (by omega), hk 1 (by omega), hk 2 (by omega), hk 3 (by omega), hk 4 (by omega), hk 5 (by omega), hk 6 (by omega), hk 7 (by omega)]
    exact e
  rw [e3]; omega
theorem packByte_congr {f g : Nat → Bool} (h : ∀ k, k < 8 → f k = g k) : packByte f = packByte g := by
  rw [packByte, packByte, h 0 (by omega), h 1 (by omega), h 2 (by omega), h 3 (by omega), h 4 (by omega), h 5 (by omega), h 6 (by omega), h 7 (by omega)]
theorem packNums_congr {n : Nat} {f g : Nat → Bool} (h : ∀ k, k < 8 * n → f k = g k) : packNums n f = packNums n g := by
  unfold packNums
  refine List.map_congr_left (fun j hj => ?_)
  have := List.mem_range.1 hj
  rw [packByte_congr (fun k hk => h (8 * j + k) (by omega))]
/-- Block g holds the bytes of n groups of bits; behind them whatever the capacity brought. -/
def BitRow (W : World) (g z n : Nat) (f : Nat → Bool) : Prop :=
  ∃ cs : Array Value, W.heap[g]? = some (.cells cs 5 (z, z + 1)) ∧ cs.size = z ∧ n ≤ z ∧ ∀ j, j < n → cs[j]? = some (.int .u8 ((packByte fun k => f (8 * j + k) : Nat) : Int))
theorem BitRow.cell {W : World} {g z n : Nat} {f : Nat → Bool} (h : BitRow W g z n f) (q : Nat) (hq : q < n) : W.cell? ⟨g, q, none⟩ = some (.int .u8 ((packByte fun k => f (8 * q + k) : Nat) : Int)) ∧ W.frozen? ⟨g, q, none⟩ = false := by
  obtain ⟨cs, h1, h2, h3, h4⟩ := h
  constructor
  · simp [World.cell?, h1, h4 q hq]
  · simp [World.frozen?, h1]; omega
theorem BitRow.below {W W' : World} {g z n : Nat} {f : Nat → Bool} (h : BitRow W g z n f) (hb : W'.heap[g]? = W.heap[g]?) : BitRow W' g z n f := by
  obtain ⟨cs, h1, h2⟩ := h
  exact ⟨cs, hb.trans h1, h2⟩
theorem BitRow.lt {W : World} {g z n : Nat} {f : Nat → Bool} (h : BitRow W g z n f) : g < W.heap.size := by
  obtain ⟨cs, h1, _⟩ := h
  exact (Array.getElem?_eq_some_iff.1 h1).1
theorem blk_alloc_eq {W : World} {o : Obj} {g : Nat} (h : g < W.heap.size) : (W.alloc o).heap[g]? = W.heap[g]? := Below.heap_alloc _ _ g h
theorem BitRow.put {W : World} {g z n : Nat} {f : Nat → Bool} (h : BitRow W g z n f) (q r : Nat) (hr : r < 8) (b : Bool) :
    BitRow (W.setCell ⟨g, q, none⟩ (.int .u8 ((packByte (setBit (fun k => f (8 * q + k)) r b) : Nat) : Int))) g z n (setBit f (8 * q + r) b) := by
  obtain ⟨cs, h1, h2, h3, h4⟩ := h
  refine ⟨_, row_set0 _ _ _ _ _ _ _ h1, by simp [h2], h3, fun j hj => ?_⟩
  by_cases c : j = q
  · subst c
    rw [Array.getElem?_setIfInBounds_self_of_lt (by omega), packByte_congr (f := setBit (fun k => f (8 * j + k)) r b) (g := fun k => setBit f (8 * j + r) b (8 * j + k)) (fun k hk => ?_)]
    simp only [setBit]
    by_cases c : k = r
    · rw [if_pos c, if_pos (by omega)]
    · rw [if_neg c, if_neg (by omega)]
  · rw [Array.getElem?_setIfInBounds_ne (Ne.symm c), h4 j hj, packByte_congr (f := fun k => f (8 * j + k)) (g := fun k => setBit f (8 * q + r) b (8 * j + k)) (fun k hk => ?_)]
    simp only [setBit]
    rw [if_neg (by omega)]
theorem BitRow.congr {W : World} {g z n : Nat} {f f' : Nat → Bool} (h : BitRow W g z n f) (hf : ∀ i, i < 8 * n → f i = f' i) : BitRow W g z n f' := by
  obtain ⟨cs, h1, h2, h3, h4⟩ := h
  refine ⟨cs, h1, h2, h3, fun j hj => ?_⟩
  rw [h4 j hj, packByte_congr (fun k hk => hf (8 * j + k) (by omega))]
theorem BitRow.reads {W : World} {g z n : Nat} {f : Nat → Bool} (h : BitRow W g z n f) (hn : n ≤ 4096) : ReadsInt W .u8 (some ⟨g, 0, none⟩) n (packNums n f) := by
  refine ⟨by simp [packNums], by omega, fun _ => ⟨_, rfl, fun j hj => ?_⟩⟩
  rw [add_plain, (h.cell j hj).1]
  simp [packNums, List.getD_eq_getElem?_getD, hj]
theorem bytesWorld_bits (W : World) (s : ByteArray) : BitRow (Lib.bytesWorld W 5 s) W.heap.size (Lib.bytesCells W 5 s).size s.size (bitOf s) := by
  refine ⟨_, Lib.bytesWorld_at_new W 5 s, rfl, by simp [Lib.bytesCells], fun j hj => ?_⟩
  have h1 := Lib.bytesWorld_cell W 5 s j hj
  have h2 := Lib.bytesWorld_at_new W 5 s
  have h3 : (Lib.bytesWorld W 5 s).cell? ⟨W.heap.size, j, none⟩ = (Lib.bytesCells W 5 s)[j]? := by simp [World.cell?, h2]
  rw [← h3, h1, packByte_bt, ← rd_bytesOf]
  unfold rd bytesOf
  have h' : j < s.data.toList.length := by rw [data_length]; exact hj
  simp [List.getD_eq_getElem?_getD, List.getElem?_eq_getElem h', hj]
theorem pow_forms (r : Nat) (h : r < 8) : IntKind.u8.wrap (1 * 2 ^ min r 8) = ((2 ^ r : Nat) : Int) ∧ IntKind.u8.wrap (2 ^ min r 8) = ((2 ^ r : Nat) : Int) ∧ IntKind.u8.wrap (1 * 2 ^ r) = ((2 ^ r : Nat) : Int) ∧ IntKind.u8.wrap (2 ^ r) = ((2 ^ r : Nat) : Int) := by
  rcases (show r = 0 ∨ r = 1 ∨ r = 2 ∨ r = 3 ∨ r = 4 ∨ r = 5 ∨ r = 6 ∨ r = 7 by omega) with rfl | rfl | rfl | rfl | rfl | rfl | rfl | rfl <;> decide
theorem inSpans_snoc (l : List S76) (x : S76) (i : Nat) : inSpans (l ++ [x]) i = (inSpans l i || decide (x.f0 ≤ i ∧ (i : Int) < x.f0 + x.f1)) := by simp [inSpans]
theorem set_more (G : Nat → Bool) (a i k : Nat) (b : Bool) (h : a ≤ i) : setBit (fun k => if a ≤ k ∧ k < i then b else G k) i b k = if a ≤ k ∧ k < i + 1 then b else G k := by
  simp only [setBit]
  by_cases c1 : k = i
  · rw [if_pos c1, if_pos (by omega)]
  · rw [if_neg c1]
    by_cases c2 : a ≤ k ∧ k < i
    · rw [if_pos c2, if_pos (by omega)]
    · rw [if_neg c2, if_neg (by omega)]
theorem set_more2 (G : Nat → Bool) (a i k : Nat) (h : a ≤ i) : setBit (setBit (fun k => if a ≤ k ∧ k < i then true else G k) i false) i true k = if a ≤ k ∧ k < i + 1 then true else G k := by
  rw [← set_more G a i k true h]
  simp only [setBit]
  split <;> rfl
def spacebitmap_marked.f (a0 : ByteArray) (l1 : List S76) (a2 : Bool) : Option ByteArray :=
  if a0.size ≤ 4096 ∧ l1.length ≤ 100000 ∧ ∀ x ∈ l1, 0 ≤ x.f0 ∧ 0 ≤ x.f1 ∧ x.f0 + x.f1 ≤ 8 * a0.size then some (strOfNums (markNums a0 l1 a2)) else none
set_option maxRecDepth 100000 in
set_option maxHeartbeats 8000000 in
theorem spacebitmap_marked.calls (a0 : ByteArray) (A1 : Option Addr) (c1 : Nat) (l1 : List S76) (a2 : Bool) (r : ByteArray) (w : World) (hr1 : Kd.C k76 w A1 l1.length l1) (hc1 : l1.length ≤ c1) (h : spacebitmap_marked.f a0 l1 a2 = some r) :
    Calls Try.prog 135 #[.string a0, .slice A1 l1.length c1, .bool a2] w fun e w' => e = .returned (.string r) ∧ Below w.heap.size w w' := by
  unfold spacebitmap_marked.f at h
  split at h
  · rename_i hg
    obtain ⟨hs, hl, hx⟩ := hg
    have hr := (Option.some.inj h).symm
    clear h
    have HR1 := Lib.hid hr1
    have HRR := Lib.hid hr
    have HX := Lib.hid hx
    clear hr1 hr hx
    have kb := fun W => print_bytes (P := Try.prog) 9 29 5 Try.underlying9 Try.underlying29 Try.underlying5 a0 W
    have hb0 : Below w.heap.size w (Lib.bytesWorld w 5 a0) := bytes_below (Below.refl _ _) (Nat.le_refl _) 5 a0
    have hb1 := bytesWorld_bits w a0
    obtain ⟨W0, hW0⟩ : ∃ W0, Lib.bytesWorld w 5 a0 = W0 := ⟨_, rfl⟩
    obtain ⟨g, hgw⟩ : ∃ g, w.heap.size = g := ⟨_, rfl⟩
    obtain ⟨z, hz⟩ : ∃ z, (Lib.bytesCells w 5 a0).size = z := ⟨_, rfl⟩
    obtain ⟨cp, hcp⟩ : ∃ cp, grownCap w a0.size 0 5 = cp := ⟨_, rfl⟩
    rw [hW0, hz] at hb1
    rw [hW0] at hb0
    rw [hgw] at hb1
    have HB0 := Lib.hid hb0
    have HB1 := Lib.hid hb1
    have kb' := kb w
    rw [hW0, hgw, hcp] at kb'
    have HGW := Lib.hid hgw
    clear kb hb0 hb1 hgw hz hcp hW0
    go_enter Try.func135, Try.ntmps135
    go_wp2
    go_loopw [15] (fun v15 wr => ∃ (j : Nat), j ≤ l1.length ∧ v15 = .int .i64 (j : Int) ∧ Aside0 (BitRow wr g z a0.size (markF (l1.take j) a2 (bitOf a0))) ∧ Aside0 (Below w.heap.size w wr)) (fun v15 _ => l1.length - (intOf v15).toNat)
    case atStart => exact ⟨0, by omega, rfl, ⟨HB1.out.congr (fun i _ => by simp [markF, inSpans])⟩, ⟨HB0.out⟩⟩
    case round =>
      obtain ⟨j, hj, rfl, HRw, HBw⟩ := hrel
      by_cases hlt : j < l1.length
      · obtain ⟨x, hxx⟩ : ∃ x, x = l1[j] := ⟨_, rfl⟩
        have hxb := HX.out x (by rw [hxx]; exact List.getElem_mem hlt)
        have d1 := decide_eq_true (show (j : Int) < (l1.length : Int) by omega)
        have d2 := decide_eq_true hlt
        have hw1 : IntKind.i64.wrap ((j : Int) + 1) = (j : Int) + 1 := IntWalk.i64_in _ (by omega)
        have hw2 : IntKind.i64.wrap (x.f0 + x.f1) = x.f0 + x.f1 := IntWalk.i64_in _ (by omega)
        obtain ⟨ad, eA, hx0, hx1⟩ := at_T76 HR1.out (j : Int) (by omega) (by omega)
        have hrd : rd_T76 l1 (j : Int) = x := by rw [hxx]; simp [rd_T76, List.getD_eq_getElem?_getD, hlt]
        rw [hrd, Int.toNat_natCast] at hx0 hx1
        subst eA
        have y0 := (HBw.out.cell (World.block_lt_of_cell? w _ hx0)).trans hx0
        have y1 := (HBw.out.cell (World.block_lt_of_cell? w _ hx1)).trans hx1
        clear hx0 hx1 hrd
        have HTK := Lib.hid (show l1.take (j + 1) = l1.take j ++ [x] by rw [hxx]; exact (List.take_append_getElem hlt).symm)
        clear hxx
        obtain ⟨a, ha⟩ : ∃ a : Nat, x.f0 = a := ⟨x.f0.toNat, by omega⟩
        obtain ⟨c, hc⟩ : ∃ c : Nat, x.f1 = c := ⟨x.f1.toNat, by omega⟩
        rw [ha] at hw2 y0 hxb
        rw [hc] at hw2 y1 hxb
        go_wp2
        have HN := Aside0.mk (blk_new wr (.cells #[.int .i64 (a : Int), .int .i64 (c : Int)] 76))
        have HRn := Aside0.mk (HRw.out.below (blk_alloc_eq (W := wr) (o := .cells #[.int .i64 (a : Int), .int .i64 (c : Int)] 76) (by have := HRw.out.lt; exact this)))
        have HBn := Aside0.mk (below_alloc HBw.out (.cells #[.int .i64 (a : Int), .int .i64 (c : Int)] 76))
        have hgx : wr.heap.size ≠ g := fun e => by have := HRw.out.lt; omega
        have hwx := HBw.out.size
        generalize wr.alloc (.cells #[.int .i64 (a : Int), .int .i64 (c : Int)] 76) = W1 at HN HRn HBn ⊢
        obtain ⟨Bx, hBx⟩ : ∃ Bx, wr.heap.size = Bx := ⟨_, rfl⟩
        rw [hBx] at HN hgx hwx ⊢
        clear y0 y1 hBx
        obtain ⟨G, hG⟩ : ∃ G, markF (l1.take j) a2 (bitOf a0) = G := ⟨_, rfl⟩
        rw [hG] at HRn
        have HG := Lib.hid hG
        clear hG
        go_loopw [10] (fun v10 wq => ∃ (i : Nat), a ≤ i ∧ i ≤ a + c ∧ v10 = .int .i64 (i : Int) ∧ Aside0 (BitRow wq g z a0.size (fun k => if a ≤ k ∧ k < i then a2 else G k)) ∧ Aside0 (wq.heap[Bx]? = some (.cells #[.int .i64 (a : Int), .int .i64 (c : Int)] 76 (0, 0))) ∧ Aside0 (Below w.heap.size w wq)) (fun v10 _ => a + c - (intOf v10).toNat)
        case atStart => exact ⟨a, Nat.le_refl _, by omega, rfl, ⟨HRn.out.congr (fun i _ => by rw [if_neg (by omega)])⟩, HN, HBn⟩
        case round =>
          obtain ⟨i, hi1, hi2, rfl, HRq, HNq, HBq⟩ := hrel
          have y0 : wr.cell? ⟨Bx, 0, none⟩ = some (.int .i64 (a : Int)) := (blk_cell HNq.out 0).trans rfl
          have y1 : wr.cell? ⟨Bx, 1, none⟩ = some (.int .i64 (c : Int)) := (blk_cell HNq.out 1).trans rfl
          by_cases hli : i < a + c
          · have d3 := decide_eq_true (show (i : Int) < (a : Int) + (c : Int) by omega)
            have d4 := decide_eq_true hli
            obtain ⟨q, hq⟩ : ∃ q, q = i / 8 := ⟨_, rfl⟩
            obtain ⟨r, hr⟩ : ∃ r, r = i % 8 := ⟨_, rfl⟩
            have t1 : Int.tdiv (i : Int) 8 = (q : Int) := by rw [Int.tdiv_eq_ediv_of_nonneg (by omega)]; omega
            have t2 : Int.tmod (i : Int) 8 = (r : Int) := by rw [Int.tmod_eq_emod_of_nonneg (by omega)]; omega
            have t3 : IntKind.i64.wrap (q : Int) = (q : Int) := IntWalk.i64_in _ (by omega)
            have t4 : IntKind.i64.wrap ((i : Int) + 1) = (i : Int) + 1 := IntWalk.i64_in _ (by omega)
            have hqn : q < a0.size := by omega
            have hrn : r < 8 := by omega
            have HE8 := Lib.hid (show i = 8 * q + r by omega)
            have hq' : i / 8 = q := hq.symm
            have hr' : i % 8 = r := hr.symm
            have hqi : (q : Int) < (a0.size : Int) := by omega
            have p7 := eq_true (show (0 : Int) ≤ (q : Int) by omega)
            have p8 := eq_true (show (0 : Int) ≤ (r : Int) by omega)
            have p9 := eq_true hqi
            have p10 := eq_true hqn
            obtain ⟨p, hp⟩ : ∃ p : Int, ((2 ^ r : Nat) : Int) = p := ⟨_, rfl⟩
            obtain ⟨f1, f2, f3, f4⟩ := pow_forms r hrn
            rw [hp] at f1 f2 f3 f4
            have e1 : (r : Int).toNat = r := Int.toNat_natCast r
            have f5 : IntKind.u8.wrap (1 * 2 ^ min (r : Int).toNat 8) = p := by rw [e1]; exact f1
            have f6 : IntKind.u8.wrap (2 ^ min (r : Int).toNat 8) = p := by rw [e1]; exact f2
            obtain ⟨hcell, hfroz⟩ := HRq.out.cell q hqn
            have HP := Lib.hid (HRq.out.put q r hrn false)
            have k1 := packByte_clear (fun k => (fun k => if a ≤ k ∧ k < i then a2 else G k) (8 * q + k)) r hrn
            have k2 := packByte_set (setBit (fun k => (fun k => if a ≤ k ∧ k < i then a2 else G k) (8 * q + k)) r false) r hrn
            rw [hp] at k1 k2
            obtain ⟨P0, hP0⟩ : ∃ P0 : Int, ((packByte fun k => (fun k => if a ≤ k ∧ k < i then a2 else G k) (8 * q + k) : Nat) : Int) = P0 := ⟨_, rfl⟩
            obtain ⟨P1, hP1⟩ : ∃ P1 : Int, ((packByte (setBit (fun k => (fun k => if a ≤ k ∧ k < i then a2 else G k) (8 * q + k)) r false) : Nat) : Int) = P1 := ⟨_, rfl⟩
            have HK2 := Lib.hid k2
            rw [hP0, hP1] at k1
            rw [hP0] at hcell
            have HP1 := Lib.hid hP1
            have hcd : wr.drew.cell? ⟨g, q, none⟩ = some (.int .u8 P0) := hcell
            have hfd : wr.drew.frozen? ⟨g, q, none⟩ = false := hfroz
            clear hp e1 hP0 hP1 k2 hq hr d4 hqn hqi
            go_wp2
            go_region
            have HP' := Lib.hid (show BitRow ((wr.setCell ⟨g, q, none⟩ (.int .u8 P1)).drew) g z a0.size (setBit (fun k => if a ≤ k ∧ k < i then a2 else G k) i false) by rw [← HP1.out]; have h9 := HP.out; rw [← HE8.out] at h9; exact h9)
            have HN' := Aside0.mk (show ((wr.setCell ⟨g, q, none⟩ (.int .u8 P1)).drew).heap[Bx]? = some (.cells #[.int .i64 (a : Int), .int .i64 (c : Int)] 76 (0, 0)) from (Below.heap_setCell _ _ _ Bx hgx).trans HNq.out)
            have HB' := Aside0.mk (show Below w.heap.size w ((wr.setCell ⟨g, q, none⟩ (.int .u8 P1)).drew) from below_drew1 (HBq.out.setCell (p := ⟨g, q, none⟩) (Nat.le_of_eq HGW.out) _))
            generalize (wr.setCell ⟨g, q, none⟩ (.int .u8 P1)).drew = W2 at HP' HN' HB' ⊢
            clear HP hcell hfroz hcd hfd y0 y1 k1
            cases a2 with
            | false =>
              go_wp2
              go_roundw
              case rel => exact ⟨i + 1, by omega, by omega, by go_num, ⟨HP'.out.congr (fun k _ => set_more G a i k false hi1)⟩, HN', HB'⟩
              case measure => simp [intOf]; omega
            | true =>
              obtain ⟨hcell, hfroz⟩ := HP'.out.cell q (by omega)
              have HP2 := Lib.hid (HP'.out.put q r hrn true)
              have HQ := Lib.hid HP1.out
              have hpp : packByte (fun k => setBit (fun k => if a ≤ k ∧ k < i then true else G k) i false (8 * q + k)) = packByte (setBit (fun k => (fun k => if a ≤ k ∧ k < i then true else G k) (8 * q + k)) r false) := packByte_congr (fun k hk => by simp only [setBit]; have h8 := HE8.out; by_cases c : k = r; rw [if_pos (show 8 * q + k = i by omega), if_pos c]; rw [if_neg (show ¬ 8 * q + k = i by omega), if_neg c])
              rw [hpp, HP1.out] at hcell
              obtain ⟨P2, hP2⟩ : ∃ P2 : Int, ((packByte (setBit (setBit (fun k => (fun k => if a ≤ k ∧ k < i then true else G k) (8 * q + k)) r false) r true) : Nat) : Int) = P2 := ⟨_, rfl⟩
              have k2 := HK2.out
              rw [HP1.out, hP2] at k2
              have HQ2 := Lib.hid (show BitRow (W2.setCell ⟨g, q, none⟩ (.int .u8 P2)) g z a0.size (setBit (setBit (fun k => if a ≤ k ∧ k < i then true else G k) i false) i true) by
                rw [← hP2]; have h9 := HP2.out; rw [← HE8.out, packByte_congr (g := setBit (setBit (fun k => (fun k => if a ≤ k ∧ k < i then true else G k) (8 * q + k)) r false) r true) (fun k hk => by simp only [setBit]; have h8 := HE8.out; by_cases c : k = r; rw [if_pos c, if_pos c]; rw [if_neg c, if_neg c, if_neg (show ¬ 8 * q + k = i by omega), if_neg c])] at h9; exact h9)
              have hcd : W2.drew.cell? ⟨g, q, none⟩ = some (.int .u8 P1) := hcell
              have hfd : W2.drew.frozen? ⟨g, q, none⟩ = false := hfroz
              clear hP2 hpp HP2 hcell hfroz
              go_wp2
              go_region
              have HP3 := Lib.hid (show BitRow ((W2.setCell ⟨g, q, none⟩ (.int .u8 P2)).drew) g z a0.size (setBit (setBit (fun k => if a ≤ k ∧ k < i then true else G k) i false) i true) from HQ2.out)
              have HN3 := Aside0.mk (show ((W2.setCell ⟨g, q, none⟩ (.int .u8 P2)).drew).heap[Bx]? = some (.cells #[.int .i64 (a : Int), .int .i64 (c : Int)] 76 (0, 0)) from (Below.heap_setCell _ _ _ Bx hgx).trans HN'.out)
              have HB3 := Aside0.mk (show Below w.heap.size w ((W2.setCell ⟨g, q, none⟩ (.int .u8 P2)).drew) from below_drew1 (HB'.out.setCell (p := ⟨g, q, none⟩) (Nat.le_of_eq HGW.out) _))
              generalize (W2.setCell ⟨g, q, none⟩ (.int .u8 P2)).drew = W3 at HP3 HN3 HB3 ⊢
              clear HQ2 hcd hfd k2
              go_wp2
              go_roundw
              case rel => exact ⟨i + 1, by omega, by omega, by go_num, ⟨HP3.out.congr (fun k _ => set_more2 G a i k hi1)⟩, HN3, HB3⟩
              case measure => simp [intOf]; omega
          · have d3 := decide_eq_false (show ¬ (i : Int) < (a : Int) + (c : Int) by omega)
            have d4 := decide_eq_false hli
            have HF := Lib.hid (HRq.out.congr (f' := markF (l1.take (j + 1)) a2 (bitOf a0)) (fun k _ => by
              rw [HTK.out, ← HG.out]
              simp only [markF, inSpans_snoc, ha, hc]
              by_cases e : a ≤ k ∧ k < i
              · rw [if_pos e, decide_eq_true (show (a : Int) ≤ (k : Int) ∧ (k : Int) < (a : Int) + (c : Int) by omega), Bool.or_true, if_pos rfl]
              · rw [if_neg e, decide_eq_false (show ¬ ((a : Int) ≤ (k : Int) ∧ (k : Int) < (a : Int) + (c : Int)) by omega), Bool.or_false]))
            go_wp2
            go_roundw
            case rel => exact ⟨j + 1, by omega, by go_num, ⟨HF.out⟩, HBq⟩
            case measure => simp [intOf]; omega
      · have d1 := decide_eq_false (show ¬ (j : Int) < (l1.length : Int) by omega)
        have d2 := decide_eq_false hlt
        have HZ := Lib.hid (show BitRow wr g z a0.size (markF l1 a2 (bitOf a0)) by have h9 := HRw.out; rw [List.take_of_length_le (by omega)] at h9; exact h9)
        have kc := string_of_reads (P := Try.prog) (c := cp) Try.underlying29 Try.underlying5 Try.underlying9 (HZ.out.reads hs)
        have hrs : strOfNums (packNums a0.size (markF l1 a2 (bitOf a0))) = r := HRR.out.symm
        rw [hrs] at kc
        clear hrs
        go_wp2
        go_ret
        exact ⟨rfl, HBw.out⟩
  · simp at h
end Go.Proofs.Ytijbfebbogiiiaa.Q
