/-
  DERIVED: THE SHELF's CONTRACTS AT THIS DUMP, IN PLAIN WORDS (tools/lay-plain.mjs out of 'YtijbfebbogiiiaaShelf.lean', which tools/lay-shelf.mjs wrote): THE SAME DECLARATIONS UNDER THE SAME NAMES: 'import', 'namespace', 'open', 'def', 'theorem' AND NOTHING ELSE: no command of the shelf's: FOR A HAND-IN. Each laying: the table of numbers ('.._ren') and one theorem, a field a fact of the dump's own or the kernel's comparison; each contract: ONE APPLICATION.
-/
import Derived.Shelf.SlGeneric
import Derived.Shelf.Strings.Repeat
import Derived.Ground.SlgfProg
import Derived.Ground.SlgnProg
import Derived.Shelf.SlicesE.IndexFunc
import Derived.Shelf.SlicesQ.IndexFunc
import Derived.Shelf.SlicesE.Clone
import Derived.Test.YtijbfebbogiiiaaProg
namespace Go.Proofs
open Go.Shelf
def Try.lays105_ren : Go.Shelf.Ren := ⟨fun | 105 => 132 | 212 => 153 | 99 => 154 | 165 => 155 | 166 => 156 | 170 => 157 | 169 => 158 | 263 => 167 | 264 => 168 | 206 => 169 | 240 => 170 | 241 => 171 | 276 => 176 | 277 => 177 | n => n, fun | 9 => 9 | 3 => 3 | 4 => 4 | 20 => 20 | 0 => 0 | 46 => 124 | 109 => 125 | 5 => 5 | 72 => 130 | 76 => 134 | 51 => 55 | 146 => 148 | 53 => 150 | 148 => 151 | 70 => 128 | 37 => 29 | 75 => 133 | 127 => 153 | 164 => 156 | 80 => 137 | n => n, fun | n => n⟩
theorem Try.lays105 : Go.Proofs.Lays.n105 Try.prog Try.lays105_ren := {
  mixed := by kernel_rfl
  f99 := Try.func154.trans (congrArg some (by kernel_rfl))
  f105 := Try.func132.trans (congrArg some (by kernel_rfl))
  f165 := Try.func155.trans (congrArg some (by kernel_rfl))
  f166 := Try.func156.trans (congrArg some (by kernel_rfl))
  f169 := Try.func158.trans (congrArg some (by kernel_rfl))
  f170 := Try.func157.trans (congrArg some (by kernel_rfl))
  f206 := Try.func169.trans (congrArg some (by kernel_rfl))
  f212 := Try.func153.trans (congrArg some (by kernel_rfl))
  f240 := Try.func170.trans (congrArg some (by kernel_rfl))
  f241 := Try.func171.trans (congrArg some (by kernel_rfl))
  f263 := Try.func167.trans (congrArg some (by kernel_rfl))
  f264 := Try.func168.trans (congrArg some (by kernel_rfl))
  f276 := Try.func176.trans (congrArg some (by kernel_rfl))
  f277 := Try.func177.trans (congrArg some (by kernel_rfl))
  t0 := Try.underlying0
  a0 := Try.isAgg0
  z0 := Try.sizeOf0
  v0 := Try.zeroValue0
  t3 := Try.underlying3
  a3 := Try.isAgg3
  z3 := Try.sizeOf3
  v3 := Try.zeroValue3
  t4 := Try.underlying4
  a4 := Try.isAgg4
  z4 := Try.sizeOf4
  v4 := Try.zeroValue4
  t5 := Try.underlying5
  a5 := Try.isAgg5
  z5 := Try.sizeOf5
  v5 := Try.zeroValue5
  t9 := Try.underlying9
  a9 := Try.isAgg9
  z9 := Try.sizeOf9
  v9 := Try.zeroValue9
  t20 := Try.underlying20
  a20 := Try.isAgg20
  z20 := Try.sizeOf20
  v20 := Try.zeroValue20
  t37 := Try.underlying29
  a37 := Try.isAgg29
  z37 := Try.sizeOf29
  v37 := Try.zeroValue29
  t46 := Try.underlying124
  a46 := Try.isAgg124
  z46 := Try.sizeOf124
  v46 := Try.zeroValue124
  t51 := Try.underlying55
  a51 := Try.isAgg55
  z51 := Try.sizeOf55
  v51 := Try.zeroValue55
  t53 := Try.underlying150
  a53 := Try.isAgg150
  z53 := Try.sizeOf150
  v53 := Try.zeroValue150
  t70 := Try.underlying128
  a70 := Try.isAgg128
  z70 := Try.sizeOf128
  v70 := Try.zeroValue128
  t72 := Try.underlying130
  a72 := Try.isAgg130
  z72 := Try.sizeOf130
  v72 := Try.zeroValue130
  t75 := Try.underlying133
  a75 := Try.isAgg133
  z75 := Try.sizeOf133
  v75 := Try.zeroValue133
  t76 := Try.underlying134
  a76 := Try.isAgg134
  z76 := Try.sizeOf134
  v76 := Try.zeroValue134
  t109 := Try.underlying125
  a109 := Try.isAgg125
  z109 := Try.sizeOf125
  v109 := Try.zeroValue125
  t127 := Try.underlying153
  a127 := Try.isAgg153
  z127 := Try.sizeOf153
  v127 := Try.zeroValue153
  t146 := Try.underlying148
  a146 := Try.isAgg148
  z146 := Try.sizeOf148
  v146 := Try.zeroValue148
  t148 := Try.underlying151
  a148 := Try.isAgg151
  z148 := Try.sizeOf151
  v148 := Try.zeroValue151
  t164 := Try.underlying156
  a164 := Try.isAgg156
  z164 := Try.sizeOf156
  v164 := Try.zeroValue156 }
theorem Try.Builder_Extra_105 : Builder.Extra Try.prog Try.lays105_ren := {
  sizeBuilder := by kernel_rfl
  liesBuilder := by kernel_rfl
  t5 := Try.underlying5
  a5 := Try.isAgg5
  z5 := Try.sizeOf5
  v5 := Try.zeroValue5
  infoByte := by kernel_rfl
  cellsByte := by kernel_rfl
  sizeByte := by kernel_rfl
  neB5 := by decide }
open Go.RowKit Go.Lib in
theorem Try.strings_Repeat (s : ByteArray) (c : Nat) (w : World) (hc : c ≤ 9223372036854775807) (hlen : s.size * c ≤ 140737488355328) :
    Calls Try.prog 132 #[.string s, .int .i64 c] w fun e w' => e = .returned (.string ⟨(Lib.repeatL s.data.toList c).toArray⟩) ∧ Below w.heap.size w w' := Any.strings_Repeat Try.lays105 Try.Builder_Extra_105 s c w hc hlen
def Try.laysSlH8_f148_ren : Go.Shelf.Ren := ⟨fun | 8 => 148 | 6 => 165 | n => n, fun | 22 => 27 | 23 => 3 | 25 => 123 | 4 => 4 | 3 => 3 | 0 => 0 | n => n, fun | n => n⟩
theorem Try.laysSlH8_f148 : Go.Proofs.SlLaysH.n8 Try.prog Try.laysSlH8_f148_ren := {
  mixed := by kernel_rfl
  f6 := ⟨Try.f165.name, by decide, Try.func165.trans (congrArg some (by kernel_rfl))⟩
  f8 := ⟨Try.f148.name, by decide, Try.func148.trans (congrArg some (by kernel_rfl))⟩
  t0 := Try.underlying0
  a0 := Try.isAgg0
  z0 := Try.sizeOf0
  v0 := Try.zeroValue0
  t3 := Try.underlying3
  a3 := Try.isAgg3
  z3 := Try.sizeOf3
  v3 := Try.zeroValue3
  t4 := Try.underlying4
  a4 := Try.isAgg4
  z4 := Try.sizeOf4
  v4 := Try.zeroValue4
  t22 := Try.underlying27
  a22 := Try.isAgg27
  z22 := Try.sizeOf27
  v22 := Try.zeroValue27
  a23 := Try.isAgg3
  z23 := Try.sizeOf3
  t25 := Try.underlying123
  a25 := Try.isAgg123
  z25 := Try.sizeOf123
  v25 := Try.zeroValue123 }
theorem Try.slices_ContainsFunc {α : Type} [Inhabited α] (enc : α → Value) (p : α → Bool) (g : Nat) (lb : Array Value) (eg : ∀ args w, (callFunc g args).run Try.prog w = .ok (.enter g args) w) (b off n c : Nat) (zs : List α) (w : World) (hp : PredAt Try.prog g lb enc p w) (hz : n ≤ zs.length) (hbig : n ≤ 9223372036854775807) (hc : ∀ j, j < zs.length → w.cell? ⟨b, off + j, none⟩ = some (enc zs[j]!)) :
    Calls Try.prog 148 #[.slice (some ⟨b, off, none⟩) n c, .func (.func g) #[] lb] w fun e w' => e = .returned (.bool ((zs.take n).any p)) ∧ ∃ q, w' = w.drewN q := AnyE.slices_ContainsFunc Try.laysSlH8_f148 enc p g lb eg b off n c zs w hp hz hbig hc
theorem Try.slices_ContainsFunc_empty {α : Type} [Inhabited α] (a : Option Addr) (c : Nat) (fv : Value) (w : World) :
    Calls Try.prog 148 #[.slice a 0 c, fv] w fun e w' => e = .returned (.bool false) ∧ w' = w := AnyE.slices_ContainsFunc_empty Try.laysSlH8_f148 a c fv w
def Try.laysQ8_ren : Go.Shelf.Ren := ⟨fun | 8 => 70 | 6 => 129 | n => n, fun | 22 => 37 | 23 => 46 | 25 => 68 | 4 => 4 | 3 => 3 | 0 => 0 | n => n, fun | n => n⟩
theorem Try.laysQ8 : Go.Proofs.SlLaysH0.n8 Try.prog Try.laysQ8_ren := {
  mixed := by kernel_rfl
  f6 := ⟨Try.f129.name, by decide, Try.func129.trans (congrArg some (by kernel_rfl))⟩
  f8 := ⟨Try.f70.name, by decide, Try.func70.trans (congrArg some (by kernel_rfl))⟩
  t0 := Try.underlying0
  a0 := Try.isAgg0
  z0 := Try.sizeOf0
  v0 := Try.zeroValue0
  t3 := Try.underlying3
  a3 := Try.isAgg3
  z3 := Try.sizeOf3
  v3 := Try.zeroValue3
  t4 := Try.underlying4
  a4 := Try.isAgg4
  z4 := Try.sizeOf4
  v4 := Try.zeroValue4
  t22 := Try.underlying37
  a22 := Try.isAgg37
  z22 := Try.sizeOf37
  v22 := Try.zeroValue37
  t25 := Try.underlying68
  a25 := Try.isAgg68
  z25 := Try.sizeOf68
  v25 := Try.zeroValue68 }
def Try.laysE41_ren : Go.Shelf.Ren := ⟨fun | 41 => 54 | n => n, fun | 22 => 37 | 23 => 46 | 4 => 4 | n => n, fun | n => n⟩
theorem Try.laysE41 : Go.Proofs.SlLaysE0.n41 Try.prog Try.laysE41_ren := {
  mixed := by kernel_rfl
  f41 := ⟨Try.f54.name, by decide, Try.func54.trans (congrArg some (by kernel_rfl))⟩
  t4 := Try.underlying4
  a4 := Try.isAgg4
  z4 := Try.sizeOf4
  v4 := Try.zeroValue4
  t22 := Try.underlying37
  a22 := Try.isAgg37
  z22 := Try.sizeOf37
  v22 := Try.zeroValue37 }
end Go.Proofs
