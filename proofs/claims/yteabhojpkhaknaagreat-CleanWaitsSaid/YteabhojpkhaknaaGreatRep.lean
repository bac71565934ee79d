/-
  DERIVED: THE SHELF's CONTRACTS AT THIS DUMP, IN PLAIN WORDS (tools/lay-plain.mjs out of 'TryzRepShelf.lean', which tools/lay-shelf.mjs wrote): THE SAME DECLARATIONS UNDER THE SAME NAMES: 'import', 'namespace', 'open', 'def', 'theorem' AND NOTHING ELSE: no command of the shelf's: FOR A HAND-IN. Each laying: the table of numbers ('.._ren') and one theorem, a field a fact of the dump's own or the kernel's comparison; each contract: ONE APPLICATION.
-/
import Derived.Shelf.Strings.Repeat
import Derived.Test.YteabhojpkhaknaaGreatProg
namespace Go.Proofs
open Go.Shelf
def Tryz.lays105_ren : Go.Shelf.Ren := ⟨fun | 105 => 40 | 212 => 85 | 99 => 86 | 165 => 87 | 166 => 88 | 170 => 89 | 169 => 90 | 263 => 166 | 264 => 167 | 206 => 168 | 240 => 169 | 241 => 170 | 276 => 239 | 277 => 240 | n => n, fun | 9 => 9 | 3 => 3 | 4 => 4 | 20 => 20 | 0 => 0 | 46 => 194 | 109 => 195 | 5 => 5 | 72 => 201 | 76 => 205 | 51 => 88 | 146 => 305 | 53 => 23 | 148 => 307 | 70 => 198 | 37 => 199 | 75 => 204 | 127 => 309 | 164 => 389 | 80 => 207 | n => n, fun | n => n⟩
theorem Tryz.lays105 : Go.Proofs.Lays.n105 Tryz.prog Tryz.lays105_ren := {
  mixed := by kernel_rfl
  f99 := Tryz.func86.trans (congrArg some (by kernel_rfl))
  f105 := Tryz.func40.trans (congrArg some (by kernel_rfl))
  f165 := Tryz.func87.trans (congrArg some (by kernel_rfl))
  f166 := Tryz.func88.trans (congrArg some (by kernel_rfl))
  f169 := Tryz.func90.trans (congrArg some (by kernel_rfl))
  f170 := Tryz.func89.trans (congrArg some (by kernel_rfl))
  f206 := Tryz.func168.trans (congrArg some (by kernel_rfl))
  f212 := Tryz.func85.trans (congrArg some (by kernel_rfl))
  f240 := Tryz.func169.trans (congrArg some (by kernel_rfl))
  f241 := Tryz.func170.trans (congrArg some (by kernel_rfl))
  f263 := Tryz.func166.trans (congrArg some (by kernel_rfl))
  f264 := Tryz.func167.trans (congrArg some (by kernel_rfl))
  f276 := Tryz.func239.trans (congrArg some (by kernel_rfl))
  f277 := Tryz.func240.trans (congrArg some (by kernel_rfl))
  t0 := Tryz.underlying0
  a0 := Tryz.isAgg0
  z0 := Tryz.sizeOf0
  v0 := Tryz.zeroValue0
  t3 := Tryz.underlying3
  a3 := Tryz.isAgg3
  z3 := Tryz.sizeOf3
  v3 := Tryz.zeroValue3
  t4 := Tryz.underlying4
  a4 := Tryz.isAgg4
  z4 := Tryz.sizeOf4
  v4 := Tryz.zeroValue4
  t5 := Tryz.underlying5
  a5 := Tryz.isAgg5
  z5 := Tryz.sizeOf5
  v5 := Tryz.zeroValue5
  t9 := Tryz.underlying9
  a9 := Tryz.isAgg9
  z9 := Tryz.sizeOf9
  v9 := Tryz.zeroValue9
  t20 := Tryz.underlying20
  a20 := Tryz.isAgg20
  z20 := Tryz.sizeOf20
  v20 := Tryz.zeroValue20
  t37 := Tryz.underlying199
  a37 := Tryz.isAgg199
  z37 := Tryz.sizeOf199
  v37 := Tryz.zeroValue199
  t46 := Tryz.underlying194
  a46 := Tryz.isAgg194
  z46 := Tryz.sizeOf194
  v46 := Tryz.zeroValue194
  t51 := Tryz.underlying88
  a51 := Tryz.isAgg88
  z51 := Tryz.sizeOf88
  v51 := Tryz.zeroValue88
  t53 := Tryz.underlying23
  a53 := Tryz.isAgg23
  z53 := Tryz.sizeOf23
  v53 := Tryz.zeroValue23
  t70 := Tryz.underlying198
  a70 := Tryz.isAgg198
  z70 := Tryz.sizeOf198
  v70 := Tryz.zeroValue198
  t72 := Tryz.underlying201
  a72 := Tryz.isAgg201
  z72 := Tryz.sizeOf201
  v72 := Tryz.zeroValue201
  t75 := Tryz.underlying204
  a75 := Tryz.isAgg204
  z75 := Tryz.sizeOf204
  v75 := Tryz.zeroValue204
  t76 := Tryz.underlying205
  a76 := Tryz.isAgg205
  z76 := Tryz.sizeOf205
  v76 := Tryz.zeroValue205
  t109 := Tryz.underlying195
  a109 := Tryz.isAgg195
  z109 := Tryz.sizeOf195
  v109 := Tryz.zeroValue195
  t127 := Tryz.underlying309
  a127 := Tryz.isAgg309
  z127 := Tryz.sizeOf309
  v127 := Tryz.zeroValue309
  t146 := Tryz.underlying305
  a146 := Tryz.isAgg305
  z146 := Tryz.sizeOf305
  v146 := Tryz.zeroValue305
  t148 := Tryz.underlying307
  a148 := Tryz.isAgg307
  z148 := Tryz.sizeOf307
  v148 := Tryz.zeroValue307
  t164 := Tryz.underlying389
  a164 := Tryz.isAgg389
  z164 := Tryz.sizeOf389
  v164 := Tryz.zeroValue389 }
theorem Tryz.Builder_Extra_105 : Builder.Extra Tryz.prog Tryz.lays105_ren := {
  sizeBuilder := by kernel_rfl
  liesBuilder := by kernel_rfl
  t5 := Tryz.underlying5
  a5 := Tryz.isAgg5
  z5 := Tryz.sizeOf5
  v5 := Tryz.zeroValue5
  infoByte := by kernel_rfl
  cellsByte := by kernel_rfl
  sizeByte := by kernel_rfl
  neB5 := by decide }
open Go.RowKit Go.Lib in
/-- **strings.Repeat: count ≥ 0, the result within one allocation: count copies of s.** (LAID: no walk: one application.) -/
theorem Tryz.strings_Repeat (s : ByteArray) (c : Nat) (w : World) (hc : c ≤ 9223372036854775807) (hlen : s.size * c ≤ 140737488355328) :
    Calls Tryz.prog 40 #[.string s, .int .i64 c] w fun e w' => e = .returned (.string ⟨(Lib.repeatL s.data.toList c).toArray⟩) ∧ Below w.heap.size w w' := Any.strings_Repeat Tryz.lays105 Tryz.Builder_Extra_105 s c w hc hlen
end Go.Proofs
