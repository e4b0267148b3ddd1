import Derived.Shelf.Strings.Builder1
import Derived.Shelf.Strings.Builder2
import Derived.Shelf.Strings.OnBuilder
import Derived.Shelf.Small.Bits
import Derived.Shelf.Small.Wraps
import Derived.Shelf.Strings.BuilderF
import Derived.Shelf.Strings.BuilderK
import Derived.Shelf.Strconv.Atoi
import Derived.Shelf.Strconv.Itoa0
import Derived.Shelf.Strconv.Itoa1
import Derived.Shelf.LaysM
import Derived.Shelf.Strconv.Itoa2
import Derived.Shelf.Strconv.Itoa3
import Derived.Shelf.Strconv.AtoiErrFast
import Derived.Shelf.Strconv.ParseIntEmpty
import Derived.Shelf.Strconv.AtoiFail
import Derived.Shelf.Strconv.Clone
import Derived.Shelf.Strconv.SyntaxError
import Derived.Shelf.LaysC
import Derived.Shelf.Strconv.ToError
import Derived.Shelf.Strconv.Lower
import Derived.Shelf.Strconv.ParseUint10
import Derived.Shelf.Strconv.ParseUint10Empty
import Derived.Shelf.Strconv.ParseUint10Any
import Derived.Shelf.Strconv.ParseInt10
import Derived.Shelf.Strconv.AtoiLong
import Derived.Shelf.Strconv.AtoiInnerAll
import Derived.Shelf.Strconv.RangeError
import Derived.Shelf.Strconv.ToErrorRange
import Derived.Shelf.Strconv.AtoiAll
import Derived.Ground.MpProg
import Derived.Shelf.Pu.ParseUintPublic10
import Derived.Shelf.Strings.Search1
import Derived.Shelf.Strings.Search2
import Derived.Shelf.Strings.Search3
import Derived.Shelf.Strings.Count
import Derived.Shelf.Strings.Shaped
import Derived.Shelf.Strings.Prefix
import Derived.Shelf.Strings.Split
import Derived.Shelf.Strings.SplitShaped
import Derived.Shelf.Unicode.DecodeSlow
import Derived.Test.YtljmonfobefiiaaGreatDoorProg
/-
  DERIVED: THE SHELF's CONTRACTS AT THIS DUMP, IN PLAIN WORDS (tools/lay-plain.mjs out of 'YtljmonfobefiiaaGreatDoorShelf.lean', which tools/lay-shelf.mjs wrote): THE SAME DECLARATIONS UNDER THE SAME NAMES: 'import', 'namespace', 'open', 'def', 'theorem' AND NOTHING ELSE: no command of the shelf's: FOR A HAND-IN. Each laying: the table of numbers ('.._ren') and one theorem, a field a fact of the dump's own or the kernel's comparison; each contract: ONE APPLICATION.
-/
namespace Go.Proofs
open Go.Shelf
def Tryz.lays169_ren : Go.Shelf.Ren := ⟨fun | 169 => 71 | n => n, fun | 70 => 121 | 9 => 9 | 0 => 0 | 72 => 123 | 37 => 62 | 127 => 164 | 3 => 3 | 5 => 5 | n => n, fun | n => n⟩
theorem Tryz.lays169 : Go.Proofs.Lays.n169 Tryz.prog Tryz.lays169_ren := {
  mixed := by kernel_rfl
  f169 := Tryz.func71.trans (congrArg some (by kernel_rfl))
  t0 := Tryz.underlying0
  a0 := Tryz.isAgg0
  z0 := Tryz.sizeOf0
  v0 := Tryz.zeroValue0
  t3 := Tryz.underlying3
  a3 := Tryz.isAgg3
  z3 := Tryz.sizeOf3
  v3 := Tryz.zeroValue3
  t9 := Tryz.underlying9
  a9 := Tryz.isAgg9
  z9 := Tryz.sizeOf9
  v9 := Tryz.zeroValue9
  t37 := Tryz.underlying62
  a37 := Tryz.isAgg62
  z37 := Tryz.sizeOf62
  v37 := Tryz.zeroValue62
  t70 := Tryz.underlying121
  a70 := Tryz.isAgg121
  z70 := Tryz.sizeOf121
  v70 := Tryz.zeroValue121
  t72 := Tryz.underlying123
  a72 := Tryz.isAgg123
  z72 := Tryz.sizeOf123
  v72 := Tryz.zeroValue123
  t127 := Tryz.underlying164
  a127 := Tryz.isAgg164
  z127 := Tryz.sizeOf164
  v127 := Tryz.zeroValue164 }
theorem Tryz.Builder_Extra_169 : Builder.Extra Tryz.prog Tryz.lays169_ren := {
  sizeBuilder := by kernel_rfl
  liesBuilder := by kernel_rfl
  t5 := Tryz.underlying5
  a5 := Tryz.isAgg5
  z5 := Tryz.sizeOf5
  v5 := Tryz.zeroValue5
  infoByte := by kernel_rfl
  cellsByte := by kernel_rfl
  sizeByte := by kernel_rfl
  neB5 := by decide }
def Tryz.lays156_ren : Go.Shelf.Ren := ⟨fun | 156 => 107 | 165 => 138 | 166 => 66 | 169 => 71 | 240 => 104 | 241 => 168 | 276 => 137 | 277 => 184 | n => n, fun | 31 => 28 | 9 => 9 | 3 => 3 | 4 => 4 | 0 => 0 | 20 => 20 | 72 => 123 | 76 => 126 | 70 => 121 | 37 => 62 | 75 => 125 | 127 => 164 | 164 => 188 | 5 => 5 | 80 => 130 | n => n, fun | n => n⟩
theorem Tryz.lays156 : Go.Proofs.Lays.n156 Tryz.prog Tryz.lays156_ren := {
  mixed := by kernel_rfl
  f156 := Tryz.func107.trans (congrArg some (by kernel_rfl))
  f165 := Tryz.func138.trans (congrArg some (by kernel_rfl))
  f166 := Tryz.func66.trans (congrArg some (by kernel_rfl))
  f169 := Tryz.func71.trans (congrArg some (by kernel_rfl))
  f240 := Tryz.func104.trans (congrArg some (by kernel_rfl))
  f241 := Tryz.func168.trans (congrArg some (by kernel_rfl))
  f276 := Tryz.func137.trans (congrArg some (by kernel_rfl))
  f277 := Tryz.func184.trans (congrArg some (by kernel_rfl))
  t0 := Tryz.underlying0
  a0 := Tryz.isAgg0
  z0 := Tryz.sizeOf0
  v0 := Tryz.zeroValue0
  t3 := Tryz.underlying3
  a3 := Tryz.isAgg3
  z3 := Tryz.sizeOf3
  v3 := Tryz.zeroValue3
  t4 := Tryz.underlying4
  a4 := Tryz.isAgg4
  z4 := Tryz.sizeOf4
  v4 := Tryz.zeroValue4
  t9 := Tryz.underlying9
  a9 := Tryz.isAgg9
  z9 := Tryz.sizeOf9
  v9 := Tryz.zeroValue9
  t20 := Tryz.underlying20
  a20 := Tryz.isAgg20
  z20 := Tryz.sizeOf20
  v20 := Tryz.zeroValue20
  t31 := Tryz.underlying28
  a31 := Tryz.isAgg28
  z31 := Tryz.sizeOf28
  v31 := Tryz.zeroValue28
  t37 := Tryz.underlying62
  a37 := Tryz.isAgg62
  z37 := Tryz.sizeOf62
  v37 := Tryz.zeroValue62
  t70 := Tryz.underlying121
  a70 := Tryz.isAgg121
  z70 := Tryz.sizeOf121
  v70 := Tryz.zeroValue121
  t72 := Tryz.underlying123
  a72 := Tryz.isAgg123
  z72 := Tryz.sizeOf123
  v72 := Tryz.zeroValue123
  t75 := Tryz.underlying125
  a75 := Tryz.isAgg125
  z75 := Tryz.sizeOf125
  v75 := Tryz.zeroValue125
  t76 := Tryz.underlying126
  a76 := Tryz.isAgg126
  z76 := Tryz.sizeOf126
  v76 := Tryz.zeroValue126
  t127 := Tryz.underlying164
  a127 := Tryz.isAgg164
  z127 := Tryz.sizeOf164
  v127 := Tryz.zeroValue164
  t164 := Tryz.underlying188
  a164 := Tryz.isAgg188
  z164 := Tryz.sizeOf188
  v164 := Tryz.zeroValue188 }
theorem Tryz.Builder_Extra_156 : Builder.Extra Tryz.prog Tryz.lays156_ren := {
  sizeBuilder := by kernel_rfl
  liesBuilder := by kernel_rfl
  t5 := Tryz.underlying5
  a5 := Tryz.isAgg5
  z5 := Tryz.sizeOf5
  v5 := Tryz.zeroValue5
  infoByte := by kernel_rfl
  cellsByte := by kernel_rfl
  sizeByte := by kernel_rfl
  neB5 := by decide }
open Go.RowKit in
/-- No element: the empty string; the world is as it was. (Whatever the slice's address and capacity: a nil slice too.) (LAID: no walk: one application.) -/
theorem Tryz.strings_Join_none (a : Option Addr) (c : Nat) (sep : ByteArray) (w : World) :
    Calls Tryz.prog 107 #[.slice a 0 c, .string sep] w fun e w' => e = .returned (.string ⟨#[]⟩) ∧ w' = w := Any.strings_Join_none Tryz.lays156 Tryz.Builder_Extra_156 a c sep w
open Go.RowKit in
/-- strings.Join: "Join concatenates the elements of its first argument to create a single string. The separator string sep is placed between elements in the resulting string.": HOWEVER MANY ELEMENTS. Below the heap's end the world is as it was. (LAID: no walk: one application.) -/
theorem Tryz.strings_Join (bk o c : Nat) (xs : List ByteArray) (sep : ByteArray) (w : World) (hcells : ∀ (j : Nat) x, xs[j]? = some x → w.cell? ⟨bk, o + j, none⟩ = some (.string x)) (hbk : bk < w.heap.size) (hN : xs.length ≤ 140737488355328) (hcap : xs.length ≤ c) (hlen : (Lib.join (xs.map (·.data.toList)) sep.data.toList).length ≤ 140737488355328) :
    Calls Tryz.prog 107 #[.slice (some ⟨bk, o, none⟩) xs.length c, .string sep] w fun e w' => e = .returned (.string ⟨(Lib.join (xs.map (·.data.toList)) sep.data.toList).toArray⟩) ∧ Below w.heap.size w w' := Any.strings_Join Tryz.lays156 Tryz.Builder_Extra_156 bk o c xs sep w hcells hbk hN hcap hlen
def Tryz.lays103_ren : Go.Shelf.Ren := ⟨fun | 103 => 83 | 210 => 117 | 206 => 142 | n => n, fun | 9 => 9 | 4 => 4 | 24 => 64 | 3 => 3 | n => n, fun | n => n⟩
theorem Tryz.lays103 : Go.Proofs.Lays.n103 Tryz.prog Tryz.lays103_ren := {
  mixed := by kernel_rfl
  f103 := Tryz.func83.trans (congrArg some (by kernel_rfl))
  f206 := Tryz.func142.trans (congrArg some (by kernel_rfl))
  f210 := Tryz.func117.trans (congrArg some (by kernel_rfl))
  t3 := Tryz.underlying3
  a3 := Tryz.isAgg3
  z3 := Tryz.sizeOf3
  v3 := Tryz.zeroValue3
  t4 := Tryz.underlying4
  a4 := Tryz.isAgg4
  z4 := Tryz.sizeOf4
  v4 := Tryz.zeroValue4
  t9 := Tryz.underlying9
  a9 := Tryz.isAgg9
  z9 := Tryz.sizeOf9
  v9 := Tryz.zeroValue9
  t24 := Tryz.underlying64
  a24 := Tryz.isAgg64
  z24 := Tryz.sizeOf64
  v24 := Tryz.zeroValue64 }
open Go.RowKit in
/-- strings.CutPrefix: "CutPrefix returns s without the provided leading prefix string and reports whether it found the prefix. If s doesn't start with prefix, CutPrefix returns s, false. If prefix is the empty string, CutPrefix returns s, true.": IT RETURNS '(Lib.trimPrefix s p, Lib.hasPrefix s p)'; the world is as it was. (LAID: no walk: one application.) -/
theorem Tryz.strings_CutPrefix (s p : ByteArray) (w : World) :
    Calls Tryz.prog 83 #[.string s, .string p] w fun e w' => e = .returned (.tuple #[.string ⟨(Lib.trimPrefix s.data.toList p.data.toList).toArray⟩, .bool (Lib.hasPrefix s.data.toList p.data.toList)]) ∧ w' = w := Any.strings_CutPrefix Tryz.lays103 s p w
def Tryz.lays104_ren : Go.Shelf.Ren := ⟨fun | 104 => 21 | 211 => 42 | 207 => 81 | n => n, fun | 9 => 9 | 4 => 4 | 24 => 64 | 3 => 3 | n => n, fun | n => n⟩
theorem Tryz.lays104 : Go.Proofs.Lays.n104 Tryz.prog Tryz.lays104_ren := {
  mixed := by kernel_rfl
  f104 := Tryz.func21.trans (congrArg some (by kernel_rfl))
  f207 := Tryz.func81.trans (congrArg some (by kernel_rfl))
  f211 := Tryz.func42.trans (congrArg some (by kernel_rfl))
  t3 := Tryz.underlying3
  a3 := Tryz.isAgg3
  z3 := Tryz.sizeOf3
  v3 := Tryz.zeroValue3
  t4 := Tryz.underlying4
  a4 := Tryz.isAgg4
  z4 := Tryz.sizeOf4
  v4 := Tryz.zeroValue4
  t9 := Tryz.underlying9
  a9 := Tryz.isAgg9
  z9 := Tryz.sizeOf9
  v9 := Tryz.zeroValue9
  t24 := Tryz.underlying64
  a24 := Tryz.isAgg64
  z24 := Tryz.sizeOf64
  v24 := Tryz.zeroValue64 }
open Go.RowKit in
/-- strings.CutSuffix: "CutSuffix returns s without the provided ending suffix string and reports whether it found the suffix. If s doesn't end with suffix, CutSuffix returns s, false. If suffix is the empty string, CutSuffix returns s, true.": IT RETURNS '(Lib.trimSuffix s p, Lib.hasSuffix s p)'; the world is as it was. (LAID: no walk: one application.) -/
theorem Tryz.strings_CutSuffix (s p : ByteArray) (w : World) (hs : s.size ≤ 9223372036854775807) :
    Calls Tryz.prog 21 #[.string s, .string p] w fun e w' => e = .returned (.tuple #[.string ⟨(Lib.trimSuffix s.data.toList p.data.toList).toArray⟩, .bool (Lib.hasSuffix s.data.toList p.data.toList)]) ∧ w' = w := Any.strings_CutSuffix Tryz.lays104 s p w hs
open Go.RowKit in
/-- (*strings.Builder).String: "String returns the accumulated string.": WHATEVER THE BUILDER HOLDS; THE FORM '_k': OVER 'Lib.IsBuilderF' (a builder that 'String()' may have read), AND WITH THE FRAME THAT REACHES ABOVE THE BUILDER: 'Lib.OthersKept': every block that is not b and is no row of uint8's stands as it stood: the iterator of a range among them. (LAID: no walk: one application.) -/
theorem Tryz.Builder_String_any_k (B b : Nat) (l : List UInt8) (w : World) (h : Lib.IsBuilderF 123 5 B b (Lib.byteCells l) w) (hBw : B ≤ w.heap.size) :
    Calls Tryz.prog 71 #[.pointer (some ⟨b, 0, none⟩)] w fun e w' => e = .returned (.string ⟨l.toArray⟩) ∧ (Lib.IsBuilderF 123 5 B b (Lib.byteCells l) w' ∧ Below B w w' ∧ Lib.OthersKept 5 (some b) w w') := Any.Builder_String_any_k Tryz.lays169 Tryz.Builder_Extra_169 B b l w h hBw
def Tryz.laysM171_ren : Go.Shelf.Ren := ⟨fun | 171 => 46 | 243 => 84 | 246 => 118 | 283 => 143 | 284 => 144 | 285 => 145 | 286 => 146 | 129 => 163 | 317 => 169 | 318 => 170 | 319 => 171 | 320 => 172 | 337 => 185 | 338 => 186 | n => n, fun | 3 => 3 | 9 => 9 | 2 => 2 | 4 => 4 | 171 => 193 | 0 => 0 | 53 => 143 | 37 => 62 | 5 => 5 | 173 => 196 | 212 => 218 | 51 => 190 | 20 => 20 | 213 => 219 | 46 => 169 | 232 => 244 | 233 => 245 | n => n, fun | 17 => 3 | 18 => 6 | 19 => 7 | n => n⟩
theorem Tryz.laysM171 : Go.Proofs.LaysM.n171 Tryz.prog Tryz.laysM171_ren := {
  mixed := by kernel_rfl
  f129 := Tryz.func163.trans (congrArg some (by kernel_rfl))
  f171 := Tryz.func46.trans (congrArg some (by kernel_rfl))
  f243 := Tryz.func84.trans (congrArg some (by kernel_rfl))
  f246 := Tryz.func118.trans (congrArg some (by kernel_rfl))
  f283 := Tryz.func143.trans (congrArg some (by kernel_rfl))
  f284 := Tryz.func144.trans (congrArg some (by kernel_rfl))
  f285 := Tryz.func145.trans (congrArg some (by kernel_rfl))
  f286 := Tryz.func146.trans (congrArg some (by kernel_rfl))
  f317 := Tryz.func169.trans (congrArg some (by kernel_rfl))
  f318 := Tryz.func170.trans (congrArg some (by kernel_rfl))
  f319 := Tryz.func171.trans (congrArg some (by kernel_rfl))
  f320 := Tryz.func172.trans (congrArg some (by kernel_rfl))
  f337 := Tryz.func185.trans (congrArg some (by kernel_rfl))
  f338 := Tryz.func186.trans (congrArg some (by kernel_rfl))
  t0 := Tryz.underlying0
  a0 := Tryz.isAgg0
  z0 := Tryz.sizeOf0
  v0 := Tryz.zeroValue0
  t2 := Tryz.underlying2
  a2 := Tryz.isAgg2
  z2 := Tryz.sizeOf2
  v2 := Tryz.zeroValue2
  t3 := Tryz.underlying3
  a3 := Tryz.isAgg3
  z3 := Tryz.sizeOf3
  v3 := Tryz.zeroValue3
  t4 := Tryz.underlying4
  a4 := Tryz.isAgg4
  z4 := Tryz.sizeOf4
  v4 := Tryz.zeroValue4
  t5 := Tryz.underlying5
  a5 := Tryz.isAgg5
  z5 := Tryz.sizeOf5
  v5 := Tryz.zeroValue5
  t9 := Tryz.underlying9
  a9 := Tryz.isAgg9
  z9 := Tryz.sizeOf9
  v9 := Tryz.zeroValue9
  t20 := Tryz.underlying20
  a20 := Tryz.isAgg20
  z20 := Tryz.sizeOf20
  v20 := Tryz.zeroValue20
  t37 := Tryz.underlying62
  a37 := Tryz.isAgg62
  z37 := Tryz.sizeOf62
  v37 := Tryz.zeroValue62
  t46 := Tryz.underlying169
  a46 := Tryz.isAgg169
  z46 := Tryz.sizeOf169
  v46 := Tryz.zeroValue169
  t51 := Tryz.underlying190
  a51 := Tryz.isAgg190
  z51 := Tryz.sizeOf190
  v51 := Tryz.zeroValue190
  t53 := Tryz.underlying143
  a53 := Tryz.isAgg143
  z53 := Tryz.sizeOf143
  v53 := Tryz.zeroValue143
  t171 := Tryz.underlying193
  a171 := Tryz.isAgg193
  z171 := Tryz.sizeOf193
  v171 := Tryz.zeroValue193
  t173 := Tryz.underlying196
  a173 := Tryz.isAgg196
  z173 := Tryz.sizeOf196
  v173 := Tryz.zeroValue196
  t212 := Tryz.underlying218
  a212 := Tryz.isAgg218
  z212 := Tryz.sizeOf218
  v212 := Tryz.zeroValue218
  t213 := Tryz.underlying219
  a213 := Tryz.isAgg219
  z213 := Tryz.sizeOf219
  t232 := Tryz.underlying244
  a232 := Tryz.isAgg244
  z232 := Tryz.sizeOf244
  v232 := Tryz.zeroValue244
  t233 := Tryz.underlying245
  a233 := Tryz.isAgg245
  z233 := Tryz.sizeOf245
  v233 := Tryz.zeroValue245
  g17 := by kernel_rfl
  g18 := by kernel_rfl
  g19 := by kernel_rfl
  i0 := by kernel_rfl
  i2 := by kernel_rfl
  i3 := by kernel_rfl
  i4 := by kernel_rfl
  i5 := by kernel_rfl
  i9 := by kernel_rfl
  i20 := by kernel_rfl
  i37 := by kernel_rfl
  i46 := by kernel_rfl
  i51 := by kernel_rfl
  i53 := by kernel_rfl
  i171 := by kernel_rfl
  i173 := by kernel_rfl
  i212 := by kernel_rfl
  i232 := by kernel_rfl
  i233 := by kernel_rfl
  m17 := by kernel_rfl
  m18 := by kernel_rfl
  m19 := by kernel_rfl }
open Go.RowKit Go.Sort Go.Lib in
/-- strconv.Itoa: "Itoa is equivalent to FormatInt(int64(i), 10).": i's DECIMAL NUMERAL ('Lib.itoa': a '-' where i is negative, then the digits), FOR EVERY int. The world behind the call: the world before it, new blocks behind the heap (the library's 'var a [24]byte'), draws. (LAID: no walk: one application.) -/
theorem Tryz.strconv_Itoa (n : Int) (h0 : -9223372036854775808 ≤ n) (h1 : n ≤ 9223372036854775807) (w : World) (htab : Lib.TabIs Tryz.prog w "internal/strconv.uint64pow10" .u64 Lib.pow10Tab) :
    Calls Tryz.prog 46 #[.int .i64 n] w fun e w' => e = .returned (.string ⟨(Lib.itoa n).toArray⟩) ∧ ∃ k os, w' = grow (w.drewN k) os := Any.strconv_Itoa Tryz.laysM171 n h0 h1 w htab
def Tryz.laysC245_ren : Go.Shelf.Ren := ⟨fun | 245 => 121 | 279 => 150 | 280 => 151 | 281 => 152 | 282 => 153 | 316 => 174 | 171 => 46 | 205 => 175 | 243 => 84 | 246 => 118 | 283 => 143 | 284 => 144 | 285 => 145 | 286 => 146 | 129 => 163 | 317 => 169 | 318 => 170 | 319 => 171 | 320 => 172 | 337 => 185 | 338 => 186 | n => n, fun | 9 => 9 | 3 => 3 | 75 => 125 | 167 => 198 | 4 => 4 | 168 => 200 | 210 => 224 | 37 => 62 | 0 => 0 | 127 => 164 | 145 => 239 | 143 => 237 | 2 => 2 | 171 => 193 | 53 => 143 | 5 => 5 | 173 => 196 | 212 => 218 | 51 => 190 | 20 => 20 | 213 => 219 | 46 => 169 | 232 => 244 | 233 => 245 | 80 => 130 | n => n, fun | 15 => 4 | 16 => 5 | 17 => 3 | 18 => 6 | 19 => 7 | n => n⟩
theorem Tryz.laysC245 : Go.Proofs.LaysC.n245 Tryz.prog Tryz.laysC245_ren := {
  mixed := by kernel_rfl
  f129 := Tryz.func163.trans (congrArg some (by kernel_rfl))
  f171 := Tryz.func46.trans (congrArg some (by kernel_rfl))
  f205 := Tryz.func175.trans (congrArg some (by kernel_rfl))
  f243 := Tryz.func84.trans (congrArg some (by kernel_rfl))
  f245 := Tryz.func121.trans (congrArg some (by kernel_rfl))
  f246 := Tryz.func118.trans (congrArg some (by kernel_rfl))
  f279 := Tryz.func150.trans (congrArg some (by kernel_rfl))
  f280 := Tryz.func151.trans (congrArg some (by kernel_rfl))
  f281 := Tryz.func152.trans (congrArg some (by kernel_rfl))
  f282 := Tryz.func153.trans (congrArg some (by kernel_rfl))
  f283 := Tryz.func143.trans (congrArg some (by kernel_rfl))
  f284 := Tryz.func144.trans (congrArg some (by kernel_rfl))
  f285 := Tryz.func145.trans (congrArg some (by kernel_rfl))
  f286 := Tryz.func146.trans (congrArg some (by kernel_rfl))
  f316 := Tryz.func174.trans (congrArg some (by kernel_rfl))
  f317 := Tryz.func169.trans (congrArg some (by kernel_rfl))
  f318 := Tryz.func170.trans (congrArg some (by kernel_rfl))
  f319 := Tryz.func171.trans (congrArg some (by kernel_rfl))
  f320 := Tryz.func172.trans (congrArg some (by kernel_rfl))
  f337 := Tryz.func185.trans (congrArg some (by kernel_rfl))
  f338 := Tryz.func186.trans (congrArg some (by kernel_rfl))
  t0 := Tryz.underlying0
  a0 := Tryz.isAgg0
  z0 := Tryz.sizeOf0
  v0 := Tryz.zeroValue0
  t2 := Tryz.underlying2
  a2 := Tryz.isAgg2
  z2 := Tryz.sizeOf2
  v2 := Tryz.zeroValue2
  t3 := Tryz.underlying3
  a3 := Tryz.isAgg3
  z3 := Tryz.sizeOf3
  v3 := Tryz.zeroValue3
  t4 := Tryz.underlying4
  a4 := Tryz.isAgg4
  z4 := Tryz.sizeOf4
  v4 := Tryz.zeroValue4
  t5 := Tryz.underlying5
  a5 := Tryz.isAgg5
  z5 := Tryz.sizeOf5
  v5 := Tryz.zeroValue5
  t9 := Tryz.underlying9
  a9 := Tryz.isAgg9
  z9 := Tryz.sizeOf9
  v9 := Tryz.zeroValue9
  t20 := Tryz.underlying20
  a20 := Tryz.isAgg20
  z20 := Tryz.sizeOf20
  v20 := Tryz.zeroValue20
  t37 := Tryz.underlying62
  a37 := Tryz.isAgg62
  z37 := Tryz.sizeOf62
  v37 := Tryz.zeroValue62
  t46 := Tryz.underlying169
  a46 := Tryz.isAgg169
  z46 := Tryz.sizeOf169
  v46 := Tryz.zeroValue169
  t51 := Tryz.underlying190
  a51 := Tryz.isAgg190
  z51 := Tryz.sizeOf190
  v51 := Tryz.zeroValue190
  t53 := Tryz.underlying143
  a53 := Tryz.isAgg143
  z53 := Tryz.sizeOf143
  v53 := Tryz.zeroValue143
  t75 := Tryz.underlying125
  a75 := Tryz.isAgg125
  z75 := Tryz.sizeOf125
  v75 := Tryz.zeroValue125
  t127 := Tryz.underlying164
  a127 := Tryz.isAgg164
  z127 := Tryz.sizeOf164
  v127 := Tryz.zeroValue164
  t143 := Tryz.underlying237
  a143 := Tryz.isAgg237
  z143 := Tryz.sizeOf237
  v143 := Tryz.zeroValue237
  t145 := Tryz.underlying239
  a145 := Tryz.isAgg239
  z145 := Tryz.sizeOf239
  v145 := Tryz.zeroValue239
  t167 := Tryz.underlying198
  a167 := Tryz.isAgg198
  z167 := Tryz.sizeOf198
  v167 := Tryz.zeroValue198
  t168 := Tryz.underlying200
  a168 := Tryz.isAgg200
  z168 := Tryz.sizeOf200
  v168 := Tryz.zeroValue200
  t171 := Tryz.underlying193
  a171 := Tryz.isAgg193
  z171 := Tryz.sizeOf193
  v171 := Tryz.zeroValue193
  t173 := Tryz.underlying196
  a173 := Tryz.isAgg196
  z173 := Tryz.sizeOf196
  v173 := Tryz.zeroValue196
  t210 := Tryz.underlying224
  a210 := Tryz.isAgg224
  z210 := Tryz.sizeOf224
  v210 := Tryz.zeroValue224
  t212 := Tryz.underlying218
  a212 := Tryz.isAgg218
  z212 := Tryz.sizeOf218
  v212 := Tryz.zeroValue218
  t213 := Tryz.underlying219
  a213 := Tryz.isAgg219
  z213 := Tryz.sizeOf219
  t232 := Tryz.underlying244
  a232 := Tryz.isAgg244
  z232 := Tryz.sizeOf244
  v232 := Tryz.zeroValue244
  t233 := Tryz.underlying245
  a233 := Tryz.isAgg245
  z233 := Tryz.sizeOf245
  v233 := Tryz.zeroValue245
  g15 := by kernel_rfl
  g16 := by kernel_rfl
  g17 := by kernel_rfl
  g18 := by kernel_rfl
  g19 := by kernel_rfl
  t80 := Tryz.underlying130
  a80 := Tryz.isAgg130
  z80 := Tryz.sizeOf130
  v80 := Tryz.zeroValue130
  i0 := by kernel_rfl
  i2 := by kernel_rfl
  i3 := by kernel_rfl
  i4 := by kernel_rfl
  i5 := by kernel_rfl
  i9 := by kernel_rfl
  i20 := by kernel_rfl
  i37 := by kernel_rfl
  i46 := by kernel_rfl
  i51 := by kernel_rfl
  i53 := by kernel_rfl
  i75 := by kernel_rfl
  i80 := by kernel_rfl
  i127 := by kernel_rfl
  i143 := by kernel_rfl
  i145 := by kernel_rfl
  i167 := by kernel_rfl
  i168 := by kernel_rfl
  i171 := by kernel_rfl
  i173 := by kernel_rfl
  i210 := by kernel_rfl
  i212 := by kernel_rfl
  i232 := by kernel_rfl
  i233 := by kernel_rfl
  m15 := by kernel_rfl
  m16 := by kernel_rfl
  m17 := by kernel_rfl
  m18 := by kernel_rfl
  m19 := by kernel_rfl
  c0 := by kernel_rfl
  c2 := by kernel_rfl
  c3 := by kernel_rfl
  c4 := by kernel_rfl
  c5 := by kernel_rfl
  c9 := by kernel_rfl
  c20 := by kernel_rfl
  c37 := by kernel_rfl
  c46 := by kernel_rfl
  c51 := by kernel_rfl
  c53 := by kernel_rfl
  c75 := by kernel_rfl
  c80 := by kernel_rfl
  c127 := by kernel_rfl
  c143 := by kernel_rfl
  c145 := by kernel_rfl
  c167 := by kernel_rfl
  c168 := by kernel_rfl
  c171 := by kernel_rfl
  c173 := by kernel_rfl
  c210 := by kernel_rfl
  c212 := by kernel_rfl
  c213 := by kernel_rfl
  c232 := by kernel_rfl
  c233 := by kernel_rfl }
open Go.RowKit in
/-- strconv.toError, at the inner package's ErrSyntax: 'syntaxError(fn, s)' as an error: A *NumError IN A NEW BLOCK. (LAID: no walk: one application.) -/
theorem Tryz.strconv_toError_syntax (fn s : ByteArray) (base bits : Int) (ev : Value) (w : World) (hlim : s.size ≤ 281474976710656) (hv : w.cell? ⟨4, 0, none⟩ = some ev) (hev : ev = .nilIface ∨ ∃ te pe, ev = .iface te pe) :
    Calls Tryz.prog 121 #[.string fn, .string s, .int .i64 base, .int .i64 bits, .iface 198 (.int .i64 2)] w fun e w' => ∃ N, e = .returned (.iface 200 (.pointer (some ⟨N, 0, none⟩))) ∧ w.heap.size ≤ N ∧ w'.heap[N]? = some (.cells #[.string fn, .string s, ev] 224 (0, 0)) ∧ Below w.heap.size w w' := Any.strconv_toError_syntax Tryz.laysC245 fn s base bits ev w hlim hv hev
def Tryz.lays321_ren : Go.Shelf.Ren := ⟨fun | 321 => 148 | n => n, fun | 5 => 5 | n => n, fun | n => n⟩
theorem Tryz.lays321 : Go.Proofs.Lays.n321 Tryz.prog Tryz.lays321_ren := {
  mixed := by kernel_rfl
  f321 := Tryz.func148.trans (congrArg some (by kernel_rfl))
  t5 := Tryz.underlying5
  a5 := Tryz.isAgg5
  z5 := Tryz.sizeOf5
  v5 := Tryz.zeroValue5 }
open Go.RowKit in
/-- internal/strconv.lower: 'c | ('x' - 'X')': the bit 32 set. The world is as it was. (LAID: no walk: one application.) -/
theorem Tryz.internal_strconv_lower (c : Int) (w : World) :
    Calls Tryz.prog 148 #[.int .u8 c] w fun e w' => e = .returned (.int .u8 (bits .or .u8 c 32)) ∧ w' = w := Any.internal_strconv_lower Tryz.lays321 c w
open Go.RowKit in
/-- strconv.toError, at the inner package's ErrRange: 'rangeError(fn, s)' as an error: A *NumError IN A NEW BLOCK. (LAID: no walk: one application.) -/
theorem Tryz.strconv_toError_range (fn s : ByteArray) (base bits : Int) (ev : Value) (w : World) (hlim : s.size ≤ 281474976710656) (hv : w.cell? ⟨5, 0, none⟩ = some ev) (hev : ev = .nilIface ∨ ∃ te pe, ev = .iface te pe) :
    Calls Tryz.prog 121 #[.string fn, .string s, .int .i64 base, .int .i64 bits, .iface 198 (.int .i64 1)] w fun e w' => ∃ N, e = .returned (.iface 200 (.pointer (some ⟨N, 0, none⟩))) ∧ w.heap.size ≤ N ∧ w'.heap[N]? = some (.cells #[.string fn, .string s, ev] 224 (0, 0)) ∧ Below w.heap.size w w' := Any.strconv_toError_range Tryz.laysC245 fn s base bits ev w hlim hv hev
def Tryz.laysC172_ren : Go.Shelf.Ren := ⟨fun | 172 => 119 | 244 => 147 | 245 => 121 | 247 => 173 | 279 => 150 | 280 => 151 | 281 => 152 | 282 => 153 | 287 => 120 | 316 => 174 | 171 => 46 | 205 => 175 | 321 => 148 | 322 => 149 | 243 => 84 | 246 => 118 | 283 => 143 | 284 => 144 | 285 => 145 | 286 => 146 | 129 => 163 | 317 => 169 | 318 => 170 | 319 => 171 | 320 => 172 | 337 => 185 | 338 => 186 | n => n, fun | 9 => 9 | 3 => 3 | 75 => 125 | 76 => 126 | 4 => 4 | 5 => 5 | 167 => 198 | 37 => 62 | 0 => 0 | 85 => 220 | 2 => 2 | 168 => 200 | 53 => 143 | 175 => 144 | 46 => 169 | 210 => 224 | 127 => 164 | 145 => 239 | 143 => 237 | 21 => 21 | 171 => 193 | 173 => 196 | 212 => 218 | 51 => 190 | 20 => 20 | 213 => 219 | 232 => 244 | 233 => 245 | 80 => 130 | n => n, fun | 15 => 4 | 16 => 5 | 17 => 3 | 18 => 6 | 19 => 7 | n => n⟩
theorem Tryz.laysC172 : Go.Proofs.LaysC.n172 Tryz.prog Tryz.laysC172_ren := {
  mixed := by kernel_rfl
  f129 := Tryz.func163.trans (congrArg some (by kernel_rfl))
  f171 := Tryz.func46.trans (congrArg some (by kernel_rfl))
  f172 := Tryz.func119.trans (congrArg some (by kernel_rfl))
  f205 := Tryz.func175.trans (congrArg some (by kernel_rfl))
  f243 := Tryz.func84.trans (congrArg some (by kernel_rfl))
  f244 := Tryz.func147.trans (congrArg some (by kernel_rfl))
  f245 := Tryz.func121.trans (congrArg some (by kernel_rfl))
  f246 := Tryz.func118.trans (congrArg some (by kernel_rfl))
  f247 := Tryz.func173.trans (congrArg some (by kernel_rfl))
  f279 := Tryz.func150.trans (congrArg some (by kernel_rfl))
  f280 := Tryz.func151.trans (congrArg some (by kernel_rfl))
  f281 := Tryz.func152.trans (congrArg some (by kernel_rfl))
  f282 := Tryz.func153.trans (congrArg some (by kernel_rfl))
  f283 := Tryz.func143.trans (congrArg some (by kernel_rfl))
  f284 := Tryz.func144.trans (congrArg some (by kernel_rfl))
  f285 := Tryz.func145.trans (congrArg some (by kernel_rfl))
  f286 := Tryz.func146.trans (congrArg some (by kernel_rfl))
  f287 := Tryz.func120.trans (congrArg some (by kernel_rfl))
  f316 := Tryz.func174.trans (congrArg some (by kernel_rfl))
  f317 := Tryz.func169.trans (congrArg some (by kernel_rfl))
  f318 := Tryz.func170.trans (congrArg some (by kernel_rfl))
  f319 := Tryz.func171.trans (congrArg some (by kernel_rfl))
  f320 := Tryz.func172.trans (congrArg some (by kernel_rfl))
  f321 := Tryz.func148.trans (congrArg some (by kernel_rfl))
  f322 := Tryz.func149.trans (congrArg some (by kernel_rfl))
  f337 := Tryz.func185.trans (congrArg some (by kernel_rfl))
  f338 := Tryz.func186.trans (congrArg some (by kernel_rfl))
  t0 := Tryz.underlying0
  a0 := Tryz.isAgg0
  z0 := Tryz.sizeOf0
  v0 := Tryz.zeroValue0
  t2 := Tryz.underlying2
  a2 := Tryz.isAgg2
  z2 := Tryz.sizeOf2
  v2 := Tryz.zeroValue2
  t3 := Tryz.underlying3
  a3 := Tryz.isAgg3
  z3 := Tryz.sizeOf3
  v3 := Tryz.zeroValue3
  t4 := Tryz.underlying4
  a4 := Tryz.isAgg4
  z4 := Tryz.sizeOf4
  v4 := Tryz.zeroValue4
  t5 := Tryz.underlying5
  a5 := Tryz.isAgg5
  z5 := Tryz.sizeOf5
  v5 := Tryz.zeroValue5
  t9 := Tryz.underlying9
  a9 := Tryz.isAgg9
  z9 := Tryz.sizeOf9
  v9 := Tryz.zeroValue9
  t20 := Tryz.underlying20
  a20 := Tryz.isAgg20
  z20 := Tryz.sizeOf20
  v20 := Tryz.zeroValue20
  t21 := Tryz.underlying21
  a21 := Tryz.isAgg21
  z21 := Tryz.sizeOf21
  v21 := Tryz.zeroValue21
  t37 := Tryz.underlying62
  a37 := Tryz.isAgg62
  z37 := Tryz.sizeOf62
  v37 := Tryz.zeroValue62
  t46 := Tryz.underlying169
  a46 := Tryz.isAgg169
  z46 := Tryz.sizeOf169
  v46 := Tryz.zeroValue169
  t51 := Tryz.underlying190
  a51 := Tryz.isAgg190
  z51 := Tryz.sizeOf190
  v51 := Tryz.zeroValue190
  t53 := Tryz.underlying143
  a53 := Tryz.isAgg143
  z53 := Tryz.sizeOf143
  v53 := Tryz.zeroValue143
  t75 := Tryz.underlying125
  a75 := Tryz.isAgg125
  z75 := Tryz.sizeOf125
  v75 := Tryz.zeroValue125
  t76 := Tryz.underlying126
  a76 := Tryz.isAgg126
  z76 := Tryz.sizeOf126
  v76 := Tryz.zeroValue126
  t85 := Tryz.underlying220
  a85 := Tryz.isAgg220
  z85 := Tryz.sizeOf220
  v85 := Tryz.zeroValue220
  t127 := Tryz.underlying164
  a127 := Tryz.isAgg164
  z127 := Tryz.sizeOf164
  v127 := Tryz.zeroValue164
  t143 := Tryz.underlying237
  a143 := Tryz.isAgg237
  z143 := Tryz.sizeOf237
  v143 := Tryz.zeroValue237
  t145 := Tryz.underlying239
  a145 := Tryz.isAgg239
  z145 := Tryz.sizeOf239
  v145 := Tryz.zeroValue239
  t167 := Tryz.underlying198
  a167 := Tryz.isAgg198
  z167 := Tryz.sizeOf198
  v167 := Tryz.zeroValue198
  t168 := Tryz.underlying200
  a168 := Tryz.isAgg200
  z168 := Tryz.sizeOf200
  v168 := Tryz.zeroValue200
  t171 := Tryz.underlying193
  a171 := Tryz.isAgg193
  z171 := Tryz.sizeOf193
  v171 := Tryz.zeroValue193
  t173 := Tryz.underlying196
  a173 := Tryz.isAgg196
  z173 := Tryz.sizeOf196
  v173 := Tryz.zeroValue196
  t175 := Tryz.underlying144
  a175 := Tryz.isAgg144
  z175 := Tryz.sizeOf144
  v175 := Tryz.zeroValue144
  t210 := Tryz.underlying224
  a210 := Tryz.isAgg224
  z210 := Tryz.sizeOf224
  v210 := Tryz.zeroValue224
  t212 := Tryz.underlying218
  a212 := Tryz.isAgg218
  z212 := Tryz.sizeOf218
  v212 := Tryz.zeroValue218
  t213 := Tryz.underlying219
  a213 := Tryz.isAgg219
  z213 := Tryz.sizeOf219
  t232 := Tryz.underlying244
  a232 := Tryz.isAgg244
  z232 := Tryz.sizeOf244
  v232 := Tryz.zeroValue244
  t233 := Tryz.underlying245
  a233 := Tryz.isAgg245
  z233 := Tryz.sizeOf245
  v233 := Tryz.zeroValue245
  g15 := by kernel_rfl
  g16 := by kernel_rfl
  g17 := by kernel_rfl
  g18 := by kernel_rfl
  g19 := by kernel_rfl
  t80 := Tryz.underlying130
  a80 := Tryz.isAgg130
  z80 := Tryz.sizeOf130
  v80 := Tryz.zeroValue130
  i0 := by kernel_rfl
  i2 := by kernel_rfl
  i3 := by kernel_rfl
  i4 := by kernel_rfl
  i5 := by kernel_rfl
  i9 := by kernel_rfl
  i20 := by kernel_rfl
  i21 := by kernel_rfl
  i37 := by kernel_rfl
  i46 := by kernel_rfl
  i51 := by kernel_rfl
  i53 := by kernel_rfl
  i75 := by kernel_rfl
  i76 := by kernel_rfl
  i80 := by kernel_rfl
  i85 := by kernel_rfl
  i127 := by kernel_rfl
  i143 := by kernel_rfl
  i145 := by kernel_rfl
  i167 := by kernel_rfl
  i168 := by kernel_rfl
  i171 := by kernel_rfl
  i173 := by kernel_rfl
  i175 := by kernel_rfl
  i210 := by kernel_rfl
  i212 := by kernel_rfl
  i232 := by kernel_rfl
  i233 := by kernel_rfl
  m15 := by kernel_rfl
  m16 := by kernel_rfl
  m17 := by kernel_rfl
  m18 := by kernel_rfl
  m19 := by kernel_rfl
  c0 := by kernel_rfl
  c2 := by kernel_rfl
  c3 := by kernel_rfl
  c4 := by kernel_rfl
  c5 := by kernel_rfl
  c9 := by kernel_rfl
  c20 := by kernel_rfl
  c21 := by kernel_rfl
  c37 := by kernel_rfl
  c46 := by kernel_rfl
  c51 := by kernel_rfl
  c53 := by kernel_rfl
  c75 := by kernel_rfl
  c76 := by kernel_rfl
  c80 := by kernel_rfl
  c85 := by kernel_rfl
  c127 := by kernel_rfl
  c143 := by kernel_rfl
  c145 := by kernel_rfl
  c167 := by kernel_rfl
  c168 := by kernel_rfl
  c171 := by kernel_rfl
  c173 := by kernel_rfl
  c175 := by kernel_rfl
  c210 := by kernel_rfl
  c212 := by kernel_rfl
  c213 := by kernel_rfl
  c232 := by kernel_rfl
  c233 := by kernel_rfl }
open Go.RowKit in
/-- strconv.Atoi, AT EVERY STRING THAT SPELLS AN int ('Lib.atoiAll .. = .ok v'; of whatever length: leading zeros count): v, AND NO ERROR. The world: as it was, or with the one new row that '[]byte(..)' lays. (LAID: no walk: one application.) -/
theorem Tryz.strconv_Atoi_ok (s : ByteArray) (hmax : s.size ≤ 9223372036854775806) (v : Int) (h : Lib.atoiAll s.data.toList = .ok v) (w : World) :
    Calls Tryz.prog 119 #[.string s] w fun e w' => e = .returned (.tuple #[.int .i64 v, .nilIface]) ∧ (w' = w ∨ ∃ t, w' = Lib.bytesWorld w 5 t) := Any.strconv_Atoi_ok Tryz.laysC172 s hmax v h w
open Go.RowKit in
/-- strconv.Atoi, AT EVERY STRING THAT IS NO DECIMAL NUMERAL ('.syntax'): 0, AND AN ERROR THAT IS NOT nil: a *NumError in a new block N: {Func: "Atoi", Num: s's bytes, Err: what the variable ErrSyntax holds}. Of what was there nothing has turned. (LAID: no walk: one application.) -/
theorem Tryz.strconv_Atoi_syntax (s : ByteArray) (hlim : s.size ≤ 281474976710656) (h : Lib.atoiAll s.data.toList = .syntax) (ev : Value) (w : World) (hv : w.cell? ⟨4, 0, none⟩ = some ev) (hev : ev = .nilIface ∨ ∃ te pe, ev = .iface te pe) :
    Calls Tryz.prog 119 #[.string s] w fun e w' => ∃ N, e = .returned (.tuple #[.int .i64 (0), .iface 200 (.pointer (some ⟨N, 0, none⟩))]) ∧ w.heap.size ≤ N ∧ w'.heap[N]? = some (.cells #[.string ⟨#[65, 116, 111, 105]⟩, .string s, ev] 224 (0, 0)) ∧ Below w.heap.size w w' := Any.strconv_Atoi_syntax Tryz.laysC172 s hlim h ev w hv hev
open Go.RowKit in
/-- strconv.Atoi, AT EVERY NUMERAL THAT NO int HOLDS ('.range'): THE GREATEST OR THE LEAST int, BY THE SIGN ('Lib.atoiSat'), AND AN ERROR THAT IS NOT nil: a *NumError in a new block N: {Func: "Atoi", Num: s's bytes, Err: what the variable ErrRange holds}. Of what was there nothing has turned. (LAID: no walk: one application.) -/
theorem Tryz.strconv_Atoi_range (s : ByteArray) (hlim : s.size ≤ 281474976710656) (h : Lib.atoiAll s.data.toList = .range) (ev : Value) (w : World) (hv : w.cell? ⟨5, 0, none⟩ = some ev) (hev : ev = .nilIface ∨ ∃ te pe, ev = .iface te pe) :
    Calls Tryz.prog 119 #[.string s] w fun e w' => ∃ N, e = .returned (.tuple #[.int .i64 (Lib.atoiSat s.data.toList), .iface 200 (.pointer (some ⟨N, 0, none⟩))]) ∧ w.heap.size ≤ N ∧ w'.heap[N]? = some (.cells #[.string ⟨#[65, 116, 111, 105]⟩, .string s, ev] 224 (0, 0)) ∧ Below w.heap.size w w' := Any.strconv_Atoi_range Tryz.laysC172 s hlim h ev w hv hev
def Tryz.lays143_ren : Go.Shelf.Ren := ⟨fun | 143 => 41 | 219 => 80 | 217 => 112 | 225 => 113 | 224 => 114 | 267 => 115 | 266 => 139 | 314 => 140 | n => n, fun | 9 => 9 | 3 => 3 | 4 => 4 | 5 => 5 | 46 => 169 | 146 => 191 | 51 => 190 | n => n, fun | 1 => 0 | n => n⟩
theorem Tryz.lays143 : Go.Proofs.Lays.n143 Tryz.prog Tryz.lays143_ren := {
  mixed := by kernel_rfl
  f143 := Tryz.func41.trans (congrArg some (by kernel_rfl))
  f217 := Tryz.func112.trans (congrArg some (by kernel_rfl))
  f219 := Tryz.func80.trans (congrArg some (by kernel_rfl))
  f224 := Tryz.func114.trans (congrArg some (by kernel_rfl))
  f225 := Tryz.func113.trans (congrArg some (by kernel_rfl))
  f266 := Tryz.func139.trans (congrArg some (by kernel_rfl))
  f267 := Tryz.func115.trans (congrArg some (by kernel_rfl))
  f314 := Tryz.func140.trans (congrArg some (by kernel_rfl))
  t3 := Tryz.underlying3
  a3 := Tryz.isAgg3
  z3 := Tryz.sizeOf3
  v3 := Tryz.zeroValue3
  t4 := Tryz.underlying4
  a4 := Tryz.isAgg4
  z4 := Tryz.sizeOf4
  v4 := Tryz.zeroValue4
  t5 := Tryz.underlying5
  a5 := Tryz.isAgg5
  z5 := Tryz.sizeOf5
  v5 := Tryz.zeroValue5
  t9 := Tryz.underlying9
  a9 := Tryz.isAgg9
  z9 := Tryz.sizeOf9
  v9 := Tryz.zeroValue9
  t46 := Tryz.underlying169
  a46 := Tryz.isAgg169
  z46 := Tryz.sizeOf169
  v46 := Tryz.zeroValue169
  t51 := Tryz.underlying190
  a51 := Tryz.isAgg190
  z51 := Tryz.sizeOf190
  v51 := Tryz.zeroValue190
  t146 := Tryz.underlying191
  a146 := Tryz.isAgg191
  z146 := Tryz.sizeOf191
  v146 := Tryz.zeroValue191
  g1 := by kernel_rfl }
open Go.RowKit Go.Lib in
/-- strings.Index: "Index returns the index of the first instance of substr in s, or -1 if substr is not present in s.": AT A substr OF ONE BYTE c: IT RETURNS 'Lib.indexByte s c'; the world is as it was. (LAID: no walk: one application.) -/
theorem Tryz.strings_Index_one (s : ByteArray) (c : UInt8) (w : World) :
    Calls Tryz.prog 41 #[.string s, .string ⟨#[c]⟩] w fun e w' => e = .returned (.int .i64 (Lib.indexByte s.data.toList c)) ∧ w' = w := Any.strings_Index_one Tryz.lays143 s c w
open Go.RowKit Go.Lib in
/-- strings.Index: "Index returns the index of the first instance of substr in s, or -1 if substr is not present in s.": IT RETURNS 'Lib.index s substr'; the world is as it was. (LAID: no walk: one application.) -/
theorem Tryz.strings_Index (s sub : ByteArray) (m : Int) (w : World) (hs : s.size < 4294967281) (hm : w.cell? ⟨0, 0, none⟩ = some (.int .i64 m)) :
    Calls Tryz.prog 41 #[.string s, .string sub] w fun e w' => e = .returned (.int .i64 (Lib.index s.data.toList sub.data.toList)) ∧ w' = w := Any.strings_Index Tryz.lays143 s sub m w hs hm
def Tryz.lays138_ren : Go.Shelf.Ren := ⟨fun | 138 => 20 | 195 => 39 | 218 => 40 | 143 => 41 | 219 => 80 | 217 => 112 | 225 => 113 | 224 => 114 | 267 => 115 | 266 => 139 | 314 => 140 | n => n, fun | 9 => 9 | 3 => 3 | 4 => 4 | 5 => 5 | 0 => 0 | 46 => 169 | 146 => 191 | 51 => 190 | n => n, fun | 1 => 0 | n => n⟩
theorem Tryz.lays138 : Go.Proofs.Lays.n138 Tryz.prog Tryz.lays138_ren := {
  mixed := by kernel_rfl
  f138 := Tryz.func20.trans (congrArg some (by kernel_rfl))
  f143 := Tryz.func41.trans (congrArg some (by kernel_rfl))
  f195 := Tryz.func39.trans (congrArg some (by kernel_rfl))
  f217 := Tryz.func112.trans (congrArg some (by kernel_rfl))
  f218 := Tryz.func40.trans (congrArg some (by kernel_rfl))
  f219 := Tryz.func80.trans (congrArg some (by kernel_rfl))
  f224 := Tryz.func114.trans (congrArg some (by kernel_rfl))
  f225 := Tryz.func113.trans (congrArg some (by kernel_rfl))
  f266 := Tryz.func139.trans (congrArg some (by kernel_rfl))
  f267 := Tryz.func115.trans (congrArg some (by kernel_rfl))
  f314 := Tryz.func140.trans (congrArg some (by kernel_rfl))
  t0 := Tryz.underlying0
  a0 := Tryz.isAgg0
  z0 := Tryz.sizeOf0
  v0 := Tryz.zeroValue0
  t3 := Tryz.underlying3
  a3 := Tryz.isAgg3
  z3 := Tryz.sizeOf3
  v3 := Tryz.zeroValue3
  t4 := Tryz.underlying4
  a4 := Tryz.isAgg4
  z4 := Tryz.sizeOf4
  v4 := Tryz.zeroValue4
  t5 := Tryz.underlying5
  a5 := Tryz.isAgg5
  z5 := Tryz.sizeOf5
  v5 := Tryz.zeroValue5
  t9 := Tryz.underlying9
  a9 := Tryz.isAgg9
  z9 := Tryz.sizeOf9
  v9 := Tryz.zeroValue9
  t46 := Tryz.underlying169
  a46 := Tryz.isAgg169
  z46 := Tryz.sizeOf169
  v46 := Tryz.zeroValue169
  t51 := Tryz.underlying190
  a51 := Tryz.isAgg190
  z51 := Tryz.sizeOf190
  v51 := Tryz.zeroValue190
  t146 := Tryz.underlying191
  a146 := Tryz.isAgg191
  z146 := Tryz.sizeOf191
  v146 := Tryz.zeroValue191
  g1 := by kernel_rfl }
open Go.RowKit Go.Lib in
/-- strings.Count AT A substr OF ONE BYTE ('hp'): "Count counts the number of non-overlapping instances of substr in s.": IT RETURNS 'Lib.countByte s (that byte)'; the world is as it was. ✋ NO CONTRACT HERE YET at an empty substr (utf8.RuneCountInString) or at a longer one (a loop over strings.Index). (LAID: no walk: one application.) -/
theorem Tryz.strings_Count_one (s : ByteArray) (c : UInt8) (w : World) :
    Calls Tryz.prog 20 #[.string s, .string ⟨#[c]⟩] w fun e w' => e = .returned (.int .i64 (Lib.countByte s.data.toList c)) ∧ w' = w := Any.strings_Count_one Tryz.lays138 s c w
def Tryz.lays146_ren : Go.Shelf.Ren := ⟨fun | 146 => 22 | 221 => 43 | 268 => 82 | 138 => 20 | 143 => 41 | 195 => 39 | 197 => 116 | 218 => 40 | 219 => 80 | 260 => 141 | 217 => 112 | 225 => 113 | 224 => 114 | 267 => 115 | 266 => 139 | 314 => 140 | n => n, fun | 9 => 9 | 31 => 28 | 3 => 3 | 4 => 4 | 0 => 0 | 105 => 170 | 21 => 21 | 5 => 5 | 46 => 169 | 119 => 213 | 139 => 216 | 138 => 215 | 146 => 191 | 51 => 190 | n => n, fun | 1 => 0 | 3 => 1 | 4 => 2 | n => n⟩
theorem Tryz.lays146 : Go.Proofs.Lays.n146 Tryz.prog Tryz.lays146_ren := {
  mixed := by kernel_rfl
  f138 := Tryz.func20.trans (congrArg some (by kernel_rfl))
  f143 := Tryz.func41.trans (congrArg some (by kernel_rfl))
  f146 := Tryz.func22.trans (congrArg some (by kernel_rfl))
  f195 := Tryz.func39.trans (congrArg some (by kernel_rfl))
  f197 := Tryz.func116.trans (congrArg some (by kernel_rfl))
  f217 := Tryz.func112.trans (congrArg some (by kernel_rfl))
  f218 := Tryz.func40.trans (congrArg some (by kernel_rfl))
  f219 := Tryz.func80.trans (congrArg some (by kernel_rfl))
  f221 := Tryz.func43.trans (congrArg some (by kernel_rfl))
  f224 := Tryz.func114.trans (congrArg some (by kernel_rfl))
  f225 := Tryz.func113.trans (congrArg some (by kernel_rfl))
  f260 := Tryz.func141.trans (congrArg some (by kernel_rfl))
  f266 := Tryz.func139.trans (congrArg some (by kernel_rfl))
  f267 := Tryz.func115.trans (congrArg some (by kernel_rfl))
  f268 := Tryz.func82.trans (congrArg some (by kernel_rfl))
  f314 := Tryz.func140.trans (congrArg some (by kernel_rfl))
  t0 := Tryz.underlying0
  a0 := Tryz.isAgg0
  z0 := Tryz.sizeOf0
  v0 := Tryz.zeroValue0
  t3 := Tryz.underlying3
  a3 := Tryz.isAgg3
  z3 := Tryz.sizeOf3
  v3 := Tryz.zeroValue3
  t4 := Tryz.underlying4
  a4 := Tryz.isAgg4
  z4 := Tryz.sizeOf4
  v4 := Tryz.zeroValue4
  t5 := Tryz.underlying5
  a5 := Tryz.isAgg5
  z5 := Tryz.sizeOf5
  v5 := Tryz.zeroValue5
  t9 := Tryz.underlying9
  a9 := Tryz.isAgg9
  z9 := Tryz.sizeOf9
  v9 := Tryz.zeroValue9
  t21 := Tryz.underlying21
  a21 := Tryz.isAgg21
  z21 := Tryz.sizeOf21
  v21 := Tryz.zeroValue21
  t31 := Tryz.underlying28
  a31 := Tryz.isAgg28
  z31 := Tryz.sizeOf28
  v31 := Tryz.zeroValue28
  t46 := Tryz.underlying169
  a46 := Tryz.isAgg169
  z46 := Tryz.sizeOf169
  v46 := Tryz.zeroValue169
  t51 := Tryz.underlying190
  a51 := Tryz.isAgg190
  z51 := Tryz.sizeOf190
  v51 := Tryz.zeroValue190
  t105 := Tryz.underlying170
  a105 := Tryz.isAgg170
  z105 := Tryz.sizeOf170
  v105 := Tryz.zeroValue170
  t119 := Tryz.underlying213
  a119 := Tryz.isAgg213
  z119 := Tryz.sizeOf213
  t138 := Tryz.underlying215
  a138 := Tryz.isAgg215
  z138 := Tryz.sizeOf215
  v138 := Tryz.zeroValue215
  t139 := Tryz.underlying216
  a139 := Tryz.isAgg216
  z139 := Tryz.sizeOf216
  v139 := Tryz.zeroValue216
  t146 := Tryz.underlying191
  a146 := Tryz.isAgg191
  z146 := Tryz.sizeOf191
  v146 := Tryz.zeroValue191
  g1 := by kernel_rfl
  g3 := by kernel_rfl
  g4 := by kernel_rfl }
open Go.RowKit Go.Lib in
/-- strings.Split. (LAID: no walk: one application.) -/
theorem Tryz.strings_Split (s sep : ByteArray) (m : Int) (w : World) (hs : s.size < 4294967281) (hm : w.cell? ⟨0, 0, none⟩ = some (.int .i64 m)) (h1 : 1 ≤ sep.size) :
    Calls Tryz.prog 22 #[.string s, .string sep] w fun e w' =>
      e = .returned (.slice (some ⟨w.heap.size, 0, none⟩) (Lib.countB s sep + 1) (Lib.countB s sep + 1)) ∧ w' = w.alloc (.cells ((Lib.splitB sep 0 (Lib.countB s sep) s).map Value.string).toArray 9) := Any.strings_Split Tryz.lays146 (by kernel_rfl) s sep m w hs hm h1
end Go.Proofs
