/-
  DERIVED: THE SHELF's CONTRACTS AT THIS DUMP, IN PLAIN WORDS (tools/lay-plain.mjs out of 'TrydShelf.lean', which tools/lay-shelf.mjs wrote): THE SAME DECLARATIONS UNDER THE SAME NAMES: 'import', 'namespace', 'open', 'def', 'theorem' AND NOTHING ELSE: no command of the shelf's: FOR A HAND-IN. Each laying: the table of numbers ('.._ren') and one theorem, a field a fact of the dump's own or the kernel's comparison; each contract: ONE APPLICATION.
-/
import Derived.Test.YtmbkmfdmpimegaaDoorShelf
import Derived.Shelf.Strings.Builder1
import Derived.Shelf.Strings.Builder2
import Derived.Shelf.Strings.OnBuilder
import Derived.Shelf.Strings.BuilderF
import Derived.Shelf.Strings.BuilderK
import Derived.Shelf.Utf8.RuneCount
import Derived.Shelf.Strings.Builder2Cap
import Derived.Shelf.Strconv.Atoi
import Derived.Shelf.Strconv.Itoa0
import Derived.Shelf.Strconv.Itoa1
import Derived.Shelf.LaysM
import Derived.Shelf.Strconv.Itoa2
import Derived.Shelf.Strconv.Itoa3
import Derived.Shelf.Strconv.AtoiErrFast
import Derived.Shelf.Strconv.ParseIntEmpty
import Derived.Shelf.Strconv.AtoiFail
import Derived.Shelf.Strconv.Clone
import Derived.Shelf.Strconv.SyntaxError
import Derived.Shelf.LaysC
import Derived.Shelf.Strconv.ToError
import Derived.Shelf.Strconv.AtoiErr
import Derived.Shelf.Strconv.ErrVar
import Derived.Shelf.Strconv.Lower
import Derived.Shelf.Strconv.ParseUint10
import Derived.Shelf.Strconv.ParseUint10Empty
import Derived.Shelf.Strconv.ParseUint10Any
import Derived.Shelf.Strconv.ParseInt10
import Derived.Shelf.Strconv.AtoiLong
import Derived.Shelf.Strconv.AtoiInnerAll
import Derived.Shelf.Strconv.RangeError
import Derived.Shelf.Strconv.ToErrorRange
import Derived.Shelf.Strconv.AtoiAll
import Derived.Shelf.Strconv.ErrVarAll
import Derived.Shelf.Strconv.ParseUintEmpty
import Derived.Shelf.Strconv.ParseUint10b64
import Derived.Shelf.Strconv.ParseUint10b32
import Derived.Shelf.Strconv.ParseUint10b16
import Derived.Shelf.Strconv.ParseUint10b8
import Derived.Shelf.Strconv.ParseUint10At
import Derived.Shelf.Strconv.ParseInt10At64
import Derived.Shelf.Strconv.ParseInt10At32
import Derived.Shelf.Strconv.ParseInt10At16
import Derived.Shelf.Strconv.ParseInt10At8
import Derived.Shelf.Strconv.ParseInt10All
import Derived.Ground.MpProg
import Derived.Shelf.Pu.ParseUintPublic10
import Derived.Shelf.Pu.ErrVarParseUint
import Derived.Shelf.Strings.Search1
import Derived.Shelf.Strings.Search2
import Derived.Shelf.Strings.Search3
import Derived.Shelf.Strings.Cut
import Derived.Shelf.Strings.Count
import Derived.Shelf.Strings.Shaped
import Derived.Shelf.GgClosure.StringsIndexFunc
import Derived.Ground.GgwProg
import Derived.Shelf.GgClosure.StringsIndexFuncTop
import Derived.Shelf.GgClosure.StringsRunes
import Derived.Shelf.Strings.Prefix
import Derived.Shelf.Strings.Split
import Derived.Shelf.Strings.SplitShaped
import Derived.Shelf.Unicode.Decode
import Derived.Shelf.Strings.RuneCount
import Derived.Shelf.Strings.Explode
import Derived.Shelf.Unicode.DecodeSlow
import Derived.Shelf.Unicode.DecodeAny
import Derived.Shelf.Strings.FuncGrows
import Derived.Shelf.Strings.BuilderCap
import Derived.Ground.Names2Prog
import Derived.Shelf.Slices.Clone
import Derived.Ground.SlgnProg
import Derived.Shelf.SlicesE.Clone
import Derived.Test.YtmbkmfdmpimegaaDoorProg
namespace Go.Proofs
open Go.Shelf
def Tryd.laysC172_ren : Go.Shelf.Ren := ⟨fun | 172 => 52 | 244 => 71 | 245 => 48 | 247 => 89 | 279 => 65 | 280 => 66 | 281 => 67 | 282 => 68 | 287 => 47 | 316 => 84 | 171 => 42 | 205 => 85 | 321 => 63 | 322 => 64 | 243 => 56 | 246 => 73 | 283 => 74 | 284 => 75 | 285 => 76 | 286 => 77 | 129 => 92 | 317 => 91 | 318 => 93 | 319 => 94 | 320 => 95 | 337 => 103 | 338 => 104 | n => n, fun | 9 => 9 | 3 => 3 | 75 => 65 | 76 => 79 | 4 => 4 | 5 => 5 | 167 => 91 | 37 => 39 | 0 => 0 | 85 => 113 | 2 => 2 | 168 => 93 | 53 => 22 | 175 => 66 | 46 => 71 | 210 => 110 | 127 => 105 | 145 => 129 | 143 => 127 | 21 => 21 | 171 => 100 | 173 => 103 | 212 => 117 | 51 => 118 | 20 => 20 | 213 => 119 | 232 => 133 | 233 => 134 | 80 => 61 | n => n, fun | 15 => 1 | 16 => 2 | 17 => 3 | 18 => 4 | 19 => 5 | n => n⟩
theorem Tryd.laysC172 : Go.Proofs.LaysC.n172 Tryd.prog Tryd.laysC172_ren := {
  mixed := by kernel_rfl
  f129 := Tryd.func92.trans (congrArg some (by kernel_rfl))
  f171 := Tryd.func42.trans (congrArg some (by kernel_rfl))
  f172 := Tryd.func52.trans (congrArg some (by kernel_rfl))
  f205 := Tryd.func85.trans (congrArg some (by kernel_rfl))
  f243 := Tryd.func56.trans (congrArg some (by kernel_rfl))
  f244 := Tryd.func71.trans (congrArg some (by kernel_rfl))
  f245 := Tryd.func48.trans (congrArg some (by kernel_rfl))
  f246 := Tryd.func73.trans (congrArg some (by kernel_rfl))
  f247 := Tryd.func89.trans (congrArg some (by kernel_rfl))
  f279 := Tryd.func65.trans (congrArg some (by kernel_rfl))
  f280 := Tryd.func66.trans (congrArg some (by kernel_rfl))
  f281 := Tryd.func67.trans (congrArg some (by kernel_rfl))
  f282 := Tryd.func68.trans (congrArg some (by kernel_rfl))
  f283 := Tryd.func74.trans (congrArg some (by kernel_rfl))
  f284 := Tryd.func75.trans (congrArg some (by kernel_rfl))
  f285 := Tryd.func76.trans (congrArg some (by kernel_rfl))
  f286 := Tryd.func77.trans (congrArg some (by kernel_rfl))
  f287 := Tryd.func47.trans (congrArg some (by kernel_rfl))
  f316 := Tryd.func84.trans (congrArg some (by kernel_rfl))
  f317 := Tryd.func91.trans (congrArg some (by kernel_rfl))
  f318 := Tryd.func93.trans (congrArg some (by kernel_rfl))
  f319 := Tryd.func94.trans (congrArg some (by kernel_rfl))
  f320 := Tryd.func95.trans (congrArg some (by kernel_rfl))
  f321 := Tryd.func63.trans (congrArg some (by kernel_rfl))
  f322 := Tryd.func64.trans (congrArg some (by kernel_rfl))
  f337 := Tryd.func103.trans (congrArg some (by kernel_rfl))
  f338 := Tryd.func104.trans (congrArg some (by kernel_rfl))
  t0 := Tryd.underlying0
  a0 := Tryd.isAgg0
  z0 := Tryd.sizeOf0
  v0 := Tryd.zeroValue0
  t2 := Tryd.underlying2
  a2 := Tryd.isAgg2
  z2 := Tryd.sizeOf2
  v2 := Tryd.zeroValue2
  t3 := Tryd.underlying3
  a3 := Tryd.isAgg3
  z3 := Tryd.sizeOf3
  v3 := Tryd.zeroValue3
  t4 := Tryd.underlying4
  a4 := Tryd.isAgg4
  z4 := Tryd.sizeOf4
  v4 := Tryd.zeroValue4
  t5 := Tryd.underlying5
  a5 := Tryd.isAgg5
  z5 := Tryd.sizeOf5
  v5 := Tryd.zeroValue5
  t9 := Tryd.underlying9
  a9 := Tryd.isAgg9
  z9 := Tryd.sizeOf9
  v9 := Tryd.zeroValue9
  t20 := Tryd.underlying20
  a20 := Tryd.isAgg20
  z20 := Tryd.sizeOf20
  v20 := Tryd.zeroValue20
  t21 := Tryd.underlying21
  a21 := Tryd.isAgg21
  z21 := Tryd.sizeOf21
  v21 := Tryd.zeroValue21
  t37 := Tryd.underlying39
  a37 := Tryd.isAgg39
  z37 := Tryd.sizeOf39
  v37 := Tryd.zeroValue39
  t46 := Tryd.underlying71
  a46 := Tryd.isAgg71
  z46 := Tryd.sizeOf71
  v46 := Tryd.zeroValue71
  t51 := Tryd.underlying118
  a51 := Tryd.isAgg118
  z51 := Tryd.sizeOf118
  v51 := Tryd.zeroValue118
  t53 := Tryd.underlying22
  a53 := Tryd.isAgg22
  z53 := Tryd.sizeOf22
  v53 := Tryd.zeroValue22
  t75 := Tryd.underlying65
  a75 := Tryd.isAgg65
  z75 := Tryd.sizeOf65
  v75 := Tryd.zeroValue65
  t76 := Tryd.underlying79
  a76 := Tryd.isAgg79
  z76 := Tryd.sizeOf79
  v76 := Tryd.zeroValue79
  t85 := Tryd.underlying113
  a85 := Tryd.isAgg113
  z85 := Tryd.sizeOf113
  v85 := Tryd.zeroValue113
  t127 := Tryd.underlying105
  a127 := Tryd.isAgg105
  z127 := Tryd.sizeOf105
  v127 := Tryd.zeroValue105
  t143 := Tryd.underlying127
  a143 := Tryd.isAgg127
  z143 := Tryd.sizeOf127
  v143 := Tryd.zeroValue127
  t145 := Tryd.underlying129
  a145 := Tryd.isAgg129
  z145 := Tryd.sizeOf129
  v145 := Tryd.zeroValue129
  t167 := Tryd.underlying91
  a167 := Tryd.isAgg91
  z167 := Tryd.sizeOf91
  v167 := Tryd.zeroValue91
  t168 := Tryd.underlying93
  a168 := Tryd.isAgg93
  z168 := Tryd.sizeOf93
  v168 := Tryd.zeroValue93
  t171 := Tryd.underlying100
  a171 := Tryd.isAgg100
  z171 := Tryd.sizeOf100
  v171 := Tryd.zeroValue100
  t173 := Tryd.underlying103
  a173 := Tryd.isAgg103
  z173 := Tryd.sizeOf103
  v173 := Tryd.zeroValue103
  t175 := Tryd.underlying66
  a175 := Tryd.isAgg66
  z175 := Tryd.sizeOf66
  v175 := Tryd.zeroValue66
  t210 := Tryd.underlying110
  a210 := Tryd.isAgg110
  z210 := Tryd.sizeOf110
  v210 := Tryd.zeroValue110
  t212 := Tryd.underlying117
  a212 := Tryd.isAgg117
  z212 := Tryd.sizeOf117
  v212 := Tryd.zeroValue117
  t213 := Tryd.underlying119
  a213 := Tryd.isAgg119
  z213 := Tryd.sizeOf119
  t232 := Tryd.underlying133
  a232 := Tryd.isAgg133
  z232 := Tryd.sizeOf133
  v232 := Tryd.zeroValue133
  t233 := Tryd.underlying134
  a233 := Tryd.isAgg134
  z233 := Tryd.sizeOf134
  v233 := Tryd.zeroValue134
  g15 := by kernel_rfl
  g16 := by kernel_rfl
  g17 := by kernel_rfl
  g18 := by kernel_rfl
  g19 := by kernel_rfl
  t80 := Tryd.underlying61
  a80 := Tryd.isAgg61
  z80 := Tryd.sizeOf61
  v80 := Tryd.zeroValue61
  i0 := by kernel_rfl
  i2 := by kernel_rfl
  i3 := by kernel_rfl
  i4 := by kernel_rfl
  i5 := by kernel_rfl
  i9 := by kernel_rfl
  i20 := by kernel_rfl
  i21 := by kernel_rfl
  i37 := by kernel_rfl
  i46 := by kernel_rfl
  i51 := by kernel_rfl
  i53 := by kernel_rfl
  i75 := by kernel_rfl
  i76 := by kernel_rfl
  i80 := by kernel_rfl
  i85 := by kernel_rfl
  i127 := by kernel_rfl
  i143 := by kernel_rfl
  i145 := by kernel_rfl
  i167 := by kernel_rfl
  i168 := by kernel_rfl
  i171 := by kernel_rfl
  i173 := by kernel_rfl
  i175 := by kernel_rfl
  i210 := by kernel_rfl
  i212 := by kernel_rfl
  i232 := by kernel_rfl
  i233 := by kernel_rfl
  m15 := by kernel_rfl
  m16 := by kernel_rfl
  m17 := by kernel_rfl
  m18 := by kernel_rfl
  m19 := by kernel_rfl
  c0 := by kernel_rfl
  c2 := by kernel_rfl
  c3 := by kernel_rfl
  c4 := by kernel_rfl
  c5 := by kernel_rfl
  c9 := by kernel_rfl
  c20 := by kernel_rfl
  c21 := by kernel_rfl
  c37 := by kernel_rfl
  c46 := by kernel_rfl
  c51 := by kernel_rfl
  c53 := by kernel_rfl
  c75 := by kernel_rfl
  c76 := by kernel_rfl
  c80 := by kernel_rfl
  c85 := by kernel_rfl
  c127 := by kernel_rfl
  c143 := by kernel_rfl
  c145 := by kernel_rfl
  c167 := by kernel_rfl
  c168 := by kernel_rfl
  c171 := by kernel_rfl
  c173 := by kernel_rfl
  c175 := by kernel_rfl
  c210 := by kernel_rfl
  c212 := by kernel_rfl
  c213 := by kernel_rfl
  c232 := by kernel_rfl
  c233 := by kernel_rfl }
open Go.RowKit in
/-- strconv.Atoi, AT EVERY STRING THAT SPELLS AN int ('Lib.atoiAll .. = .ok v'; of whatever length: leading zeros count): v, AND NO ERROR. The world: as it was, or with the one new row that '[]byte(..)' lays. (LAID: no walk: one application.) -/
theorem Tryd.strconv_Atoi_ok (s : ByteArray) (hmax : s.size ≤ 9223372036854775806) (v : Int) (h : Lib.atoiAll s.data.toList = .ok v) (w : World) :
    Calls Tryd.prog 52 #[.string s] w fun e w' => e = .returned (.tuple #[.int .i64 v, .nilIface]) ∧ (w' = w ∨ ∃ t, w' = Lib.bytesWorld w 5 t) := Any.strconv_Atoi_ok Tryd.laysC172 s hmax v h w
open Go.RowKit in
/-- strconv.Atoi, AT EVERY STRING THAT IS NO DECIMAL NUMERAL : 0, AND AN ERROR THAT IS NOT nil: a *NumError in a new block N: {Func: "Atoi", Num: s's bytes, Err: what the variable ErrSyntax holds}. Of what was there nothing has turned. (LAID: no walk: one application.) -/
theorem Tryd.strconv_Atoi_bad (s : ByteArray) (hlim : s.size ≤ 281474976710656) (h : Lib.atoiAll s.data.toList = Lib.atoiAll []) (ev : Value) (w : World) (hv : w.cell? ⟨1, 0, none⟩ = some ev) (hev : ev = .nilIface ∨ ∃ te pe, ev = .iface te pe) :
    Calls Tryd.prog 52 #[.string s] w fun e w' => ∃ N, e = .returned (.tuple #[.int .i64 (0), .iface 93 (.pointer (some ⟨N, 0, none⟩))]) ∧ w.heap.size ≤ N ∧ w'.heap[N]? = some (.cells #[.string ⟨#[65, 116, 111, 105]⟩, .string s, ev] 110 (0, 0)) ∧ Below w.heap.size w w' := Any.strconv_Atoi_syntax Tryd.laysC172 s hlim h ev w hv hev
open Go.RowKit in
/-- strconv.Atoi, AT EVERY NUMERAL THAT NO int HOLDS ('.range'): THE GREATEST OR THE LEAST int, BY THE SIGN ('Lib.atoiSat'), AND AN ERROR THAT IS NOT nil: a *NumError in a new block N: {Func: "Atoi", Num: s's bytes, Err: what the variable ErrRange holds}. Of what was there nothing has turned. (LAID: no walk: one application.) -/
theorem Tryd.strconv_Atoi_range (s : ByteArray) (hlim : s.size ≤ 281474976710656) (h : Lib.atoiAll s.data.toList = .range) (ev : Value) (w : World) (hv : w.cell? ⟨2, 0, none⟩ = some ev) (hev : ev = .nilIface ∨ ∃ te pe, ev = .iface te pe) :
    Calls Tryd.prog 52 #[.string s] w fun e w' => ∃ N, e = .returned (.tuple #[.int .i64 (Lib.atoiSat s.data.toList), .iface 93 (.pointer (some ⟨N, 0, none⟩))]) ∧ w.heap.size ≤ N ∧ w'.heap[N]? = some (.cells #[.string ⟨#[65, 116, 111, 105]⟩, .string s, ev] 110 (0, 0)) ∧ Below w.heap.size w w' := Any.strconv_Atoi_range Tryd.laysC172 s hlim h ev w hv hev
def Tryd.laysPu14_ren : Go.Shelf.Ren := ⟨fun | 14 => 35 | 16 => 47 | 17 => 48 | 19 => 63 | 20 => 64 | 21 => 65 | 22 => 66 | 23 => 67 | 24 => 68 | 25 => 84 | 27 => 42 | 26 => 85 | 28 => 56 | 29 => 73 | 30 => 74 | 31 => 75 | 32 => 76 | 33 => 77 | 35 => 92 | 34 => 91 | 36 => 93 | 37 => 94 | 38 => 95 | 39 => 103 | 40 => 104 | n => n, fun | 9 => 9 | 3 => 3 | 22 => 22 | 24 => 65 | 25 => 66 | 4 => 4 | 34 => 91 | 5 => 5 | 36 => 71 | 37 => 39 | 0 => 0 | 39 => 93 | 21 => 21 | 44 => 110 | 47 => 105 | 50 => 129 | 48 => 127 | 2 => 2 | 52 => 100 | 55 => 103 | 59 => 117 | 60 => 118 | 20 => 20 | 61 => 119 | 65 => 133 | 66 => 134 | 67 => 61 | n => n, fun | 0 => 1 | 1 => 2 | 2 => 3 | 3 => 4 | 4 => 5 | n => n⟩
theorem Tryd.laysPu14 : Go.Proofs.LaysPu.n14 Tryd.prog Tryd.laysPu14_ren := {
  mixed := by kernel_rfl
  f14 := Tryd.func35.trans (congrArg some (by kernel_rfl))
  f16 := Tryd.func47.trans (congrArg some (by kernel_rfl))
  f17 := Tryd.func48.trans (congrArg some (by kernel_rfl))
  f19 := Tryd.func63.trans (congrArg some (by kernel_rfl))
  f20 := Tryd.func64.trans (congrArg some (by kernel_rfl))
  f21 := Tryd.func65.trans (congrArg some (by kernel_rfl))
  f22 := Tryd.func66.trans (congrArg some (by kernel_rfl))
  f23 := Tryd.func67.trans (congrArg some (by kernel_rfl))
  f24 := Tryd.func68.trans (congrArg some (by kernel_rfl))
  f25 := Tryd.func84.trans (congrArg some (by kernel_rfl))
  f26 := Tryd.func85.trans (congrArg some (by kernel_rfl))
  f27 := Tryd.func42.trans (congrArg some (by kernel_rfl))
  f28 := Tryd.func56.trans (congrArg some (by kernel_rfl))
  f29 := Tryd.func73.trans (congrArg some (by kernel_rfl))
  f30 := Tryd.func74.trans (congrArg some (by kernel_rfl))
  f31 := Tryd.func75.trans (congrArg some (by kernel_rfl))
  f32 := Tryd.func76.trans (congrArg some (by kernel_rfl))
  f33 := Tryd.func77.trans (congrArg some (by kernel_rfl))
  f34 := Tryd.func91.trans (congrArg some (by kernel_rfl))
  f35 := Tryd.func92.trans (congrArg some (by kernel_rfl))
  f36 := Tryd.func93.trans (congrArg some (by kernel_rfl))
  f37 := Tryd.func94.trans (congrArg some (by kernel_rfl))
  f38 := Tryd.func95.trans (congrArg some (by kernel_rfl))
  f39 := Tryd.func103.trans (congrArg some (by kernel_rfl))
  f40 := Tryd.func104.trans (congrArg some (by kernel_rfl))
  t0 := Tryd.underlying0
  a0 := Tryd.isAgg0
  z0 := Tryd.sizeOf0
  v0 := Tryd.zeroValue0
  i0 := by kernel_rfl
  t2 := Tryd.underlying2
  a2 := Tryd.isAgg2
  z2 := Tryd.sizeOf2
  v2 := Tryd.zeroValue2
  i2 := by kernel_rfl
  t3 := Tryd.underlying3
  a3 := Tryd.isAgg3
  z3 := Tryd.sizeOf3
  v3 := Tryd.zeroValue3
  i3 := by kernel_rfl
  t4 := Tryd.underlying4
  a4 := Tryd.isAgg4
  z4 := Tryd.sizeOf4
  v4 := Tryd.zeroValue4
  i4 := by kernel_rfl
  t5 := Tryd.underlying5
  a5 := Tryd.isAgg5
  z5 := Tryd.sizeOf5
  v5 := Tryd.zeroValue5
  i5 := by kernel_rfl
  t9 := Tryd.underlying9
  a9 := Tryd.isAgg9
  z9 := Tryd.sizeOf9
  v9 := Tryd.zeroValue9
  i9 := by kernel_rfl
  t20 := Tryd.underlying20
  a20 := Tryd.isAgg20
  z20 := Tryd.sizeOf20
  v20 := Tryd.zeroValue20
  i20 := by kernel_rfl
  t21 := Tryd.underlying21
  a21 := Tryd.isAgg21
  z21 := Tryd.sizeOf21
  v21 := Tryd.zeroValue21
  i21 := by kernel_rfl
  t22 := Tryd.underlying22
  a22 := Tryd.isAgg22
  z22 := Tryd.sizeOf22
  v22 := Tryd.zeroValue22
  i22 := by kernel_rfl
  t24 := Tryd.underlying65
  a24 := Tryd.isAgg65
  z24 := Tryd.sizeOf65
  v24 := Tryd.zeroValue65
  i24 := by kernel_rfl
  t25 := Tryd.underlying66
  a25 := Tryd.isAgg66
  z25 := Tryd.sizeOf66
  v25 := Tryd.zeroValue66
  i25 := by kernel_rfl
  t34 := Tryd.underlying91
  a34 := Tryd.isAgg91
  z34 := Tryd.sizeOf91
  v34 := Tryd.zeroValue91
  i34 := by kernel_rfl
  c34 := by kernel_rfl
  t36 := Tryd.underlying71
  a36 := Tryd.isAgg71
  z36 := Tryd.sizeOf71
  v36 := Tryd.zeroValue71
  i36 := by kernel_rfl
  t37 := Tryd.underlying39
  a37 := Tryd.isAgg39
  z37 := Tryd.sizeOf39
  v37 := Tryd.zeroValue39
  i37 := by kernel_rfl
  t39 := Tryd.underlying93
  a39 := Tryd.isAgg93
  z39 := Tryd.sizeOf93
  v39 := Tryd.zeroValue93
  i39 := by kernel_rfl
  t44 := Tryd.underlying110
  a44 := Tryd.isAgg110
  z44 := Tryd.sizeOf110
  v44 := Tryd.zeroValue110
  i44 := by kernel_rfl
  t47 := Tryd.underlying105
  a47 := Tryd.isAgg105
  z47 := Tryd.sizeOf105
  v47 := Tryd.zeroValue105
  i47 := by kernel_rfl
  t48 := Tryd.underlying127
  a48 := Tryd.isAgg127
  z48 := Tryd.sizeOf127
  v48 := Tryd.zeroValue127
  i48 := by kernel_rfl
  t50 := Tryd.underlying129
  a50 := Tryd.isAgg129
  z50 := Tryd.sizeOf129
  v50 := Tryd.zeroValue129
  i50 := by kernel_rfl
  t52 := Tryd.underlying100
  a52 := Tryd.isAgg100
  z52 := Tryd.sizeOf100
  v52 := Tryd.zeroValue100
  i52 := by kernel_rfl
  t55 := Tryd.underlying103
  a55 := Tryd.isAgg103
  z55 := Tryd.sizeOf103
  v55 := Tryd.zeroValue103
  i55 := by kernel_rfl
  t59 := Tryd.underlying117
  a59 := Tryd.isAgg117
  z59 := Tryd.sizeOf117
  v59 := Tryd.zeroValue117
  i59 := by kernel_rfl
  t60 := Tryd.underlying118
  a60 := Tryd.isAgg118
  z60 := Tryd.sizeOf118
  v60 := Tryd.zeroValue118
  i60 := by kernel_rfl
  t61 := Tryd.underlying119
  a61 := Tryd.isAgg119
  z61 := Tryd.sizeOf119
  t65 := Tryd.underlying133
  a65 := Tryd.isAgg133
  z65 := Tryd.sizeOf133
  v65 := Tryd.zeroValue133
  i65 := by kernel_rfl
  t66 := Tryd.underlying134
  a66 := Tryd.isAgg134
  z66 := Tryd.sizeOf134
  v66 := Tryd.zeroValue134
  i66 := by kernel_rfl
  t67 := Tryd.underlying61
  a67 := Tryd.isAgg61
  z67 := Tryd.sizeOf61
  v67 := Tryd.zeroValue61
  i67 := by kernel_rfl
  g0 := by kernel_rfl
  m0 := by kernel_rfl
  g1 := by kernel_rfl
  m1 := by kernel_rfl
  g2 := by kernel_rfl
  m2 := by kernel_rfl
  g3 := by kernel_rfl
  m3 := by kernel_rfl
  g4 := by kernel_rfl
  m4 := by kernel_rfl }
open Go.RowKit in
/-- strconv.ParseUint(s, 10, 64), AT EVERY STRING THAT SPELLS A uint64 ('Lib.parseUintB 64 s.data.toList = .ok u'): u, AND NO ERROR. (LAID: no walk: one application.) -/
theorem Tryd.strconv_ParseUint_10_at64_ok (s : ByteArray) (hmax : s.size ≤ 9223372036854775806) (u : Nat) (h : Lib.parseUintB 64 s.data.toList = .ok u) (w : World) :
    Calls Tryd.prog 35 #[.string s, .int .i64 10, .int .i64 64] w fun e w' => e = .returned (.tuple #[.int .u64 u, .nilIface]) ∧ (w' = w ∨ w' = Lib.bytesWorld w 5 s) := Any.strconv_ParseUint_10_at64_ok Tryd.laysPu14 s hmax u h w
open Go.RowKit in
/-- strconv.ParseUint(s, 10, 64), AT EVERY STRING THAT IS NO ROW OF DECIMAL DIGITS (a sign is a fault): 0, AND AN ERROR THAT IS NOT nil: a *NumError in a new block N: {Func: "ParseUint", Num: s's bytes, Err: what the variable ErrSyntax holds}. Of what was there nothing has turned. (LAID: no walk: one application.) -/
theorem Tryd.strconv_ParseUint_10_at64_bad (s : ByteArray) (hlim : s.size ≤ 281474976710656) (h : Lib.parseUintB 64 s.data.toList = Lib.parseUintB 64 []) (ev : Value) (w : World) (hv : w.cell? ⟨1, 0, none⟩ = some ev) (hev : ev = .nilIface ∨ ∃ te pe, ev = .iface te pe) :
    Calls Tryd.prog 35 #[.string s, .int .i64 10, .int .i64 64] w fun e w' => ∃ N, e = .returned (.tuple #[.int .u64 0, .iface 93 (.pointer (some ⟨N, 0, none⟩))]) ∧ w.heap.size ≤ N ∧ w'.heap[N]? = some (.cells #[.string ⟨#[80, 97, 114, 115, 101, 85, 105, 110, 116]⟩, .string s, ev] 110 (0, 0)) ∧ Below w.heap.size w w' := Any.strconv_ParseUint_10_at64_syntax Tryd.laysPu14 s hlim h ev w hv hev
open Go.RowKit in
/-- strconv.ParseUint(s, 10, 64), AT EVERY NUMERAL THAT NO uint64 HOLDS: THE GREATEST uint64, AND AN ERROR THAT IS NOT nil: a *NumError in a new block N: {Func: "ParseUint", Num: s's bytes, Err: what the variable ErrRange holds}. Of what was there nothing has turned. (LAID: no walk: one application.) -/
theorem Tryd.strconv_ParseUint_10_at64_range (s : ByteArray) (hlim : s.size ≤ 281474976710656) (h : Lib.parseUintB 64 s.data.toList = .range) (ev : Value) (w : World) (hv : w.cell? ⟨2, 0, none⟩ = some ev) (hev : ev = .nilIface ∨ ∃ te pe, ev = .iface te pe) :
    Calls Tryd.prog 35 #[.string s, .int .i64 10, .int .i64 64] w fun e w' => ∃ N, e = .returned (.tuple #[.int .u64 18446744073709551615, .iface 93 (.pointer (some ⟨N, 0, none⟩))]) ∧ w.heap.size ≤ N ∧ w'.heap[N]? = some (.cells #[.string ⟨#[80, 97, 114, 115, 101, 85, 105, 110, 116]⟩, .string s, ev] 110 (0, 0)) ∧ Below w.heap.size w w' := Any.strconv_ParseUint_10_at64_range Tryd.laysPu14 s hlim h ev w hv hev
def Tryd.lays145_ren : Go.Shelf.Ren := ⟨fun | 145 => 34 | 220 => 46 | 219 => 62 | 217 => 80 | 225 => 81 | 224 => 82 | 267 => 83 | 266 => 98 | 314 => 99 | n => n, fun | 9 => 9 | 4 => 4 | 59 => 62 | 3 => 3 | 5 => 5 | 46 => 71 | 146 => 125 | 51 => 118 | n => n, fun | 1 => 0 | n => n⟩
theorem Tryd.lays145 : Go.Proofs.Lays.n145 Tryd.prog Tryd.lays145_ren := {
  mixed := by kernel_rfl
  f145 := Tryd.func34.trans (congrArg some (by kernel_rfl))
  f217 := Tryd.func80.trans (congrArg some (by kernel_rfl))
  f219 := Tryd.func62.trans (congrArg some (by kernel_rfl))
  f220 := Tryd.func46.trans (congrArg some (by kernel_rfl))
  f224 := Tryd.func82.trans (congrArg some (by kernel_rfl))
  f225 := Tryd.func81.trans (congrArg some (by kernel_rfl))
  f266 := Tryd.func98.trans (congrArg some (by kernel_rfl))
  f267 := Tryd.func83.trans (congrArg some (by kernel_rfl))
  f314 := Tryd.func99.trans (congrArg some (by kernel_rfl))
  t3 := Tryd.underlying3
  a3 := Tryd.isAgg3
  z3 := Tryd.sizeOf3
  v3 := Tryd.zeroValue3
  t4 := Tryd.underlying4
  a4 := Tryd.isAgg4
  z4 := Tryd.sizeOf4
  v4 := Tryd.zeroValue4
  t5 := Tryd.underlying5
  a5 := Tryd.isAgg5
  z5 := Tryd.sizeOf5
  v5 := Tryd.zeroValue5
  t9 := Tryd.underlying9
  a9 := Tryd.isAgg9
  z9 := Tryd.sizeOf9
  v9 := Tryd.zeroValue9
  t46 := Tryd.underlying71
  a46 := Tryd.isAgg71
  z46 := Tryd.sizeOf71
  v46 := Tryd.zeroValue71
  t51 := Tryd.underlying118
  a51 := Tryd.isAgg118
  z51 := Tryd.sizeOf118
  v51 := Tryd.zeroValue118
  t59 := Tryd.underlying62
  a59 := Tryd.isAgg62
  z59 := Tryd.sizeOf62
  v59 := Tryd.zeroValue62
  t146 := Tryd.underlying125
  a146 := Tryd.isAgg125
  z146 := Tryd.sizeOf125
  v146 := Tryd.zeroValue125
  g1 := by kernel_rfl }
open Go.RowKit Go.Lib in
/-- strings.Cut: "Cut slices s around the first instance of sep, returning the text before and after sep. The found result reports whether sep appears in s. If sep does not appear in s, cut returns s, "", false.": IT RETURNS 'Lib.cut s sep'; the world is as it was but for the count of draws. (LAID: no walk: one application.) -/
theorem Tryd.strings_Cut (s sep : ByteArray) (m : Int) (w : World) (hs : s.size < 4294967281) (hm : w.cell? ⟨0, 0, none⟩ = some (.int .i64 m)) :
    Calls Tryd.prog 34 #[.string s, .string sep] w fun e w' => e = .returned (.tuple #[.string ⟨(Lib.cut s.data.toList sep.data.toList).1.toArray⟩, .string ⟨(Lib.cut s.data.toList sep.data.toList).2.1.toArray⟩, .bool (Lib.cut s.data.toList sep.data.toList).2.2]) ∧ ∃ n, w' = w.drewN n := Any.strings_Cut Tryd.lays145 s sep m w hs hm
def Tryd.lays101_ren : Go.Shelf.Ren := ⟨fun | 101 => 36 | 208 => 49 | 206 => 69 | n => n, fun | 9 => 9 | 4 => 4 | 3 => 3 | n => n, fun | n => n⟩
theorem Tryd.lays101 : Go.Proofs.Lays.n101 Tryd.prog Tryd.lays101_ren := {
  mixed := by kernel_rfl
  f101 := Tryd.func36.trans (congrArg some (by kernel_rfl))
  f206 := Tryd.func69.trans (congrArg some (by kernel_rfl))
  f208 := Tryd.func49.trans (congrArg some (by kernel_rfl))
  t3 := Tryd.underlying3
  a3 := Tryd.isAgg3
  z3 := Tryd.sizeOf3
  v3 := Tryd.zeroValue3
  t4 := Tryd.underlying4
  a4 := Tryd.isAgg4
  z4 := Tryd.sizeOf4
  v4 := Tryd.zeroValue4
  t9 := Tryd.underlying9
  a9 := Tryd.isAgg9
  z9 := Tryd.sizeOf9
  v9 := Tryd.zeroValue9 }
open Go.RowKit Go.Lib in
/-- strings.TrimPrefix: "TrimPrefix returns s without the provided leading prefix string. If s doesn't start with prefix, s is returned unchanged.": IT RETURNS 'Lib.trimPrefix s prefix'; the world is as it was. (LAID: no walk: one application.) -/
theorem Tryd.strings_TrimPrefix (s p : ByteArray) (w : World) :
    Calls Tryd.prog 36 #[.string s, .string p] w fun e w' => e = .returned (.string ⟨(Lib.trimPrefix s.data.toList p.data.toList).toArray⟩) ∧ w' = w := Any.strings_TrimPrefix Tryd.lays101 s p w
def Tryd.lays146_ren : Go.Shelf.Ren := ⟨fun | 146 => 50 | 221 => 70 | 268 => 86 | 138 => 87 | 143 => 88 | 195 => 100 | 197 => 101 | 218 => 102 | 219 => 62 | 260 => 105 | 217 => 80 | 225 => 81 | 224 => 82 | 267 => 83 | 266 => 98 | 314 => 99 | n => n, fun | 9 => 9 | 31 => 28 | 3 => 3 | 4 => 4 | 0 => 0 | 105 => 130 | 21 => 21 | 5 => 5 | 46 => 71 | 119 => 135 | 139 => 138 | 138 => 137 | 146 => 125 | 51 => 118 | n => n, fun | 1 => 0 | 3 => 6 | 4 => 7 | n => n⟩
theorem Tryd.lays146 : Go.Proofs.Lays.n146 Tryd.prog Tryd.lays146_ren := {
  mixed := by kernel_rfl
  f138 := Tryd.func87.trans (congrArg some (by kernel_rfl))
  f143 := Tryd.func88.trans (congrArg some (by kernel_rfl))
  f146 := Tryd.func50.trans (congrArg some (by kernel_rfl))
  f195 := Tryd.func100.trans (congrArg some (by kernel_rfl))
  f197 := Tryd.func101.trans (congrArg some (by kernel_rfl))
  f217 := Tryd.func80.trans (congrArg some (by kernel_rfl))
  f218 := Tryd.func102.trans (congrArg some (by kernel_rfl))
  f219 := Tryd.func62.trans (congrArg some (by kernel_rfl))
  f221 := Tryd.func70.trans (congrArg some (by kernel_rfl))
  f224 := Tryd.func82.trans (congrArg some (by kernel_rfl))
  f225 := Tryd.func81.trans (congrArg some (by kernel_rfl))
  f260 := Tryd.func105.trans (congrArg some (by kernel_rfl))
  f266 := Tryd.func98.trans (congrArg some (by kernel_rfl))
  f267 := Tryd.func83.trans (congrArg some (by kernel_rfl))
  f268 := Tryd.func86.trans (congrArg some (by kernel_rfl))
  f314 := Tryd.func99.trans (congrArg some (by kernel_rfl))
  t0 := Tryd.underlying0
  a0 := Tryd.isAgg0
  z0 := Tryd.sizeOf0
  v0 := Tryd.zeroValue0
  t3 := Tryd.underlying3
  a3 := Tryd.isAgg3
  z3 := Tryd.sizeOf3
  v3 := Tryd.zeroValue3
  t4 := Tryd.underlying4
  a4 := Tryd.isAgg4
  z4 := Tryd.sizeOf4
  v4 := Tryd.zeroValue4
  t5 := Tryd.underlying5
  a5 := Tryd.isAgg5
  z5 := Tryd.sizeOf5
  v5 := Tryd.zeroValue5
  t9 := Tryd.underlying9
  a9 := Tryd.isAgg9
  z9 := Tryd.sizeOf9
  v9 := Tryd.zeroValue9
  t21 := Tryd.underlying21
  a21 := Tryd.isAgg21
  z21 := Tryd.sizeOf21
  v21 := Tryd.zeroValue21
  t31 := Tryd.underlying28
  a31 := Tryd.isAgg28
  z31 := Tryd.sizeOf28
  v31 := Tryd.zeroValue28
  t46 := Tryd.underlying71
  a46 := Tryd.isAgg71
  z46 := Tryd.sizeOf71
  v46 := Tryd.zeroValue71
  t51 := Tryd.underlying118
  a51 := Tryd.isAgg118
  z51 := Tryd.sizeOf118
  v51 := Tryd.zeroValue118
  t105 := Tryd.underlying130
  a105 := Tryd.isAgg130
  z105 := Tryd.sizeOf130
  v105 := Tryd.zeroValue130
  t119 := Tryd.underlying135
  a119 := Tryd.isAgg135
  z119 := Tryd.sizeOf135
  t138 := Tryd.underlying137
  a138 := Tryd.isAgg137
  z138 := Tryd.sizeOf137
  v138 := Tryd.zeroValue137
  t139 := Tryd.underlying138
  a139 := Tryd.isAgg138
  z139 := Tryd.sizeOf138
  v139 := Tryd.zeroValue138
  t146 := Tryd.underlying125
  a146 := Tryd.isAgg125
  z146 := Tryd.sizeOf125
  v146 := Tryd.zeroValue125
  g1 := by kernel_rfl
  g3 := by kernel_rfl
  g4 := by kernel_rfl }
open Go.RowKit Go.Lib in
/-- strings.Split. (LAID: no walk: one application.) -/
theorem Tryd.strings_Split (s sep : ByteArray) (m : Int) (w : World) (hs : s.size < 4294967281) (hm : w.cell? ⟨0, 0, none⟩ = some (.int .i64 m)) (h1 : 1 ≤ sep.size) :
    Calls Tryd.prog 50 #[.string s, .string sep] w fun e w' =>
      e = .returned (.slice (some ⟨w.heap.size, 0, none⟩) (Lib.countB s sep + 1) (Lib.countB s sep + 1)) ∧ w' = w.alloc (.cells ((Lib.splitB sep 0 (Lib.countB s sep) s).map Value.string).toArray 9) := Any.strings_Split Tryd.lays146 (by kernel_rfl) s sep m w hs hm h1
end Go.Proofs
