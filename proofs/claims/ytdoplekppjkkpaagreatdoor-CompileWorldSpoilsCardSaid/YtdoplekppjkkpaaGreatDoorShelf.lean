/-
  DERIVED: THE SHELF's CONTRACTS AT THIS DUMP, IN PLAIN WORDS (tools/lay-plain.mjs out of 'TryzShelf.lean', which tools/lay-shelf.mjs wrote): THE SAME DECLARATIONS UNDER THE SAME NAMES: 'import', 'namespace', 'open', 'def', 'theorem' AND NOTHING ELSE: no command of the shelf's: FOR A HAND-IN. Each laying: the table of numbers ('.._ren') and one theorem, a field a fact of the dump's own or the kernel's comparison; each contract: ONE APPLICATION.
-/
import Derived.Shelf.Strconv.Itoa0
import Derived.Shelf.Strconv.Itoa1
import Derived.Shelf.LaysM
import Derived.Shelf.Strconv.Itoa2
import Derived.Shelf.Strconv.Itoa3
import Derived.Shelf.Strconv.ParseIntEmpty
import Derived.Shelf.Strconv.Clone
import Derived.Shelf.Strconv.SyntaxError
import Derived.Shelf.LaysC
import Derived.Shelf.Strconv.ToError
import Derived.Shelf.Strconv.Lower
import Derived.Shelf.Strconv.ParseUint10
import Derived.Shelf.Strconv.ParseUint10Empty
import Derived.Shelf.Strconv.ParseUint10Any
import Derived.Shelf.Strconv.ParseInt10
import Derived.Shelf.Strconv.RangeError
import Derived.Shelf.Strconv.ToErrorRange
import Derived.Shelf.Strconv.ParseUintEmpty
import Derived.Shelf.Strconv.ParseUint10b64
import Derived.Shelf.Strconv.ParseUint10b32
import Derived.Shelf.Strconv.ParseUint10b16
import Derived.Shelf.Strconv.ParseUint10b8
import Derived.Shelf.Strconv.ParseUint10At
import Derived.Shelf.Strconv.ParseInt10At64
import Derived.Shelf.Strconv.ParseInt10At32
import Derived.Shelf.Strconv.ParseInt10At16
import Derived.Shelf.Strconv.ParseInt10At8
import Derived.Shelf.Strconv.ParseInt10All
import Derived.Shelf.Strconv.ParseIntPublic10
import Derived.Test.YtdoplekppjkkpaaGreatDoorProg
namespace Go.Proofs
open Go.Shelf
def Tryz.laysC174_ren : Go.Shelf.Ren := ⟨fun | 174 => 160 | 247 => 169 | 245 => 170 | 287 => 181 | 279 => 182 | 280 => 183 | 281 => 184 | 282 => 185 | 321 => 190 | 322 => 191 | 316 => 192 | 171 => 194 | 205 => 193 | 243 => 197 | 246 => 200 | 283 => 201 | 284 => 202 | 285 => 203 | 286 => 204 | 129 => 206 | 317 => 205 | 318 => 207 | 319 => 208 | 320 => 209 | 337 => 210 | 338 => 211 | n => n, fun | 9 => 9 | 3 => 3 | 2 => 2 | 75 => 220 | 85 => 221 | 4 => 4 | 167 => 235 | 5 => 5 | 53 => 236 | 175 => 237 | 46 => 239 | 168 => 240 | 37 => 22 | 0 => 0 | 210 => 252 | 21 => 21 | 127 => 255 | 145 => 258 | 143 => 256 | 171 => 261 | 173 => 264 | 212 => 267 | 51 => 268 | 20 => 20 | 213 => 269 | 232 => 272 | 233 => 273 | 80 => 202 | n => n, fun | 15 => 4 | 16 => 5 | 17 => 6 | 18 => 7 | 19 => 8 | n => n⟩
theorem Tryz.laysC174 : Go.Proofs.LaysC.n174 Tryz.prog Tryz.laysC174_ren := {
  mixed := by kernel_rfl
  f129 := Tryz.func206.trans (congrArg some (by kernel_rfl))
  f171 := Tryz.func194.trans (congrArg some (by kernel_rfl))
  f174 := Tryz.func160.trans (congrArg some (by kernel_rfl))
  f205 := Tryz.func193.trans (congrArg some (by kernel_rfl))
  f243 := Tryz.func197.trans (congrArg some (by kernel_rfl))
  f245 := Tryz.func170.trans (congrArg some (by kernel_rfl))
  f246 := Tryz.func200.trans (congrArg some (by kernel_rfl))
  f247 := Tryz.func169.trans (congrArg some (by kernel_rfl))
  f279 := Tryz.func182.trans (congrArg some (by kernel_rfl))
  f280 := Tryz.func183.trans (congrArg some (by kernel_rfl))
  f281 := Tryz.func184.trans (congrArg some (by kernel_rfl))
  f282 := Tryz.func185.trans (congrArg some (by kernel_rfl))
  f283 := Tryz.func201.trans (congrArg some (by kernel_rfl))
  f284 := Tryz.func202.trans (congrArg some (by kernel_rfl))
  f285 := Tryz.func203.trans (congrArg some (by kernel_rfl))
  f286 := Tryz.func204.trans (congrArg some (by kernel_rfl))
  f287 := Tryz.func181.trans (congrArg some (by kernel_rfl))
  f316 := Tryz.func192.trans (congrArg some (by kernel_rfl))
  f317 := Tryz.func205.trans (congrArg some (by kernel_rfl))
  f318 := Tryz.func207.trans (congrArg some (by kernel_rfl))
  f319 := Tryz.func208.trans (congrArg some (by kernel_rfl))
  f320 := Tryz.func209.trans (congrArg some (by kernel_rfl))
  f321 := Tryz.func190.trans (congrArg some (by kernel_rfl))
  f322 := Tryz.func191.trans (congrArg some (by kernel_rfl))
  f337 := Tryz.func210.trans (congrArg some (by kernel_rfl))
  f338 := Tryz.func211.trans (congrArg some (by kernel_rfl))
  t0 := Tryz.underlying0
  a0 := Tryz.isAgg0
  z0 := Tryz.sizeOf0
  v0 := Tryz.zeroValue0
  t2 := Tryz.underlying2
  a2 := Tryz.isAgg2
  z2 := Tryz.sizeOf2
  v2 := Tryz.zeroValue2
  t3 := Tryz.underlying3
  a3 := Tryz.isAgg3
  z3 := Tryz.sizeOf3
  v3 := Tryz.zeroValue3
  t4 := Tryz.underlying4
  a4 := Tryz.isAgg4
  z4 := Tryz.sizeOf4
  v4 := Tryz.zeroValue4
  t5 := Tryz.underlying5
  a5 := Tryz.isAgg5
  z5 := Tryz.sizeOf5
  v5 := Tryz.zeroValue5
  t9 := Tryz.underlying9
  a9 := Tryz.isAgg9
  z9 := Tryz.sizeOf9
  v9 := Tryz.zeroValue9
  t20 := Tryz.underlying20
  a20 := Tryz.isAgg20
  z20 := Tryz.sizeOf20
  v20 := Tryz.zeroValue20
  t21 := Tryz.underlying21
  a21 := Tryz.isAgg21
  z21 := Tryz.sizeOf21
  v21 := Tryz.zeroValue21
  t37 := Tryz.underlying22
  a37 := Tryz.isAgg22
  z37 := Tryz.sizeOf22
  v37 := Tryz.zeroValue22
  t46 := Tryz.underlying239
  a46 := Tryz.isAgg239
  z46 := Tryz.sizeOf239
  v46 := Tryz.zeroValue239
  t51 := Tryz.underlying268
  a51 := Tryz.isAgg268
  z51 := Tryz.sizeOf268
  v51 := Tryz.zeroValue268
  t53 := Tryz.underlying236
  a53 := Tryz.isAgg236
  z53 := Tryz.sizeOf236
  v53 := Tryz.zeroValue236
  t75 := Tryz.underlying220
  a75 := Tryz.isAgg220
  z75 := Tryz.sizeOf220
  v75 := Tryz.zeroValue220
  t85 := Tryz.underlying221
  a85 := Tryz.isAgg221
  z85 := Tryz.sizeOf221
  v85 := Tryz.zeroValue221
  t127 := Tryz.underlying255
  a127 := Tryz.isAgg255
  z127 := Tryz.sizeOf255
  v127 := Tryz.zeroValue255
  t143 := Tryz.underlying256
  a143 := Tryz.isAgg256
  z143 := Tryz.sizeOf256
  v143 := Tryz.zeroValue256
  t145 := Tryz.underlying258
  a145 := Tryz.isAgg258
  z145 := Tryz.sizeOf258
  v145 := Tryz.zeroValue258
  t167 := Tryz.underlying235
  a167 := Tryz.isAgg235
  z167 := Tryz.sizeOf235
  v167 := Tryz.zeroValue235
  t168 := Tryz.underlying240
  a168 := Tryz.isAgg240
  z168 := Tryz.sizeOf240
  v168 := Tryz.zeroValue240
  t171 := Tryz.underlying261
  a171 := Tryz.isAgg261
  z171 := Tryz.sizeOf261
  v171 := Tryz.zeroValue261
  t173 := Tryz.underlying264
  a173 := Tryz.isAgg264
  z173 := Tryz.sizeOf264
  v173 := Tryz.zeroValue264
  t175 := Tryz.underlying237
  a175 := Tryz.isAgg237
  z175 := Tryz.sizeOf237
  v175 := Tryz.zeroValue237
  t210 := Tryz.underlying252
  a210 := Tryz.isAgg252
  z210 := Tryz.sizeOf252
  v210 := Tryz.zeroValue252
  t212 := Tryz.underlying267
  a212 := Tryz.isAgg267
  z212 := Tryz.sizeOf267
  v212 := Tryz.zeroValue267
  t213 := Tryz.underlying269
  a213 := Tryz.isAgg269
  z213 := Tryz.sizeOf269
  t232 := Tryz.underlying272
  a232 := Tryz.isAgg272
  z232 := Tryz.sizeOf272
  v232 := Tryz.zeroValue272
  t233 := Tryz.underlying273
  a233 := Tryz.isAgg273
  z233 := Tryz.sizeOf273
  v233 := Tryz.zeroValue273
  g15 := by kernel_rfl
  g16 := by kernel_rfl
  g17 := by kernel_rfl
  g18 := by kernel_rfl
  g19 := by kernel_rfl
  t80 := Tryz.underlying202
  a80 := Tryz.isAgg202
  z80 := Tryz.sizeOf202
  v80 := Tryz.zeroValue202
  i0 := by kernel_rfl
  i2 := by kernel_rfl
  i3 := by kernel_rfl
  i4 := by kernel_rfl
  i5 := by kernel_rfl
  i9 := by kernel_rfl
  i20 := by kernel_rfl
  i21 := by kernel_rfl
  i37 := by kernel_rfl
  i46 := by kernel_rfl
  i51 := by kernel_rfl
  i53 := by kernel_rfl
  i75 := by kernel_rfl
  i80 := by kernel_rfl
  i85 := by kernel_rfl
  i127 := by kernel_rfl
  i143 := by kernel_rfl
  i145 := by kernel_rfl
  i167 := by kernel_rfl
  i168 := by kernel_rfl
  i171 := by kernel_rfl
  i173 := by kernel_rfl
  i175 := by kernel_rfl
  i210 := by kernel_rfl
  i212 := by kernel_rfl
  i232 := by kernel_rfl
  i233 := by kernel_rfl
  m15 := by kernel_rfl
  m16 := by kernel_rfl
  m17 := by kernel_rfl
  m18 := by kernel_rfl
  m19 := by kernel_rfl
  c0 := by kernel_rfl
  c2 := by kernel_rfl
  c3 := by kernel_rfl
  c4 := by kernel_rfl
  c5 := by kernel_rfl
  c9 := by kernel_rfl
  c20 := by kernel_rfl
  c21 := by kernel_rfl
  c37 := by kernel_rfl
  c46 := by kernel_rfl
  c51 := by kernel_rfl
  c53 := by kernel_rfl
  c75 := by kernel_rfl
  c80 := by kernel_rfl
  c85 := by kernel_rfl
  c127 := by kernel_rfl
  c143 := by kernel_rfl
  c145 := by kernel_rfl
  c167 := by kernel_rfl
  c168 := by kernel_rfl
  c171 := by kernel_rfl
  c173 := by kernel_rfl
  c175 := by kernel_rfl
  c210 := by kernel_rfl
  c212 := by kernel_rfl
  c213 := by kernel_rfl
  c232 := by kernel_rfl
  c233 := by kernel_rfl }
open Go.RowKit in
/-- strconv.ParseInt(s, 10, 64), AT EVERY STRING THAT SPELLS AN int64 ('Lib.parseIntB 64 s.data.toList = .ok v'): v, AND NO ERROR. (LAID: no walk: one application.) -/
theorem Tryz.strconv_ParseInt_10_at64_ok (s : ByteArray) (hmax : s.size ≤ 9223372036854775806) (v : Int) (h : Lib.parseIntB 64 s.data.toList = .ok v) (w : World) :
    Calls Tryz.prog 160 #[.string s, .int .i64 10, .int .i64 64] w fun e w' => e = .returned (.tuple #[.int .i64 v, .nilIface]) ∧ (w' = w ∨ ∃ t, w' = Lib.bytesWorld w 5 t) := Any.strconv_ParseInt_10_at64_ok Tryz.laysC174 s hmax v h w
end Go.Proofs
