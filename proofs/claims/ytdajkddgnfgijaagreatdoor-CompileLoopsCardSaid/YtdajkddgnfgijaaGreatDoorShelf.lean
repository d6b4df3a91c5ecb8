/-
  DERIVED: THE SHELF's CONTRACTS AT THIS DUMP, IN PLAIN WORDS (tools/lay-plain.mjs out of 'TryzShelf.lean', which tools/lay-shelf.mjs wrote): THE SAME DECLARATIONS UNDER THE SAME NAMES: 'import', 'namespace', 'open', 'def', 'theorem' AND NOTHING ELSE: no command of the shelf's: FOR A HAND-IN. Each laying: the table of numbers ('.._ren') and one theorem, a field a fact of the dump's own or the kernel's comparison; each contract: ONE APPLICATION.
-/
import Derived.Shelf.Strconv.Itoa0
import Derived.Shelf.Strconv.Itoa1
import Derived.Shelf.LaysM
import Derived.Shelf.Strconv.Itoa2
import Derived.Shelf.Strconv.Itoa3
import Derived.Shelf.Strconv.ParseIntEmpty
import Derived.Shelf.Strconv.Clone
import Derived.Shelf.Strconv.SyntaxError
import Derived.Shelf.LaysC
import Derived.Shelf.Strconv.ToError
import Derived.Shelf.Strconv.Lower
import Derived.Shelf.Strconv.ParseUint10
import Derived.Shelf.Strconv.ParseUint10Empty
import Derived.Shelf.Strconv.ParseUint10Any
import Derived.Shelf.Strconv.ParseInt10
import Derived.Shelf.Strconv.RangeError
import Derived.Shelf.Strconv.ToErrorRange
import Derived.Shelf.Strconv.ParseUintEmpty
import Derived.Shelf.Strconv.ParseUint10b64
import Derived.Shelf.Strconv.ParseUint10b32
import Derived.Shelf.Strconv.ParseUint10b16
import Derived.Shelf.Strconv.ParseUint10b8
import Derived.Shelf.Strconv.ParseUint10At
import Derived.Shelf.Strconv.ParseInt10At64
import Derived.Shelf.Strconv.ParseInt10At32
import Derived.Shelf.Strconv.ParseInt10At16
import Derived.Shelf.Strconv.ParseInt10At8
import Derived.Shelf.Strconv.ParseInt10All
import Derived.Shelf.Strconv.ParseIntPublic10
import Derived.Test.YtdajkddgnfgijaaGreatDoorProg
namespace Go.Proofs
open Go.Shelf
def Tryz.laysC174_ren : Go.Shelf.Ren := ⟨fun | 174 => 170 | 247 => 196 | 245 => 197 | 287 => 212 | 279 => 213 | 280 => 214 | 281 => 215 | 282 => 216 | 321 => 224 | 322 => 225 | 316 => 226 | 171 => 228 | 205 => 227 | 243 => 231 | 246 => 234 | 283 => 235 | 284 => 236 | 285 => 237 | 286 => 238 | 129 => 240 | 317 => 239 | 318 => 241 | 319 => 242 | 320 => 243 | 337 => 244 | 338 => 245 | n => n, fun | 9 => 9 | 3 => 3 | 2 => 2 | 75 => 220 | 85 => 221 | 4 => 4 | 167 => 255 | 5 => 5 | 53 => 256 | 175 => 257 | 46 => 259 | 168 => 260 | 37 => 51 | 0 => 0 | 210 => 272 | 21 => 21 | 127 => 275 | 145 => 278 | 143 => 276 | 171 => 281 | 173 => 284 | 212 => 287 | 51 => 288 | 20 => 20 | 213 => 289 | 232 => 292 | 233 => 293 | 80 => 239 | n => n, fun | 15 => 4 | 16 => 5 | 17 => 6 | 18 => 7 | 19 => 8 | n => n⟩
theorem Tryz.laysC174 : Go.Proofs.LaysC.n174 Tryz.prog Tryz.laysC174_ren := {
  mixed := by kernel_rfl
  f129 := Tryz.func240.trans (congrArg some (by kernel_rfl))
  f171 := Tryz.func228.trans (congrArg some (by kernel_rfl))
  f174 := Tryz.func170.trans (congrArg some (by kernel_rfl))
  f205 := Tryz.func227.trans (congrArg some (by kernel_rfl))
  f243 := Tryz.func231.trans (congrArg some (by kernel_rfl))
  f245 := Tryz.func197.trans (congrArg some (by kernel_rfl))
  f246 := Tryz.func234.trans (congrArg some (by kernel_rfl))
  f247 := Tryz.func196.trans (congrArg some (by kernel_rfl))
  f279 := Tryz.func213.trans (congrArg some (by kernel_rfl))
  f280 := Tryz.func214.trans (congrArg some (by kernel_rfl))
  f281 := Tryz.func215.trans (congrArg some (by kernel_rfl))
  f282 := Tryz.func216.trans (congrArg some (by kernel_rfl))
  f283 := Tryz.func235.trans (congrArg some (by kernel_rfl))
  f284 := Tryz.func236.trans (congrArg some (by kernel_rfl))
  f285 := Tryz.func237.trans (congrArg some (by kernel_rfl))
  f286 := Tryz.func238.trans (congrArg some (by kernel_rfl))
  f287 := Tryz.func212.trans (congrArg some (by kernel_rfl))
  f316 := Tryz.func226.trans (congrArg some (by kernel_rfl))
  f317 := Tryz.func239.trans (congrArg some (by kernel_rfl))
  f318 := Tryz.func241.trans (congrArg some (by kernel_rfl))
  f319 := Tryz.func242.trans (congrArg some (by kernel_rfl))
  f320 := Tryz.func243.trans (congrArg some (by kernel_rfl))
  f321 := Tryz.func224.trans (congrArg some (by kernel_rfl))
  f322 := Tryz.func225.trans (congrArg some (by kernel_rfl))
  f337 := Tryz.func244.trans (congrArg some (by kernel_rfl))
  f338 := Tryz.func245.trans (congrArg some (by kernel_rfl))
  t0 := Tryz.underlying0
  a0 := Tryz.isAgg0
  z0 := Tryz.sizeOf0
  v0 := Tryz.zeroValue0
  t2 := Tryz.underlying2
  a2 := Tryz.isAgg2
  z2 := Tryz.sizeOf2
  v2 := Tryz.zeroValue2
  t3 := Tryz.underlying3
  a3 := Tryz.isAgg3
  z3 := Tryz.sizeOf3
  v3 := Tryz.zeroValue3
  t4 := Tryz.underlying4
  a4 := Tryz.isAgg4
  z4 := Tryz.sizeOf4
  v4 := Tryz.zeroValue4
  t5 := Tryz.underlying5
  a5 := Tryz.isAgg5
  z5 := Tryz.sizeOf5
  v5 := Tryz.zeroValue5
  t9 := Tryz.underlying9
  a9 := Tryz.isAgg9
  z9 := Tryz.sizeOf9
  v9 := Tryz.zeroValue9
  t20 := Tryz.underlying20
  a20 := Tryz.isAgg20
  z20 := Tryz.sizeOf20
  v20 := Tryz.zeroValue20
  t21 := Tryz.underlying21
  a21 := Tryz.isAgg21
  z21 := Tryz.sizeOf21
  v21 := Tryz.zeroValue21
  t37 := Tryz.underlying51
  a37 := Tryz.isAgg51
  z37 := Tryz.sizeOf51
  v37 := Tryz.zeroValue51
  t46 := Tryz.underlying259
  a46 := Tryz.isAgg259
  z46 := Tryz.sizeOf259
  v46 := Tryz.zeroValue259
  t51 := Tryz.underlying288
  a51 := Tryz.isAgg288
  z51 := Tryz.sizeOf288
  v51 := Tryz.zeroValue288
  t53 := Tryz.underlying256
  a53 := Tryz.isAgg256
  z53 := Tryz.sizeOf256
  v53 := Tryz.zeroValue256
  t75 := Tryz.underlying220
  a75 := Tryz.isAgg220
  z75 := Tryz.sizeOf220
  v75 := Tryz.zeroValue220
  t85 := Tryz.underlying221
  a85 := Tryz.isAgg221
  z85 := Tryz.sizeOf221
  v85 := Tryz.zeroValue221
  t127 := Tryz.underlying275
  a127 := Tryz.isAgg275
  z127 := Tryz.sizeOf275
  v127 := Tryz.zeroValue275
  t143 := Tryz.underlying276
  a143 := Tryz.isAgg276
  z143 := Tryz.sizeOf276
  v143 := Tryz.zeroValue276
  t145 := Tryz.underlying278
  a145 := Tryz.isAgg278
  z145 := Tryz.sizeOf278
  v145 := Tryz.zeroValue278
  t167 := Tryz.underlying255
  a167 := Tryz.isAgg255
  z167 := Tryz.sizeOf255
  v167 := Tryz.zeroValue255
  t168 := Tryz.underlying260
  a168 := Tryz.isAgg260
  z168 := Tryz.sizeOf260
  v168 := Tryz.zeroValue260
  t171 := Tryz.underlying281
  a171 := Tryz.isAgg281
  z171 := Tryz.sizeOf281
  v171 := Tryz.zeroValue281
  t173 := Tryz.underlying284
  a173 := Tryz.isAgg284
  z173 := Tryz.sizeOf284
  v173 := Tryz.zeroValue284
  t175 := Tryz.underlying257
  a175 := Tryz.isAgg257
  z175 := Tryz.sizeOf257
  v175 := Tryz.zeroValue257
  t210 := Tryz.underlying272
  a210 := Tryz.isAgg272
  z210 := Tryz.sizeOf272
  v210 := Tryz.zeroValue272
  t212 := Tryz.underlying287
  a212 := Tryz.isAgg287
  z212 := Tryz.sizeOf287
  v212 := Tryz.zeroValue287
  t213 := Tryz.underlying289
  a213 := Tryz.isAgg289
  z213 := Tryz.sizeOf289
  t232 := Tryz.underlying292
  a232 := Tryz.isAgg292
  z232 := Tryz.sizeOf292
  v232 := Tryz.zeroValue292
  t233 := Tryz.underlying293
  a233 := Tryz.isAgg293
  z233 := Tryz.sizeOf293
  v233 := Tryz.zeroValue293
  g15 := by kernel_rfl
  g16 := by kernel_rfl
  g17 := by kernel_rfl
  g18 := by kernel_rfl
  g19 := by kernel_rfl
  t80 := Tryz.underlying239
  a80 := Tryz.isAgg239
  z80 := Tryz.sizeOf239
  v80 := Tryz.zeroValue239
  i0 := by kernel_rfl
  i2 := by kernel_rfl
  i3 := by kernel_rfl
  i4 := by kernel_rfl
  i5 := by kernel_rfl
  i9 := by kernel_rfl
  i20 := by kernel_rfl
  i21 := by kernel_rfl
  i37 := by kernel_rfl
  i46 := by kernel_rfl
  i51 := by kernel_rfl
  i53 := by kernel_rfl
  i75 := by kernel_rfl
  i80 := by kernel_rfl
  i85 := by kernel_rfl
  i127 := by kernel_rfl
  i143 := by kernel_rfl
  i145 := by kernel_rfl
  i167 := by kernel_rfl
  i168 := by kernel_rfl
  i171 := by kernel_rfl
  i173 := by kernel_rfl
  i175 := by kernel_rfl
  i210 := by kernel_rfl
  i212 := by kernel_rfl
  i232 := by kernel_rfl
  i233 := by kernel_rfl
  m15 := by kernel_rfl
  m16 := by kernel_rfl
  m17 := by kernel_rfl
  m18 := by kernel_rfl
  m19 := by kernel_rfl
  c0 := by kernel_rfl
  c2 := by kernel_rfl
  c3 := by kernel_rfl
  c4 := by kernel_rfl
  c5 := by kernel_rfl
  c9 := by kernel_rfl
  c20 := by kernel_rfl
  c21 := by kernel_rfl
  c37 := by kernel_rfl
  c46 := by kernel_rfl
  c51 := by kernel_rfl
  c53 := by kernel_rfl
  c75 := by kernel_rfl
  c80 := by kernel_rfl
  c85 := by kernel_rfl
  c127 := by kernel_rfl
  c143 := by kernel_rfl
  c145 := by kernel_rfl
  c167 := by kernel_rfl
  c168 := by kernel_rfl
  c171 := by kernel_rfl
  c173 := by kernel_rfl
  c175 := by kernel_rfl
  c210 := by kernel_rfl
  c212 := by kernel_rfl
  c213 := by kernel_rfl
  c232 := by kernel_rfl
  c233 := by kernel_rfl }
open Go.RowKit in
/-- strconv.ParseInt(s, 10, 64), AT EVERY STRING THAT SPELLS AN int64 ('Lib.parseIntB 64 s.data.toList = .ok v'): v, AND NO ERROR. (LAID: no walk: one application.) -/
theorem Tryz.strconv_ParseInt_10_at64_ok (s : ByteArray) (hmax : s.size ≤ 9223372036854775806) (v : Int) (h : Lib.parseIntB 64 s.data.toList = .ok v) (w : World) :
    Calls Tryz.prog 170 #[.string s, .int .i64 10, .int .i64 64] w fun e w' => e = .returned (.tuple #[.int .i64 v, .nilIface]) ∧ (w' = w ∨ ∃ t, w' = Lib.bytesWorld w 5 t) := Any.strconv_ParseInt_10_at64_ok Tryz.laysC174 s hmax v h w
end Go.Proofs
