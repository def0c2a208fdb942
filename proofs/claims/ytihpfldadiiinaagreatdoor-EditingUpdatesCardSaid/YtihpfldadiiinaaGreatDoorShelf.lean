/-
  Contracts of library functions laid at this program (written by the kit's lay-shelf and lay-plain).
-/
import Derived.Shelf.Small.Bits
import Derived.Shelf.Strconv.Atoi
import Derived.Shelf.Strconv.Itoa0
import Derived.Shelf.Strings.Search1
import Derived.Shelf.Strings.Search2
import Derived.Shelf.Strings.Cut
import Derived.Shelf.LaysM
import Derived.Shelf.Strings.Shaped
import Derived.Shelf.GgClosure.StringsIndexFunc
import Derived.Ground.GgwProg
import Derived.Shelf.GgClosure.StringsIndexFuncTop
import Derived.Shelf.Strings.FuncGrows
import Derived.Test.YtihpfldadiiinaaGreatDoorProg
namespace Go.Proofs
open Go.Shelf Go.RowKit Go.Lib
def Tryz.lays125_ren : Go.Shelf.Ren := ⟨fun | 125 => 225 | 128 => 246 | 129 => 247 | n => n, fun | 46 => 248 | 3 => 3 | 51 => 263 | 53 => 238 | 4 => 4 | 5 => 5 | 9 => 9 | n => n, fun | n => n⟩
theorem Tryz.lays125 : Go.Proofs.Lays.n125 Tryz.prog Tryz.lays125_ren := {
  mixed := by kernel_rfl
  f125 := Tryz.func225.trans (congrArg some (by kernel_rfl))
  f128 := Tryz.func246.trans (congrArg some (by kernel_rfl))
  f129 := Tryz.func247.trans (congrArg some (by kernel_rfl))
  t3 := Tryz.underlying3
  a3 := Tryz.isAgg3
  z3 := Tryz.sizeOf3
  v3 := Tryz.zeroValue3
  t4 := Tryz.underlying4
  a4 := Tryz.isAgg4
  z4 := Tryz.sizeOf4
  v4 := Tryz.zeroValue4
  t5 := Tryz.underlying5
  a5 := Tryz.isAgg5
  z5 := Tryz.sizeOf5
  v5 := Tryz.zeroValue5
  t9 := Tryz.underlying9
  a9 := Tryz.isAgg9
  z9 := Tryz.sizeOf9
  v9 := Tryz.zeroValue9
  t46 := Tryz.underlying248
  a46 := Tryz.isAgg248
  z46 := Tryz.sizeOf248
  v46 := Tryz.zeroValue248
  t51 := Tryz.underlying263
  a51 := Tryz.isAgg263
  z51 := Tryz.sizeOf263
  v51 := Tryz.zeroValue263
  t53 := Tryz.underlying238
  a53 := Tryz.isAgg238
  z53 := Tryz.sizeOf238
  v53 := Tryz.zeroValue238 }
theorem Tryz.bits_Len (x : Int) (w : World) (h0 : 0 ≤ x) (h1 : x ≤ 18446744073709551615) :
    Calls Tryz.prog 225 #[.int .u64 x] w fun e w' => e = .returned (.int .i64 (Lib.bitLen x.toNat)) ∧ w' = w := Any.bits_Len Tryz.lays125 x w h0 h1
def Tryz.lays172_ren : Go.Shelf.Ren := ⟨fun | 172 => 268 | 244 => 271 | 245 => 272 | 247 => 273 | 279 => 274 | 280 => 275 | 281 => 276 | 282 => 277 | 287 => 278 | 316 => 279 | 171 => 281 | 205 => 280 | 321 => 282 | 322 => 283 | 243 => 284 | 246 => 285 | 283 => 286 | 284 => 287 | 285 => 288 | 286 => 289 | 129 => 247 | 317 => 290 | 318 => 291 | 319 => 292 | 320 => 293 | 337 => 294 | 338 => 295 | n => n, fun | 9 => 9 | 3 => 3 | 75 => 283 | 76 => 284 | 4 => 4 | 5 => 5 | 167 => 291 | 37 => 234 | 0 => 0 | 85 => 292 | 2 => 2 | 168 => 294 | 53 => 238 | 175 => 297 | 46 => 248 | 210 => 301 | 127 => 305 | 145 => 308 | 143 => 306 | 21 => 21 | 171 => 310 | 173 => 312 | 212 => 315 | 51 => 263 | 20 => 20 | 213 => 316 | 232 => 317 | 233 => 318 | 80 => 319 | n => n, fun | 15 => 1 | 16 => 2 | 17 => 3 | 18 => 4 | 19 => 5 | n => n⟩
theorem Tryz.lays172 : Go.Proofs.Lays.n172 Tryz.prog Tryz.lays172_ren := {
  mixed := by kernel_rfl
  f129 := Tryz.func247.trans (congrArg some (by kernel_rfl))
  f171 := Tryz.func281.trans (congrArg some (by kernel_rfl))
  f172 := Tryz.func268.trans (congrArg some (by kernel_rfl))
  f205 := Tryz.func280.trans (congrArg some (by kernel_rfl))
  f243 := Tryz.func284.trans (congrArg some (by kernel_rfl))
  f244 := Tryz.func271.trans (congrArg some (by kernel_rfl))
  f245 := Tryz.func272.trans (congrArg some (by kernel_rfl))
  f246 := Tryz.func285.trans (congrArg some (by kernel_rfl))
  f247 := Tryz.func273.trans (congrArg some (by kernel_rfl))
  f279 := Tryz.func274.trans (congrArg some (by kernel_rfl))
  f280 := Tryz.func275.trans (congrArg some (by kernel_rfl))
  f281 := Tryz.func276.trans (congrArg some (by kernel_rfl))
  f282 := Tryz.func277.trans (congrArg some (by kernel_rfl))
  f283 := Tryz.func286.trans (congrArg some (by kernel_rfl))
  f284 := Tryz.func287.trans (congrArg some (by kernel_rfl))
  f285 := Tryz.func288.trans (congrArg some (by kernel_rfl))
  f286 := Tryz.func289.trans (congrArg some (by kernel_rfl))
  f287 := Tryz.func278.trans (congrArg some (by kernel_rfl))
  f316 := Tryz.func279.trans (congrArg some (by kernel_rfl))
  f317 := Tryz.func290.trans (congrArg some (by kernel_rfl))
  f318 := Tryz.func291.trans (congrArg some (by kernel_rfl))
  f319 := Tryz.func292.trans (congrArg some (by kernel_rfl))
  f320 := Tryz.func293.trans (congrArg some (by kernel_rfl))
  f321 := Tryz.func282.trans (congrArg some (by kernel_rfl))
  f322 := Tryz.func283.trans (congrArg some (by kernel_rfl))
  f337 := Tryz.func294.trans (congrArg some (by kernel_rfl))
  f338 := Tryz.func295.trans (congrArg some (by kernel_rfl))
  t0 := Tryz.underlying0
  a0 := Tryz.isAgg0
  z0 := Tryz.sizeOf0
  v0 := Tryz.zeroValue0
  t2 := Tryz.underlying2
  a2 := Tryz.isAgg2
  z2 := Tryz.sizeOf2
  v2 := Tryz.zeroValue2
  t3 := Tryz.underlying3
  a3 := Tryz.isAgg3
  z3 := Tryz.sizeOf3
  v3 := Tryz.zeroValue3
  t4 := Tryz.underlying4
  a4 := Tryz.isAgg4
  z4 := Tryz.sizeOf4
  v4 := Tryz.zeroValue4
  t5 := Tryz.underlying5
  a5 := Tryz.isAgg5
  z5 := Tryz.sizeOf5
  v5 := Tryz.zeroValue5
  t9 := Tryz.underlying9
  a9 := Tryz.isAgg9
  z9 := Tryz.sizeOf9
  v9 := Tryz.zeroValue9
  t20 := Tryz.underlying20
  a20 := Tryz.isAgg20
  z20 := Tryz.sizeOf20
  v20 := Tryz.zeroValue20
  t21 := Tryz.underlying21
  a21 := Tryz.isAgg21
  z21 := Tryz.sizeOf21
  v21 := Tryz.zeroValue21
  t37 := Tryz.underlying234
  a37 := Tryz.isAgg234
  z37 := Tryz.sizeOf234
  v37 := Tryz.zeroValue234
  t46 := Tryz.underlying248
  a46 := Tryz.isAgg248
  z46 := Tryz.sizeOf248
  v46 := Tryz.zeroValue248
  t51 := Tryz.underlying263
  a51 := Tryz.isAgg263
  z51 := Tryz.sizeOf263
  v51 := Tryz.zeroValue263
  t53 := Tryz.underlying238
  a53 := Tryz.isAgg238
  z53 := Tryz.sizeOf238
  v53 := Tryz.zeroValue238
  t75 := Tryz.underlying283
  a75 := Tryz.isAgg283
  z75 := Tryz.sizeOf283
  v75 := Tryz.zeroValue283
  t76 := Tryz.underlying284
  a76 := Tryz.isAgg284
  z76 := Tryz.sizeOf284
  v76 := Tryz.zeroValue284
  t85 := Tryz.underlying292
  a85 := Tryz.isAgg292
  z85 := Tryz.sizeOf292
  v85 := Tryz.zeroValue292
  t127 := Tryz.underlying305
  a127 := Tryz.isAgg305
  z127 := Tryz.sizeOf305
  v127 := Tryz.zeroValue305
  t143 := Tryz.underlying306
  a143 := Tryz.isAgg306
  z143 := Tryz.sizeOf306
  v143 := Tryz.zeroValue306
  t145 := Tryz.underlying308
  a145 := Tryz.isAgg308
  z145 := Tryz.sizeOf308
  v145 := Tryz.zeroValue308
  t167 := Tryz.underlying291
  a167 := Tryz.isAgg291
  z167 := Tryz.sizeOf291
  v167 := Tryz.zeroValue291
  t168 := Tryz.underlying294
  a168 := Tryz.isAgg294
  z168 := Tryz.sizeOf294
  v168 := Tryz.zeroValue294
  t171 := Tryz.underlying310
  a171 := Tryz.isAgg310
  z171 := Tryz.sizeOf310
  v171 := Tryz.zeroValue310
  t173 := Tryz.underlying312
  a173 := Tryz.isAgg312
  z173 := Tryz.sizeOf312
  v173 := Tryz.zeroValue312
  t175 := Tryz.underlying297
  a175 := Tryz.isAgg297
  z175 := Tryz.sizeOf297
  v175 := Tryz.zeroValue297
  t210 := Tryz.underlying301
  a210 := Tryz.isAgg301
  z210 := Tryz.sizeOf301
  v210 := Tryz.zeroValue301
  t212 := Tryz.underlying315
  a212 := Tryz.isAgg315
  z212 := Tryz.sizeOf315
  v212 := Tryz.zeroValue315
  t213 := Tryz.underlying316
  a213 := Tryz.isAgg316
  z213 := Tryz.sizeOf316
  t232 := Tryz.underlying317
  a232 := Tryz.isAgg317
  z232 := Tryz.sizeOf317
  v232 := Tryz.zeroValue317
  t233 := Tryz.underlying318
  a233 := Tryz.isAgg318
  z233 := Tryz.sizeOf318
  v233 := Tryz.zeroValue318
  g15 := by kernel_rfl
  g16 := by kernel_rfl
  g17 := by kernel_rfl
  g18 := by kernel_rfl
  g19 := by kernel_rfl }
theorem Tryz.strconv_Atoi (s : ByteArray) (n : Int) (hl : s.size ≤ 18) (h : Lib.atoi s.data.toList = some n) (w : World) :
    Calls Tryz.prog 268 #[.string s] w fun e w' => e = .returned (.tuple #[.int .i64 n, .nilIface]) ∧ ∃ t, w' = Lib.bytesWorld w 5 t := Any.strconv_Atoi Tryz.lays172 s n hl h w
def Tryz.lays219_ren : Go.Shelf.Ren := ⟨fun | 219 => 220 | 217 => 232 | 225 => 233 | 224 => 234 | 267 => 235 | 266 => 257 | 314 => 258 | n => n, fun | 9 => 9 | 3 => 3 | 4 => 4 | 5 => 5 | 46 => 248 | 146 => 271 | 51 => 263 | n => n, fun | 1 => 0 | n => n⟩
theorem Tryz.lays219 : Go.Proofs.Lays.n219 Tryz.prog Tryz.lays219_ren := {
  mixed := by kernel_rfl
  f217 := Tryz.func232.trans (congrArg some (by kernel_rfl))
  f219 := Tryz.func220.trans (congrArg some (by kernel_rfl))
  f224 := Tryz.func234.trans (congrArg some (by kernel_rfl))
  f225 := Tryz.func233.trans (congrArg some (by kernel_rfl))
  f266 := Tryz.func257.trans (congrArg some (by kernel_rfl))
  f267 := Tryz.func235.trans (congrArg some (by kernel_rfl))
  f314 := Tryz.func258.trans (congrArg some (by kernel_rfl))
  t3 := Tryz.underlying3
  a3 := Tryz.isAgg3
  z3 := Tryz.sizeOf3
  v3 := Tryz.zeroValue3
  t4 := Tryz.underlying4
  a4 := Tryz.isAgg4
  z4 := Tryz.sizeOf4
  v4 := Tryz.zeroValue4
  t5 := Tryz.underlying5
  a5 := Tryz.isAgg5
  z5 := Tryz.sizeOf5
  v5 := Tryz.zeroValue5
  t9 := Tryz.underlying9
  a9 := Tryz.isAgg9
  z9 := Tryz.sizeOf9
  v9 := Tryz.zeroValue9
  t46 := Tryz.underlying248
  a46 := Tryz.isAgg248
  z46 := Tryz.sizeOf248
  v46 := Tryz.zeroValue248
  t51 := Tryz.underlying263
  a51 := Tryz.isAgg263
  z51 := Tryz.sizeOf263
  v51 := Tryz.zeroValue263
  t146 := Tryz.underlying271
  a146 := Tryz.isAgg271
  z146 := Tryz.sizeOf271
  v146 := Tryz.zeroValue271
  g1 := by kernel_rfl }
theorem Tryz.stringslite_Index_one (s : ByteArray) (c : UInt8) (w : World) :
    Calls Tryz.prog 220 #[.string s, .string ⟨#[c]⟩] w fun e w' => e = .returned (.int .i64 (Lib.indexByte s.data.toList c)) ∧ w' = w := Any.stringslite_Index_one Tryz.lays219 s c w
end Go.Proofs
