/-
  DERIVED: THE SHELF's CONTRACTS AT THIS DUMP, IN PLAIN WORDS (tools/lay-plain.mjs out of 'TryzSoi.lean', which tools/lay-shelf.mjs wrote): THE SAME DECLARATIONS UNDER THE SAME NAMES: 'import', 'namespace', 'open', 'def', 'theorem' AND NOTHING ELSE: no command of the shelf's: FOR A HAND-IN. Each laying: the table of numbers ('.._ren') and one theorem, a field a fact of the dump's own or the kernel's comparison; each contract: ONE APPLICATION.
-/
import Derived.Shelf.Sort.Plain
import Derived.Shelf.Slices.In.SortNone
import Derived.Test.YthlobibofbddeaaGreatDoorProg
namespace Go.Proofs
open Go.Shelf
def Tryz.lays189_ren : Go.Shelf.Ren := ⟨fun | 189 => 136 | 125 => 191 | 257 => 190 | 128 => 223 | 129 => 224 | 294 => 214 | 295 => 215 | 296 => 216 | 297 => 217 | 298 => 218 | 299 => 219 | 216 => 220 | 300 => 221 | 301 => 222 | 328 => 238 | 329 => 239 | 330 => 240 | 331 => 241 | 332 => 242 | 215 => 243 | 343 => 254 | n => n, fun | 28 => 103 | 3 => 3 | 46 => 221 | 0 => 0 | 51 => 249 | 53 => 137 | 4 => 4 | 183 => 242 | 182 => 241 | 131 => 150 | 5 => 5 | 9 => 9 | 218 => 259 | 222 => 263 | 228 => 270 | 229 => 86 | n => n, fun | n => n⟩
theorem Tryz.lays189 : Go.Proofs.Lays.n189 Tryz.prog Tryz.lays189_ren := {
  mixed := by kernel_rfl
  f125 := Tryz.func191.trans (congrArg some (by kernel_rfl))
  f128 := Tryz.func223.trans (congrArg some (by kernel_rfl))
  f129 := Tryz.func224.trans (congrArg some (by kernel_rfl))
  f189 := Tryz.func136.trans (congrArg some (by kernel_rfl))
  f215 := Tryz.func243.trans (congrArg some (by kernel_rfl))
  f216 := Tryz.func220.trans (congrArg some (by kernel_rfl))
  f257 := Tryz.func190.trans (congrArg some (by kernel_rfl))
  f294 := Tryz.func214.trans (congrArg some (by kernel_rfl))
  f295 := Tryz.func215.trans (congrArg some (by kernel_rfl))
  f296 := Tryz.func216.trans (congrArg some (by kernel_rfl))
  f297 := Tryz.func217.trans (congrArg some (by kernel_rfl))
  f298 := Tryz.func218.trans (congrArg some (by kernel_rfl))
  f299 := Tryz.func219.trans (congrArg some (by kernel_rfl))
  f300 := Tryz.func221.trans (congrArg some (by kernel_rfl))
  f301 := Tryz.func222.trans (congrArg some (by kernel_rfl))
  f328 := Tryz.func238.trans (congrArg some (by kernel_rfl))
  f329 := Tryz.func239.trans (congrArg some (by kernel_rfl))
  f330 := Tryz.func240.trans (congrArg some (by kernel_rfl))
  f331 := Tryz.func241.trans (congrArg some (by kernel_rfl))
  f332 := Tryz.func242.trans (congrArg some (by kernel_rfl))
  f343 := Tryz.func254.trans (congrArg some (by kernel_rfl))
  t0 := Tryz.underlying0
  a0 := Tryz.isAgg0
  z0 := Tryz.sizeOf0
  v0 := Tryz.zeroValue0
  t3 := Tryz.underlying3
  a3 := Tryz.isAgg3
  z3 := Tryz.sizeOf3
  v3 := Tryz.zeroValue3
  t4 := Tryz.underlying4
  a4 := Tryz.isAgg4
  z4 := Tryz.sizeOf4
  v4 := Tryz.zeroValue4
  t5 := Tryz.underlying5
  a5 := Tryz.isAgg5
  z5 := Tryz.sizeOf5
  v5 := Tryz.zeroValue5
  t9 := Tryz.underlying9
  a9 := Tryz.isAgg9
  z9 := Tryz.sizeOf9
  v9 := Tryz.zeroValue9
  t28 := Tryz.underlying103
  a28 := Tryz.isAgg103
  z28 := Tryz.sizeOf103
  v28 := Tryz.zeroValue103
  t46 := Tryz.underlying221
  a46 := Tryz.isAgg221
  z46 := Tryz.sizeOf221
  v46 := Tryz.zeroValue221
  t51 := Tryz.underlying249
  a51 := Tryz.isAgg249
  z51 := Tryz.sizeOf249
  v51 := Tryz.zeroValue249
  t53 := Tryz.underlying137
  a53 := Tryz.isAgg137
  z53 := Tryz.sizeOf137
  v53 := Tryz.zeroValue137
  t131 := Tryz.underlying150
  a131 := Tryz.isAgg150
  z131 := Tryz.sizeOf150
  v131 := Tryz.zeroValue150
  t182 := Tryz.underlying241
  a182 := Tryz.isAgg241
  z182 := Tryz.sizeOf241
  v182 := Tryz.zeroValue241
  t183 := Tryz.underlying242
  a183 := Tryz.isAgg242
  z183 := Tryz.sizeOf242
  v183 := Tryz.zeroValue242
  t218 := Tryz.underlying259
  a218 := Tryz.isAgg259
  z218 := Tryz.sizeOf259
  v218 := Tryz.zeroValue259
  t222 := Tryz.underlying263
  a222 := Tryz.isAgg263
  z222 := Tryz.sizeOf263
  v222 := Tryz.zeroValue263
  t228 := Tryz.underlying270
  a228 := Tryz.isAgg270
  z228 := Tryz.sizeOf270
  v228 := Tryz.zeroValue270
  t229 := Tryz.underlying86
  a229 := Tryz.isAgg86
  z229 := Tryz.sizeOf86
  v229 := Tryz.zeroValue86 }
open Go.Sort Go.RowKit in
theorem Tryz.slices_Sort_int (blk off cap : Nat) (zs : List Int) (w : World) (hH : Holds (Value.int .i64) w blk off zs.toArray) (hblk : blk < w.heap.size) (hsz : zs.length < 4611686018427387904) :
    Calls Tryz.prog 136 #[.slice (some ⟨blk, off, none⟩) zs.length cap] w fun e w' =>
      e = .returned (.tuple #[]) ∧ ∃ n os, w' = grow (putRow (Value.int .i64) (Sort.ahead w n) blk off (zs.mergeSort fun x y => decide (x ≤ y)).toArray) os := Any.slices_Sort_int Tryz.lays189 blk off cap zs w hH hblk hsz
open Go.RowKit Go.Sort in
/-- .. and plain. (LAID: no walk: one application.) -/
theorem Tryz.slices_Sort_int_none (p : Option Addr) (cap : Nat) (w : World) :
    Calls Tryz.prog 136 #[.slice p 0 cap] w fun e w' => e = .returned (.tuple #[]) ∧ w' = w := Any.slices_Sort_int_none Tryz.lays189 p cap w
end Go.Proofs
