-- the sort's contracts at this seat: written by lay-shelf and lay-plain of the kit, numbers turned to names
import Derived.Shelf.Sort.Plain
import Derived.Ground.Names2Prog
import Derived.Shelf.Slices.In.SortNone
import Derived.Test.YtdiaejphgcoknaaDoorProg
set_option linter.unusedSimpArgs false
set_option linter.unusedVariables false
namespace Go.Proofs
open Go.Shelf
def Tryd.sortLays189_ren : Go.Shelf.Ren := ⟨fun | 189 => 48 | 125 => 51 | 257 => 56 | 128 => 66 | 129 => 67 | 294 => 71 | 295 => 72 | 296 => 73 | 297 => 74 | 298 => 75 | 299 => 76 | 216 => 77 | 300 => 78 | 301 => 79 | 328 => 86 | 329 => 81 | 330 => 82 | 331 => 87 | 332 => 88 | 215 => 89 | 343 => 91 | n => n, fun | 28 => 35 | 3 => 3 | 46 => 101 | 0 => 0 | 51 => 124 | 53 => 126 | 4 => 4 | 183 => 117 | 182 => 116 | 131 => 86 | 5 => 5 | 9 => 9 | 218 => 146 | 222 => 150 | 228 => 155 | 229 => 156 | n => n, fun | n => n⟩
theorem Tryd.sortLays189 : Go.Proofs.Lays.n189 Tryd.prog Tryd.sortLays189_ren := {
  mixed := by kernel_rfl
  f125 := Tryd.func51.trans (congrArg some (by kernel_rfl))
  f128 := Tryd.func66.trans (congrArg some (by kernel_rfl))
  f129 := Tryd.func67.trans (congrArg some (by kernel_rfl))
  f189 := Tryd.func48.trans (congrArg some (by kernel_rfl))
  f215 := Tryd.func89.trans (congrArg some (by kernel_rfl))
  f216 := Tryd.func77.trans (congrArg some (by kernel_rfl))
  f257 := Tryd.func56.trans (congrArg some (by kernel_rfl))
  f294 := Tryd.func71.trans (congrArg some (by kernel_rfl))
  f295 := Tryd.func72.trans (congrArg some (by kernel_rfl))
  f296 := Tryd.func73.trans (congrArg some (by kernel_rfl))
  f297 := Tryd.func74.trans (congrArg some (by kernel_rfl))
  f298 := Tryd.func75.trans (congrArg some (by kernel_rfl))
  f299 := Tryd.func76.trans (congrArg some (by kernel_rfl))
  f300 := Tryd.func78.trans (congrArg some (by kernel_rfl))
  f301 := Tryd.func79.trans (congrArg some (by kernel_rfl))
  f328 := Tryd.func86.trans (congrArg some (by kernel_rfl))
  f329 := Tryd.func81.trans (congrArg some (by kernel_rfl))
  f330 := Tryd.func82.trans (congrArg some (by kernel_rfl))
  f331 := Tryd.func87.trans (congrArg some (by kernel_rfl))
  f332 := Tryd.func88.trans (congrArg some (by kernel_rfl))
  f343 := Tryd.func91.trans (congrArg some (by kernel_rfl))
  t0 := Tryd.underlying0
  a0 := Tryd.isAgg0
  z0 := Tryd.sizeOf0
  v0 := Tryd.zeroValue0
  t3 := Tryd.underlying3
  a3 := Tryd.isAgg3
  z3 := Tryd.sizeOf3
  v3 := Tryd.zeroValue3
  t4 := Tryd.underlying4
  a4 := Tryd.isAgg4
  z4 := Tryd.sizeOf4
  v4 := Tryd.zeroValue4
  t5 := Tryd.underlying5
  a5 := Tryd.isAgg5
  z5 := Tryd.sizeOf5
  v5 := Tryd.zeroValue5
  t9 := Tryd.underlying9
  a9 := Tryd.isAgg9
  z9 := Tryd.sizeOf9
  v9 := Tryd.zeroValue9
  t28 := Tryd.underlying35
  a28 := Tryd.isAgg35
  z28 := Tryd.sizeOf35
  v28 := Tryd.zeroValue35
  t46 := Tryd.underlying101
  a46 := Tryd.isAgg101
  z46 := Tryd.sizeOf101
  v46 := Tryd.zeroValue101
  t51 := Tryd.underlying124
  a51 := Tryd.isAgg124
  z51 := Tryd.sizeOf124
  v51 := Tryd.zeroValue124
  t53 := Tryd.underlying126
  a53 := Tryd.isAgg126
  z53 := Tryd.sizeOf126
  v53 := Tryd.zeroValue126
  t131 := Tryd.underlying86
  a131 := Tryd.isAgg86
  z131 := Tryd.sizeOf86
  v131 := Tryd.zeroValue86
  t182 := Tryd.underlying116
  a182 := Tryd.isAgg116
  z182 := Tryd.sizeOf116
  v182 := Tryd.zeroValue116
  t183 := Tryd.underlying117
  a183 := Tryd.isAgg117
  z183 := Tryd.sizeOf117
  v183 := Tryd.zeroValue117
  t218 := Tryd.underlying146
  a218 := Tryd.isAgg146
  z218 := Tryd.sizeOf146
  v218 := Tryd.zeroValue146
  t222 := Tryd.underlying150
  a222 := Tryd.isAgg150
  z222 := Tryd.sizeOf150
  v222 := Tryd.zeroValue150
  t228 := Tryd.underlying155
  a228 := Tryd.isAgg155
  z228 := Tryd.sizeOf155
  v228 := Tryd.zeroValue155
  t229 := Tryd.underlying156
  a229 := Tryd.isAgg156
  z229 := Tryd.sizeOf156
  v229 := Tryd.zeroValue156 }
open Go.Sort Go.RowKit in
theorem Tryd.sort_int (blk off cap : Nat) (zs : List Int) (w : World) (hH : Holds (Value.int .i64) w blk off zs.toArray) (hblk : blk < w.heap.size) (hsz : zs.length < 4611686018427387904) :
    Calls Tryd.prog 48 #[.slice (some ⟨blk, off, none⟩) zs.length cap] w fun e w' =>
      e = .returned (.tuple #[]) ∧ ∃ n os, w' = grow (putRow (Value.int .i64) (Sort.ahead w n) blk off (zs.mergeSort fun x y => decide (x ≤ y)).toArray) os := Any.slices_Sort_int Tryd.sortLays189 blk off cap zs w hH hblk hsz
def Tryd.sortLays190_ren : Go.Shelf.Ren := ⟨fun | 190 => 43 | 125 => 51 | 258 => 50 | 128 => 66 | 129 => 67 | 302 => 57 | 303 => 58 | 304 => 59 | 305 => 60 | 306 => 61 | 307 => 62 | 308 => 63 | 309 => 64 | 310 => 65 | 333 => 80 | 329 => 81 | 330 => 82 | 334 => 83 | 335 => 84 | 336 => 85 | 344 => 90 | n => n, fun | 31 => 60 | 9 => 9 | 3 => 3 | 46 => 101 | 0 => 0 | 51 => 124 | 53 => 126 | 4 => 4 | 183 => 117 | 182 => 116 | 131 => 86 | 5 => 5 | 218 => 146 | 222 => 150 | 228 => 155 | 229 => 156 | n => n, fun | n => n⟩
theorem Tryd.sortLays190 : Go.Proofs.Lays.n190 Tryd.prog Tryd.sortLays190_ren := {
  mixed := by kernel_rfl
  f125 := Tryd.func51.trans (congrArg some (by kernel_rfl))
  f128 := Tryd.func66.trans (congrArg some (by kernel_rfl))
  f129 := Tryd.func67.trans (congrArg some (by kernel_rfl))
  f190 := Tryd.func43.trans (congrArg some (by kernel_rfl))
  f258 := Tryd.func50.trans (congrArg some (by kernel_rfl))
  f302 := Tryd.func57.trans (congrArg some (by kernel_rfl))
  f303 := Tryd.func58.trans (congrArg some (by kernel_rfl))
  f304 := Tryd.func59.trans (congrArg some (by kernel_rfl))
  f305 := Tryd.func60.trans (congrArg some (by kernel_rfl))
  f306 := Tryd.func61.trans (congrArg some (by kernel_rfl))
  f307 := Tryd.func62.trans (congrArg some (by kernel_rfl))
  f308 := Tryd.func63.trans (congrArg some (by kernel_rfl))
  f309 := Tryd.func64.trans (congrArg some (by kernel_rfl))
  f310 := Tryd.func65.trans (congrArg some (by kernel_rfl))
  f329 := Tryd.func81.trans (congrArg some (by kernel_rfl))
  f330 := Tryd.func82.trans (congrArg some (by kernel_rfl))
  f333 := Tryd.func80.trans (congrArg some (by kernel_rfl))
  f334 := Tryd.func83.trans (congrArg some (by kernel_rfl))
  f335 := Tryd.func84.trans (congrArg some (by kernel_rfl))
  f336 := Tryd.func85.trans (congrArg some (by kernel_rfl))
  f344 := Tryd.func90.trans (congrArg some (by kernel_rfl))
  t0 := Tryd.underlying0
  a0 := Tryd.isAgg0
  z0 := Tryd.sizeOf0
  v0 := Tryd.zeroValue0
  t3 := Tryd.underlying3
  a3 := Tryd.isAgg3
  z3 := Tryd.sizeOf3
  v3 := Tryd.zeroValue3
  t4 := Tryd.underlying4
  a4 := Tryd.isAgg4
  z4 := Tryd.sizeOf4
  v4 := Tryd.zeroValue4
  t5 := Tryd.underlying5
  a5 := Tryd.isAgg5
  z5 := Tryd.sizeOf5
  v5 := Tryd.zeroValue5
  t9 := Tryd.underlying9
  a9 := Tryd.isAgg9
  z9 := Tryd.sizeOf9
  v9 := Tryd.zeroValue9
  t31 := Tryd.underlying60
  a31 := Tryd.isAgg60
  z31 := Tryd.sizeOf60
  v31 := Tryd.zeroValue60
  t46 := Tryd.underlying101
  a46 := Tryd.isAgg101
  z46 := Tryd.sizeOf101
  v46 := Tryd.zeroValue101
  t51 := Tryd.underlying124
  a51 := Tryd.isAgg124
  z51 := Tryd.sizeOf124
  v51 := Tryd.zeroValue124
  t53 := Tryd.underlying126
  a53 := Tryd.isAgg126
  z53 := Tryd.sizeOf126
  v53 := Tryd.zeroValue126
  t131 := Tryd.underlying86
  a131 := Tryd.isAgg86
  z131 := Tryd.sizeOf86
  v131 := Tryd.zeroValue86
  t182 := Tryd.underlying116
  a182 := Tryd.isAgg116
  z182 := Tryd.sizeOf116
  v182 := Tryd.zeroValue116
  t183 := Tryd.underlying117
  a183 := Tryd.isAgg117
  z183 := Tryd.sizeOf117
  v183 := Tryd.zeroValue117
  t218 := Tryd.underlying146
  a218 := Tryd.isAgg146
  z218 := Tryd.sizeOf146
  v218 := Tryd.zeroValue146
  t222 := Tryd.underlying150
  a222 := Tryd.isAgg150
  z222 := Tryd.sizeOf150
  v222 := Tryd.zeroValue150
  t228 := Tryd.underlying155
  a228 := Tryd.isAgg155
  z228 := Tryd.sizeOf155
  v228 := Tryd.zeroValue155
  t229 := Tryd.underlying156
  a229 := Tryd.isAgg156
  z229 := Tryd.sizeOf156
  v229 := Tryd.zeroValue156 }
open Go.Sort Go.RowKit in
theorem Tryd.sort_string (blk off cap : Nat) (ss : List (List UInt8)) (w : World) (hH : Holds encStr w blk off ss.toArray) (hblk : blk < w.heap.size) (hsz : ss.length < 4611686018427387904) :
    Calls Tryd.prog 43 #[.slice (some ⟨blk, off, none⟩) ss.length cap] w fun e w' =>
      e = .returned (.tuple #[]) ∧ ∃ n os, w' = grow (putRow encStr (Sort.ahead w n) blk off (ss.mergeSort fun x y => decide (x ≤ y)).toArray) os := Any.slices_Sort_string Tryd.sortLays190 blk off cap ss w hH hblk hsz
open Go.RowKit Go.Sort in
/-- .. and plain. (LAID: no walk: one application.) -/
theorem Tryd.sort_string_none (p : Option Addr) (cap : Nat) (w : World) :
    Calls Tryd.prog 43 #[.slice p 0 cap] w fun e w' => e = .returned (.tuple #[]) ∧ w' = w := Any.slices_Sort_string_none Tryd.sortLays190 p cap w
open Go.RowKit Go.Sort in
/-- .. and plain. (LAID: no walk: one application.) -/
theorem Tryd.sort_int_none (p : Option Addr) (cap : Nat) (w : World) :
    Calls Tryd.prog 48 #[.slice p 0 cap] w fun e w' => e = .returned (.tuple #[]) ∧ w' = w := Any.slices_Sort_int_none Tryd.sortLays189 p cap w
end Go.Proofs
