/-
  The contract of the library's sort of strings, laid at this seat's program (printed by the kit's lay-plain).
-/
import Derived.Shelf.Sort.Plain
import Derived.Test.YtceflhffilldeaaGreatProg
import Derived.Test.YtceflhffilldeaaGreatZStore
namespace Go.Proofs
open Go.Shelf
def Tryz.lays190_ren : Go.Shelf.Ren := ⟨fun | 190 => 37 | 125 => 59 | 258 => 58 | 128 => 88 | 129 => 89 | 302 => 79 | 303 => 80 | 304 => 81 | 305 => 82 | 306 => 83 | 307 => 84 | 308 => 85 | 309 => 86 | 310 => 87 | 333 => 117 | 329 => 118 | 330 => 119 | 334 => 120 | 335 => 121 | 336 => 122 | 344 => 153 | n => n, fun | 31 => 57 | 9 => 9 | 3 => 3 | 46 => 135 | 0 => 0 | 51 => 37 | 53 => 165 | 4 => 4 | 183 => 169 | 182 => 168 | 131 => 107 | 5 => 5 | 218 => 206 | 222 => 210 | 228 => 231 | 229 => 232 | n => n, fun | n => n⟩
theorem Tryz.lays190 : Go.Proofs.Lays.n190 Tryz.prog Tryz.lays190_ren := {
  mixed := by kernel_rfl
  f125 := Tryz.func59.trans (congrArg some (by kernel_rfl))
  f128 := Tryz.func88.trans (congrArg some (by kernel_rfl))
  f129 := Tryz.func89.trans (congrArg some (by kernel_rfl))
  f190 := Tryz.func37.trans (congrArg some (by kernel_rfl))
  f258 := Tryz.func58.trans (congrArg some (by kernel_rfl))
  f302 := Tryz.func79.trans (congrArg some (by kernel_rfl))
  f303 := Tryz.func80.trans (congrArg some (by kernel_rfl))
  f304 := Tryz.func81.trans (congrArg some (by kernel_rfl))
  f305 := Tryz.func82.trans (congrArg some (by kernel_rfl))
  f306 := Tryz.func83.trans (congrArg some (by kernel_rfl))
  f307 := Tryz.func84.trans (congrArg some (by kernel_rfl))
  f308 := Tryz.func85.trans (congrArg some (by kernel_rfl))
  f309 := Tryz.func86.trans (congrArg some (by kernel_rfl))
  f310 := Tryz.func87.trans (congrArg some (by kernel_rfl))
  f329 := Tryz.func118.trans (congrArg some (by kernel_rfl))
  f330 := Tryz.func119.trans (congrArg some (by kernel_rfl))
  f333 := Tryz.func117.trans (congrArg some (by kernel_rfl))
  f334 := Tryz.func120.trans (congrArg some (by kernel_rfl))
  f335 := Tryz.func121.trans (congrArg some (by kernel_rfl))
  f336 := Tryz.func122.trans (congrArg some (by kernel_rfl))
  f344 := Tryz.func153.trans (congrArg some (by kernel_rfl))
  t0 := Tryz.underlying0
  a0 := Tryz.isAgg0
  z0 := Tryz.sizeOf0
  v0 := Tryz.zeroValue0
  t3 := Tryz.underlying3
  a3 := Tryz.isAgg3
  z3 := Tryz.sizeOf3
  v3 := Tryz.zeroValue3
  t4 := Tryz.underlying4
  a4 := Tryz.isAgg4
  z4 := Tryz.sizeOf4
  v4 := Tryz.zeroValue4
  t5 := Tryz.underlying5
  a5 := Tryz.isAgg5
  z5 := Tryz.sizeOf5
  v5 := Tryz.zeroValue5
  t9 := Tryz.underlying9
  a9 := Tryz.isAgg9
  z9 := Tryz.sizeOf9
  v9 := Tryz.zeroValue9
  t31 := Tryz.underlying57
  a31 := Tryz.isAgg57
  z31 := Tryz.sizeOf57
  v31 := Tryz.zeroValue57
  t46 := Tryz.underlying135
  a46 := Tryz.isAgg135
  z46 := Tryz.sizeOf135
  v46 := Tryz.zeroValue135
  t51 := Tryz.underlying37
  a51 := Tryz.isAgg37
  z51 := Tryz.sizeOf37
  v51 := Tryz.zeroValue37
  t53 := Tryz.underlying165
  a53 := Tryz.isAgg165
  z53 := Tryz.sizeOf165
  v53 := Tryz.zeroValue165
  t131 := Tryz.underlying107
  a131 := Tryz.isAgg107
  z131 := Tryz.sizeOf107
  v131 := Tryz.zeroValue107
  t182 := Tryz.underlying168
  a182 := Tryz.isAgg168
  z182 := Tryz.sizeOf168
  v182 := Tryz.zeroValue168
  t183 := Tryz.underlying169
  a183 := Tryz.isAgg169
  z183 := Tryz.sizeOf169
  v183 := Tryz.zeroValue169
  t218 := Tryz.underlying206
  a218 := Tryz.isAgg206
  z218 := Tryz.sizeOf206
  v218 := Tryz.zeroValue206
  t222 := Tryz.underlying210
  a222 := Tryz.isAgg210
  z222 := Tryz.sizeOf210
  v222 := Tryz.zeroValue210
  t228 := Tryz.underlying231
  a228 := Tryz.isAgg231
  z228 := Tryz.sizeOf231
  v228 := Tryz.zeroValue231
  t229 := Tryz.underlying232
  a229 := Tryz.isAgg232
  z229 := Tryz.sizeOf232
  v229 := Tryz.zeroValue232 }
open Go.Sort Go.RowKit in
theorem Tryz.slices_Sort_string (blk off cap : Nat) (ss : List (List UInt8)) (w : World) (hH : Holds encStr w blk off ss.toArray) (hblk : blk < w.heap.size) (hsz : ss.length < 4611686018427387904) :
    Calls Tryz.prog 37 #[.slice (some ⟨blk, off, none⟩) ss.length cap] w fun e w' =>
      e = .returned (.tuple #[]) ∧ ∃ n os, w' = grow (putRow encStr (Sort.ahead w n) blk off (ss.mergeSort fun x y => decide (x ≤ y)).toArray) os := Any.slices_Sort_string Tryz.lays190 blk off cap ss w hH hblk hsz
end Go.Proofs

namespace Go.Proofs.YtceflhffilldeaaGreat
open Go.RowKit Go.Sort
theorem sortsStr : SortsStr := fun blk off cap ss w h1 h2 h3 => Tryz.slices_Sort_string blk off cap ss w h1 h2 h3

end Go.Proofs.YtceflhffilldeaaGreat
