/-
  The contract of the library's sort of strings, laid at this seat's program (printed by the kit's lay-plain).
-/
import Derived.Shelf.Sort.Plain
import Derived.Test.YtceflhffilldeaaProg
import Derived.Test.YtceflhffilldeaaStoreNames2
namespace Go.Proofs
open Go.Shelf
def Try.lays190_ren : Go.Shelf.Ren := ⟨fun | 190 => 37 | 125 => 86 | 258 => 85 | 128 => 130 | 129 => 131 | 302 => 121 | 303 => 122 | 304 => 123 | 305 => 124 | 306 => 125 | 307 => 126 | 308 => 127 | 309 => 128 | 310 => 129 | 333 => 147 | 329 => 148 | 330 => 149 | 334 => 150 | 335 => 151 | 336 => 152 | 344 => 159 | n => n, fun | 31 => 26 | 9 => 9 | 3 => 3 | 46 => 62 | 0 => 0 | 51 => 43 | 53 => 162 | 4 => 4 | 183 => 154 | 182 => 153 | 131 => 71 | 5 => 5 | 218 => 176 | 222 => 180 | 228 => 184 | 229 => 185 | n => n, fun | n => n⟩
theorem Try.lays190 : Go.Proofs.Lays.n190 Try.prog Try.lays190_ren := {
  mixed := by kernel_rfl
  f125 := Try.func86.trans (congrArg some (by kernel_rfl))
  f128 := Try.func130.trans (congrArg some (by kernel_rfl))
  f129 := Try.func131.trans (congrArg some (by kernel_rfl))
  f190 := Try.func37.trans (congrArg some (by kernel_rfl))
  f258 := Try.func85.trans (congrArg some (by kernel_rfl))
  f302 := Try.func121.trans (congrArg some (by kernel_rfl))
  f303 := Try.func122.trans (congrArg some (by kernel_rfl))
  f304 := Try.func123.trans (congrArg some (by kernel_rfl))
  f305 := Try.func124.trans (congrArg some (by kernel_rfl))
  f306 := Try.func125.trans (congrArg some (by kernel_rfl))
  f307 := Try.func126.trans (congrArg some (by kernel_rfl))
  f308 := Try.func127.trans (congrArg some (by kernel_rfl))
  f309 := Try.func128.trans (congrArg some (by kernel_rfl))
  f310 := Try.func129.trans (congrArg some (by kernel_rfl))
  f329 := Try.func148.trans (congrArg some (by kernel_rfl))
  f330 := Try.func149.trans (congrArg some (by kernel_rfl))
  f333 := Try.func147.trans (congrArg some (by kernel_rfl))
  f334 := Try.func150.trans (congrArg some (by kernel_rfl))
  f335 := Try.func151.trans (congrArg some (by kernel_rfl))
  f336 := Try.func152.trans (congrArg some (by kernel_rfl))
  f344 := Try.func159.trans (congrArg some (by kernel_rfl))
  t0 := Try.underlying0
  a0 := Try.isAgg0
  z0 := Try.sizeOf0
  v0 := Try.zeroValue0
  t3 := Try.underlying3
  a3 := Try.isAgg3
  z3 := Try.sizeOf3
  v3 := Try.zeroValue3
  t4 := Try.underlying4
  a4 := Try.isAgg4
  z4 := Try.sizeOf4
  v4 := Try.zeroValue4
  t5 := Try.underlying5
  a5 := Try.isAgg5
  z5 := Try.sizeOf5
  v5 := Try.zeroValue5
  t9 := Try.underlying9
  a9 := Try.isAgg9
  z9 := Try.sizeOf9
  v9 := Try.zeroValue9
  t31 := Try.underlying26
  a31 := Try.isAgg26
  z31 := Try.sizeOf26
  v31 := Try.zeroValue26
  t46 := Try.underlying62
  a46 := Try.isAgg62
  z46 := Try.sizeOf62
  v46 := Try.zeroValue62
  t51 := Try.underlying43
  a51 := Try.isAgg43
  z51 := Try.sizeOf43
  v51 := Try.zeroValue43
  t53 := Try.underlying162
  a53 := Try.isAgg162
  z53 := Try.sizeOf162
  v53 := Try.zeroValue162
  t131 := Try.underlying71
  a131 := Try.isAgg71
  z131 := Try.sizeOf71
  v131 := Try.zeroValue71
  t182 := Try.underlying153
  a182 := Try.isAgg153
  z182 := Try.sizeOf153
  v182 := Try.zeroValue153
  t183 := Try.underlying154
  a183 := Try.isAgg154
  z183 := Try.sizeOf154
  v183 := Try.zeroValue154
  t218 := Try.underlying176
  a218 := Try.isAgg176
  z218 := Try.sizeOf176
  v218 := Try.zeroValue176
  t222 := Try.underlying180
  a222 := Try.isAgg180
  z222 := Try.sizeOf180
  v222 := Try.zeroValue180
  t228 := Try.underlying184
  a228 := Try.isAgg184
  z228 := Try.sizeOf184
  v228 := Try.zeroValue184
  t229 := Try.underlying185
  a229 := Try.isAgg185
  z229 := Try.sizeOf185
  v229 := Try.zeroValue185 }
open Go.Sort Go.RowKit in
theorem Try.slices_Sort_string (blk off cap : Nat) (ss : List (List UInt8)) (w : World) (hH : Holds encStr w blk off ss.toArray) (hblk : blk < w.heap.size) (hsz : ss.length < 4611686018427387904) :
    Calls Try.prog 37 #[.slice (some ⟨blk, off, none⟩) ss.length cap] w fun e w' =>
      e = .returned (.tuple #[]) ∧ ∃ n os, w' = grow (putRow encStr (Sort.ahead w n) blk off (ss.mergeSort fun x y => decide (x ≤ y)).toArray) os := Any.slices_Sort_string Try.lays190 blk off cap ss w hH hblk hsz
end Go.Proofs

namespace Go.Proofs.Ytceflhffilldeaa
open Go.RowKit Go.Sort
theorem sortsStr : SortsStr := fun blk off cap ss w h1 h2 h3 => Try.slices_Sort_string blk off cap ss w h1 h2 h3

end Go.Proofs.Ytceflhffilldeaa
