/- The library's contracts, laid at this dump. -/
import Derived.Shelf.Small.Wraps
import Derived.Shelf.Sort.Plain
import Derived.Shelf.Slices.In.SortNone
import Derived.Ground.SlgcProg
import Derived.Shelf.SlicesG.Cmp
import Derived.Ground.SlsfProg
import Derived.Shelf.SlSortCmp.NoneTotal
import Derived.Test.YtjgjlijanemgeaaGreatDoorProg
namespace Go.Proofs
open Go.Shelf
def Tryz.lays122_ren : Go.Shelf.Ren := ⟨fun | 122 => 40 | 215 => 68 | n => n, fun | 3 => 3 | 4 => 4 | n => n, fun | n => n⟩
theorem Tryz.lays122 : Go.Proofs.Lays.n122 Tryz.prog Tryz.lays122_ren := {
  mixed := by kernel_rfl
  f122 := Tryz.func40.trans (congrArg some (by kernel_rfl))
  f215 := Tryz.func68.trans (congrArg some (by kernel_rfl))
  t3 := Tryz.underlying3
  a3 := Tryz.isAgg3
  z3 := Tryz.sizeOf3
  v3 := Tryz.zeroValue3
  t4 := Tryz.underlying4
  a4 := Tryz.isAgg4
  z4 := Tryz.sizeOf4
  v4 := Tryz.zeroValue4 }
open Go.RowKit in

theorem Tryz.cmp_Compare_int (x y : Int) (w : World) :
    Calls Tryz.prog 40 #[.int .i64 x, .int .i64 y] w fun e w' => e = .returned (.int .i64 (Lib.compareInt x y)) ∧ w' = w := Any.cmp_Compare_int Tryz.lays122 x y w
def Tryz.lays189_ren : Go.Shelf.Ren := ⟨fun | 189 => 226 | 125 => 156 | 257 => 254 | 128 => 206 | 129 => 207 | 294 => 267 | 295 => 268 | 296 => 269 | 297 => 270 | 298 => 271 | 299 => 272 | 216 => 273 | 300 => 274 | 301 => 275 | 328 => 282 | 329 => 236 | 330 => 237 | 331 => 283 | 332 => 284 | 215 => 68 | 343 => 287 | n => n, fun | 28 => 62 | 3 => 3 | 46 => 265 | 0 => 0 | 51 => 313 | 53 => 315 | 4 => 4 | 183 => 307 | 182 => 306 | 131 => 146 | 5 => 5 | 9 => 9 | 218 => 345 | 222 => 349 | 228 => 371 | 229 => 229 | n => n, fun | n => n⟩
theorem Tryz.lays189 : Go.Proofs.Lays.n189 Tryz.prog Tryz.lays189_ren := {
  mixed := by kernel_rfl
  f125 := Tryz.func156.trans (congrArg some (by kernel_rfl))
  f128 := Tryz.func206.trans (congrArg some (by kernel_rfl))
  f129 := Tryz.func207.trans (congrArg some (by kernel_rfl))
  f189 := Tryz.func226.trans (congrArg some (by kernel_rfl))
  f215 := Tryz.func68.trans (congrArg some (by kernel_rfl))
  f216 := Tryz.func273.trans (congrArg some (by kernel_rfl))
  f257 := Tryz.func254.trans (congrArg some (by kernel_rfl))
  f294 := Tryz.func267.trans (congrArg some (by kernel_rfl))
  f295 := Tryz.func268.trans (congrArg some (by kernel_rfl))
  f296 := Tryz.func269.trans (congrArg some (by kernel_rfl))
  f297 := Tryz.func270.trans (congrArg some (by kernel_rfl))
  f298 := Tryz.func271.trans (congrArg some (by kernel_rfl))
  f299 := Tryz.func272.trans (congrArg some (by kernel_rfl))
  f300 := Tryz.func274.trans (congrArg some (by kernel_rfl))
  f301 := Tryz.func275.trans (congrArg some (by kernel_rfl))
  f328 := Tryz.func282.trans (congrArg some (by kernel_rfl))
  f329 := Tryz.func236.trans (congrArg some (by kernel_rfl))
  f330 := Tryz.func237.trans (congrArg some (by kernel_rfl))
  f331 := Tryz.func283.trans (congrArg some (by kernel_rfl))
  f332 := Tryz.func284.trans (congrArg some (by kernel_rfl))
  f343 := Tryz.func287.trans (congrArg some (by kernel_rfl))
  t0 := Tryz.underlying0
  a0 := Tryz.isAgg0
  z0 := Tryz.sizeOf0
  v0 := Tryz.zeroValue0
  t3 := Tryz.underlying3
  a3 := Tryz.isAgg3
  z3 := Tryz.sizeOf3
  v3 := Tryz.zeroValue3
  t4 := Tryz.underlying4
  a4 := Tryz.isAgg4
  z4 := Tryz.sizeOf4
  v4 := Tryz.zeroValue4
  t5 := Tryz.underlying5
  a5 := Tryz.isAgg5
  z5 := Tryz.sizeOf5
  v5 := Tryz.zeroValue5
  t9 := Tryz.underlying9
  a9 := Tryz.isAgg9
  z9 := Tryz.sizeOf9
  v9 := Tryz.zeroValue9
  t28 := Tryz.underlying62
  a28 := Tryz.isAgg62
  z28 := Tryz.sizeOf62
  v28 := Tryz.zeroValue62
  t46 := Tryz.underlying265
  a46 := Tryz.isAgg265
  z46 := Tryz.sizeOf265
  v46 := Tryz.zeroValue265
  t51 := Tryz.underlying313
  a51 := Tryz.isAgg313
  z51 := Tryz.sizeOf313
  v51 := Tryz.zeroValue313
  t53 := Tryz.underlying315
  a53 := Tryz.isAgg315
  z53 := Tryz.sizeOf315
  v53 := Tryz.zeroValue315
  t131 := Tryz.underlying146
  a131 := Tryz.isAgg146
  z131 := Tryz.sizeOf146
  v131 := Tryz.zeroValue146
  t182 := Tryz.underlying306
  a182 := Tryz.isAgg306
  z182 := Tryz.sizeOf306
  v182 := Tryz.zeroValue306
  t183 := Tryz.underlying307
  a183 := Tryz.isAgg307
  z183 := Tryz.sizeOf307
  v183 := Tryz.zeroValue307
  t218 := Tryz.underlying345
  a218 := Tryz.isAgg345
  z218 := Tryz.sizeOf345
  v218 := Tryz.zeroValue345
  t222 := Tryz.underlying349
  a222 := Tryz.isAgg349
  z222 := Tryz.sizeOf349
  v222 := Tryz.zeroValue349
  t228 := Tryz.underlying371
  a228 := Tryz.isAgg371
  z228 := Tryz.sizeOf371
  v228 := Tryz.zeroValue371
  t229 := Tryz.underlying229
  a229 := Tryz.isAgg229
  z229 := Tryz.sizeOf229
  v229 := Tryz.zeroValue229 }
open Go.Sort Go.RowKit in
theorem Tryz.slices_Sort_int (blk off cap : Nat) (zs : List Int) (w : World) (hH : Holds (Value.int .i64) w blk off zs.toArray) (hblk : blk < w.heap.size) (hsz : zs.length < 4611686018427387904) :
    Calls Tryz.prog 226 #[.slice (some ⟨blk, off, none⟩) zs.length cap] w fun e w' =>
      e = .returned (.tuple #[]) ∧ ∃ n os, w' = grow (putRow (Value.int .i64) (Sort.ahead w n) blk off (zs.mergeSort fun x y => decide (x ≤ y)).toArray) os := Any.slices_Sort_int Tryz.lays189 blk off cap zs w hH hblk hsz
open Go.RowKit Go.Sort in

theorem Tryz.slices_Sort_int_none (p : Option Addr) (cap : Nat) (w : World) :
    Calls Tryz.prog 226 #[.slice p 0 cap] w fun e w' => e = .returned (.tuple #[]) ∧ w' = w := Any.slices_Sort_int_none Tryz.lays189 p cap w
def Tryz.laysSlF6_f276_ren : Go.Shelf.Ren := ⟨fun | 6 => 276 | 15 => 156 | 14 => 285 | 28 => 206 | 29 => 207 | 20 => 288 | 21 => 289 | 22 => 290 | 23 => 291 | 24 => 292 | 25 => 293 | 26 => 294 | 27 => 295 | 46 => 296 | 47 => 236 | 48 => 237 | 49 => 297 | 50 => 298 | 57 => 299 | n => n, fun | 22 => 62 | 24 => 3 | 25 => 104 | 3 => 3 | 39 => 265 | 0 => 0 | 53 => 313 | 55 => 315 | 4 => 4 | 46 => 307 | 45 => 306 | 50 => 146 | 5 => 5 | 9 => 9 | 66 => 345 | 70 => 349 | 76 => 371 | 77 => 229 | n => n, fun | n => n⟩
theorem Tryz.laysSlF6_f276 : Go.Proofs.SlLaysF.n6 Tryz.prog Tryz.laysSlF6_f276_ren := {
  mixed := by kernel_rfl
  f6 := ⟨Tryz.f276.name, by decide, Tryz.func276.trans (congrArg some (by kernel_rfl))⟩
  f14 := ⟨Tryz.f285.name, by decide, Tryz.func285.trans (congrArg some (by kernel_rfl))⟩
  f15 := Tryz.func156.trans (congrArg some (by kernel_rfl))
  f20 := ⟨Tryz.f288.name, by decide, Tryz.func288.trans (congrArg some (by kernel_rfl))⟩
  f21 := ⟨Tryz.f289.name, by decide, Tryz.func289.trans (congrArg some (by kernel_rfl))⟩
  f22 := ⟨Tryz.f290.name, by decide, Tryz.func290.trans (congrArg some (by kernel_rfl))⟩
  f23 := ⟨Tryz.f291.name, by decide, Tryz.func291.trans (congrArg some (by kernel_rfl))⟩
  f24 := ⟨Tryz.f292.name, by decide, Tryz.func292.trans (congrArg some (by kernel_rfl))⟩
  f25 := ⟨Tryz.f293.name, by decide, Tryz.func293.trans (congrArg some (by kernel_rfl))⟩
  f26 := ⟨Tryz.f294.name, by decide, Tryz.func294.trans (congrArg some (by kernel_rfl))⟩
  f27 := ⟨Tryz.f295.name, by decide, Tryz.func295.trans (congrArg some (by kernel_rfl))⟩
  f28 := Tryz.func206.trans (congrArg some (by kernel_rfl))
  f29 := Tryz.func207.trans (congrArg some (by kernel_rfl))
  f46 := ⟨Tryz.f296.name, by decide, Tryz.func296.trans (congrArg some (by kernel_rfl))⟩
  f47 := Tryz.func236.trans (congrArg some (by kernel_rfl))
  f48 := Tryz.func237.trans (congrArg some (by kernel_rfl))
  f49 := ⟨Tryz.f297.name, by decide, Tryz.func297.trans (congrArg some (by kernel_rfl))⟩
  f50 := ⟨Tryz.f298.name, by decide, Tryz.func298.trans (congrArg some (by kernel_rfl))⟩
  f57 := ⟨Tryz.f299.name, by decide, Tryz.func299.trans (congrArg some (by kernel_rfl))⟩
  t0 := Tryz.underlying0
  a0 := Tryz.isAgg0
  z0 := Tryz.sizeOf0
  v0 := Tryz.zeroValue0
  t3 := Tryz.underlying3
  a3 := Tryz.isAgg3
  z3 := Tryz.sizeOf3
  v3 := Tryz.zeroValue3
  t4 := Tryz.underlying4
  a4 := Tryz.isAgg4
  z4 := Tryz.sizeOf4
  v4 := Tryz.zeroValue4
  t5 := Tryz.underlying5
  a5 := Tryz.isAgg5
  z5 := Tryz.sizeOf5
  v5 := Tryz.zeroValue5
  t9 := Tryz.underlying9
  a9 := Tryz.isAgg9
  z9 := Tryz.sizeOf9
  v9 := Tryz.zeroValue9
  t22 := Tryz.underlying62
  a22 := Tryz.isAgg62
  z22 := Tryz.sizeOf62
  v22 := Tryz.zeroValue62
  a24 := Tryz.isAgg3
  z24 := Tryz.sizeOf3
  t25 := Tryz.underlying104
  a25 := Tryz.isAgg104
  z25 := Tryz.sizeOf104
  v25 := Tryz.zeroValue104
  t39 := Tryz.underlying265
  a39 := Tryz.isAgg265
  z39 := Tryz.sizeOf265
  v39 := Tryz.zeroValue265
  t45 := Tryz.underlying306
  a45 := Tryz.isAgg306
  z45 := Tryz.sizeOf306
  v45 := Tryz.zeroValue306
  t46 := Tryz.underlying307
  a46 := Tryz.isAgg307
  z46 := Tryz.sizeOf307
  v46 := Tryz.zeroValue307
  t50 := Tryz.underlying146
  a50 := Tryz.isAgg146
  z50 := Tryz.sizeOf146
  v50 := Tryz.zeroValue146
  t53 := Tryz.underlying313
  a53 := Tryz.isAgg313
  z53 := Tryz.sizeOf313
  v53 := Tryz.zeroValue313
  t55 := Tryz.underlying315
  a55 := Tryz.isAgg315
  z55 := Tryz.sizeOf315
  v55 := Tryz.zeroValue315
  t66 := Tryz.underlying345
  a66 := Tryz.isAgg345
  z66 := Tryz.sizeOf345
  v66 := Tryz.zeroValue345
  t70 := Tryz.underlying349
  a70 := Tryz.isAgg349
  z70 := Tryz.sizeOf349
  v70 := Tryz.zeroValue349
  t76 := Tryz.underlying371
  a76 := Tryz.isAgg371
  z76 := Tryz.sizeOf371
  v76 := Tryz.zeroValue371
  t77 := Tryz.underlying229
  a77 := Tryz.isAgg229
  z77 := Tryz.sizeOf229
  v77 := Tryz.zeroValue229 }
def Tryz.laysSlF06_f276_ren : Go.Shelf.Ren := ⟨fun | 6 => 276 | 15 => 156 | 14 => 285 | 28 => 206 | 29 => 207 | 20 => 288 | 21 => 289 | 22 => 290 | 23 => 291 | 24 => 292 | 25 => 293 | 26 => 294 | 27 => 295 | 46 => 296 | 47 => 236 | 48 => 237 | 49 => 297 | 50 => 298 | 57 => 299 | n => n, fun | 22 => 62 | 24 => 3 | 25 => 104 | 3 => 3 | 39 => 265 | 0 => 0 | 53 => 313 | 55 => 315 | 4 => 4 | 46 => 307 | 45 => 306 | 50 => 146 | 5 => 5 | 9 => 9 | 66 => 345 | 70 => 349 | 76 => 371 | 77 => 229 | n => n, fun | n => n⟩
theorem Tryz.laysSlF06_f276 : Go.Proofs.SlLaysF0.n6 Tryz.prog Tryz.laysSlF06_f276_ren := {
  mixed := by kernel_rfl
  f6 := ⟨Tryz.f276.name, by decide, Tryz.func276.trans (congrArg some (by kernel_rfl))⟩
  f14 := ⟨Tryz.f285.name, by decide, Tryz.func285.trans (congrArg some (by kernel_rfl))⟩
  f15 := Tryz.func156.trans (congrArg some (by kernel_rfl))
  f20 := ⟨Tryz.f288.name, by decide, Tryz.func288.trans (congrArg some (by kernel_rfl))⟩
  f21 := ⟨Tryz.f289.name, by decide, Tryz.func289.trans (congrArg some (by kernel_rfl))⟩
  f22 := ⟨Tryz.f290.name, by decide, Tryz.func290.trans (congrArg some (by kernel_rfl))⟩
  f23 := ⟨Tryz.f291.name, by decide, Tryz.func291.trans (congrArg some (by kernel_rfl))⟩
  f24 := ⟨Tryz.f292.name, by decide, Tryz.func292.trans (congrArg some (by kernel_rfl))⟩
  f25 := ⟨Tryz.f293.name, by decide, Tryz.func293.trans (congrArg some (by kernel_rfl))⟩
  f26 := ⟨Tryz.f294.name, by decide, Tryz.func294.trans (congrArg some (by kernel_rfl))⟩
  f27 := ⟨Tryz.f295.name, by decide, Tryz.func295.trans (congrArg some (by kernel_rfl))⟩
  f28 := Tryz.func206.trans (congrArg some (by kernel_rfl))
  f29 := Tryz.func207.trans (congrArg some (by kernel_rfl))
  f46 := ⟨Tryz.f296.name, by decide, Tryz.func296.trans (congrArg some (by kernel_rfl))⟩
  f47 := Tryz.func236.trans (congrArg some (by kernel_rfl))
  f48 := Tryz.func237.trans (congrArg some (by kernel_rfl))
  f49 := ⟨Tryz.f297.name, by decide, Tryz.func297.trans (congrArg some (by kernel_rfl))⟩
  f50 := ⟨Tryz.f298.name, by decide, Tryz.func298.trans (congrArg some (by kernel_rfl))⟩
  f57 := ⟨Tryz.f299.name, by decide, Tryz.func299.trans (congrArg some (by kernel_rfl))⟩
  t0 := Tryz.underlying0
  a0 := Tryz.isAgg0
  z0 := Tryz.sizeOf0
  v0 := Tryz.zeroValue0
  t3 := Tryz.underlying3
  a3 := Tryz.isAgg3
  z3 := Tryz.sizeOf3
  v3 := Tryz.zeroValue3
  t4 := Tryz.underlying4
  a4 := Tryz.isAgg4
  z4 := Tryz.sizeOf4
  v4 := Tryz.zeroValue4
  t5 := Tryz.underlying5
  a5 := Tryz.isAgg5
  z5 := Tryz.sizeOf5
  v5 := Tryz.zeroValue5
  t9 := Tryz.underlying9
  a9 := Tryz.isAgg9
  z9 := Tryz.sizeOf9
  v9 := Tryz.zeroValue9
  t22 := Tryz.underlying62
  a22 := Tryz.isAgg62
  z22 := Tryz.sizeOf62
  v22 := Tryz.zeroValue62
  t25 := Tryz.underlying104
  a25 := Tryz.isAgg104
  z25 := Tryz.sizeOf104
  v25 := Tryz.zeroValue104
  t39 := Tryz.underlying265
  a39 := Tryz.isAgg265
  z39 := Tryz.sizeOf265
  v39 := Tryz.zeroValue265
  t45 := Tryz.underlying306
  a45 := Tryz.isAgg306
  z45 := Tryz.sizeOf306
  v45 := Tryz.zeroValue306
  t46 := Tryz.underlying307
  a46 := Tryz.isAgg307
  z46 := Tryz.sizeOf307
  v46 := Tryz.zeroValue307
  t50 := Tryz.underlying146
  a50 := Tryz.isAgg146
  z50 := Tryz.sizeOf146
  v50 := Tryz.zeroValue146
  t53 := Tryz.underlying313
  a53 := Tryz.isAgg313
  z53 := Tryz.sizeOf313
  v53 := Tryz.zeroValue313
  t55 := Tryz.underlying315
  a55 := Tryz.isAgg315
  z55 := Tryz.sizeOf315
  v55 := Tryz.zeroValue315
  t66 := Tryz.underlying345
  a66 := Tryz.isAgg345
  z66 := Tryz.sizeOf345
  v66 := Tryz.zeroValue345
  t70 := Tryz.underlying349
  a70 := Tryz.isAgg349
  z70 := Tryz.sizeOf349
  v70 := Tryz.zeroValue349
  t76 := Tryz.underlying371
  a76 := Tryz.isAgg371
  z76 := Tryz.sizeOf371
  v76 := Tryz.zeroValue371
  t77 := Tryz.underlying229
  a77 := Tryz.isAgg229
  z77 := Tryz.sizeOf229
  v77 := Tryz.zeroValue229 }
open Go.RowKit Go.Lib Go.Sort in

theorem Tryz.slices_SortFunc_none {α : Type} [Inhabited α] (p : Option Addr) (cap : Nat) (fv : Value) (w : World) :
    Calls Tryz.prog 276 #[.slice p 0 cap, fv] w fun e w' => e = .returned (.tuple #[]) ∧ w' = w := AnyF.slices_SortFunc_none Tryz.laysSlF06_f276 p cap fv w
open Go.RowKit Go.Lib Go.Sort in

theorem Tryz.slices_SortFunc_total {α : Type} [Inhabited α] (enc : α → Value) (h1 : OneCell enc) (cf : α → α → Int) (hO : SWO (ltOf cf)) (g : Nat) (cb : Array Value) (blk off cap : Nat) (d : Array α) (w : World) (eg : ∀ args w, (callFunc g args).run Tryz.prog w = .ok (.enter g args) w) (hcmp : CmpLays1 Tryz.prog g cb enc cf blk off d.size w) (hH : Holds enc w blk off d) (hblk : blk < w.heap.size) (hsz : d.size < 4611686018427387904) (hT : ∀ x y, (ltOf cf) x y = false → (ltOf cf) y x = false → x = y) :
    Calls Tryz.prog 276 #[.slice (some ⟨blk, off, none⟩) d.size cap, .func (.func g) #[] cb] w fun e w' =>
      e = .returned (.tuple #[]) ∧ ∃ n os, w' = sortWorld enc w blk off n (d.toList.mergeSort fun x y => !(ltOf cf) y x).toArray os := Any.slices_SortFunc_total Tryz.laysSlF6_f276 enc h1 cf hO g cb blk off cap d w eg hcmp hH hblk hsz hT
def Tryz.laysSlF06_f110_ren : Go.Shelf.Ren := ⟨fun | 6 => 110 | 15 => 156 | 14 => 155 | 28 => 206 | 29 => 207 | 20 => 198 | 21 => 199 | 22 => 200 | 23 => 201 | 24 => 202 | 25 => 203 | 26 => 204 | 27 => 205 | 46 => 235 | 47 => 236 | 48 => 237 | 49 => 238 | 50 => 239 | 57 => 257 | n => n, fun | 22 => 50 | 24 => 53 | 25 => 220 | 3 => 3 | 39 => 265 | 0 => 0 | 53 => 313 | 55 => 315 | 4 => 4 | 46 => 307 | 45 => 306 | 50 => 146 | 5 => 5 | 9 => 9 | 66 => 345 | 70 => 349 | 76 => 371 | 77 => 229 | n => n, fun | n => n⟩
theorem Tryz.laysSlF06_f110 : Go.Proofs.SlLaysF0.n6 Tryz.prog Tryz.laysSlF06_f110_ren := {
  mixed := by kernel_rfl
  f6 := ⟨Tryz.f110.name, by decide, Tryz.func110.trans (congrArg some (by kernel_rfl))⟩
  f14 := ⟨Tryz.f155.name, by decide, Tryz.func155.trans (congrArg some (by kernel_rfl))⟩
  f15 := Tryz.func156.trans (congrArg some (by kernel_rfl))
  f20 := ⟨Tryz.f198.name, by decide, Tryz.func198.trans (congrArg some (by kernel_rfl))⟩
  f21 := ⟨Tryz.f199.name, by decide, Tryz.func199.trans (congrArg some (by kernel_rfl))⟩
  f22 := ⟨Tryz.f200.name, by decide, Tryz.func200.trans (congrArg some (by kernel_rfl))⟩
  f23 := ⟨Tryz.f201.name, by decide, Tryz.func201.trans (congrArg some (by kernel_rfl))⟩
  f24 := ⟨Tryz.f202.name, by decide, Tryz.func202.trans (congrArg some (by kernel_rfl))⟩
  f25 := ⟨Tryz.f203.name, by decide, Tryz.func203.trans (congrArg some (by kernel_rfl))⟩
  f26 := ⟨Tryz.f204.name, by decide, Tryz.func204.trans (congrArg some (by kernel_rfl))⟩
  f27 := ⟨Tryz.f205.name, by decide, Tryz.func205.trans (congrArg some (by kernel_rfl))⟩
  f28 := Tryz.func206.trans (congrArg some (by kernel_rfl))
  f29 := Tryz.func207.trans (congrArg some (by kernel_rfl))
  f46 := ⟨Tryz.f235.name, by decide, Tryz.func235.trans (congrArg some (by kernel_rfl))⟩
  f47 := Tryz.func236.trans (congrArg some (by kernel_rfl))
  f48 := Tryz.func237.trans (congrArg some (by kernel_rfl))
  f49 := ⟨Tryz.f238.name, by decide, Tryz.func238.trans (congrArg some (by kernel_rfl))⟩
  f50 := ⟨Tryz.f239.name, by decide, Tryz.func239.trans (congrArg some (by kernel_rfl))⟩
  f57 := ⟨Tryz.f257.name, by decide, Tryz.func257.trans (congrArg some (by kernel_rfl))⟩
  t0 := Tryz.underlying0
  a0 := Tryz.isAgg0
  z0 := Tryz.sizeOf0
  v0 := Tryz.zeroValue0
  t3 := Tryz.underlying3
  a3 := Tryz.isAgg3
  z3 := Tryz.sizeOf3
  v3 := Tryz.zeroValue3
  t4 := Tryz.underlying4
  a4 := Tryz.isAgg4
  z4 := Tryz.sizeOf4
  v4 := Tryz.zeroValue4
  t5 := Tryz.underlying5
  a5 := Tryz.isAgg5
  z5 := Tryz.sizeOf5
  v5 := Tryz.zeroValue5
  t9 := Tryz.underlying9
  a9 := Tryz.isAgg9
  z9 := Tryz.sizeOf9
  v9 := Tryz.zeroValue9
  t22 := Tryz.underlying50
  a22 := Tryz.isAgg50
  z22 := Tryz.sizeOf50
  v22 := Tryz.zeroValue50
  t25 := Tryz.underlying220
  a25 := Tryz.isAgg220
  z25 := Tryz.sizeOf220
  v25 := Tryz.zeroValue220
  t39 := Tryz.underlying265
  a39 := Tryz.isAgg265
  z39 := Tryz.sizeOf265
  v39 := Tryz.zeroValue265
  t45 := Tryz.underlying306
  a45 := Tryz.isAgg306
  z45 := Tryz.sizeOf306
  v45 := Tryz.zeroValue306
  t46 := Tryz.underlying307
  a46 := Tryz.isAgg307
  z46 := Tryz.sizeOf307
  v46 := Tryz.zeroValue307
  t50 := Tryz.underlying146
  a50 := Tryz.isAgg146
  z50 := Tryz.sizeOf146
  v50 := Tryz.zeroValue146
  t53 := Tryz.underlying313
  a53 := Tryz.isAgg313
  z53 := Tryz.sizeOf313
  v53 := Tryz.zeroValue313
  t55 := Tryz.underlying315
  a55 := Tryz.isAgg315
  z55 := Tryz.sizeOf315
  v55 := Tryz.zeroValue315
  t66 := Tryz.underlying345
  a66 := Tryz.isAgg345
  z66 := Tryz.sizeOf345
  v66 := Tryz.zeroValue345
  t70 := Tryz.underlying349
  a70 := Tryz.isAgg349
  z70 := Tryz.sizeOf349
  v70 := Tryz.zeroValue349
  t76 := Tryz.underlying371
  a76 := Tryz.isAgg371
  z76 := Tryz.sizeOf371
  v76 := Tryz.zeroValue371
  t77 := Tryz.underlying229
  a77 := Tryz.isAgg229
  z77 := Tryz.sizeOf229
  v77 := Tryz.zeroValue229 }
open Go.RowKit Go.Lib Go.Sort in
theorem Tryz.slices_SortFunc_noneE {α : Type} [Inhabited α] (p : Option Addr) (cap : Nat) (fv : Value) (w : World) :
    Calls Tryz.prog 110 #[.slice p 0 cap, fv] w fun e w' => e = .returned (.tuple #[]) ∧ w' = w := AnyF.slices_SortFunc_none Tryz.laysSlF06_f110 p cap fv w
open Go.RowKit Go.Lib Go.Sort in
theorem Tryz.slices_SortFunc_totalE {α : Type} [Inhabited α] (enc : α → List Value) (hk : ∀ x, (enc x).length = 2) (h1 : ∀ x, ∀ v ∈ enc x, v.oneCell' = true) (cf : α → α → Int) (hO : SWO (ltOf cf)) (g : Nat) (cb : Array Value) (blk off cap : Nat) (d : Array α) (w : World) (eg : ∀ args w, (callFunc g args).run Tryz.prog w = .ok (.enter g args) w) (hcmp : CmpLays Tryz.prog g cb enc 2 cf blk off d.size w) (hH : HoldsK enc 2 w blk off d) (hblk : blk < w.heap.size) (hsz : d.size < 4611686018427387904) (hT : ∀ x y, (ltOf cf) x y = false → (ltOf cf) y x = false → x = y) :
    Calls Tryz.prog 110 #[.slice (some ⟨blk, off, none⟩) d.size cap, .func (.func g) #[] cb] w fun e w' =>
      e = .returned (.tuple #[]) ∧ ∃ n os, w' = sortWorldK enc 2 w blk off n (d.toList.mergeSort fun x y => !(ltOf cf) y x).toArray os := AnyQ.slices_SortFunc_total Tryz.laysSlF06_f110 2 Tryz.isAgg53 Tryz.sizeOf53 enc hk h1 cf hO g cb blk off cap d w eg hcmp hH hblk hsz hT
end Go.Proofs
