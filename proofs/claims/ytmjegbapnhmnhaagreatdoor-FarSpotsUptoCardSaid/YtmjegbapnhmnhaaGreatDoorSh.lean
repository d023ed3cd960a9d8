/- The library's contracts, laid at this dump. -/
import Derived.Shelf.Small.Wraps
import Derived.Shelf.Sort.Plain
import Derived.Shelf.Slices.In.SortNone
import Derived.Ground.SlgcProg
import Derived.Shelf.SlicesG.Cmp
import Derived.Ground.SlsfProg
import Derived.Shelf.SlSortCmp.NoneTotal
import Derived.Test.YtmjegbapnhmnhaaGreatDoorProg
namespace Go.Proofs
open Go.Shelf
def Tryz.lays122_ren : Go.Shelf.Ren := ⟨fun | 122 => 132 | 215 => 197 | n => n, fun | 3 => 3 | 4 => 4 | n => n, fun | n => n⟩
theorem Tryz.lays122 : Go.Proofs.Lays.n122 Tryz.prog Tryz.lays122_ren := {
  mixed := by kernel_rfl
  f122 := Tryz.func132.trans (congrArg some (by kernel_rfl))
  f215 := Tryz.func197.trans (congrArg some (by kernel_rfl))
  t3 := Tryz.underlying3
  a3 := Tryz.isAgg3
  z3 := Tryz.sizeOf3
  v3 := Tryz.zeroValue3
  t4 := Tryz.underlying4
  a4 := Tryz.isAgg4
  z4 := Tryz.sizeOf4
  v4 := Tryz.zeroValue4 }
open Go.RowKit in

theorem Tryz.cmp_Compare_int (x y : Int) (w : World) :
    Calls Tryz.prog 132 #[.int .i64 x, .int .i64 y] w fun e w' => e = .returned (.int .i64 (Lib.compareInt x y)) ∧ w' = w := Any.cmp_Compare_int Tryz.lays122 x y w
def Tryz.lays189_ren : Go.Shelf.Ren := ⟨fun | 189 => 177 | 125 => 196 | 257 => 233 | 128 => 251 | 129 => 252 | 294 => 271 | 295 => 272 | 296 => 273 | 297 => 274 | 298 => 275 | 299 => 276 | 216 => 277 | 300 => 278 | 301 => 279 | 328 => 308 | 329 => 290 | 330 => 291 | 331 => 309 | 332 => 310 | 215 => 197 | 343 => 325 | n => n, fun | 28 => 35 | 3 => 3 | 46 => 307 | 0 => 0 | 51 => 354 | 53 => 356 | 4 => 4 | 183 => 348 | 182 => 347 | 131 => 136 | 5 => 5 | 9 => 9 | 218 => 393 | 222 => 397 | 228 => 421 | 229 => 259 | n => n, fun | n => n⟩
theorem Tryz.lays189 : Go.Proofs.Lays.n189 Tryz.prog Tryz.lays189_ren := {
  mixed := by kernel_rfl
  f125 := Tryz.func196.trans (congrArg some (by kernel_rfl))
  f128 := Tryz.func251.trans (congrArg some (by kernel_rfl))
  f129 := Tryz.func252.trans (congrArg some (by kernel_rfl))
  f189 := Tryz.func177.trans (congrArg some (by kernel_rfl))
  f215 := Tryz.func197.trans (congrArg some (by kernel_rfl))
  f216 := Tryz.func277.trans (congrArg some (by kernel_rfl))
  f257 := Tryz.func233.trans (congrArg some (by kernel_rfl))
  f294 := Tryz.func271.trans (congrArg some (by kernel_rfl))
  f295 := Tryz.func272.trans (congrArg some (by kernel_rfl))
  f296 := Tryz.func273.trans (congrArg some (by kernel_rfl))
  f297 := Tryz.func274.trans (congrArg some (by kernel_rfl))
  f298 := Tryz.func275.trans (congrArg some (by kernel_rfl))
  f299 := Tryz.func276.trans (congrArg some (by kernel_rfl))
  f300 := Tryz.func278.trans (congrArg some (by kernel_rfl))
  f301 := Tryz.func279.trans (congrArg some (by kernel_rfl))
  f328 := Tryz.func308.trans (congrArg some (by kernel_rfl))
  f329 := Tryz.func290.trans (congrArg some (by kernel_rfl))
  f330 := Tryz.func291.trans (congrArg some (by kernel_rfl))
  f331 := Tryz.func309.trans (congrArg some (by kernel_rfl))
  f332 := Tryz.func310.trans (congrArg some (by kernel_rfl))
  f343 := Tryz.func325.trans (congrArg some (by kernel_rfl))
  t0 := Tryz.underlying0
  a0 := Tryz.isAgg0
  z0 := Tryz.sizeOf0
  v0 := Tryz.zeroValue0
  t3 := Tryz.underlying3
  a3 := Tryz.isAgg3
  z3 := Tryz.sizeOf3
  v3 := Tryz.zeroValue3
  t4 := Tryz.underlying4
  a4 := Tryz.isAgg4
  z4 := Tryz.sizeOf4
  v4 := Tryz.zeroValue4
  t5 := Tryz.underlying5
  a5 := Tryz.isAgg5
  z5 := Tryz.sizeOf5
  v5 := Tryz.zeroValue5
  t9 := Tryz.underlying9
  a9 := Tryz.isAgg9
  z9 := Tryz.sizeOf9
  v9 := Tryz.zeroValue9
  t28 := Tryz.underlying35
  a28 := Tryz.isAgg35
  z28 := Tryz.sizeOf35
  v28 := Tryz.zeroValue35
  t46 := Tryz.underlying307
  a46 := Tryz.isAgg307
  z46 := Tryz.sizeOf307
  v46 := Tryz.zeroValue307
  t51 := Tryz.underlying354
  a51 := Tryz.isAgg354
  z51 := Tryz.sizeOf354
  v51 := Tryz.zeroValue354
  t53 := Tryz.underlying356
  a53 := Tryz.isAgg356
  z53 := Tryz.sizeOf356
  v53 := Tryz.zeroValue356
  t131 := Tryz.underlying136
  a131 := Tryz.isAgg136
  z131 := Tryz.sizeOf136
  v131 := Tryz.zeroValue136
  t182 := Tryz.underlying347
  a182 := Tryz.isAgg347
  z182 := Tryz.sizeOf347
  v182 := Tryz.zeroValue347
  t183 := Tryz.underlying348
  a183 := Tryz.isAgg348
  z183 := Tryz.sizeOf348
  v183 := Tryz.zeroValue348
  t218 := Tryz.underlying393
  a218 := Tryz.isAgg393
  z218 := Tryz.sizeOf393
  v218 := Tryz.zeroValue393
  t222 := Tryz.underlying397
  a222 := Tryz.isAgg397
  z222 := Tryz.sizeOf397
  v222 := Tryz.zeroValue397
  t228 := Tryz.underlying421
  a228 := Tryz.isAgg421
  z228 := Tryz.sizeOf421
  v228 := Tryz.zeroValue421
  t229 := Tryz.underlying259
  a229 := Tryz.isAgg259
  z229 := Tryz.sizeOf259
  v229 := Tryz.zeroValue259 }
open Go.Sort Go.RowKit in
theorem Tryz.slices_Sort_int (blk off cap : Nat) (zs : List Int) (w : World) (hH : Holds (Value.int .i64) w blk off zs.toArray) (hblk : blk < w.heap.size) (hsz : zs.length < 4611686018427387904) :
    Calls Tryz.prog 177 #[.slice (some ⟨blk, off, none⟩) zs.length cap] w fun e w' =>
      e = .returned (.tuple #[]) ∧ ∃ n os, w' = grow (putRow (Value.int .i64) (Sort.ahead w n) blk off (zs.mergeSort fun x y => decide (x ≤ y)).toArray) os := Any.slices_Sort_int Tryz.lays189 blk off cap zs w hH hblk hsz
open Go.RowKit Go.Sort in

theorem Tryz.slices_Sort_int_none (p : Option Addr) (cap : Nat) (w : World) :
    Calls Tryz.prog 177 #[.slice p 0 cap] w fun e w' => e = .returned (.tuple #[]) ∧ w' = w := Any.slices_Sort_int_none Tryz.lays189 p cap w
def Tryz.laysSlF6_f330_ren : Go.Shelf.Ren := ⟨fun | 6 => 330 | 15 => 196 | 14 => 333 | 28 => 251 | 29 => 252 | 20 => 334 | 21 => 335 | 22 => 336 | 23 => 337 | 24 => 338 | 25 => 339 | 26 => 340 | 27 => 341 | 46 => 342 | 47 => 290 | 48 => 291 | 49 => 343 | 50 => 344 | 57 => 345 | n => n, fun | 22 => 35 | 24 => 3 | 25 => 245 | 3 => 3 | 39 => 307 | 0 => 0 | 53 => 354 | 55 => 356 | 4 => 4 | 46 => 348 | 45 => 347 | 50 => 136 | 5 => 5 | 9 => 9 | 66 => 393 | 70 => 397 | 76 => 421 | 77 => 259 | n => n, fun | n => n⟩
theorem Tryz.laysSlF6_f330 : Go.Proofs.SlLaysF.n6 Tryz.prog Tryz.laysSlF6_f330_ren := {
  mixed := by kernel_rfl
  f6 := ⟨Tryz.f330.name, by decide, Tryz.func330.trans (congrArg some (by kernel_rfl))⟩
  f14 := ⟨Tryz.f333.name, by decide, Tryz.func333.trans (congrArg some (by kernel_rfl))⟩
  f15 := Tryz.func196.trans (congrArg some (by kernel_rfl))
  f20 := ⟨Tryz.f334.name, by decide, Tryz.func334.trans (congrArg some (by kernel_rfl))⟩
  f21 := ⟨Tryz.f335.name, by decide, Tryz.func335.trans (congrArg some (by kernel_rfl))⟩
  f22 := ⟨Tryz.f336.name, by decide, Tryz.func336.trans (congrArg some (by kernel_rfl))⟩
  f23 := ⟨Tryz.f337.name, by decide, Tryz.func337.trans (congrArg some (by kernel_rfl))⟩
  f24 := ⟨Tryz.f338.name, by decide, Tryz.func338.trans (congrArg some (by kernel_rfl))⟩
  f25 := ⟨Tryz.f339.name, by decide, Tryz.func339.trans (congrArg some (by kernel_rfl))⟩
  f26 := ⟨Tryz.f340.name, by decide, Tryz.func340.trans (congrArg some (by kernel_rfl))⟩
  f27 := ⟨Tryz.f341.name, by decide, Tryz.func341.trans (congrArg some (by kernel_rfl))⟩
  f28 := Tryz.func251.trans (congrArg some (by kernel_rfl))
  f29 := Tryz.func252.trans (congrArg some (by kernel_rfl))
  f46 := ⟨Tryz.f342.name, by decide, Tryz.func342.trans (congrArg some (by kernel_rfl))⟩
  f47 := Tryz.func290.trans (congrArg some (by kernel_rfl))
  f48 := Tryz.func291.trans (congrArg some (by kernel_rfl))
  f49 := ⟨Tryz.f343.name, by decide, Tryz.func343.trans (congrArg some (by kernel_rfl))⟩
  f50 := ⟨Tryz.f344.name, by decide, Tryz.func344.trans (congrArg some (by kernel_rfl))⟩
  f57 := ⟨Tryz.f345.name, by decide, Tryz.func345.trans (congrArg some (by kernel_rfl))⟩
  t0 := Tryz.underlying0
  a0 := Tryz.isAgg0
  z0 := Tryz.sizeOf0
  v0 := Tryz.zeroValue0
  t3 := Tryz.underlying3
  a3 := Tryz.isAgg3
  z3 := Tryz.sizeOf3
  v3 := Tryz.zeroValue3
  t4 := Tryz.underlying4
  a4 := Tryz.isAgg4
  z4 := Tryz.sizeOf4
  v4 := Tryz.zeroValue4
  t5 := Tryz.underlying5
  a5 := Tryz.isAgg5
  z5 := Tryz.sizeOf5
  v5 := Tryz.zeroValue5
  t9 := Tryz.underlying9
  a9 := Tryz.isAgg9
  z9 := Tryz.sizeOf9
  v9 := Tryz.zeroValue9
  t22 := Tryz.underlying35
  a22 := Tryz.isAgg35
  z22 := Tryz.sizeOf35
  v22 := Tryz.zeroValue35
  a24 := Tryz.isAgg3
  z24 := Tryz.sizeOf3
  t25 := Tryz.underlying245
  a25 := Tryz.isAgg245
  z25 := Tryz.sizeOf245
  v25 := Tryz.zeroValue245
  t39 := Tryz.underlying307
  a39 := Tryz.isAgg307
  z39 := Tryz.sizeOf307
  v39 := Tryz.zeroValue307
  t45 := Tryz.underlying347
  a45 := Tryz.isAgg347
  z45 := Tryz.sizeOf347
  v45 := Tryz.zeroValue347
  t46 := Tryz.underlying348
  a46 := Tryz.isAgg348
  z46 := Tryz.sizeOf348
  v46 := Tryz.zeroValue348
  t50 := Tryz.underlying136
  a50 := Tryz.isAgg136
  z50 := Tryz.sizeOf136
  v50 := Tryz.zeroValue136
  t53 := Tryz.underlying354
  a53 := Tryz.isAgg354
  z53 := Tryz.sizeOf354
  v53 := Tryz.zeroValue354
  t55 := Tryz.underlying356
  a55 := Tryz.isAgg356
  z55 := Tryz.sizeOf356
  v55 := Tryz.zeroValue356
  t66 := Tryz.underlying393
  a66 := Tryz.isAgg393
  z66 := Tryz.sizeOf393
  v66 := Tryz.zeroValue393
  t70 := Tryz.underlying397
  a70 := Tryz.isAgg397
  z70 := Tryz.sizeOf397
  v70 := Tryz.zeroValue397
  t76 := Tryz.underlying421
  a76 := Tryz.isAgg421
  z76 := Tryz.sizeOf421
  v76 := Tryz.zeroValue421
  t77 := Tryz.underlying259
  a77 := Tryz.isAgg259
  z77 := Tryz.sizeOf259
  v77 := Tryz.zeroValue259 }
def Tryz.laysSlF06_f330_ren : Go.Shelf.Ren := ⟨fun | 6 => 330 | 15 => 196 | 14 => 333 | 28 => 251 | 29 => 252 | 20 => 334 | 21 => 335 | 22 => 336 | 23 => 337 | 24 => 338 | 25 => 339 | 26 => 340 | 27 => 341 | 46 => 342 | 47 => 290 | 48 => 291 | 49 => 343 | 50 => 344 | 57 => 345 | n => n, fun | 22 => 35 | 24 => 3 | 25 => 245 | 3 => 3 | 39 => 307 | 0 => 0 | 53 => 354 | 55 => 356 | 4 => 4 | 46 => 348 | 45 => 347 | 50 => 136 | 5 => 5 | 9 => 9 | 66 => 393 | 70 => 397 | 76 => 421 | 77 => 259 | n => n, fun | n => n⟩
theorem Tryz.laysSlF06_f330 : Go.Proofs.SlLaysF0.n6 Tryz.prog Tryz.laysSlF06_f330_ren := {
  mixed := by kernel_rfl
  f6 := ⟨Tryz.f330.name, by decide, Tryz.func330.trans (congrArg some (by kernel_rfl))⟩
  f14 := ⟨Tryz.f333.name, by decide, Tryz.func333.trans (congrArg some (by kernel_rfl))⟩
  f15 := Tryz.func196.trans (congrArg some (by kernel_rfl))
  f20 := ⟨Tryz.f334.name, by decide, Tryz.func334.trans (congrArg some (by kernel_rfl))⟩
  f21 := ⟨Tryz.f335.name, by decide, Tryz.func335.trans (congrArg some (by kernel_rfl))⟩
  f22 := ⟨Tryz.f336.name, by decide, Tryz.func336.trans (congrArg some (by kernel_rfl))⟩
  f23 := ⟨Tryz.f337.name, by decide, Tryz.func337.trans (congrArg some (by kernel_rfl))⟩
  f24 := ⟨Tryz.f338.name, by decide, Tryz.func338.trans (congrArg some (by kernel_rfl))⟩
  f25 := ⟨Tryz.f339.name, by decide, Tryz.func339.trans (congrArg some (by kernel_rfl))⟩
  f26 := ⟨Tryz.f340.name, by decide, Tryz.func340.trans (congrArg some (by kernel_rfl))⟩
  f27 := ⟨Tryz.f341.name, by decide, Tryz.func341.trans (congrArg some (by kernel_rfl))⟩
  f28 := Tryz.func251.trans (congrArg some (by kernel_rfl))
  f29 := Tryz.func252.trans (congrArg some (by kernel_rfl))
  f46 := ⟨Tryz.f342.name, by decide, Tryz.func342.trans (congrArg some (by kernel_rfl))⟩
  f47 := Tryz.func290.trans (congrArg some (by kernel_rfl))
  f48 := Tryz.func291.trans (congrArg some (by kernel_rfl))
  f49 := ⟨Tryz.f343.name, by decide, Tryz.func343.trans (congrArg some (by kernel_rfl))⟩
  f50 := ⟨Tryz.f344.name, by decide, Tryz.func344.trans (congrArg some (by kernel_rfl))⟩
  f57 := ⟨Tryz.f345.name, by decide, Tryz.func345.trans (congrArg some (by kernel_rfl))⟩
  t0 := Tryz.underlying0
  a0 := Tryz.isAgg0
  z0 := Tryz.sizeOf0
  v0 := Tryz.zeroValue0
  t3 := Tryz.underlying3
  a3 := Tryz.isAgg3
  z3 := Tryz.sizeOf3
  v3 := Tryz.zeroValue3
  t4 := Tryz.underlying4
  a4 := Tryz.isAgg4
  z4 := Tryz.sizeOf4
  v4 := Tryz.zeroValue4
  t5 := Tryz.underlying5
  a5 := Tryz.isAgg5
  z5 := Tryz.sizeOf5
  v5 := Tryz.zeroValue5
  t9 := Tryz.underlying9
  a9 := Tryz.isAgg9
  z9 := Tryz.sizeOf9
  v9 := Tryz.zeroValue9
  t22 := Tryz.underlying35
  a22 := Tryz.isAgg35
  z22 := Tryz.sizeOf35
  v22 := Tryz.zeroValue35
  t25 := Tryz.underlying245
  a25 := Tryz.isAgg245
  z25 := Tryz.sizeOf245
  v25 := Tryz.zeroValue245
  t39 := Tryz.underlying307
  a39 := Tryz.isAgg307
  z39 := Tryz.sizeOf307
  v39 := Tryz.zeroValue307
  t45 := Tryz.underlying347
  a45 := Tryz.isAgg347
  z45 := Tryz.sizeOf347
  v45 := Tryz.zeroValue347
  t46 := Tryz.underlying348
  a46 := Tryz.isAgg348
  z46 := Tryz.sizeOf348
  v46 := Tryz.zeroValue348
  t50 := Tryz.underlying136
  a50 := Tryz.isAgg136
  z50 := Tryz.sizeOf136
  v50 := Tryz.zeroValue136
  t53 := Tryz.underlying354
  a53 := Tryz.isAgg354
  z53 := Tryz.sizeOf354
  v53 := Tryz.zeroValue354
  t55 := Tryz.underlying356
  a55 := Tryz.isAgg356
  z55 := Tryz.sizeOf356
  v55 := Tryz.zeroValue356
  t66 := Tryz.underlying393
  a66 := Tryz.isAgg393
  z66 := Tryz.sizeOf393
  v66 := Tryz.zeroValue393
  t70 := Tryz.underlying397
  a70 := Tryz.isAgg397
  z70 := Tryz.sizeOf397
  v70 := Tryz.zeroValue397
  t76 := Tryz.underlying421
  a76 := Tryz.isAgg421
  z76 := Tryz.sizeOf421
  v76 := Tryz.zeroValue421
  t77 := Tryz.underlying259
  a77 := Tryz.isAgg259
  z77 := Tryz.sizeOf259
  v77 := Tryz.zeroValue259 }
open Go.RowKit Go.Lib Go.Sort in

theorem Tryz.slices_SortFunc_none {α : Type} [Inhabited α] (p : Option Addr) (cap : Nat) (fv : Value) (w : World) :
    Calls Tryz.prog 330 #[.slice p 0 cap, fv] w fun e w' => e = .returned (.tuple #[]) ∧ w' = w := AnyF.slices_SortFunc_none Tryz.laysSlF06_f330 p cap fv w
open Go.RowKit Go.Lib Go.Sort in

theorem Tryz.slices_SortFunc_total {α : Type} [Inhabited α] (enc : α → Value) (h1 : OneCell enc) (cf : α → α → Int) (hO : SWO (ltOf cf)) (g : Nat) (cb : Array Value) (blk off cap : Nat) (d : Array α) (w : World) (eg : ∀ args w, (callFunc g args).run Tryz.prog w = .ok (.enter g args) w) (hcmp : CmpLays1 Tryz.prog g cb enc cf blk off d.size w) (hH : Holds enc w blk off d) (hblk : blk < w.heap.size) (hsz : d.size < 4611686018427387904) (hT : ∀ x y, (ltOf cf) x y = false → (ltOf cf) y x = false → x = y) :
    Calls Tryz.prog 330 #[.slice (some ⟨blk, off, none⟩) d.size cap, .func (.func g) #[] cb] w fun e w' =>
      e = .returned (.tuple #[]) ∧ ∃ n os, w' = sortWorld enc w blk off n (d.toList.mergeSort fun x y => !(ltOf cf) y x).toArray os := Any.slices_SortFunc_total Tryz.laysSlF6_f330 enc h1 cf hO g cb blk off cap d w eg hcmp hH hblk hsz hT
def Tryz.laysSlF06_f129_ren : Go.Shelf.Ren := ⟨fun | 6 => 129 | 15 => 196 | 14 => 195 | 28 => 251 | 29 => 252 | 20 => 243 | 21 => 244 | 22 => 245 | 23 => 246 | 24 => 247 | 25 => 248 | 26 => 249 | 27 => 250 | 46 => 289 | 47 => 290 | 48 => 291 | 49 => 292 | 50 => 293 | 57 => 316 | n => n, fun | 22 => 42 | 24 => 45 | 25 => 246 | 3 => 3 | 39 => 307 | 0 => 0 | 53 => 354 | 55 => 356 | 4 => 4 | 46 => 348 | 45 => 347 | 50 => 136 | 5 => 5 | 9 => 9 | 66 => 393 | 70 => 397 | 76 => 421 | 77 => 259 | n => n, fun | n => n⟩
theorem Tryz.laysSlF06_f129 : Go.Proofs.SlLaysF0.n6 Tryz.prog Tryz.laysSlF06_f129_ren := {
  mixed := by kernel_rfl
  f6 := ⟨Tryz.f129.name, by decide, Tryz.func129.trans (congrArg some (by kernel_rfl))⟩
  f14 := ⟨Tryz.f195.name, by decide, Tryz.func195.trans (congrArg some (by kernel_rfl))⟩
  f15 := Tryz.func196.trans (congrArg some (by kernel_rfl))
  f20 := ⟨Tryz.f243.name, by decide, Tryz.func243.trans (congrArg some (by kernel_rfl))⟩
  f21 := ⟨Tryz.f244.name, by decide, Tryz.func244.trans (congrArg some (by kernel_rfl))⟩
  f22 := ⟨Tryz.f245.name, by decide, Tryz.func245.trans (congrArg some (by kernel_rfl))⟩
  f23 := ⟨Tryz.f246.name, by decide, Tryz.func246.trans (congrArg some (by kernel_rfl))⟩
  f24 := ⟨Tryz.f247.name, by decide, Tryz.func247.trans (congrArg some (by kernel_rfl))⟩
  f25 := ⟨Tryz.f248.name, by decide, Tryz.func248.trans (congrArg some (by kernel_rfl))⟩
  f26 := ⟨Tryz.f249.name, by decide, Tryz.func249.trans (congrArg some (by kernel_rfl))⟩
  f27 := ⟨Tryz.f250.name, by decide, Tryz.func250.trans (congrArg some (by kernel_rfl))⟩
  f28 := Tryz.func251.trans (congrArg some (by kernel_rfl))
  f29 := Tryz.func252.trans (congrArg some (by kernel_rfl))
  f46 := ⟨Tryz.f289.name, by decide, Tryz.func289.trans (congrArg some (by kernel_rfl))⟩
  f47 := Tryz.func290.trans (congrArg some (by kernel_rfl))
  f48 := Tryz.func291.trans (congrArg some (by kernel_rfl))
  f49 := ⟨Tryz.f292.name, by decide, Tryz.func292.trans (congrArg some (by kernel_rfl))⟩
  f50 := ⟨Tryz.f293.name, by decide, Tryz.func293.trans (congrArg some (by kernel_rfl))⟩
  f57 := ⟨Tryz.f316.name, by decide, Tryz.func316.trans (congrArg some (by kernel_rfl))⟩
  t0 := Tryz.underlying0
  a0 := Tryz.isAgg0
  z0 := Tryz.sizeOf0
  v0 := Tryz.zeroValue0
  t3 := Tryz.underlying3
  a3 := Tryz.isAgg3
  z3 := Tryz.sizeOf3
  v3 := Tryz.zeroValue3
  t4 := Tryz.underlying4
  a4 := Tryz.isAgg4
  z4 := Tryz.sizeOf4
  v4 := Tryz.zeroValue4
  t5 := Tryz.underlying5
  a5 := Tryz.isAgg5
  z5 := Tryz.sizeOf5
  v5 := Tryz.zeroValue5
  t9 := Tryz.underlying9
  a9 := Tryz.isAgg9
  z9 := Tryz.sizeOf9
  v9 := Tryz.zeroValue9
  t22 := Tryz.underlying42
  a22 := Tryz.isAgg42
  z22 := Tryz.sizeOf42
  v22 := Tryz.zeroValue42
  t25 := Tryz.underlying246
  a25 := Tryz.isAgg246
  z25 := Tryz.sizeOf246
  v25 := Tryz.zeroValue246
  t39 := Tryz.underlying307
  a39 := Tryz.isAgg307
  z39 := Tryz.sizeOf307
  v39 := Tryz.zeroValue307
  t45 := Tryz.underlying347
  a45 := Tryz.isAgg347
  z45 := Tryz.sizeOf347
  v45 := Tryz.zeroValue347
  t46 := Tryz.underlying348
  a46 := Tryz.isAgg348
  z46 := Tryz.sizeOf348
  v46 := Tryz.zeroValue348
  t50 := Tryz.underlying136
  a50 := Tryz.isAgg136
  z50 := Tryz.sizeOf136
  v50 := Tryz.zeroValue136
  t53 := Tryz.underlying354
  a53 := Tryz.isAgg354
  z53 := Tryz.sizeOf354
  v53 := Tryz.zeroValue354
  t55 := Tryz.underlying356
  a55 := Tryz.isAgg356
  z55 := Tryz.sizeOf356
  v55 := Tryz.zeroValue356
  t66 := Tryz.underlying393
  a66 := Tryz.isAgg393
  z66 := Tryz.sizeOf393
  v66 := Tryz.zeroValue393
  t70 := Tryz.underlying397
  a70 := Tryz.isAgg397
  z70 := Tryz.sizeOf397
  v70 := Tryz.zeroValue397
  t76 := Tryz.underlying421
  a76 := Tryz.isAgg421
  z76 := Tryz.sizeOf421
  v76 := Tryz.zeroValue421
  t77 := Tryz.underlying259
  a77 := Tryz.isAgg259
  z77 := Tryz.sizeOf259
  v77 := Tryz.zeroValue259 }
open Go.RowKit Go.Lib Go.Sort in
theorem Tryz.slices_SortFunc_noneE {α : Type} [Inhabited α] (p : Option Addr) (cap : Nat) (fv : Value) (w : World) :
    Calls Tryz.prog 129 #[.slice p 0 cap, fv] w fun e w' => e = .returned (.tuple #[]) ∧ w' = w := AnyF.slices_SortFunc_none Tryz.laysSlF06_f129 p cap fv w
open Go.RowKit Go.Lib Go.Sort in
theorem Tryz.slices_SortFunc_totalE {α : Type} [Inhabited α] (enc : α → List Value) (hk : ∀ x, (enc x).length = 2) (h1 : ∀ x, ∀ v ∈ enc x, v.oneCell' = true) (cf : α → α → Int) (hO : SWO (ltOf cf)) (g : Nat) (cb : Array Value) (blk off cap : Nat) (d : Array α) (w : World) (eg : ∀ args w, (callFunc g args).run Tryz.prog w = .ok (.enter g args) w) (hcmp : CmpLays Tryz.prog g cb enc 2 cf blk off d.size w) (hH : HoldsK enc 2 w blk off d) (hblk : blk < w.heap.size) (hsz : d.size < 4611686018427387904) (hT : ∀ x y, (ltOf cf) x y = false → (ltOf cf) y x = false → x = y) :
    Calls Tryz.prog 129 #[.slice (some ⟨blk, off, none⟩) d.size cap, .func (.func g) #[] cb] w fun e w' =>
      e = .returned (.tuple #[]) ∧ ∃ n os, w' = sortWorldK enc 2 w blk off n (d.toList.mergeSort fun x y => !(ltOf cf) y x).toArray os := AnyQ.slices_SortFunc_total Tryz.laysSlF06_f129 2 Tryz.isAgg45 Tryz.sizeOf45 enc hk h1 cf hO g cb blk off cap d w eg hcmp hH hblk hsz hT
end Go.Proofs
