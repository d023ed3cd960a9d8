/- The library's contracts, laid at this dump. -/
import Derived.Shelf.Small.Wraps
import Derived.Shelf.Sort.Plain
import Derived.Shelf.Slices.In.SortNone
import Derived.Ground.SlgcProg
import Derived.Shelf.SlicesG.Cmp
import Derived.Ground.SlsfProg
import Derived.Shelf.SlSortCmp.NoneTotal
import Derived.Test.YtaknodpgafomdabGreatDoorProg
namespace Go.Proofs
open Go.Shelf
def Tryz.lays122_ren : Go.Shelf.Ren := ⟨fun | 122 => 97 | 215 => 146 | n => n, fun | 3 => 3 | 4 => 4 | n => n, fun | n => n⟩
theorem Tryz.lays122 : Go.Proofs.Lays.n122 Tryz.prog Tryz.lays122_ren := {
  mixed := by kernel_rfl
  f122 := Tryz.func97.trans (congrArg some (by kernel_rfl))
  f215 := Tryz.func146.trans (congrArg some (by kernel_rfl))
  t3 := Tryz.underlying3
  a3 := Tryz.isAgg3
  z3 := Tryz.sizeOf3
  v3 := Tryz.zeroValue3
  t4 := Tryz.underlying4
  a4 := Tryz.isAgg4
  z4 := Tryz.sizeOf4
  v4 := Tryz.zeroValue4 }
open Go.RowKit in

theorem Tryz.cmp_Compare_int (x y : Int) (w : World) :
    Calls Tryz.prog 97 #[.int .i64 x, .int .i64 y] w fun e w' => e = .returned (.int .i64 (Lib.compareInt x y)) ∧ w' = w := Any.cmp_Compare_int Tryz.lays122 x y w
def Tryz.lays189_ren : Go.Shelf.Ren := ⟨fun | 189 => 175 | 125 => 145 | 257 => 219 | 128 => 196 | 129 => 197 | 294 => 241 | 295 => 242 | 296 => 243 | 297 => 244 | 298 => 245 | 299 => 246 | 216 => 247 | 300 => 248 | 301 => 249 | 328 => 265 | 329 => 226 | 330 => 227 | 331 => 266 | 332 => 267 | 215 => 146 | 343 => 274 | n => n, fun | 28 => 22 | 3 => 3 | 46 => 259 | 0 => 0 | 51 => 315 | 53 => 317 | 4 => 4 | 183 => 309 | 182 => 308 | 131 => 82 | 5 => 5 | 9 => 9 | 218 => 345 | 222 => 349 | 228 => 379 | 229 => 254 | n => n, fun | n => n⟩
theorem Tryz.lays189 : Go.Proofs.Lays.n189 Tryz.prog Tryz.lays189_ren := {
  mixed := by kernel_rfl
  f125 := Tryz.func145.trans (congrArg some (by kernel_rfl))
  f128 := Tryz.func196.trans (congrArg some (by kernel_rfl))
  f129 := Tryz.func197.trans (congrArg some (by kernel_rfl))
  f189 := Tryz.func175.trans (congrArg some (by kernel_rfl))
  f215 := Tryz.func146.trans (congrArg some (by kernel_rfl))
  f216 := Tryz.func247.trans (congrArg some (by kernel_rfl))
  f257 := Tryz.func219.trans (congrArg some (by kernel_rfl))
  f294 := Tryz.func241.trans (congrArg some (by kernel_rfl))
  f295 := Tryz.func242.trans (congrArg some (by kernel_rfl))
  f296 := Tryz.func243.trans (congrArg some (by kernel_rfl))
  f297 := Tryz.func244.trans (congrArg some (by kernel_rfl))
  f298 := Tryz.func245.trans (congrArg some (by kernel_rfl))
  f299 := Tryz.func246.trans (congrArg some (by kernel_rfl))
  f300 := Tryz.func248.trans (congrArg some (by kernel_rfl))
  f301 := Tryz.func249.trans (congrArg some (by kernel_rfl))
  f328 := Tryz.func265.trans (congrArg some (by kernel_rfl))
  f329 := Tryz.func226.trans (congrArg some (by kernel_rfl))
  f330 := Tryz.func227.trans (congrArg some (by kernel_rfl))
  f331 := Tryz.func266.trans (congrArg some (by kernel_rfl))
  f332 := Tryz.func267.trans (congrArg some (by kernel_rfl))
  f343 := Tryz.func274.trans (congrArg some (by kernel_rfl))
  t0 := Tryz.underlying0
  a0 := Tryz.isAgg0
  z0 := Tryz.sizeOf0
  v0 := Tryz.zeroValue0
  t3 := Tryz.underlying3
  a3 := Tryz.isAgg3
  z3 := Tryz.sizeOf3
  v3 := Tryz.zeroValue3
  t4 := Tryz.underlying4
  a4 := Tryz.isAgg4
  z4 := Tryz.sizeOf4
  v4 := Tryz.zeroValue4
  t5 := Tryz.underlying5
  a5 := Tryz.isAgg5
  z5 := Tryz.sizeOf5
  v5 := Tryz.zeroValue5
  t9 := Tryz.underlying9
  a9 := Tryz.isAgg9
  z9 := Tryz.sizeOf9
  v9 := Tryz.zeroValue9
  t28 := Tryz.underlying22
  a28 := Tryz.isAgg22
  z28 := Tryz.sizeOf22
  v28 := Tryz.zeroValue22
  t46 := Tryz.underlying259
  a46 := Tryz.isAgg259
  z46 := Tryz.sizeOf259
  v46 := Tryz.zeroValue259
  t51 := Tryz.underlying315
  a51 := Tryz.isAgg315
  z51 := Tryz.sizeOf315
  v51 := Tryz.zeroValue315
  t53 := Tryz.underlying317
  a53 := Tryz.isAgg317
  z53 := Tryz.sizeOf317
  v53 := Tryz.zeroValue317
  t131 := Tryz.underlying82
  a131 := Tryz.isAgg82
  z131 := Tryz.sizeOf82
  v131 := Tryz.zeroValue82
  t182 := Tryz.underlying308
  a182 := Tryz.isAgg308
  z182 := Tryz.sizeOf308
  v182 := Tryz.zeroValue308
  t183 := Tryz.underlying309
  a183 := Tryz.isAgg309
  z183 := Tryz.sizeOf309
  v183 := Tryz.zeroValue309
  t218 := Tryz.underlying345
  a218 := Tryz.isAgg345
  z218 := Tryz.sizeOf345
  v218 := Tryz.zeroValue345
  t222 := Tryz.underlying349
  a222 := Tryz.isAgg349
  z222 := Tryz.sizeOf349
  v222 := Tryz.zeroValue349
  t228 := Tryz.underlying379
  a228 := Tryz.isAgg379
  z228 := Tryz.sizeOf379
  v228 := Tryz.zeroValue379
  t229 := Tryz.underlying254
  a229 := Tryz.isAgg254
  z229 := Tryz.sizeOf254
  v229 := Tryz.zeroValue254 }
open Go.Sort Go.RowKit in
theorem Tryz.slices_Sort_int (blk off cap : Nat) (zs : List Int) (w : World) (hH : Holds (Value.int .i64) w blk off zs.toArray) (hblk : blk < w.heap.size) (hsz : zs.length < 4611686018427387904) :
    Calls Tryz.prog 175 #[.slice (some ⟨blk, off, none⟩) zs.length cap] w fun e w' =>
      e = .returned (.tuple #[]) ∧ ∃ n os, w' = grow (putRow (Value.int .i64) (Sort.ahead w n) blk off (zs.mergeSort fun x y => decide (x ≤ y)).toArray) os := Any.slices_Sort_int Tryz.lays189 blk off cap zs w hH hblk hsz
open Go.RowKit Go.Sort in

theorem Tryz.slices_Sort_int_none (p : Option Addr) (cap : Nat) (w : World) :
    Calls Tryz.prog 175 #[.slice p 0 cap] w fun e w' => e = .returned (.tuple #[]) ∧ w' = w := Any.slices_Sort_int_none Tryz.lays189 p cap w
def Tryz.laysSlF6_f263_ren : Go.Shelf.Ren := ⟨fun | 6 => 263 | 15 => 145 | 14 => 273 | 28 => 196 | 29 => 197 | 20 => 276 | 21 => 277 | 22 => 278 | 23 => 279 | 24 => 280 | 25 => 281 | 26 => 282 | 27 => 283 | 46 => 284 | 47 => 226 | 48 => 227 | 49 => 285 | 50 => 286 | 57 => 287 | n => n, fun | 22 => 22 | 24 => 3 | 25 => 195 | 3 => 3 | 39 => 259 | 0 => 0 | 53 => 315 | 55 => 317 | 4 => 4 | 46 => 309 | 45 => 308 | 50 => 82 | 5 => 5 | 9 => 9 | 66 => 345 | 70 => 349 | 76 => 379 | 77 => 254 | n => n, fun | n => n⟩
theorem Tryz.laysSlF6_f263 : Go.Proofs.SlLaysF.n6 Tryz.prog Tryz.laysSlF6_f263_ren := {
  mixed := by kernel_rfl
  f6 := ⟨Tryz.f263.name, by decide, Tryz.func263.trans (congrArg some (by kernel_rfl))⟩
  f14 := ⟨Tryz.f273.name, by decide, Tryz.func273.trans (congrArg some (by kernel_rfl))⟩
  f15 := Tryz.func145.trans (congrArg some (by kernel_rfl))
  f20 := ⟨Tryz.f276.name, by decide, Tryz.func276.trans (congrArg some (by kernel_rfl))⟩
  f21 := ⟨Tryz.f277.name, by decide, Tryz.func277.trans (congrArg some (by kernel_rfl))⟩
  f22 := ⟨Tryz.f278.name, by decide, Tryz.func278.trans (congrArg some (by kernel_rfl))⟩
  f23 := ⟨Tryz.f279.name, by decide, Tryz.func279.trans (congrArg some (by kernel_rfl))⟩
  f24 := ⟨Tryz.f280.name, by decide, Tryz.func280.trans (congrArg some (by kernel_rfl))⟩
  f25 := ⟨Tryz.f281.name, by decide, Tryz.func281.trans (congrArg some (by kernel_rfl))⟩
  f26 := ⟨Tryz.f282.name, by decide, Tryz.func282.trans (congrArg some (by kernel_rfl))⟩
  f27 := ⟨Tryz.f283.name, by decide, Tryz.func283.trans (congrArg some (by kernel_rfl))⟩
  f28 := Tryz.func196.trans (congrArg some (by kernel_rfl))
  f29 := Tryz.func197.trans (congrArg some (by kernel_rfl))
  f46 := ⟨Tryz.f284.name, by decide, Tryz.func284.trans (congrArg some (by kernel_rfl))⟩
  f47 := Tryz.func226.trans (congrArg some (by kernel_rfl))
  f48 := Tryz.func227.trans (congrArg some (by kernel_rfl))
  f49 := ⟨Tryz.f285.name, by decide, Tryz.func285.trans (congrArg some (by kernel_rfl))⟩
  f50 := ⟨Tryz.f286.name, by decide, Tryz.func286.trans (congrArg some (by kernel_rfl))⟩
  f57 := ⟨Tryz.f287.name, by decide, Tryz.func287.trans (congrArg some (by kernel_rfl))⟩
  t0 := Tryz.underlying0
  a0 := Tryz.isAgg0
  z0 := Tryz.sizeOf0
  v0 := Tryz.zeroValue0
  t3 := Tryz.underlying3
  a3 := Tryz.isAgg3
  z3 := Tryz.sizeOf3
  v3 := Tryz.zeroValue3
  t4 := Tryz.underlying4
  a4 := Tryz.isAgg4
  z4 := Tryz.sizeOf4
  v4 := Tryz.zeroValue4
  t5 := Tryz.underlying5
  a5 := Tryz.isAgg5
  z5 := Tryz.sizeOf5
  v5 := Tryz.zeroValue5
  t9 := Tryz.underlying9
  a9 := Tryz.isAgg9
  z9 := Tryz.sizeOf9
  v9 := Tryz.zeroValue9
  t22 := Tryz.underlying22
  a22 := Tryz.isAgg22
  z22 := Tryz.sizeOf22
  v22 := Tryz.zeroValue22
  a24 := Tryz.isAgg3
  z24 := Tryz.sizeOf3
  t25 := Tryz.underlying195
  a25 := Tryz.isAgg195
  z25 := Tryz.sizeOf195
  v25 := Tryz.zeroValue195
  t39 := Tryz.underlying259
  a39 := Tryz.isAgg259
  z39 := Tryz.sizeOf259
  v39 := Tryz.zeroValue259
  t45 := Tryz.underlying308
  a45 := Tryz.isAgg308
  z45 := Tryz.sizeOf308
  v45 := Tryz.zeroValue308
  t46 := Tryz.underlying309
  a46 := Tryz.isAgg309
  z46 := Tryz.sizeOf309
  v46 := Tryz.zeroValue309
  t50 := Tryz.underlying82
  a50 := Tryz.isAgg82
  z50 := Tryz.sizeOf82
  v50 := Tryz.zeroValue82
  t53 := Tryz.underlying315
  a53 := Tryz.isAgg315
  z53 := Tryz.sizeOf315
  v53 := Tryz.zeroValue315
  t55 := Tryz.underlying317
  a55 := Tryz.isAgg317
  z55 := Tryz.sizeOf317
  v55 := Tryz.zeroValue317
  t66 := Tryz.underlying345
  a66 := Tryz.isAgg345
  z66 := Tryz.sizeOf345
  v66 := Tryz.zeroValue345
  t70 := Tryz.underlying349
  a70 := Tryz.isAgg349
  z70 := Tryz.sizeOf349
  v70 := Tryz.zeroValue349
  t76 := Tryz.underlying379
  a76 := Tryz.isAgg379
  z76 := Tryz.sizeOf379
  v76 := Tryz.zeroValue379
  t77 := Tryz.underlying254
  a77 := Tryz.isAgg254
  z77 := Tryz.sizeOf254
  v77 := Tryz.zeroValue254 }
def Tryz.laysSlF06_f263_ren : Go.Shelf.Ren := ⟨fun | 6 => 263 | 15 => 145 | 14 => 273 | 28 => 196 | 29 => 197 | 20 => 276 | 21 => 277 | 22 => 278 | 23 => 279 | 24 => 280 | 25 => 281 | 26 => 282 | 27 => 283 | 46 => 284 | 47 => 226 | 48 => 227 | 49 => 285 | 50 => 286 | 57 => 287 | n => n, fun | 22 => 22 | 24 => 3 | 25 => 195 | 3 => 3 | 39 => 259 | 0 => 0 | 53 => 315 | 55 => 317 | 4 => 4 | 46 => 309 | 45 => 308 | 50 => 82 | 5 => 5 | 9 => 9 | 66 => 345 | 70 => 349 | 76 => 379 | 77 => 254 | n => n, fun | n => n⟩
theorem Tryz.laysSlF06_f263 : Go.Proofs.SlLaysF0.n6 Tryz.prog Tryz.laysSlF06_f263_ren := {
  mixed := by kernel_rfl
  f6 := ⟨Tryz.f263.name, by decide, Tryz.func263.trans (congrArg some (by kernel_rfl))⟩
  f14 := ⟨Tryz.f273.name, by decide, Tryz.func273.trans (congrArg some (by kernel_rfl))⟩
  f15 := Tryz.func145.trans (congrArg some (by kernel_rfl))
  f20 := ⟨Tryz.f276.name, by decide, Tryz.func276.trans (congrArg some (by kernel_rfl))⟩
  f21 := ⟨Tryz.f277.name, by decide, Tryz.func277.trans (congrArg some (by kernel_rfl))⟩
  f22 := ⟨Tryz.f278.name, by decide, Tryz.func278.trans (congrArg some (by kernel_rfl))⟩
  f23 := ⟨Tryz.f279.name, by decide, Tryz.func279.trans (congrArg some (by kernel_rfl))⟩
  f24 := ⟨Tryz.f280.name, by decide, Tryz.func280.trans (congrArg some (by kernel_rfl))⟩
  f25 := ⟨Tryz.f281.name, by decide, Tryz.func281.trans (congrArg some (by kernel_rfl))⟩
  f26 := ⟨Tryz.f282.name, by decide, Tryz.func282.trans (congrArg some (by kernel_rfl))⟩
  f27 := ⟨Tryz.f283.name, by decide, Tryz.func283.trans (congrArg some (by kernel_rfl))⟩
  f28 := Tryz.func196.trans (congrArg some (by kernel_rfl))
  f29 := Tryz.func197.trans (congrArg some (by kernel_rfl))
  f46 := ⟨Tryz.f284.name, by decide, Tryz.func284.trans (congrArg some (by kernel_rfl))⟩
  f47 := Tryz.func226.trans (congrArg some (by kernel_rfl))
  f48 := Tryz.func227.trans (congrArg some (by kernel_rfl))
  f49 := ⟨Tryz.f285.name, by decide, Tryz.func285.trans (congrArg some (by kernel_rfl))⟩
  f50 := ⟨Tryz.f286.name, by decide, Tryz.func286.trans (congrArg some (by kernel_rfl))⟩
  f57 := ⟨Tryz.f287.name, by decide, Tryz.func287.trans (congrArg some (by kernel_rfl))⟩
  t0 := Tryz.underlying0
  a0 := Tryz.isAgg0
  z0 := Tryz.sizeOf0
  v0 := Tryz.zeroValue0
  t3 := Tryz.underlying3
  a3 := Tryz.isAgg3
  z3 := Tryz.sizeOf3
  v3 := Tryz.zeroValue3
  t4 := Tryz.underlying4
  a4 := Tryz.isAgg4
  z4 := Tryz.sizeOf4
  v4 := Tryz.zeroValue4
  t5 := Tryz.underlying5
  a5 := Tryz.isAgg5
  z5 := Tryz.sizeOf5
  v5 := Tryz.zeroValue5
  t9 := Tryz.underlying9
  a9 := Tryz.isAgg9
  z9 := Tryz.sizeOf9
  v9 := Tryz.zeroValue9
  t22 := Tryz.underlying22
  a22 := Tryz.isAgg22
  z22 := Tryz.sizeOf22
  v22 := Tryz.zeroValue22
  t25 := Tryz.underlying195
  a25 := Tryz.isAgg195
  z25 := Tryz.sizeOf195
  v25 := Tryz.zeroValue195
  t39 := Tryz.underlying259
  a39 := Tryz.isAgg259
  z39 := Tryz.sizeOf259
  v39 := Tryz.zeroValue259
  t45 := Tryz.underlying308
  a45 := Tryz.isAgg308
  z45 := Tryz.sizeOf308
  v45 := Tryz.zeroValue308
  t46 := Tryz.underlying309
  a46 := Tryz.isAgg309
  z46 := Tryz.sizeOf309
  v46 := Tryz.zeroValue309
  t50 := Tryz.underlying82
  a50 := Tryz.isAgg82
  z50 := Tryz.sizeOf82
  v50 := Tryz.zeroValue82
  t53 := Tryz.underlying315
  a53 := Tryz.isAgg315
  z53 := Tryz.sizeOf315
  v53 := Tryz.zeroValue315
  t55 := Tryz.underlying317
  a55 := Tryz.isAgg317
  z55 := Tryz.sizeOf317
  v55 := Tryz.zeroValue317
  t66 := Tryz.underlying345
  a66 := Tryz.isAgg345
  z66 := Tryz.sizeOf345
  v66 := Tryz.zeroValue345
  t70 := Tryz.underlying349
  a70 := Tryz.isAgg349
  z70 := Tryz.sizeOf349
  v70 := Tryz.zeroValue349
  t76 := Tryz.underlying379
  a76 := Tryz.isAgg379
  z76 := Tryz.sizeOf379
  v76 := Tryz.zeroValue379
  t77 := Tryz.underlying254
  a77 := Tryz.isAgg254
  z77 := Tryz.sizeOf254
  v77 := Tryz.zeroValue254 }
open Go.RowKit Go.Lib Go.Sort in

theorem Tryz.slices_SortFunc_none {α : Type} [Inhabited α] (p : Option Addr) (cap : Nat) (fv : Value) (w : World) :
    Calls Tryz.prog 263 #[.slice p 0 cap, fv] w fun e w' => e = .returned (.tuple #[]) ∧ w' = w := AnyF.slices_SortFunc_none Tryz.laysSlF06_f263 p cap fv w
open Go.RowKit Go.Lib Go.Sort in

theorem Tryz.slices_SortFunc_total {α : Type} [Inhabited α] (enc : α → Value) (h1 : OneCell enc) (cf : α → α → Int) (hO : SWO (ltOf cf)) (g : Nat) (cb : Array Value) (blk off cap : Nat) (d : Array α) (w : World) (eg : ∀ args w, (callFunc g args).run Tryz.prog w = .ok (.enter g args) w) (hcmp : CmpLays1 Tryz.prog g cb enc cf blk off d.size w) (hH : Holds enc w blk off d) (hblk : blk < w.heap.size) (hsz : d.size < 4611686018427387904) (hT : ∀ x y, (ltOf cf) x y = false → (ltOf cf) y x = false → x = y) :
    Calls Tryz.prog 263 #[.slice (some ⟨blk, off, none⟩) d.size cap, .func (.func g) #[] cb] w fun e w' =>
      e = .returned (.tuple #[]) ∧ ∃ n os, w' = sortWorld enc w blk off n (d.toList.mergeSort fun x y => !(ltOf cf) y x).toArray os := Any.slices_SortFunc_total Tryz.laysSlF6_f263 enc h1 cf hO g cb blk off cap d w eg hcmp hH hblk hsz hT
def Tryz.laysSlF06_f94_ren : Go.Shelf.Ren := ⟨fun | 6 => 94 | 15 => 145 | 14 => 144 | 28 => 196 | 29 => 197 | 20 => 188 | 21 => 189 | 22 => 190 | 23 => 191 | 24 => 192 | 25 => 193 | 26 => 194 | 27 => 195 | 46 => 225 | 47 => 226 | 48 => 227 | 49 => 228 | 50 => 229 | 57 => 256 | n => n, fun | 22 => 101 | 24 => 143 | 25 => 196 | 3 => 3 | 39 => 259 | 0 => 0 | 53 => 315 | 55 => 317 | 4 => 4 | 46 => 309 | 45 => 308 | 50 => 82 | 5 => 5 | 9 => 9 | 66 => 345 | 70 => 349 | 76 => 379 | 77 => 254 | n => n, fun | n => n⟩
theorem Tryz.laysSlF06_f94 : Go.Proofs.SlLaysF0.n6 Tryz.prog Tryz.laysSlF06_f94_ren := {
  mixed := by kernel_rfl
  f6 := ⟨Tryz.f94.name, by decide, Tryz.func94.trans (congrArg some (by kernel_rfl))⟩
  f14 := ⟨Tryz.f144.name, by decide, Tryz.func144.trans (congrArg some (by kernel_rfl))⟩
  f15 := Tryz.func145.trans (congrArg some (by kernel_rfl))
  f20 := ⟨Tryz.f188.name, by decide, Tryz.func188.trans (congrArg some (by kernel_rfl))⟩
  f21 := ⟨Tryz.f189.name, by decide, Tryz.func189.trans (congrArg some (by kernel_rfl))⟩
  f22 := ⟨Tryz.f190.name, by decide, Tryz.func190.trans (congrArg some (by kernel_rfl))⟩
  f23 := ⟨Tryz.f191.name, by decide, Tryz.func191.trans (congrArg some (by kernel_rfl))⟩
  f24 := ⟨Tryz.f192.name, by decide, Tryz.func192.trans (congrArg some (by kernel_rfl))⟩
  f25 := ⟨Tryz.f193.name, by decide, Tryz.func193.trans (congrArg some (by kernel_rfl))⟩
  f26 := ⟨Tryz.f194.name, by decide, Tryz.func194.trans (congrArg some (by kernel_rfl))⟩
  f27 := ⟨Tryz.f195.name, by decide, Tryz.func195.trans (congrArg some (by kernel_rfl))⟩
  f28 := Tryz.func196.trans (congrArg some (by kernel_rfl))
  f29 := Tryz.func197.trans (congrArg some (by kernel_rfl))
  f46 := ⟨Tryz.f225.name, by decide, Tryz.func225.trans (congrArg some (by kernel_rfl))⟩
  f47 := Tryz.func226.trans (congrArg some (by kernel_rfl))
  f48 := Tryz.func227.trans (congrArg some (by kernel_rfl))
  f49 := ⟨Tryz.f228.name, by decide, Tryz.func228.trans (congrArg some (by kernel_rfl))⟩
  f50 := ⟨Tryz.f229.name, by decide, Tryz.func229.trans (congrArg some (by kernel_rfl))⟩
  f57 := ⟨Tryz.f256.name, by decide, Tryz.func256.trans (congrArg some (by kernel_rfl))⟩
  t0 := Tryz.underlying0
  a0 := Tryz.isAgg0
  z0 := Tryz.sizeOf0
  v0 := Tryz.zeroValue0
  t3 := Tryz.underlying3
  a3 := Tryz.isAgg3
  z3 := Tryz.sizeOf3
  v3 := Tryz.zeroValue3
  t4 := Tryz.underlying4
  a4 := Tryz.isAgg4
  z4 := Tryz.sizeOf4
  v4 := Tryz.zeroValue4
  t5 := Tryz.underlying5
  a5 := Tryz.isAgg5
  z5 := Tryz.sizeOf5
  v5 := Tryz.zeroValue5
  t9 := Tryz.underlying9
  a9 := Tryz.isAgg9
  z9 := Tryz.sizeOf9
  v9 := Tryz.zeroValue9
  t22 := Tryz.underlying101
  a22 := Tryz.isAgg101
  z22 := Tryz.sizeOf101
  v22 := Tryz.zeroValue101
  t25 := Tryz.underlying196
  a25 := Tryz.isAgg196
  z25 := Tryz.sizeOf196
  v25 := Tryz.zeroValue196
  t39 := Tryz.underlying259
  a39 := Tryz.isAgg259
  z39 := Tryz.sizeOf259
  v39 := Tryz.zeroValue259
  t45 := Tryz.underlying308
  a45 := Tryz.isAgg308
  z45 := Tryz.sizeOf308
  v45 := Tryz.zeroValue308
  t46 := Tryz.underlying309
  a46 := Tryz.isAgg309
  z46 := Tryz.sizeOf309
  v46 := Tryz.zeroValue309
  t50 := Tryz.underlying82
  a50 := Tryz.isAgg82
  z50 := Tryz.sizeOf82
  v50 := Tryz.zeroValue82
  t53 := Tryz.underlying315
  a53 := Tryz.isAgg315
  z53 := Tryz.sizeOf315
  v53 := Tryz.zeroValue315
  t55 := Tryz.underlying317
  a55 := Tryz.isAgg317
  z55 := Tryz.sizeOf317
  v55 := Tryz.zeroValue317
  t66 := Tryz.underlying345
  a66 := Tryz.isAgg345
  z66 := Tryz.sizeOf345
  v66 := Tryz.zeroValue345
  t70 := Tryz.underlying349
  a70 := Tryz.isAgg349
  z70 := Tryz.sizeOf349
  v70 := Tryz.zeroValue349
  t76 := Tryz.underlying379
  a76 := Tryz.isAgg379
  z76 := Tryz.sizeOf379
  v76 := Tryz.zeroValue379
  t77 := Tryz.underlying254
  a77 := Tryz.isAgg254
  z77 := Tryz.sizeOf254
  v77 := Tryz.zeroValue254 }
open Go.RowKit Go.Lib Go.Sort in
theorem Tryz.slices_SortFunc_noneE {α : Type} [Inhabited α] (p : Option Addr) (cap : Nat) (fv : Value) (w : World) :
    Calls Tryz.prog 94 #[.slice p 0 cap, fv] w fun e w' => e = .returned (.tuple #[]) ∧ w' = w := AnyF.slices_SortFunc_none Tryz.laysSlF06_f94 p cap fv w
open Go.RowKit Go.Lib Go.Sort in
theorem Tryz.slices_SortFunc_totalE {α : Type} [Inhabited α] (enc : α → List Value) (hk : ∀ x, (enc x).length = 2) (h1 : ∀ x, ∀ v ∈ enc x, v.oneCell' = true) (cf : α → α → Int) (hO : SWO (ltOf cf)) (g : Nat) (cb : Array Value) (blk off cap : Nat) (d : Array α) (w : World) (eg : ∀ args w, (callFunc g args).run Tryz.prog w = .ok (.enter g args) w) (hcmp : CmpLays Tryz.prog g cb enc 2 cf blk off d.size w) (hH : HoldsK enc 2 w blk off d) (hblk : blk < w.heap.size) (hsz : d.size < 4611686018427387904) (hT : ∀ x y, (ltOf cf) x y = false → (ltOf cf) y x = false → x = y) :
    Calls Tryz.prog 94 #[.slice (some ⟨blk, off, none⟩) d.size cap, .func (.func g) #[] cb] w fun e w' =>
      e = .returned (.tuple #[]) ∧ ∃ n os, w' = sortWorldK enc 2 w blk off n (d.toList.mergeSort fun x y => !(ltOf cf) y x).toArray os := AnyQ.slices_SortFunc_total Tryz.laysSlF06_f94 2 Tryz.isAgg143 Tryz.sizeOf143 enc hk h1 cf hO g cb blk off cap d w eg hcmp hH hblk hsz hT
end Go.Proofs
