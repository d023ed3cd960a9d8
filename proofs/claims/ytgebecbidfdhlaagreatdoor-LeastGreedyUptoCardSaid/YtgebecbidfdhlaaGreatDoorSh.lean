/- The library's contracts, laid at this dump. -/
import Derived.Shelf.Small.Wraps
import Derived.Shelf.Sort.Plain
import Derived.Shelf.Slices.In.SortNone
import Derived.Ground.SlgcProg
import Derived.Shelf.SlicesG.Cmp
import Derived.Ground.SlsfProg
import Derived.Shelf.SlSortCmp.NoneTotal
import Derived.Test.YtgebecbidfdhlaaGreatDoorProg
namespace Go.Proofs
open Go.Shelf
def Tryz.lays122_ren : Go.Shelf.Ren := ⟨fun | 122 => 50 | 215 => 91 | n => n, fun | 3 => 3 | 4 => 4 | n => n, fun | n => n⟩
theorem Tryz.lays122 : Go.Proofs.Lays.n122 Tryz.prog Tryz.lays122_ren := {
  mixed := by kernel_rfl
  f122 := Tryz.func50.trans (congrArg some (by kernel_rfl))
  f215 := Tryz.func91.trans (congrArg some (by kernel_rfl))
  t3 := Tryz.underlying3
  a3 := Tryz.isAgg3
  z3 := Tryz.sizeOf3
  v3 := Tryz.zeroValue3
  t4 := Tryz.underlying4
  a4 := Tryz.isAgg4
  z4 := Tryz.sizeOf4
  v4 := Tryz.zeroValue4 }
open Go.RowKit in

theorem Tryz.cmp_Compare_int (x y : Int) (w : World) :
    Calls Tryz.prog 50 #[.int .i64 x, .int .i64 y] w fun e w' => e = .returned (.int .i64 (Lib.compareInt x y)) ∧ w' = w := Any.cmp_Compare_int Tryz.lays122 x y w
def Tryz.lays189_ren : Go.Shelf.Ren := ⟨fun | 189 => 203 | 125 => 137 | 257 => 236 | 128 => 179 | 129 => 180 | 294 => 251 | 295 => 252 | 296 => 253 | 297 => 254 | 298 => 255 | 299 => 256 | 216 => 257 | 300 => 258 | 301 => 259 | 328 => 268 | 329 => 214 | 330 => 215 | 331 => 269 | 332 => 270 | 215 => 91 | 343 => 275 | n => n, fun | 28 => 83 | 3 => 3 | 46 => 240 | 0 => 0 | 51 => 286 | 53 => 288 | 4 => 4 | 183 => 280 | 182 => 279 | 131 => 123 | 5 => 5 | 9 => 9 | 218 => 324 | 222 => 328 | 228 => 352 | 229 => 242 | n => n, fun | n => n⟩
theorem Tryz.lays189 : Go.Proofs.Lays.n189 Tryz.prog Tryz.lays189_ren := {
  mixed := by kernel_rfl
  f125 := Tryz.func137.trans (congrArg some (by kernel_rfl))
  f128 := Tryz.func179.trans (congrArg some (by kernel_rfl))
  f129 := Tryz.func180.trans (congrArg some (by kernel_rfl))
  f189 := Tryz.func203.trans (congrArg some (by kernel_rfl))
  f215 := Tryz.func91.trans (congrArg some (by kernel_rfl))
  f216 := Tryz.func257.trans (congrArg some (by kernel_rfl))
  f257 := Tryz.func236.trans (congrArg some (by kernel_rfl))
  f294 := Tryz.func251.trans (congrArg some (by kernel_rfl))
  f295 := Tryz.func252.trans (congrArg some (by kernel_rfl))
  f296 := Tryz.func253.trans (congrArg some (by kernel_rfl))
  f297 := Tryz.func254.trans (congrArg some (by kernel_rfl))
  f298 := Tryz.func255.trans (congrArg some (by kernel_rfl))
  f299 := Tryz.func256.trans (congrArg some (by kernel_rfl))
  f300 := Tryz.func258.trans (congrArg some (by kernel_rfl))
  f301 := Tryz.func259.trans (congrArg some (by kernel_rfl))
  f328 := Tryz.func268.trans (congrArg some (by kernel_rfl))
  f329 := Tryz.func214.trans (congrArg some (by kernel_rfl))
  f330 := Tryz.func215.trans (congrArg some (by kernel_rfl))
  f331 := Tryz.func269.trans (congrArg some (by kernel_rfl))
  f332 := Tryz.func270.trans (congrArg some (by kernel_rfl))
  f343 := Tryz.func275.trans (congrArg some (by kernel_rfl))
  t0 := Tryz.underlying0
  a0 := Tryz.isAgg0
  z0 := Tryz.sizeOf0
  v0 := Tryz.zeroValue0
  t3 := Tryz.underlying3
  a3 := Tryz.isAgg3
  z3 := Tryz.sizeOf3
  v3 := Tryz.zeroValue3
  t4 := Tryz.underlying4
  a4 := Tryz.isAgg4
  z4 := Tryz.sizeOf4
  v4 := Tryz.zeroValue4
  t5 := Tryz.underlying5
  a5 := Tryz.isAgg5
  z5 := Tryz.sizeOf5
  v5 := Tryz.zeroValue5
  t9 := Tryz.underlying9
  a9 := Tryz.isAgg9
  z9 := Tryz.sizeOf9
  v9 := Tryz.zeroValue9
  t28 := Tryz.underlying83
  a28 := Tryz.isAgg83
  z28 := Tryz.sizeOf83
  v28 := Tryz.zeroValue83
  t46 := Tryz.underlying240
  a46 := Tryz.isAgg240
  z46 := Tryz.sizeOf240
  v46 := Tryz.zeroValue240
  t51 := Tryz.underlying286
  a51 := Tryz.isAgg286
  z51 := Tryz.sizeOf286
  v51 := Tryz.zeroValue286
  t53 := Tryz.underlying288
  a53 := Tryz.isAgg288
  z53 := Tryz.sizeOf288
  v53 := Tryz.zeroValue288
  t131 := Tryz.underlying123
  a131 := Tryz.isAgg123
  z131 := Tryz.sizeOf123
  v131 := Tryz.zeroValue123
  t182 := Tryz.underlying279
  a182 := Tryz.isAgg279
  z182 := Tryz.sizeOf279
  v182 := Tryz.zeroValue279
  t183 := Tryz.underlying280
  a183 := Tryz.isAgg280
  z183 := Tryz.sizeOf280
  v183 := Tryz.zeroValue280
  t218 := Tryz.underlying324
  a218 := Tryz.isAgg324
  z218 := Tryz.sizeOf324
  v218 := Tryz.zeroValue324
  t222 := Tryz.underlying328
  a222 := Tryz.isAgg328
  z222 := Tryz.sizeOf328
  v222 := Tryz.zeroValue328
  t228 := Tryz.underlying352
  a228 := Tryz.isAgg352
  z228 := Tryz.sizeOf352
  v228 := Tryz.zeroValue352
  t229 := Tryz.underlying242
  a229 := Tryz.isAgg242
  z229 := Tryz.sizeOf242
  v229 := Tryz.zeroValue242 }
open Go.Sort Go.RowKit in
theorem Tryz.slices_Sort_int (blk off cap : Nat) (zs : List Int) (w : World) (hH : Holds (Value.int .i64) w blk off zs.toArray) (hblk : blk < w.heap.size) (hsz : zs.length < 4611686018427387904) :
    Calls Tryz.prog 203 #[.slice (some ⟨blk, off, none⟩) zs.length cap] w fun e w' =>
      e = .returned (.tuple #[]) ∧ ∃ n os, w' = grow (putRow (Value.int .i64) (Sort.ahead w n) blk off (zs.mergeSort fun x y => decide (x ≤ y)).toArray) os := Any.slices_Sort_int Tryz.lays189 blk off cap zs w hH hblk hsz
open Go.RowKit Go.Sort in

theorem Tryz.slices_Sort_int_none (p : Option Addr) (cap : Nat) (w : World) :
    Calls Tryz.prog 203 #[.slice p 0 cap] w fun e w' => e = .returned (.tuple #[]) ∧ w' = w := Any.slices_Sort_int_none Tryz.lays189 p cap w
def Tryz.laysSlF6_f266_ren : Go.Shelf.Ren := ⟨fun | 6 => 266 | 15 => 137 | 14 => 274 | 28 => 179 | 29 => 180 | 20 => 277 | 21 => 278 | 22 => 279 | 23 => 280 | 24 => 281 | 25 => 282 | 26 => 283 | 27 => 284 | 46 => 285 | 47 => 214 | 48 => 215 | 49 => 286 | 50 => 287 | 57 => 288 | n => n, fun | 22 => 83 | 24 => 3 | 25 => 144 | 3 => 3 | 39 => 240 | 0 => 0 | 53 => 286 | 55 => 288 | 4 => 4 | 46 => 280 | 45 => 279 | 50 => 123 | 5 => 5 | 9 => 9 | 66 => 324 | 70 => 328 | 76 => 352 | 77 => 242 | n => n, fun | n => n⟩
theorem Tryz.laysSlF6_f266 : Go.Proofs.SlLaysF.n6 Tryz.prog Tryz.laysSlF6_f266_ren := {
  mixed := by kernel_rfl
  f6 := ⟨Tryz.f266.name, by decide, Tryz.func266.trans (congrArg some (by kernel_rfl))⟩
  f14 := ⟨Tryz.f274.name, by decide, Tryz.func274.trans (congrArg some (by kernel_rfl))⟩
  f15 := Tryz.func137.trans (congrArg some (by kernel_rfl))
  f20 := ⟨Tryz.f277.name, by decide, Tryz.func277.trans (congrArg some (by kernel_rfl))⟩
  f21 := ⟨Tryz.f278.name, by decide, Tryz.func278.trans (congrArg some (by kernel_rfl))⟩
  f22 := ⟨Tryz.f279.name, by decide, Tryz.func279.trans (congrArg some (by kernel_rfl))⟩
  f23 := ⟨Tryz.f280.name, by decide, Tryz.func280.trans (congrArg some (by kernel_rfl))⟩
  f24 := ⟨Tryz.f281.name, by decide, Tryz.func281.trans (congrArg some (by kernel_rfl))⟩
  f25 := ⟨Tryz.f282.name, by decide, Tryz.func282.trans (congrArg some (by kernel_rfl))⟩
  f26 := ⟨Tryz.f283.name, by decide, Tryz.func283.trans (congrArg some (by kernel_rfl))⟩
  f27 := ⟨Tryz.f284.name, by decide, Tryz.func284.trans (congrArg some (by kernel_rfl))⟩
  f28 := Tryz.func179.trans (congrArg some (by kernel_rfl))
  f29 := Tryz.func180.trans (congrArg some (by kernel_rfl))
  f46 := ⟨Tryz.f285.name, by decide, Tryz.func285.trans (congrArg some (by kernel_rfl))⟩
  f47 := Tryz.func214.trans (congrArg some (by kernel_rfl))
  f48 := Tryz.func215.trans (congrArg some (by kernel_rfl))
  f49 := ⟨Tryz.f286.name, by decide, Tryz.func286.trans (congrArg some (by kernel_rfl))⟩
  f50 := ⟨Tryz.f287.name, by decide, Tryz.func287.trans (congrArg some (by kernel_rfl))⟩
  f57 := ⟨Tryz.f288.name, by decide, Tryz.func288.trans (congrArg some (by kernel_rfl))⟩
  t0 := Tryz.underlying0
  a0 := Tryz.isAgg0
  z0 := Tryz.sizeOf0
  v0 := Tryz.zeroValue0
  t3 := Tryz.underlying3
  a3 := Tryz.isAgg3
  z3 := Tryz.sizeOf3
  v3 := Tryz.zeroValue3
  t4 := Tryz.underlying4
  a4 := Tryz.isAgg4
  z4 := Tryz.sizeOf4
  v4 := Tryz.zeroValue4
  t5 := Tryz.underlying5
  a5 := Tryz.isAgg5
  z5 := Tryz.sizeOf5
  v5 := Tryz.zeroValue5
  t9 := Tryz.underlying9
  a9 := Tryz.isAgg9
  z9 := Tryz.sizeOf9
  v9 := Tryz.zeroValue9
  t22 := Tryz.underlying83
  a22 := Tryz.isAgg83
  z22 := Tryz.sizeOf83
  v22 := Tryz.zeroValue83
  a24 := Tryz.isAgg3
  z24 := Tryz.sizeOf3
  t25 := Tryz.underlying144
  a25 := Tryz.isAgg144
  z25 := Tryz.sizeOf144
  v25 := Tryz.zeroValue144
  t39 := Tryz.underlying240
  a39 := Tryz.isAgg240
  z39 := Tryz.sizeOf240
  v39 := Tryz.zeroValue240
  t45 := Tryz.underlying279
  a45 := Tryz.isAgg279
  z45 := Tryz.sizeOf279
  v45 := Tryz.zeroValue279
  t46 := Tryz.underlying280
  a46 := Tryz.isAgg280
  z46 := Tryz.sizeOf280
  v46 := Tryz.zeroValue280
  t50 := Tryz.underlying123
  a50 := Tryz.isAgg123
  z50 := Tryz.sizeOf123
  v50 := Tryz.zeroValue123
  t53 := Tryz.underlying286
  a53 := Tryz.isAgg286
  z53 := Tryz.sizeOf286
  v53 := Tryz.zeroValue286
  t55 := Tryz.underlying288
  a55 := Tryz.isAgg288
  z55 := Tryz.sizeOf288
  v55 := Tryz.zeroValue288
  t66 := Tryz.underlying324
  a66 := Tryz.isAgg324
  z66 := Tryz.sizeOf324
  v66 := Tryz.zeroValue324
  t70 := Tryz.underlying328
  a70 := Tryz.isAgg328
  z70 := Tryz.sizeOf328
  v70 := Tryz.zeroValue328
  t76 := Tryz.underlying352
  a76 := Tryz.isAgg352
  z76 := Tryz.sizeOf352
  v76 := Tryz.zeroValue352
  t77 := Tryz.underlying242
  a77 := Tryz.isAgg242
  z77 := Tryz.sizeOf242
  v77 := Tryz.zeroValue242 }
def Tryz.laysSlF06_f266_ren : Go.Shelf.Ren := ⟨fun | 6 => 266 | 15 => 137 | 14 => 274 | 28 => 179 | 29 => 180 | 20 => 277 | 21 => 278 | 22 => 279 | 23 => 280 | 24 => 281 | 25 => 282 | 26 => 283 | 27 => 284 | 46 => 285 | 47 => 214 | 48 => 215 | 49 => 286 | 50 => 287 | 57 => 288 | n => n, fun | 22 => 83 | 24 => 3 | 25 => 144 | 3 => 3 | 39 => 240 | 0 => 0 | 53 => 286 | 55 => 288 | 4 => 4 | 46 => 280 | 45 => 279 | 50 => 123 | 5 => 5 | 9 => 9 | 66 => 324 | 70 => 328 | 76 => 352 | 77 => 242 | n => n, fun | n => n⟩
theorem Tryz.laysSlF06_f266 : Go.Proofs.SlLaysF0.n6 Tryz.prog Tryz.laysSlF06_f266_ren := {
  mixed := by kernel_rfl
  f6 := ⟨Tryz.f266.name, by decide, Tryz.func266.trans (congrArg some (by kernel_rfl))⟩
  f14 := ⟨Tryz.f274.name, by decide, Tryz.func274.trans (congrArg some (by kernel_rfl))⟩
  f15 := Tryz.func137.trans (congrArg some (by kernel_rfl))
  f20 := ⟨Tryz.f277.name, by decide, Tryz.func277.trans (congrArg some (by kernel_rfl))⟩
  f21 := ⟨Tryz.f278.name, by decide, Tryz.func278.trans (congrArg some (by kernel_rfl))⟩
  f22 := ⟨Tryz.f279.name, by decide, Tryz.func279.trans (congrArg some (by kernel_rfl))⟩
  f23 := ⟨Tryz.f280.name, by decide, Tryz.func280.trans (congrArg some (by kernel_rfl))⟩
  f24 := ⟨Tryz.f281.name, by decide, Tryz.func281.trans (congrArg some (by kernel_rfl))⟩
  f25 := ⟨Tryz.f282.name, by decide, Tryz.func282.trans (congrArg some (by kernel_rfl))⟩
  f26 := ⟨Tryz.f283.name, by decide, Tryz.func283.trans (congrArg some (by kernel_rfl))⟩
  f27 := ⟨Tryz.f284.name, by decide, Tryz.func284.trans (congrArg some (by kernel_rfl))⟩
  f28 := Tryz.func179.trans (congrArg some (by kernel_rfl))
  f29 := Tryz.func180.trans (congrArg some (by kernel_rfl))
  f46 := ⟨Tryz.f285.name, by decide, Tryz.func285.trans (congrArg some (by kernel_rfl))⟩
  f47 := Tryz.func214.trans (congrArg some (by kernel_rfl))
  f48 := Tryz.func215.trans (congrArg some (by kernel_rfl))
  f49 := ⟨Tryz.f286.name, by decide, Tryz.func286.trans (congrArg some (by kernel_rfl))⟩
  f50 := ⟨Tryz.f287.name, by decide, Tryz.func287.trans (congrArg some (by kernel_rfl))⟩
  f57 := ⟨Tryz.f288.name, by decide, Tryz.func288.trans (congrArg some (by kernel_rfl))⟩
  t0 := Tryz.underlying0
  a0 := Tryz.isAgg0
  z0 := Tryz.sizeOf0
  v0 := Tryz.zeroValue0
  t3 := Tryz.underlying3
  a3 := Tryz.isAgg3
  z3 := Tryz.sizeOf3
  v3 := Tryz.zeroValue3
  t4 := Tryz.underlying4
  a4 := Tryz.isAgg4
  z4 := Tryz.sizeOf4
  v4 := Tryz.zeroValue4
  t5 := Tryz.underlying5
  a5 := Tryz.isAgg5
  z5 := Tryz.sizeOf5
  v5 := Tryz.zeroValue5
  t9 := Tryz.underlying9
  a9 := Tryz.isAgg9
  z9 := Tryz.sizeOf9
  v9 := Tryz.zeroValue9
  t22 := Tryz.underlying83
  a22 := Tryz.isAgg83
  z22 := Tryz.sizeOf83
  v22 := Tryz.zeroValue83
  t25 := Tryz.underlying144
  a25 := Tryz.isAgg144
  z25 := Tryz.sizeOf144
  v25 := Tryz.zeroValue144
  t39 := Tryz.underlying240
  a39 := Tryz.isAgg240
  z39 := Tryz.sizeOf240
  v39 := Tryz.zeroValue240
  t45 := Tryz.underlying279
  a45 := Tryz.isAgg279
  z45 := Tryz.sizeOf279
  v45 := Tryz.zeroValue279
  t46 := Tryz.underlying280
  a46 := Tryz.isAgg280
  z46 := Tryz.sizeOf280
  v46 := Tryz.zeroValue280
  t50 := Tryz.underlying123
  a50 := Tryz.isAgg123
  z50 := Tryz.sizeOf123
  v50 := Tryz.zeroValue123
  t53 := Tryz.underlying286
  a53 := Tryz.isAgg286
  z53 := Tryz.sizeOf286
  v53 := Tryz.zeroValue286
  t55 := Tryz.underlying288
  a55 := Tryz.isAgg288
  z55 := Tryz.sizeOf288
  v55 := Tryz.zeroValue288
  t66 := Tryz.underlying324
  a66 := Tryz.isAgg324
  z66 := Tryz.sizeOf324
  v66 := Tryz.zeroValue324
  t70 := Tryz.underlying328
  a70 := Tryz.isAgg328
  z70 := Tryz.sizeOf328
  v70 := Tryz.zeroValue328
  t76 := Tryz.underlying352
  a76 := Tryz.isAgg352
  z76 := Tryz.sizeOf352
  v76 := Tryz.zeroValue352
  t77 := Tryz.underlying242
  a77 := Tryz.isAgg242
  z77 := Tryz.sizeOf242
  v77 := Tryz.zeroValue242 }
open Go.RowKit Go.Lib Go.Sort in

theorem Tryz.slices_SortFunc_none {α : Type} [Inhabited α] (p : Option Addr) (cap : Nat) (fv : Value) (w : World) :
    Calls Tryz.prog 266 #[.slice p 0 cap, fv] w fun e w' => e = .returned (.tuple #[]) ∧ w' = w := AnyF.slices_SortFunc_none Tryz.laysSlF06_f266 p cap fv w
open Go.RowKit Go.Lib Go.Sort in

theorem Tryz.slices_SortFunc_total {α : Type} [Inhabited α] (enc : α → Value) (h1 : OneCell enc) (cf : α → α → Int) (hO : SWO (ltOf cf)) (g : Nat) (cb : Array Value) (blk off cap : Nat) (d : Array α) (w : World) (eg : ∀ args w, (callFunc g args).run Tryz.prog w = .ok (.enter g args) w) (hcmp : CmpLays1 Tryz.prog g cb enc cf blk off d.size w) (hH : Holds enc w blk off d) (hblk : blk < w.heap.size) (hsz : d.size < 4611686018427387904) (hT : ∀ x y, (ltOf cf) x y = false → (ltOf cf) y x = false → x = y) :
    Calls Tryz.prog 266 #[.slice (some ⟨blk, off, none⟩) d.size cap, .func (.func g) #[] cb] w fun e w' =>
      e = .returned (.tuple #[]) ∧ ∃ n os, w' = sortWorld enc w blk off n (d.toList.mergeSort fun x y => !(ltOf cf) y x).toArray os := Any.slices_SortFunc_total Tryz.laysSlF6_f266 enc h1 cf hO g cb blk off cap d w eg hcmp hH hblk hsz hT
def Tryz.laysSlF06_f86_ren : Go.Shelf.Ren := ⟨fun | 6 => 86 | 15 => 137 | 14 => 136 | 28 => 179 | 29 => 180 | 20 => 171 | 21 => 172 | 22 => 173 | 23 => 174 | 24 => 175 | 25 => 176 | 26 => 177 | 27 => 178 | 46 => 213 | 47 => 214 | 48 => 215 | 49 => 216 | 50 => 217 | 57 => 242 | n => n, fun | 22 => 41 | 24 => 44 | 25 => 196 | 3 => 3 | 39 => 240 | 0 => 0 | 53 => 286 | 55 => 288 | 4 => 4 | 46 => 280 | 45 => 279 | 50 => 123 | 5 => 5 | 9 => 9 | 66 => 324 | 70 => 328 | 76 => 352 | 77 => 242 | n => n, fun | n => n⟩
theorem Tryz.laysSlF06_f86 : Go.Proofs.SlLaysF0.n6 Tryz.prog Tryz.laysSlF06_f86_ren := {
  mixed := by kernel_rfl
  f6 := ⟨Tryz.f86.name, by decide, Tryz.func86.trans (congrArg some (by kernel_rfl))⟩
  f14 := ⟨Tryz.f136.name, by decide, Tryz.func136.trans (congrArg some (by kernel_rfl))⟩
  f15 := Tryz.func137.trans (congrArg some (by kernel_rfl))
  f20 := ⟨Tryz.f171.name, by decide, Tryz.func171.trans (congrArg some (by kernel_rfl))⟩
  f21 := ⟨Tryz.f172.name, by decide, Tryz.func172.trans (congrArg some (by kernel_rfl))⟩
  f22 := ⟨Tryz.f173.name, by decide, Tryz.func173.trans (congrArg some (by kernel_rfl))⟩
  f23 := ⟨Tryz.f174.name, by decide, Tryz.func174.trans (congrArg some (by kernel_rfl))⟩
  f24 := ⟨Tryz.f175.name, by decide, Tryz.func175.trans (congrArg some (by kernel_rfl))⟩
  f25 := ⟨Tryz.f176.name, by decide, Tryz.func176.trans (congrArg some (by kernel_rfl))⟩
  f26 := ⟨Tryz.f177.name, by decide, Tryz.func177.trans (congrArg some (by kernel_rfl))⟩
  f27 := ⟨Tryz.f178.name, by decide, Tryz.func178.trans (congrArg some (by kernel_rfl))⟩
  f28 := Tryz.func179.trans (congrArg some (by kernel_rfl))
  f29 := Tryz.func180.trans (congrArg some (by kernel_rfl))
  f46 := ⟨Tryz.f213.name, by decide, Tryz.func213.trans (congrArg some (by kernel_rfl))⟩
  f47 := Tryz.func214.trans (congrArg some (by kernel_rfl))
  f48 := Tryz.func215.trans (congrArg some (by kernel_rfl))
  f49 := ⟨Tryz.f216.name, by decide, Tryz.func216.trans (congrArg some (by kernel_rfl))⟩
  f50 := ⟨Tryz.f217.name, by decide, Tryz.func217.trans (congrArg some (by kernel_rfl))⟩
  f57 := ⟨Tryz.f242.name, by decide, Tryz.func242.trans (congrArg some (by kernel_rfl))⟩
  t0 := Tryz.underlying0
  a0 := Tryz.isAgg0
  z0 := Tryz.sizeOf0
  v0 := Tryz.zeroValue0
  t3 := Tryz.underlying3
  a3 := Tryz.isAgg3
  z3 := Tryz.sizeOf3
  v3 := Tryz.zeroValue3
  t4 := Tryz.underlying4
  a4 := Tryz.isAgg4
  z4 := Tryz.sizeOf4
  v4 := Tryz.zeroValue4
  t5 := Tryz.underlying5
  a5 := Tryz.isAgg5
  z5 := Tryz.sizeOf5
  v5 := Tryz.zeroValue5
  t9 := Tryz.underlying9
  a9 := Tryz.isAgg9
  z9 := Tryz.sizeOf9
  v9 := Tryz.zeroValue9
  t22 := Tryz.underlying41
  a22 := Tryz.isAgg41
  z22 := Tryz.sizeOf41
  v22 := Tryz.zeroValue41
  t25 := Tryz.underlying196
  a25 := Tryz.isAgg196
  z25 := Tryz.sizeOf196
  v25 := Tryz.zeroValue196
  t39 := Tryz.underlying240
  a39 := Tryz.isAgg240
  z39 := Tryz.sizeOf240
  v39 := Tryz.zeroValue240
  t45 := Tryz.underlying279
  a45 := Tryz.isAgg279
  z45 := Tryz.sizeOf279
  v45 := Tryz.zeroValue279
  t46 := Tryz.underlying280
  a46 := Tryz.isAgg280
  z46 := Tryz.sizeOf280
  v46 := Tryz.zeroValue280
  t50 := Tryz.underlying123
  a50 := Tryz.isAgg123
  z50 := Tryz.sizeOf123
  v50 := Tryz.zeroValue123
  t53 := Tryz.underlying286
  a53 := Tryz.isAgg286
  z53 := Tryz.sizeOf286
  v53 := Tryz.zeroValue286
  t55 := Tryz.underlying288
  a55 := Tryz.isAgg288
  z55 := Tryz.sizeOf288
  v55 := Tryz.zeroValue288
  t66 := Tryz.underlying324
  a66 := Tryz.isAgg324
  z66 := Tryz.sizeOf324
  v66 := Tryz.zeroValue324
  t70 := Tryz.underlying328
  a70 := Tryz.isAgg328
  z70 := Tryz.sizeOf328
  v70 := Tryz.zeroValue328
  t76 := Tryz.underlying352
  a76 := Tryz.isAgg352
  z76 := Tryz.sizeOf352
  v76 := Tryz.zeroValue352
  t77 := Tryz.underlying242
  a77 := Tryz.isAgg242
  z77 := Tryz.sizeOf242
  v77 := Tryz.zeroValue242 }
open Go.RowKit Go.Lib Go.Sort in
theorem Tryz.slices_SortFunc_noneE {α : Type} [Inhabited α] (p : Option Addr) (cap : Nat) (fv : Value) (w : World) :
    Calls Tryz.prog 86 #[.slice p 0 cap, fv] w fun e w' => e = .returned (.tuple #[]) ∧ w' = w := AnyF.slices_SortFunc_none Tryz.laysSlF06_f86 p cap fv w
open Go.RowKit Go.Lib Go.Sort in
theorem Tryz.slices_SortFunc_totalE {α : Type} [Inhabited α] (enc : α → List Value) (hk : ∀ x, (enc x).length = 2) (h1 : ∀ x, ∀ v ∈ enc x, v.oneCell' = true) (cf : α → α → Int) (hO : SWO (ltOf cf)) (g : Nat) (cb : Array Value) (blk off cap : Nat) (d : Array α) (w : World) (eg : ∀ args w, (callFunc g args).run Tryz.prog w = .ok (.enter g args) w) (hcmp : CmpLays Tryz.prog g cb enc 2 cf blk off d.size w) (hH : HoldsK enc 2 w blk off d) (hblk : blk < w.heap.size) (hsz : d.size < 4611686018427387904) (hT : ∀ x y, (ltOf cf) x y = false → (ltOf cf) y x = false → x = y) :
    Calls Tryz.prog 86 #[.slice (some ⟨blk, off, none⟩) d.size cap, .func (.func g) #[] cb] w fun e w' =>
      e = .returned (.tuple #[]) ∧ ∃ n os, w' = sortWorldK enc 2 w blk off n (d.toList.mergeSort fun x y => !(ltOf cf) y x).toArray os := AnyQ.slices_SortFunc_total Tryz.laysSlF06_f86 2 Tryz.isAgg44 Tryz.sizeOf44 enc hk h1 cf hO g cb blk off cap d w eg hcmp hH hblk hsz hT
end Go.Proofs
