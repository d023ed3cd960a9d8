/- The library's contracts, laid at this dump. -/
import Derived.Shelf.Small.Wraps
import Derived.Shelf.Sort.Plain
import Derived.Shelf.Slices.In.SortNone
import Derived.Ground.SlgcProg
import Derived.Shelf.SlicesG.Cmp
import Derived.Ground.SlsfProg
import Derived.Shelf.SlSortCmp.NoneTotal
import Derived.Test.YteibdjhgbikoaaaGreatDoorProg
namespace Go.Proofs
open Go.Shelf
def Tryz.lays122_ren : Go.Shelf.Ren := ⟨fun | 122 => 93 | 215 => 134 | n => n, fun | 3 => 3 | 4 => 4 | n => n, fun | n => n⟩
theorem Tryz.lays122 : Go.Proofs.Lays.n122 Tryz.prog Tryz.lays122_ren := {
  mixed := by kernel_rfl
  f122 := Tryz.func93.trans (congrArg some (by kernel_rfl))
  f215 := Tryz.func134.trans (congrArg some (by kernel_rfl))
  t3 := Tryz.underlying3
  a3 := Tryz.isAgg3
  z3 := Tryz.sizeOf3
  v3 := Tryz.zeroValue3
  t4 := Tryz.underlying4
  a4 := Tryz.isAgg4
  z4 := Tryz.sizeOf4
  v4 := Tryz.zeroValue4 }
open Go.RowKit in

theorem Tryz.cmp_Compare_int (x y : Int) (w : World) :
    Calls Tryz.prog 93 #[.int .i64 x, .int .i64 y] w fun e w' => e = .returned (.int .i64 (Lib.compareInt x y)) ∧ w' = w := Any.cmp_Compare_int Tryz.lays122 x y w
def Tryz.lays189_ren : Go.Shelf.Ren := ⟨fun | 189 => 203 | 125 => 133 | 257 => 238 | 128 => 179 | 129 => 180 | 294 => 252 | 295 => 253 | 296 => 254 | 297 => 255 | 298 => 256 | 299 => 257 | 216 => 258 | 300 => 259 | 301 => 260 | 328 => 278 | 329 => 218 | 330 => 219 | 331 => 279 | 332 => 280 | 215 => 134 | 343 => 285 | n => n, fun | 28 => 41 | 3 => 3 | 46 => 214 | 0 => 0 | 51 => 267 | 53 => 269 | 4 => 4 | 183 => 261 | 182 => 260 | 131 => 54 | 5 => 5 | 9 => 9 | 218 => 302 | 222 => 306 | 228 => 327 | 229 => 109 | n => n, fun | n => n⟩
theorem Tryz.lays189 : Go.Proofs.Lays.n189 Tryz.prog Tryz.lays189_ren := {
  mixed := by kernel_rfl
  f125 := Tryz.func133.trans (congrArg some (by kernel_rfl))
  f128 := Tryz.func179.trans (congrArg some (by kernel_rfl))
  f129 := Tryz.func180.trans (congrArg some (by kernel_rfl))
  f189 := Tryz.func203.trans (congrArg some (by kernel_rfl))
  f215 := Tryz.func134.trans (congrArg some (by kernel_rfl))
  f216 := Tryz.func258.trans (congrArg some (by kernel_rfl))
  f257 := Tryz.func238.trans (congrArg some (by kernel_rfl))
  f294 := Tryz.func252.trans (congrArg some (by kernel_rfl))
  f295 := Tryz.func253.trans (congrArg some (by kernel_rfl))
  f296 := Tryz.func254.trans (congrArg some (by kernel_rfl))
  f297 := Tryz.func255.trans (congrArg some (by kernel_rfl))
  f298 := Tryz.func256.trans (congrArg some (by kernel_rfl))
  f299 := Tryz.func257.trans (congrArg some (by kernel_rfl))
  f300 := Tryz.func259.trans (congrArg some (by kernel_rfl))
  f301 := Tryz.func260.trans (congrArg some (by kernel_rfl))
  f328 := Tryz.func278.trans (congrArg some (by kernel_rfl))
  f329 := Tryz.func218.trans (congrArg some (by kernel_rfl))
  f330 := Tryz.func219.trans (congrArg some (by kernel_rfl))
  f331 := Tryz.func279.trans (congrArg some (by kernel_rfl))
  f332 := Tryz.func280.trans (congrArg some (by kernel_rfl))
  f343 := Tryz.func285.trans (congrArg some (by kernel_rfl))
  t0 := Tryz.underlying0
  a0 := Tryz.isAgg0
  z0 := Tryz.sizeOf0
  v0 := Tryz.zeroValue0
  t3 := Tryz.underlying3
  a3 := Tryz.isAgg3
  z3 := Tryz.sizeOf3
  v3 := Tryz.zeroValue3
  t4 := Tryz.underlying4
  a4 := Tryz.isAgg4
  z4 := Tryz.sizeOf4
  v4 := Tryz.zeroValue4
  t5 := Tryz.underlying5
  a5 := Tryz.isAgg5
  z5 := Tryz.sizeOf5
  v5 := Tryz.zeroValue5
  t9 := Tryz.underlying9
  a9 := Tryz.isAgg9
  z9 := Tryz.sizeOf9
  v9 := Tryz.zeroValue9
  t28 := Tryz.underlying41
  a28 := Tryz.isAgg41
  z28 := Tryz.sizeOf41
  v28 := Tryz.zeroValue41
  t46 := Tryz.underlying214
  a46 := Tryz.isAgg214
  z46 := Tryz.sizeOf214
  v46 := Tryz.zeroValue214
  t51 := Tryz.underlying267
  a51 := Tryz.isAgg267
  z51 := Tryz.sizeOf267
  v51 := Tryz.zeroValue267
  t53 := Tryz.underlying269
  a53 := Tryz.isAgg269
  z53 := Tryz.sizeOf269
  v53 := Tryz.zeroValue269
  t131 := Tryz.underlying54
  a131 := Tryz.isAgg54
  z131 := Tryz.sizeOf54
  v131 := Tryz.zeroValue54
  t182 := Tryz.underlying260
  a182 := Tryz.isAgg260
  z182 := Tryz.sizeOf260
  v182 := Tryz.zeroValue260
  t183 := Tryz.underlying261
  a183 := Tryz.isAgg261
  z183 := Tryz.sizeOf261
  v183 := Tryz.zeroValue261
  t218 := Tryz.underlying302
  a218 := Tryz.isAgg302
  z218 := Tryz.sizeOf302
  v218 := Tryz.zeroValue302
  t222 := Tryz.underlying306
  a222 := Tryz.isAgg306
  z222 := Tryz.sizeOf306
  v222 := Tryz.zeroValue306
  t228 := Tryz.underlying327
  a228 := Tryz.isAgg327
  z228 := Tryz.sizeOf327
  v228 := Tryz.zeroValue327
  t229 := Tryz.underlying109
  a229 := Tryz.isAgg109
  z229 := Tryz.sizeOf109
  v229 := Tryz.zeroValue109 }
open Go.Sort Go.RowKit in
theorem Tryz.slices_Sort_int (blk off cap : Nat) (zs : List Int) (w : World) (hH : Holds (Value.int .i64) w blk off zs.toArray) (hblk : blk < w.heap.size) (hsz : zs.length < 4611686018427387904) :
    Calls Tryz.prog 203 #[.slice (some ⟨blk, off, none⟩) zs.length cap] w fun e w' =>
      e = .returned (.tuple #[]) ∧ ∃ n os, w' = grow (putRow (Value.int .i64) (Sort.ahead w n) blk off (zs.mergeSort fun x y => decide (x ≤ y)).toArray) os := Any.slices_Sort_int Tryz.lays189 blk off cap zs w hH hblk hsz
open Go.RowKit Go.Sort in

theorem Tryz.slices_Sort_int_none (p : Option Addr) (cap : Nat) (w : World) :
    Calls Tryz.prog 203 #[.slice p 0 cap] w fun e w' => e = .returned (.tuple #[]) ∧ w' = w := Any.slices_Sort_int_none Tryz.lays189 p cap w
def Tryz.laysSlF6_f222_ren : Go.Shelf.Ren := ⟨fun | 6 => 222 | 15 => 133 | 14 => 247 | 28 => 179 | 29 => 180 | 20 => 264 | 21 => 265 | 22 => 266 | 23 => 267 | 24 => 268 | 25 => 269 | 26 => 270 | 27 => 271 | 46 => 281 | 47 => 218 | 48 => 219 | 49 => 282 | 50 => 283 | 57 => 286 | n => n, fun | 22 => 41 | 24 => 3 | 25 => 153 | 3 => 3 | 39 => 214 | 0 => 0 | 53 => 267 | 55 => 269 | 4 => 4 | 46 => 261 | 45 => 260 | 50 => 54 | 5 => 5 | 9 => 9 | 66 => 302 | 70 => 306 | 76 => 327 | 77 => 109 | n => n, fun | n => n⟩
theorem Tryz.laysSlF6_f222 : Go.Proofs.SlLaysF.n6 Tryz.prog Tryz.laysSlF6_f222_ren := {
  mixed := by kernel_rfl
  f6 := ⟨Tryz.f222.name, by decide, Tryz.func222.trans (congrArg some (by kernel_rfl))⟩
  f14 := ⟨Tryz.f247.name, by decide, Tryz.func247.trans (congrArg some (by kernel_rfl))⟩
  f15 := Tryz.func133.trans (congrArg some (by kernel_rfl))
  f20 := ⟨Tryz.f264.name, by decide, Tryz.func264.trans (congrArg some (by kernel_rfl))⟩
  f21 := ⟨Tryz.f265.name, by decide, Tryz.func265.trans (congrArg some (by kernel_rfl))⟩
  f22 := ⟨Tryz.f266.name, by decide, Tryz.func266.trans (congrArg some (by kernel_rfl))⟩
  f23 := ⟨Tryz.f267.name, by decide, Tryz.func267.trans (congrArg some (by kernel_rfl))⟩
  f24 := ⟨Tryz.f268.name, by decide, Tryz.func268.trans (congrArg some (by kernel_rfl))⟩
  f25 := ⟨Tryz.f269.name, by decide, Tryz.func269.trans (congrArg some (by kernel_rfl))⟩
  f26 := ⟨Tryz.f270.name, by decide, Tryz.func270.trans (congrArg some (by kernel_rfl))⟩
  f27 := ⟨Tryz.f271.name, by decide, Tryz.func271.trans (congrArg some (by kernel_rfl))⟩
  f28 := Tryz.func179.trans (congrArg some (by kernel_rfl))
  f29 := Tryz.func180.trans (congrArg some (by kernel_rfl))
  f46 := ⟨Tryz.f281.name, by decide, Tryz.func281.trans (congrArg some (by kernel_rfl))⟩
  f47 := Tryz.func218.trans (congrArg some (by kernel_rfl))
  f48 := Tryz.func219.trans (congrArg some (by kernel_rfl))
  f49 := ⟨Tryz.f282.name, by decide, Tryz.func282.trans (congrArg some (by kernel_rfl))⟩
  f50 := ⟨Tryz.f283.name, by decide, Tryz.func283.trans (congrArg some (by kernel_rfl))⟩
  f57 := ⟨Tryz.f286.name, by decide, Tryz.func286.trans (congrArg some (by kernel_rfl))⟩
  t0 := Tryz.underlying0
  a0 := Tryz.isAgg0
  z0 := Tryz.sizeOf0
  v0 := Tryz.zeroValue0
  t3 := Tryz.underlying3
  a3 := Tryz.isAgg3
  z3 := Tryz.sizeOf3
  v3 := Tryz.zeroValue3
  t4 := Tryz.underlying4
  a4 := Tryz.isAgg4
  z4 := Tryz.sizeOf4
  v4 := Tryz.zeroValue4
  t5 := Tryz.underlying5
  a5 := Tryz.isAgg5
  z5 := Tryz.sizeOf5
  v5 := Tryz.zeroValue5
  t9 := Tryz.underlying9
  a9 := Tryz.isAgg9
  z9 := Tryz.sizeOf9
  v9 := Tryz.zeroValue9
  t22 := Tryz.underlying41
  a22 := Tryz.isAgg41
  z22 := Tryz.sizeOf41
  v22 := Tryz.zeroValue41
  a24 := Tryz.isAgg3
  z24 := Tryz.sizeOf3
  t25 := Tryz.underlying153
  a25 := Tryz.isAgg153
  z25 := Tryz.sizeOf153
  v25 := Tryz.zeroValue153
  t39 := Tryz.underlying214
  a39 := Tryz.isAgg214
  z39 := Tryz.sizeOf214
  v39 := Tryz.zeroValue214
  t45 := Tryz.underlying260
  a45 := Tryz.isAgg260
  z45 := Tryz.sizeOf260
  v45 := Tryz.zeroValue260
  t46 := Tryz.underlying261
  a46 := Tryz.isAgg261
  z46 := Tryz.sizeOf261
  v46 := Tryz.zeroValue261
  t50 := Tryz.underlying54
  a50 := Tryz.isAgg54
  z50 := Tryz.sizeOf54
  v50 := Tryz.zeroValue54
  t53 := Tryz.underlying267
  a53 := Tryz.isAgg267
  z53 := Tryz.sizeOf267
  v53 := Tryz.zeroValue267
  t55 := Tryz.underlying269
  a55 := Tryz.isAgg269
  z55 := Tryz.sizeOf269
  v55 := Tryz.zeroValue269
  t66 := Tryz.underlying302
  a66 := Tryz.isAgg302
  z66 := Tryz.sizeOf302
  v66 := Tryz.zeroValue302
  t70 := Tryz.underlying306
  a70 := Tryz.isAgg306
  z70 := Tryz.sizeOf306
  v70 := Tryz.zeroValue306
  t76 := Tryz.underlying327
  a76 := Tryz.isAgg327
  z76 := Tryz.sizeOf327
  v76 := Tryz.zeroValue327
  t77 := Tryz.underlying109
  a77 := Tryz.isAgg109
  z77 := Tryz.sizeOf109
  v77 := Tryz.zeroValue109 }
def Tryz.laysSlF06_f222_ren : Go.Shelf.Ren := ⟨fun | 6 => 222 | 15 => 133 | 14 => 247 | 28 => 179 | 29 => 180 | 20 => 264 | 21 => 265 | 22 => 266 | 23 => 267 | 24 => 268 | 25 => 269 | 26 => 270 | 27 => 271 | 46 => 281 | 47 => 218 | 48 => 219 | 49 => 282 | 50 => 283 | 57 => 286 | n => n, fun | 22 => 41 | 24 => 3 | 25 => 153 | 3 => 3 | 39 => 214 | 0 => 0 | 53 => 267 | 55 => 269 | 4 => 4 | 46 => 261 | 45 => 260 | 50 => 54 | 5 => 5 | 9 => 9 | 66 => 302 | 70 => 306 | 76 => 327 | 77 => 109 | n => n, fun | n => n⟩
theorem Tryz.laysSlF06_f222 : Go.Proofs.SlLaysF0.n6 Tryz.prog Tryz.laysSlF06_f222_ren := {
  mixed := by kernel_rfl
  f6 := ⟨Tryz.f222.name, by decide, Tryz.func222.trans (congrArg some (by kernel_rfl))⟩
  f14 := ⟨Tryz.f247.name, by decide, Tryz.func247.trans (congrArg some (by kernel_rfl))⟩
  f15 := Tryz.func133.trans (congrArg some (by kernel_rfl))
  f20 := ⟨Tryz.f264.name, by decide, Tryz.func264.trans (congrArg some (by kernel_rfl))⟩
  f21 := ⟨Tryz.f265.name, by decide, Tryz.func265.trans (congrArg some (by kernel_rfl))⟩
  f22 := ⟨Tryz.f266.name, by decide, Tryz.func266.trans (congrArg some (by kernel_rfl))⟩
  f23 := ⟨Tryz.f267.name, by decide, Tryz.func267.trans (congrArg some (by kernel_rfl))⟩
  f24 := ⟨Tryz.f268.name, by decide, Tryz.func268.trans (congrArg some (by kernel_rfl))⟩
  f25 := ⟨Tryz.f269.name, by decide, Tryz.func269.trans (congrArg some (by kernel_rfl))⟩
  f26 := ⟨Tryz.f270.name, by decide, Tryz.func270.trans (congrArg some (by kernel_rfl))⟩
  f27 := ⟨Tryz.f271.name, by decide, Tryz.func271.trans (congrArg some (by kernel_rfl))⟩
  f28 := Tryz.func179.trans (congrArg some (by kernel_rfl))
  f29 := Tryz.func180.trans (congrArg some (by kernel_rfl))
  f46 := ⟨Tryz.f281.name, by decide, Tryz.func281.trans (congrArg some (by kernel_rfl))⟩
  f47 := Tryz.func218.trans (congrArg some (by kernel_rfl))
  f48 := Tryz.func219.trans (congrArg some (by kernel_rfl))
  f49 := ⟨Tryz.f282.name, by decide, Tryz.func282.trans (congrArg some (by kernel_rfl))⟩
  f50 := ⟨Tryz.f283.name, by decide, Tryz.func283.trans (congrArg some (by kernel_rfl))⟩
  f57 := ⟨Tryz.f286.name, by decide, Tryz.func286.trans (congrArg some (by kernel_rfl))⟩
  t0 := Tryz.underlying0
  a0 := Tryz.isAgg0
  z0 := Tryz.sizeOf0
  v0 := Tryz.zeroValue0
  t3 := Tryz.underlying3
  a3 := Tryz.isAgg3
  z3 := Tryz.sizeOf3
  v3 := Tryz.zeroValue3
  t4 := Tryz.underlying4
  a4 := Tryz.isAgg4
  z4 := Tryz.sizeOf4
  v4 := Tryz.zeroValue4
  t5 := Tryz.underlying5
  a5 := Tryz.isAgg5
  z5 := Tryz.sizeOf5
  v5 := Tryz.zeroValue5
  t9 := Tryz.underlying9
  a9 := Tryz.isAgg9
  z9 := Tryz.sizeOf9
  v9 := Tryz.zeroValue9
  t22 := Tryz.underlying41
  a22 := Tryz.isAgg41
  z22 := Tryz.sizeOf41
  v22 := Tryz.zeroValue41
  t25 := Tryz.underlying153
  a25 := Tryz.isAgg153
  z25 := Tryz.sizeOf153
  v25 := Tryz.zeroValue153
  t39 := Tryz.underlying214
  a39 := Tryz.isAgg214
  z39 := Tryz.sizeOf214
  v39 := Tryz.zeroValue214
  t45 := Tryz.underlying260
  a45 := Tryz.isAgg260
  z45 := Tryz.sizeOf260
  v45 := Tryz.zeroValue260
  t46 := Tryz.underlying261
  a46 := Tryz.isAgg261
  z46 := Tryz.sizeOf261
  v46 := Tryz.zeroValue261
  t50 := Tryz.underlying54
  a50 := Tryz.isAgg54
  z50 := Tryz.sizeOf54
  v50 := Tryz.zeroValue54
  t53 := Tryz.underlying267
  a53 := Tryz.isAgg267
  z53 := Tryz.sizeOf267
  v53 := Tryz.zeroValue267
  t55 := Tryz.underlying269
  a55 := Tryz.isAgg269
  z55 := Tryz.sizeOf269
  v55 := Tryz.zeroValue269
  t66 := Tryz.underlying302
  a66 := Tryz.isAgg302
  z66 := Tryz.sizeOf302
  v66 := Tryz.zeroValue302
  t70 := Tryz.underlying306
  a70 := Tryz.isAgg306
  z70 := Tryz.sizeOf306
  v70 := Tryz.zeroValue306
  t76 := Tryz.underlying327
  a76 := Tryz.isAgg327
  z76 := Tryz.sizeOf327
  v76 := Tryz.zeroValue327
  t77 := Tryz.underlying109
  a77 := Tryz.isAgg109
  z77 := Tryz.sizeOf109
  v77 := Tryz.zeroValue109 }
open Go.RowKit Go.Lib Go.Sort in

theorem Tryz.slices_SortFunc_none {α : Type} [Inhabited α] (p : Option Addr) (cap : Nat) (fv : Value) (w : World) :
    Calls Tryz.prog 222 #[.slice p 0 cap, fv] w fun e w' => e = .returned (.tuple #[]) ∧ w' = w := AnyF.slices_SortFunc_none Tryz.laysSlF06_f222 p cap fv w
open Go.RowKit Go.Lib Go.Sort in

theorem Tryz.slices_SortFunc_total {α : Type} [Inhabited α] (enc : α → Value) (h1 : OneCell enc) (cf : α → α → Int) (hO : SWO (ltOf cf)) (g : Nat) (cb : Array Value) (blk off cap : Nat) (d : Array α) (w : World) (eg : ∀ args w, (callFunc g args).run Tryz.prog w = .ok (.enter g args) w) (hcmp : CmpLays1 Tryz.prog g cb enc cf blk off d.size w) (hH : Holds enc w blk off d) (hblk : blk < w.heap.size) (hsz : d.size < 4611686018427387904) (hT : ∀ x y, (ltOf cf) x y = false → (ltOf cf) y x = false → x = y) :
    Calls Tryz.prog 222 #[.slice (some ⟨blk, off, none⟩) d.size cap, .func (.func g) #[] cb] w fun e w' =>
      e = .returned (.tuple #[]) ∧ ∃ n os, w' = sortWorld enc w blk off n (d.toList.mergeSort fun x y => !(ltOf cf) y x).toArray os := Any.slices_SortFunc_total Tryz.laysSlF6_f222 enc h1 cf hO g cb blk off cap d w eg hcmp hH hblk hsz hT
def Tryz.laysSlF06_f90_ren : Go.Shelf.Ren := ⟨fun | 6 => 90 | 15 => 133 | 14 => 132 | 28 => 179 | 29 => 180 | 20 => 171 | 21 => 172 | 22 => 173 | 23 => 174 | 24 => 175 | 25 => 176 | 26 => 177 | 27 => 178 | 46 => 217 | 47 => 218 | 48 => 219 | 49 => 220 | 50 => 221 | 57 => 246 | n => n, fun | 22 => 31 | 24 => 34 | 25 => 154 | 3 => 3 | 39 => 214 | 0 => 0 | 53 => 267 | 55 => 269 | 4 => 4 | 46 => 261 | 45 => 260 | 50 => 54 | 5 => 5 | 9 => 9 | 66 => 302 | 70 => 306 | 76 => 327 | 77 => 109 | n => n, fun | n => n⟩
theorem Tryz.laysSlF06_f90 : Go.Proofs.SlLaysF0.n6 Tryz.prog Tryz.laysSlF06_f90_ren := {
  mixed := by kernel_rfl
  f6 := ⟨Tryz.f90.name, by decide, Tryz.func90.trans (congrArg some (by kernel_rfl))⟩
  f14 := ⟨Tryz.f132.name, by decide, Tryz.func132.trans (congrArg some (by kernel_rfl))⟩
  f15 := Tryz.func133.trans (congrArg some (by kernel_rfl))
  f20 := ⟨Tryz.f171.name, by decide, Tryz.func171.trans (congrArg some (by kernel_rfl))⟩
  f21 := ⟨Tryz.f172.name, by decide, Tryz.func172.trans (congrArg some (by kernel_rfl))⟩
  f22 := ⟨Tryz.f173.name, by decide, Tryz.func173.trans (congrArg some (by kernel_rfl))⟩
  f23 := ⟨Tryz.f174.name, by decide, Tryz.func174.trans (congrArg some (by kernel_rfl))⟩
  f24 := ⟨Tryz.f175.name, by decide, Tryz.func175.trans (congrArg some (by kernel_rfl))⟩
  f25 := ⟨Tryz.f176.name, by decide, Tryz.func176.trans (congrArg some (by kernel_rfl))⟩
  f26 := ⟨Tryz.f177.name, by decide, Tryz.func177.trans (congrArg some (by kernel_rfl))⟩
  f27 := ⟨Tryz.f178.name, by decide, Tryz.func178.trans (congrArg some (by kernel_rfl))⟩
  f28 := Tryz.func179.trans (congrArg some (by kernel_rfl))
  f29 := Tryz.func180.trans (congrArg some (by kernel_rfl))
  f46 := ⟨Tryz.f217.name, by decide, Tryz.func217.trans (congrArg some (by kernel_rfl))⟩
  f47 := Tryz.func218.trans (congrArg some (by kernel_rfl))
  f48 := Tryz.func219.trans (congrArg some (by kernel_rfl))
  f49 := ⟨Tryz.f220.name, by decide, Tryz.func220.trans (congrArg some (by kernel_rfl))⟩
  f50 := ⟨Tryz.f221.name, by decide, Tryz.func221.trans (congrArg some (by kernel_rfl))⟩
  f57 := ⟨Tryz.f246.name, by decide, Tryz.func246.trans (congrArg some (by kernel_rfl))⟩
  t0 := Tryz.underlying0
  a0 := Tryz.isAgg0
  z0 := Tryz.sizeOf0
  v0 := Tryz.zeroValue0
  t3 := Tryz.underlying3
  a3 := Tryz.isAgg3
  z3 := Tryz.sizeOf3
  v3 := Tryz.zeroValue3
  t4 := Tryz.underlying4
  a4 := Tryz.isAgg4
  z4 := Tryz.sizeOf4
  v4 := Tryz.zeroValue4
  t5 := Tryz.underlying5
  a5 := Tryz.isAgg5
  z5 := Tryz.sizeOf5
  v5 := Tryz.zeroValue5
  t9 := Tryz.underlying9
  a9 := Tryz.isAgg9
  z9 := Tryz.sizeOf9
  v9 := Tryz.zeroValue9
  t22 := Tryz.underlying31
  a22 := Tryz.isAgg31
  z22 := Tryz.sizeOf31
  v22 := Tryz.zeroValue31
  t25 := Tryz.underlying154
  a25 := Tryz.isAgg154
  z25 := Tryz.sizeOf154
  v25 := Tryz.zeroValue154
  t39 := Tryz.underlying214
  a39 := Tryz.isAgg214
  z39 := Tryz.sizeOf214
  v39 := Tryz.zeroValue214
  t45 := Tryz.underlying260
  a45 := Tryz.isAgg260
  z45 := Tryz.sizeOf260
  v45 := Tryz.zeroValue260
  t46 := Tryz.underlying261
  a46 := Tryz.isAgg261
  z46 := Tryz.sizeOf261
  v46 := Tryz.zeroValue261
  t50 := Tryz.underlying54
  a50 := Tryz.isAgg54
  z50 := Tryz.sizeOf54
  v50 := Tryz.zeroValue54
  t53 := Tryz.underlying267
  a53 := Tryz.isAgg267
  z53 := Tryz.sizeOf267
  v53 := Tryz.zeroValue267
  t55 := Tryz.underlying269
  a55 := Tryz.isAgg269
  z55 := Tryz.sizeOf269
  v55 := Tryz.zeroValue269
  t66 := Tryz.underlying302
  a66 := Tryz.isAgg302
  z66 := Tryz.sizeOf302
  v66 := Tryz.zeroValue302
  t70 := Tryz.underlying306
  a70 := Tryz.isAgg306
  z70 := Tryz.sizeOf306
  v70 := Tryz.zeroValue306
  t76 := Tryz.underlying327
  a76 := Tryz.isAgg327
  z76 := Tryz.sizeOf327
  v76 := Tryz.zeroValue327
  t77 := Tryz.underlying109
  a77 := Tryz.isAgg109
  z77 := Tryz.sizeOf109
  v77 := Tryz.zeroValue109 }
open Go.RowKit Go.Lib Go.Sort in
theorem Tryz.slices_SortFunc_noneE {α : Type} [Inhabited α] (p : Option Addr) (cap : Nat) (fv : Value) (w : World) :
    Calls Tryz.prog 90 #[.slice p 0 cap, fv] w fun e w' => e = .returned (.tuple #[]) ∧ w' = w := AnyF.slices_SortFunc_none Tryz.laysSlF06_f90 p cap fv w
open Go.RowKit Go.Lib Go.Sort in
theorem Tryz.slices_SortFunc_totalE {α : Type} [Inhabited α] (enc : α → List Value) (hk : ∀ x, (enc x).length = 2) (h1 : ∀ x, ∀ v ∈ enc x, v.oneCell' = true) (cf : α → α → Int) (hO : SWO (ltOf cf)) (g : Nat) (cb : Array Value) (blk off cap : Nat) (d : Array α) (w : World) (eg : ∀ args w, (callFunc g args).run Tryz.prog w = .ok (.enter g args) w) (hcmp : CmpLays Tryz.prog g cb enc 2 cf blk off d.size w) (hH : HoldsK enc 2 w blk off d) (hblk : blk < w.heap.size) (hsz : d.size < 4611686018427387904) (hT : ∀ x y, (ltOf cf) x y = false → (ltOf cf) y x = false → x = y) :
    Calls Tryz.prog 90 #[.slice (some ⟨blk, off, none⟩) d.size cap, .func (.func g) #[] cb] w fun e w' =>
      e = .returned (.tuple #[]) ∧ ∃ n os, w' = sortWorldK enc 2 w blk off n (d.toList.mergeSort fun x y => !(ltOf cf) y x).toArray os := AnyQ.slices_SortFunc_total Tryz.laysSlF06_f90 2 Tryz.isAgg34 Tryz.sizeOf34 enc hk h1 cf hO g cb blk off cap d w eg hcmp hH hblk hsz hT
end Go.Proofs
