/- The library's contracts, laid at this dump. -/
import Derived.Shelf.Sort.Plain
import Derived.Shelf.Slices.In.SortNone
import Derived.Ground.SlgcProg
import Derived.Shelf.SlicesG.Cmp
import Derived.Ground.SlsfProg
import Derived.Shelf.SlSortCmp.NoneTotal
import Derived.Test.YtlnpapkkcmbhmaaGreatDoorProg
namespace Go.Proofs
open Go.Shelf
def Tryz.lays189_ren : Go.Shelf.Ren := ⟨fun | 189 => 119 | 125 => 167 | 257 => 166 | 128 => 206 | 129 => 207 | 294 => 197 | 295 => 198 | 296 => 199 | 297 => 200 | 298 => 201 | 299 => 202 | 216 => 203 | 300 => 204 | 301 => 205 | 328 => 236 | 329 => 237 | 330 => 238 | 331 => 239 | 332 => 240 | 215 => 241 | 343 => 254 | n => n, fun | 28 => 32 | 3 => 3 | 46 => 237 | 0 => 0 | 51 => 269 | 53 => 271 | 4 => 4 | 183 => 263 | 182 => 262 | 131 => 97 | 5 => 5 | 9 => 9 | 218 => 304 | 222 => 308 | 228 => 325 | 229 => 197 | n => n, fun | n => n⟩
theorem Tryz.lays189 : Go.Proofs.Lays.n189 Tryz.prog Tryz.lays189_ren := {
  mixed := by kernel_rfl
  f125 := Tryz.func167.trans (congrArg some (by kernel_rfl))
  f128 := Tryz.func206.trans (congrArg some (by kernel_rfl))
  f129 := Tryz.func207.trans (congrArg some (by kernel_rfl))
  f189 := Tryz.func119.trans (congrArg some (by kernel_rfl))
  f215 := Tryz.func241.trans (congrArg some (by kernel_rfl))
  f216 := Tryz.func203.trans (congrArg some (by kernel_rfl))
  f257 := Tryz.func166.trans (congrArg some (by kernel_rfl))
  f294 := Tryz.func197.trans (congrArg some (by kernel_rfl))
  f295 := Tryz.func198.trans (congrArg some (by kernel_rfl))
  f296 := Tryz.func199.trans (congrArg some (by kernel_rfl))
  f297 := Tryz.func200.trans (congrArg some (by kernel_rfl))
  f298 := Tryz.func201.trans (congrArg some (by kernel_rfl))
  f299 := Tryz.func202.trans (congrArg some (by kernel_rfl))
  f300 := Tryz.func204.trans (congrArg some (by kernel_rfl))
  f301 := Tryz.func205.trans (congrArg some (by kernel_rfl))
  f328 := Tryz.func236.trans (congrArg some (by kernel_rfl))
  f329 := Tryz.func237.trans (congrArg some (by kernel_rfl))
  f330 := Tryz.func238.trans (congrArg some (by kernel_rfl))
  f331 := Tryz.func239.trans (congrArg some (by kernel_rfl))
  f332 := Tryz.func240.trans (congrArg some (by kernel_rfl))
  f343 := Tryz.func254.trans (congrArg some (by kernel_rfl))
  t0 := Tryz.underlying0
  a0 := Tryz.isAgg0
  z0 := Tryz.sizeOf0
  v0 := Tryz.zeroValue0
  t3 := Tryz.underlying3
  a3 := Tryz.isAgg3
  z3 := Tryz.sizeOf3
  v3 := Tryz.zeroValue3
  t4 := Tryz.underlying4
  a4 := Tryz.isAgg4
  z4 := Tryz.sizeOf4
  v4 := Tryz.zeroValue4
  t5 := Tryz.underlying5
  a5 := Tryz.isAgg5
  z5 := Tryz.sizeOf5
  v5 := Tryz.zeroValue5
  t9 := Tryz.underlying9
  a9 := Tryz.isAgg9
  z9 := Tryz.sizeOf9
  v9 := Tryz.zeroValue9
  t28 := Tryz.underlying32
  a28 := Tryz.isAgg32
  z28 := Tryz.sizeOf32
  v28 := Tryz.zeroValue32
  t46 := Tryz.underlying237
  a46 := Tryz.isAgg237
  z46 := Tryz.sizeOf237
  v46 := Tryz.zeroValue237
  t51 := Tryz.underlying269
  a51 := Tryz.isAgg269
  z51 := Tryz.sizeOf269
  v51 := Tryz.zeroValue269
  t53 := Tryz.underlying271
  a53 := Tryz.isAgg271
  z53 := Tryz.sizeOf271
  v53 := Tryz.zeroValue271
  t131 := Tryz.underlying97
  a131 := Tryz.isAgg97
  z131 := Tryz.sizeOf97
  v131 := Tryz.zeroValue97
  t182 := Tryz.underlying262
  a182 := Tryz.isAgg262
  z182 := Tryz.sizeOf262
  v182 := Tryz.zeroValue262
  t183 := Tryz.underlying263
  a183 := Tryz.isAgg263
  z183 := Tryz.sizeOf263
  v183 := Tryz.zeroValue263
  t218 := Tryz.underlying304
  a218 := Tryz.isAgg304
  z218 := Tryz.sizeOf304
  v218 := Tryz.zeroValue304
  t222 := Tryz.underlying308
  a222 := Tryz.isAgg308
  z222 := Tryz.sizeOf308
  v222 := Tryz.zeroValue308
  t228 := Tryz.underlying325
  a228 := Tryz.isAgg325
  z228 := Tryz.sizeOf325
  v228 := Tryz.zeroValue325
  t229 := Tryz.underlying197
  a229 := Tryz.isAgg197
  z229 := Tryz.sizeOf197
  v229 := Tryz.zeroValue197 }
open Go.Sort Go.RowKit in
theorem Tryz.slices_Sort_int (blk off cap : Nat) (zs : List Int) (w : World) (hH : Holds (Value.int .i64) w blk off zs.toArray) (hblk : blk < w.heap.size) (hsz : zs.length < 4611686018427387904) :
    Calls Tryz.prog 119 #[.slice (some ⟨blk, off, none⟩) zs.length cap] w fun e w' =>
      e = .returned (.tuple #[]) ∧ ∃ n os, w' = grow (putRow (Value.int .i64) (Sort.ahead w n) blk off (zs.mergeSort fun x y => decide (x ≤ y)).toArray) os := Any.slices_Sort_int Tryz.lays189 blk off cap zs w hH hblk hsz
open Go.RowKit Go.Sort in

theorem Tryz.slices_Sort_int_none (p : Option Addr) (cap : Nat) (w : World) :
    Calls Tryz.prog 119 #[.slice p 0 cap] w fun e w' => e = .returned (.tuple #[]) ∧ w' = w := Any.slices_Sort_int_none Tryz.lays189 p cap w
def Tryz.laysSlC25_f259_ren : Go.Shelf.Ren := ⟨fun | 5 => 259 | 7 => 241 | n => n, fun | 22 => 3 | 3 => 3 | 4 => 4 | n => n, fun | n => n⟩
theorem Tryz.laysSlC25_f259 : Go.Proofs.SlLaysC2.n5 Tryz.prog Tryz.laysSlC25_f259_ren := {
  mixed := by kernel_rfl
  f5 := ⟨Tryz.f259.name, by decide, Tryz.func259.trans (congrArg some (by kernel_rfl))⟩
  f7 := ⟨Tryz.f241.name, by decide, Tryz.func241.trans (congrArg some (by kernel_rfl))⟩
  t3 := Tryz.underlying3
  a3 := Tryz.isAgg3
  z3 := Tryz.sizeOf3
  v3 := Tryz.zeroValue3
  t4 := Tryz.underlying4
  a4 := Tryz.isAgg4
  z4 := Tryz.sizeOf4
  v4 := Tryz.zeroValue4
  t22 := Tryz.underlying3
  a22 := Tryz.isAgg3
  z22 := Tryz.sizeOf3
  v22 := Tryz.zeroValue3 }
open Go.Lib in

theorem Tryz.cmp_Compare_int (x y : Int) (w : World) :
    Calls Tryz.prog 259 #[.int .i64 x, .int .i64 y] w fun e w' => e = .returned (.int .i64 (Lib.compareInt x y)) ∧ w' = w := AnyG.cmp_Compare_int Tryz.laysSlC25_f259 x y w
def Tryz.laysSlF6_f258_ren : Go.Shelf.Ren := ⟨fun | 6 => 258 | 15 => 167 | 14 => 261 | 28 => 206 | 29 => 207 | 20 => 262 | 21 => 263 | 22 => 264 | 23 => 265 | 24 => 266 | 25 => 267 | 26 => 268 | 27 => 269 | 46 => 270 | 47 => 237 | 48 => 238 | 49 => 271 | 50 => 272 | 57 => 273 | n => n, fun | 22 => 32 | 24 => 3 | 25 => 329 | 3 => 3 | 39 => 237 | 0 => 0 | 53 => 269 | 55 => 271 | 4 => 4 | 46 => 263 | 45 => 262 | 50 => 97 | 5 => 5 | 9 => 9 | 66 => 304 | 70 => 308 | 76 => 325 | 77 => 197 | n => n, fun | n => n⟩
theorem Tryz.laysSlF6_f258 : Go.Proofs.SlLaysF.n6 Tryz.prog Tryz.laysSlF6_f258_ren := {
  mixed := by kernel_rfl
  f6 := ⟨Tryz.f258.name, by decide, Tryz.func258.trans (congrArg some (by kernel_rfl))⟩
  f14 := ⟨Tryz.f261.name, by decide, Tryz.func261.trans (congrArg some (by kernel_rfl))⟩
  f15 := Tryz.func167.trans (congrArg some (by kernel_rfl))
  f20 := ⟨Tryz.f262.name, by decide, Tryz.func262.trans (congrArg some (by kernel_rfl))⟩
  f21 := ⟨Tryz.f263.name, by decide, Tryz.func263.trans (congrArg some (by kernel_rfl))⟩
  f22 := ⟨Tryz.f264.name, by decide, Tryz.func264.trans (congrArg some (by kernel_rfl))⟩
  f23 := ⟨Tryz.f265.name, by decide, Tryz.func265.trans (congrArg some (by kernel_rfl))⟩
  f24 := ⟨Tryz.f266.name, by decide, Tryz.func266.trans (congrArg some (by kernel_rfl))⟩
  f25 := ⟨Tryz.f267.name, by decide, Tryz.func267.trans (congrArg some (by kernel_rfl))⟩
  f26 := ⟨Tryz.f268.name, by decide, Tryz.func268.trans (congrArg some (by kernel_rfl))⟩
  f27 := ⟨Tryz.f269.name, by decide, Tryz.func269.trans (congrArg some (by kernel_rfl))⟩
  f28 := Tryz.func206.trans (congrArg some (by kernel_rfl))
  f29 := Tryz.func207.trans (congrArg some (by kernel_rfl))
  f46 := ⟨Tryz.f270.name, by decide, Tryz.func270.trans (congrArg some (by kernel_rfl))⟩
  f47 := Tryz.func237.trans (congrArg some (by kernel_rfl))
  f48 := Tryz.func238.trans (congrArg some (by kernel_rfl))
  f49 := ⟨Tryz.f271.name, by decide, Tryz.func271.trans (congrArg some (by kernel_rfl))⟩
  f50 := ⟨Tryz.f272.name, by decide, Tryz.func272.trans (congrArg some (by kernel_rfl))⟩
  f57 := ⟨Tryz.f273.name, by decide, Tryz.func273.trans (congrArg some (by kernel_rfl))⟩
  t0 := Tryz.underlying0
  a0 := Tryz.isAgg0
  z0 := Tryz.sizeOf0
  v0 := Tryz.zeroValue0
  t3 := Tryz.underlying3
  a3 := Tryz.isAgg3
  z3 := Tryz.sizeOf3
  v3 := Tryz.zeroValue3
  t4 := Tryz.underlying4
  a4 := Tryz.isAgg4
  z4 := Tryz.sizeOf4
  v4 := Tryz.zeroValue4
  t5 := Tryz.underlying5
  a5 := Tryz.isAgg5
  z5 := Tryz.sizeOf5
  v5 := Tryz.zeroValue5
  t9 := Tryz.underlying9
  a9 := Tryz.isAgg9
  z9 := Tryz.sizeOf9
  v9 := Tryz.zeroValue9
  t22 := Tryz.underlying32
  a22 := Tryz.isAgg32
  z22 := Tryz.sizeOf32
  v22 := Tryz.zeroValue32
  a24 := Tryz.isAgg3
  z24 := Tryz.sizeOf3
  t25 := Tryz.underlying329
  a25 := Tryz.isAgg329
  z25 := Tryz.sizeOf329
  v25 := Tryz.zeroValue329
  t39 := Tryz.underlying237
  a39 := Tryz.isAgg237
  z39 := Tryz.sizeOf237
  v39 := Tryz.zeroValue237
  t45 := Tryz.underlying262
  a45 := Tryz.isAgg262
  z45 := Tryz.sizeOf262
  v45 := Tryz.zeroValue262
  t46 := Tryz.underlying263
  a46 := Tryz.isAgg263
  z46 := Tryz.sizeOf263
  v46 := Tryz.zeroValue263
  t50 := Tryz.underlying97
  a50 := Tryz.isAgg97
  z50 := Tryz.sizeOf97
  v50 := Tryz.zeroValue97
  t53 := Tryz.underlying269
  a53 := Tryz.isAgg269
  z53 := Tryz.sizeOf269
  v53 := Tryz.zeroValue269
  t55 := Tryz.underlying271
  a55 := Tryz.isAgg271
  z55 := Tryz.sizeOf271
  v55 := Tryz.zeroValue271
  t66 := Tryz.underlying304
  a66 := Tryz.isAgg304
  z66 := Tryz.sizeOf304
  v66 := Tryz.zeroValue304
  t70 := Tryz.underlying308
  a70 := Tryz.isAgg308
  z70 := Tryz.sizeOf308
  v70 := Tryz.zeroValue308
  t76 := Tryz.underlying325
  a76 := Tryz.isAgg325
  z76 := Tryz.sizeOf325
  v76 := Tryz.zeroValue325
  t77 := Tryz.underlying197
  a77 := Tryz.isAgg197
  z77 := Tryz.sizeOf197
  v77 := Tryz.zeroValue197 }
def Tryz.laysSlF06_f258_ren : Go.Shelf.Ren := ⟨fun | 6 => 258 | 15 => 167 | 14 => 261 | 28 => 206 | 29 => 207 | 20 => 262 | 21 => 263 | 22 => 264 | 23 => 265 | 24 => 266 | 25 => 267 | 26 => 268 | 27 => 269 | 46 => 270 | 47 => 237 | 48 => 238 | 49 => 271 | 50 => 272 | 57 => 273 | n => n, fun | 22 => 32 | 24 => 3 | 25 => 329 | 3 => 3 | 39 => 237 | 0 => 0 | 53 => 269 | 55 => 271 | 4 => 4 | 46 => 263 | 45 => 262 | 50 => 97 | 5 => 5 | 9 => 9 | 66 => 304 | 70 => 308 | 76 => 325 | 77 => 197 | n => n, fun | n => n⟩
theorem Tryz.laysSlF06_f258 : Go.Proofs.SlLaysF0.n6 Tryz.prog Tryz.laysSlF06_f258_ren := {
  mixed := by kernel_rfl
  f6 := ⟨Tryz.f258.name, by decide, Tryz.func258.trans (congrArg some (by kernel_rfl))⟩
  f14 := ⟨Tryz.f261.name, by decide, Tryz.func261.trans (congrArg some (by kernel_rfl))⟩
  f15 := Tryz.func167.trans (congrArg some (by kernel_rfl))
  f20 := ⟨Tryz.f262.name, by decide, Tryz.func262.trans (congrArg some (by kernel_rfl))⟩
  f21 := ⟨Tryz.f263.name, by decide, Tryz.func263.trans (congrArg some (by kernel_rfl))⟩
  f22 := ⟨Tryz.f264.name, by decide, Tryz.func264.trans (congrArg some (by kernel_rfl))⟩
  f23 := ⟨Tryz.f265.name, by decide, Tryz.func265.trans (congrArg some (by kernel_rfl))⟩
  f24 := ⟨Tryz.f266.name, by decide, Tryz.func266.trans (congrArg some (by kernel_rfl))⟩
  f25 := ⟨Tryz.f267.name, by decide, Tryz.func267.trans (congrArg some (by kernel_rfl))⟩
  f26 := ⟨Tryz.f268.name, by decide, Tryz.func268.trans (congrArg some (by kernel_rfl))⟩
  f27 := ⟨Tryz.f269.name, by decide, Tryz.func269.trans (congrArg some (by kernel_rfl))⟩
  f28 := Tryz.func206.trans (congrArg some (by kernel_rfl))
  f29 := Tryz.func207.trans (congrArg some (by kernel_rfl))
  f46 := ⟨Tryz.f270.name, by decide, Tryz.func270.trans (congrArg some (by kernel_rfl))⟩
  f47 := Tryz.func237.trans (congrArg some (by kernel_rfl))
  f48 := Tryz.func238.trans (congrArg some (by kernel_rfl))
  f49 := ⟨Tryz.f271.name, by decide, Tryz.func271.trans (congrArg some (by kernel_rfl))⟩
  f50 := ⟨Tryz.f272.name, by decide, Tryz.func272.trans (congrArg some (by kernel_rfl))⟩
  f57 := ⟨Tryz.f273.name, by decide, Tryz.func273.trans (congrArg some (by kernel_rfl))⟩
  t0 := Tryz.underlying0
  a0 := Tryz.isAgg0
  z0 := Tryz.sizeOf0
  v0 := Tryz.zeroValue0
  t3 := Tryz.underlying3
  a3 := Tryz.isAgg3
  z3 := Tryz.sizeOf3
  v3 := Tryz.zeroValue3
  t4 := Tryz.underlying4
  a4 := Tryz.isAgg4
  z4 := Tryz.sizeOf4
  v4 := Tryz.zeroValue4
  t5 := Tryz.underlying5
  a5 := Tryz.isAgg5
  z5 := Tryz.sizeOf5
  v5 := Tryz.zeroValue5
  t9 := Tryz.underlying9
  a9 := Tryz.isAgg9
  z9 := Tryz.sizeOf9
  v9 := Tryz.zeroValue9
  t22 := Tryz.underlying32
  a22 := Tryz.isAgg32
  z22 := Tryz.sizeOf32
  v22 := Tryz.zeroValue32
  t25 := Tryz.underlying329
  a25 := Tryz.isAgg329
  z25 := Tryz.sizeOf329
  v25 := Tryz.zeroValue329
  t39 := Tryz.underlying237
  a39 := Tryz.isAgg237
  z39 := Tryz.sizeOf237
  v39 := Tryz.zeroValue237
  t45 := Tryz.underlying262
  a45 := Tryz.isAgg262
  z45 := Tryz.sizeOf262
  v45 := Tryz.zeroValue262
  t46 := Tryz.underlying263
  a46 := Tryz.isAgg263
  z46 := Tryz.sizeOf263
  v46 := Tryz.zeroValue263
  t50 := Tryz.underlying97
  a50 := Tryz.isAgg97
  z50 := Tryz.sizeOf97
  v50 := Tryz.zeroValue97
  t53 := Tryz.underlying269
  a53 := Tryz.isAgg269
  z53 := Tryz.sizeOf269
  v53 := Tryz.zeroValue269
  t55 := Tryz.underlying271
  a55 := Tryz.isAgg271
  z55 := Tryz.sizeOf271
  v55 := Tryz.zeroValue271
  t66 := Tryz.underlying304
  a66 := Tryz.isAgg304
  z66 := Tryz.sizeOf304
  v66 := Tryz.zeroValue304
  t70 := Tryz.underlying308
  a70 := Tryz.isAgg308
  z70 := Tryz.sizeOf308
  v70 := Tryz.zeroValue308
  t76 := Tryz.underlying325
  a76 := Tryz.isAgg325
  z76 := Tryz.sizeOf325
  v76 := Tryz.zeroValue325
  t77 := Tryz.underlying197
  a77 := Tryz.isAgg197
  z77 := Tryz.sizeOf197
  v77 := Tryz.zeroValue197 }
open Go.RowKit Go.Lib Go.Sort in

theorem Tryz.slices_SortFunc_none {α : Type} [Inhabited α] (p : Option Addr) (cap : Nat) (fv : Value) (w : World) :
    Calls Tryz.prog 258 #[.slice p 0 cap, fv] w fun e w' => e = .returned (.tuple #[]) ∧ w' = w := AnyF.slices_SortFunc_none Tryz.laysSlF06_f258 p cap fv w
open Go.RowKit Go.Lib Go.Sort in

theorem Tryz.slices_SortFunc_total {α : Type} [Inhabited α] (enc : α → Value) (h1 : OneCell enc) (cf : α → α → Int) (hO : SWO (ltOf cf)) (g : Nat) (cb : Array Value) (blk off cap : Nat) (d : Array α) (w : World) (eg : ∀ args w, (callFunc g args).run Tryz.prog w = .ok (.enter g args) w) (hcmp : CmpLays1 Tryz.prog g cb enc cf blk off d.size w) (hH : Holds enc w blk off d) (hblk : blk < w.heap.size) (hsz : d.size < 4611686018427387904) (hT : ∀ x y, (ltOf cf) x y = false → (ltOf cf) y x = false → x = y) :
    Calls Tryz.prog 258 #[.slice (some ⟨blk, off, none⟩) d.size cap, .func (.func g) #[] cb] w fun e w' =>
      e = .returned (.tuple #[]) ∧ ∃ n os, w' = sortWorld enc w blk off n (d.toList.mergeSort fun x y => !(ltOf cf) y x).toArray os := Any.slices_SortFunc_total Tryz.laysSlF6_f258 enc h1 cf hO g cb blk off cap d w eg hcmp hH hblk hsz hT
end Go.Proofs
