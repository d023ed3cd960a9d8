/- The library's contracts, laid at this dump. -/
import Derived.Shelf.Small.Wraps
import Derived.Shelf.Sort.Plain
import Derived.Shelf.Slices.In.SortNone
import Derived.Ground.SlgcProg
import Derived.Shelf.SlicesG.Cmp
import Derived.Ground.SlsfProg
import Derived.Shelf.SlSortCmp.NoneTotal
import Derived.Test.YtnkameckipjfiaaGreatDoorProg
namespace Go.Proofs
open Go.Shelf
def Tryz.lays122_ren : Go.Shelf.Ren := ⟨fun | 122 => 172 | 215 => 204 | n => n, fun | 3 => 3 | 4 => 4 | n => n, fun | n => n⟩
theorem Tryz.lays122 : Go.Proofs.Lays.n122 Tryz.prog Tryz.lays122_ren := {
  mixed := by kernel_rfl
  f122 := Tryz.func172.trans (congrArg some (by kernel_rfl))
  f215 := Tryz.func204.trans (congrArg some (by kernel_rfl))
  t3 := Tryz.underlying3
  a3 := Tryz.isAgg3
  z3 := Tryz.sizeOf3
  v3 := Tryz.zeroValue3
  t4 := Tryz.underlying4
  a4 := Tryz.isAgg4
  z4 := Tryz.sizeOf4
  v4 := Tryz.zeroValue4 }
open Go.RowKit in

theorem Tryz.cmp_Compare_int (x y : Int) (w : World) :
    Calls Tryz.prog 172 #[.int .i64 x, .int .i64 y] w fun e w' => e = .returned (.int .i64 (Lib.compareInt x y)) ∧ w' = w := Any.cmp_Compare_int Tryz.lays122 x y w
def Tryz.lays189_ren : Go.Shelf.Ren := ⟨fun | 189 => 159 | 125 => 189 | 257 => 188 | 128 => 222 | 129 => 223 | 294 => 213 | 295 => 214 | 296 => 215 | 297 => 216 | 298 => 217 | 299 => 218 | 216 => 219 | 300 => 220 | 301 => 221 | 328 => 233 | 329 => 234 | 330 => 235 | 331 => 236 | 332 => 237 | 215 => 204 | 343 => 251 | n => n, fun | 28 => 178 | 3 => 3 | 46 => 281 | 0 => 0 | 51 => 337 | 53 => 339 | 4 => 4 | 183 => 331 | 182 => 330 | 131 => 80 | 5 => 5 | 9 => 9 | 218 => 347 | 222 => 351 | 228 => 365 | 229 => 158 | n => n, fun | n => n⟩
theorem Tryz.lays189 : Go.Proofs.Lays.n189 Tryz.prog Tryz.lays189_ren := {
  mixed := by kernel_rfl
  f125 := Tryz.func189.trans (congrArg some (by kernel_rfl))
  f128 := Tryz.func222.trans (congrArg some (by kernel_rfl))
  f129 := Tryz.func223.trans (congrArg some (by kernel_rfl))
  f189 := Tryz.func159.trans (congrArg some (by kernel_rfl))
  f215 := Tryz.func204.trans (congrArg some (by kernel_rfl))
  f216 := Tryz.func219.trans (congrArg some (by kernel_rfl))
  f257 := Tryz.func188.trans (congrArg some (by kernel_rfl))
  f294 := Tryz.func213.trans (congrArg some (by kernel_rfl))
  f295 := Tryz.func214.trans (congrArg some (by kernel_rfl))
  f296 := Tryz.func215.trans (congrArg some (by kernel_rfl))
  f297 := Tryz.func216.trans (congrArg some (by kernel_rfl))
  f298 := Tryz.func217.trans (congrArg some (by kernel_rfl))
  f299 := Tryz.func218.trans (congrArg some (by kernel_rfl))
  f300 := Tryz.func220.trans (congrArg some (by kernel_rfl))
  f301 := Tryz.func221.trans (congrArg some (by kernel_rfl))
  f328 := Tryz.func233.trans (congrArg some (by kernel_rfl))
  f329 := Tryz.func234.trans (congrArg some (by kernel_rfl))
  f330 := Tryz.func235.trans (congrArg some (by kernel_rfl))
  f331 := Tryz.func236.trans (congrArg some (by kernel_rfl))
  f332 := Tryz.func237.trans (congrArg some (by kernel_rfl))
  f343 := Tryz.func251.trans (congrArg some (by kernel_rfl))
  t0 := Tryz.underlying0
  a0 := Tryz.isAgg0
  z0 := Tryz.sizeOf0
  v0 := Tryz.zeroValue0
  t3 := Tryz.underlying3
  a3 := Tryz.isAgg3
  z3 := Tryz.sizeOf3
  v3 := Tryz.zeroValue3
  t4 := Tryz.underlying4
  a4 := Tryz.isAgg4
  z4 := Tryz.sizeOf4
  v4 := Tryz.zeroValue4
  t5 := Tryz.underlying5
  a5 := Tryz.isAgg5
  z5 := Tryz.sizeOf5
  v5 := Tryz.zeroValue5
  t9 := Tryz.underlying9
  a9 := Tryz.isAgg9
  z9 := Tryz.sizeOf9
  v9 := Tryz.zeroValue9
  t28 := Tryz.underlying178
  a28 := Tryz.isAgg178
  z28 := Tryz.sizeOf178
  v28 := Tryz.zeroValue178
  t46 := Tryz.underlying281
  a46 := Tryz.isAgg281
  z46 := Tryz.sizeOf281
  v46 := Tryz.zeroValue281
  t51 := Tryz.underlying337
  a51 := Tryz.isAgg337
  z51 := Tryz.sizeOf337
  v51 := Tryz.zeroValue337
  t53 := Tryz.underlying339
  a53 := Tryz.isAgg339
  z53 := Tryz.sizeOf339
  v53 := Tryz.zeroValue339
  t131 := Tryz.underlying80
  a131 := Tryz.isAgg80
  z131 := Tryz.sizeOf80
  v131 := Tryz.zeroValue80
  t182 := Tryz.underlying330
  a182 := Tryz.isAgg330
  z182 := Tryz.sizeOf330
  v182 := Tryz.zeroValue330
  t183 := Tryz.underlying331
  a183 := Tryz.isAgg331
  z183 := Tryz.sizeOf331
  v183 := Tryz.zeroValue331
  t218 := Tryz.underlying347
  a218 := Tryz.isAgg347
  z218 := Tryz.sizeOf347
  v218 := Tryz.zeroValue347
  t222 := Tryz.underlying351
  a222 := Tryz.isAgg351
  z222 := Tryz.sizeOf351
  v222 := Tryz.zeroValue351
  t228 := Tryz.underlying365
  a228 := Tryz.isAgg365
  z228 := Tryz.sizeOf365
  v228 := Tryz.zeroValue365
  t229 := Tryz.underlying158
  a229 := Tryz.isAgg158
  z229 := Tryz.sizeOf158
  v229 := Tryz.zeroValue158 }
open Go.Sort Go.RowKit in
theorem Tryz.slices_Sort_int (blk off cap : Nat) (zs : List Int) (w : World) (hH : Holds (Value.int .i64) w blk off zs.toArray) (hblk : blk < w.heap.size) (hsz : zs.length < 4611686018427387904) :
    Calls Tryz.prog 159 #[.slice (some ⟨blk, off, none⟩) zs.length cap] w fun e w' =>
      e = .returned (.tuple #[]) ∧ ∃ n os, w' = grow (putRow (Value.int .i64) (Sort.ahead w n) blk off (zs.mergeSort fun x y => decide (x ≤ y)).toArray) os := Any.slices_Sort_int Tryz.lays189 blk off cap zs w hH hblk hsz
open Go.RowKit Go.Sort in

theorem Tryz.slices_Sort_int_none (p : Option Addr) (cap : Nat) (w : World) :
    Calls Tryz.prog 159 #[.slice p 0 cap] w fun e w' => e = .returned (.tuple #[]) ∧ w' = w := Any.slices_Sort_int_none Tryz.lays189 p cap w
def Tryz.laysSlF6_f230_ren : Go.Shelf.Ren := ⟨fun | 6 => 230 | 15 => 189 | 14 => 250 | 28 => 222 | 29 => 223 | 20 => 258 | 21 => 259 | 22 => 260 | 23 => 261 | 24 => 262 | 25 => 263 | 26 => 264 | 27 => 265 | 46 => 268 | 47 => 234 | 48 => 235 | 49 => 269 | 50 => 270 | 57 => 271 | n => n, fun | 22 => 178 | 24 => 3 | 25 => 280 | 3 => 3 | 39 => 281 | 0 => 0 | 53 => 337 | 55 => 339 | 4 => 4 | 46 => 331 | 45 => 330 | 50 => 80 | 5 => 5 | 9 => 9 | 66 => 347 | 70 => 351 | 76 => 365 | 77 => 158 | n => n, fun | n => n⟩
theorem Tryz.laysSlF6_f230 : Go.Proofs.SlLaysF.n6 Tryz.prog Tryz.laysSlF6_f230_ren := {
  mixed := by kernel_rfl
  f6 := ⟨Tryz.f230.name, by decide, Tryz.func230.trans (congrArg some (by kernel_rfl))⟩
  f14 := ⟨Tryz.f250.name, by decide, Tryz.func250.trans (congrArg some (by kernel_rfl))⟩
  f15 := Tryz.func189.trans (congrArg some (by kernel_rfl))
  f20 := ⟨Tryz.f258.name, by decide, Tryz.func258.trans (congrArg some (by kernel_rfl))⟩
  f21 := ⟨Tryz.f259.name, by decide, Tryz.func259.trans (congrArg some (by kernel_rfl))⟩
  f22 := ⟨Tryz.f260.name, by decide, Tryz.func260.trans (congrArg some (by kernel_rfl))⟩
  f23 := ⟨Tryz.f261.name, by decide, Tryz.func261.trans (congrArg some (by kernel_rfl))⟩
  f24 := ⟨Tryz.f262.name, by decide, Tryz.func262.trans (congrArg some (by kernel_rfl))⟩
  f25 := ⟨Tryz.f263.name, by decide, Tryz.func263.trans (congrArg some (by kernel_rfl))⟩
  f26 := ⟨Tryz.f264.name, by decide, Tryz.func264.trans (congrArg some (by kernel_rfl))⟩
  f27 := ⟨Tryz.f265.name, by decide, Tryz.func265.trans (congrArg some (by kernel_rfl))⟩
  f28 := Tryz.func222.trans (congrArg some (by kernel_rfl))
  f29 := Tryz.func223.trans (congrArg some (by kernel_rfl))
  f46 := ⟨Tryz.f268.name, by decide, Tryz.func268.trans (congrArg some (by kernel_rfl))⟩
  f47 := Tryz.func234.trans (congrArg some (by kernel_rfl))
  f48 := Tryz.func235.trans (congrArg some (by kernel_rfl))
  f49 := ⟨Tryz.f269.name, by decide, Tryz.func269.trans (congrArg some (by kernel_rfl))⟩
  f50 := ⟨Tryz.f270.name, by decide, Tryz.func270.trans (congrArg some (by kernel_rfl))⟩
  f57 := ⟨Tryz.f271.name, by decide, Tryz.func271.trans (congrArg some (by kernel_rfl))⟩
  t0 := Tryz.underlying0
  a0 := Tryz.isAgg0
  z0 := Tryz.sizeOf0
  v0 := Tryz.zeroValue0
  t3 := Tryz.underlying3
  a3 := Tryz.isAgg3
  z3 := Tryz.sizeOf3
  v3 := Tryz.zeroValue3
  t4 := Tryz.underlying4
  a4 := Tryz.isAgg4
  z4 := Tryz.sizeOf4
  v4 := Tryz.zeroValue4
  t5 := Tryz.underlying5
  a5 := Tryz.isAgg5
  z5 := Tryz.sizeOf5
  v5 := Tryz.zeroValue5
  t9 := Tryz.underlying9
  a9 := Tryz.isAgg9
  z9 := Tryz.sizeOf9
  v9 := Tryz.zeroValue9
  t22 := Tryz.underlying178
  a22 := Tryz.isAgg178
  z22 := Tryz.sizeOf178
  v22 := Tryz.zeroValue178
  a24 := Tryz.isAgg3
  z24 := Tryz.sizeOf3
  t25 := Tryz.underlying280
  a25 := Tryz.isAgg280
  z25 := Tryz.sizeOf280
  v25 := Tryz.zeroValue280
  t39 := Tryz.underlying281
  a39 := Tryz.isAgg281
  z39 := Tryz.sizeOf281
  v39 := Tryz.zeroValue281
  t45 := Tryz.underlying330
  a45 := Tryz.isAgg330
  z45 := Tryz.sizeOf330
  v45 := Tryz.zeroValue330
  t46 := Tryz.underlying331
  a46 := Tryz.isAgg331
  z46 := Tryz.sizeOf331
  v46 := Tryz.zeroValue331
  t50 := Tryz.underlying80
  a50 := Tryz.isAgg80
  z50 := Tryz.sizeOf80
  v50 := Tryz.zeroValue80
  t53 := Tryz.underlying337
  a53 := Tryz.isAgg337
  z53 := Tryz.sizeOf337
  v53 := Tryz.zeroValue337
  t55 := Tryz.underlying339
  a55 := Tryz.isAgg339
  z55 := Tryz.sizeOf339
  v55 := Tryz.zeroValue339
  t66 := Tryz.underlying347
  a66 := Tryz.isAgg347
  z66 := Tryz.sizeOf347
  v66 := Tryz.zeroValue347
  t70 := Tryz.underlying351
  a70 := Tryz.isAgg351
  z70 := Tryz.sizeOf351
  v70 := Tryz.zeroValue351
  t76 := Tryz.underlying365
  a76 := Tryz.isAgg365
  z76 := Tryz.sizeOf365
  v76 := Tryz.zeroValue365
  t77 := Tryz.underlying158
  a77 := Tryz.isAgg158
  z77 := Tryz.sizeOf158
  v77 := Tryz.zeroValue158 }
def Tryz.laysSlF06_f230_ren : Go.Shelf.Ren := ⟨fun | 6 => 230 | 15 => 189 | 14 => 250 | 28 => 222 | 29 => 223 | 20 => 258 | 21 => 259 | 22 => 260 | 23 => 261 | 24 => 262 | 25 => 263 | 26 => 264 | 27 => 265 | 46 => 268 | 47 => 234 | 48 => 235 | 49 => 269 | 50 => 270 | 57 => 271 | n => n, fun | 22 => 178 | 24 => 3 | 25 => 280 | 3 => 3 | 39 => 281 | 0 => 0 | 53 => 337 | 55 => 339 | 4 => 4 | 46 => 331 | 45 => 330 | 50 => 80 | 5 => 5 | 9 => 9 | 66 => 347 | 70 => 351 | 76 => 365 | 77 => 158 | n => n, fun | n => n⟩
theorem Tryz.laysSlF06_f230 : Go.Proofs.SlLaysF0.n6 Tryz.prog Tryz.laysSlF06_f230_ren := {
  mixed := by kernel_rfl
  f6 := ⟨Tryz.f230.name, by decide, Tryz.func230.trans (congrArg some (by kernel_rfl))⟩
  f14 := ⟨Tryz.f250.name, by decide, Tryz.func250.trans (congrArg some (by kernel_rfl))⟩
  f15 := Tryz.func189.trans (congrArg some (by kernel_rfl))
  f20 := ⟨Tryz.f258.name, by decide, Tryz.func258.trans (congrArg some (by kernel_rfl))⟩
  f21 := ⟨Tryz.f259.name, by decide, Tryz.func259.trans (congrArg some (by kernel_rfl))⟩
  f22 := ⟨Tryz.f260.name, by decide, Tryz.func260.trans (congrArg some (by kernel_rfl))⟩
  f23 := ⟨Tryz.f261.name, by decide, Tryz.func261.trans (congrArg some (by kernel_rfl))⟩
  f24 := ⟨Tryz.f262.name, by decide, Tryz.func262.trans (congrArg some (by kernel_rfl))⟩
  f25 := ⟨Tryz.f263.name, by decide, Tryz.func263.trans (congrArg some (by kernel_rfl))⟩
  f26 := ⟨Tryz.f264.name, by decide, Tryz.func264.trans (congrArg some (by kernel_rfl))⟩
  f27 := ⟨Tryz.f265.name, by decide, Tryz.func265.trans (congrArg some (by kernel_rfl))⟩
  f28 := Tryz.func222.trans (congrArg some (by kernel_rfl))
  f29 := Tryz.func223.trans (congrArg some (by kernel_rfl))
  f46 := ⟨Tryz.f268.name, by decide, Tryz.func268.trans (congrArg some (by kernel_rfl))⟩
  f47 := Tryz.func234.trans (congrArg some (by kernel_rfl))
  f48 := Tryz.func235.trans (congrArg some (by kernel_rfl))
  f49 := ⟨Tryz.f269.name, by decide, Tryz.func269.trans (congrArg some (by kernel_rfl))⟩
  f50 := ⟨Tryz.f270.name, by decide, Tryz.func270.trans (congrArg some (by kernel_rfl))⟩
  f57 := ⟨Tryz.f271.name, by decide, Tryz.func271.trans (congrArg some (by kernel_rfl))⟩
  t0 := Tryz.underlying0
  a0 := Tryz.isAgg0
  z0 := Tryz.sizeOf0
  v0 := Tryz.zeroValue0
  t3 := Tryz.underlying3
  a3 := Tryz.isAgg3
  z3 := Tryz.sizeOf3
  v3 := Tryz.zeroValue3
  t4 := Tryz.underlying4
  a4 := Tryz.isAgg4
  z4 := Tryz.sizeOf4
  v4 := Tryz.zeroValue4
  t5 := Tryz.underlying5
  a5 := Tryz.isAgg5
  z5 := Tryz.sizeOf5
  v5 := Tryz.zeroValue5
  t9 := Tryz.underlying9
  a9 := Tryz.isAgg9
  z9 := Tryz.sizeOf9
  v9 := Tryz.zeroValue9
  t22 := Tryz.underlying178
  a22 := Tryz.isAgg178
  z22 := Tryz.sizeOf178
  v22 := Tryz.zeroValue178
  t25 := Tryz.underlying280
  a25 := Tryz.isAgg280
  z25 := Tryz.sizeOf280
  v25 := Tryz.zeroValue280
  t39 := Tryz.underlying281
  a39 := Tryz.isAgg281
  z39 := Tryz.sizeOf281
  v39 := Tryz.zeroValue281
  t45 := Tryz.underlying330
  a45 := Tryz.isAgg330
  z45 := Tryz.sizeOf330
  v45 := Tryz.zeroValue330
  t46 := Tryz.underlying331
  a46 := Tryz.isAgg331
  z46 := Tryz.sizeOf331
  v46 := Tryz.zeroValue331
  t50 := Tryz.underlying80
  a50 := Tryz.isAgg80
  z50 := Tryz.sizeOf80
  v50 := Tryz.zeroValue80
  t53 := Tryz.underlying337
  a53 := Tryz.isAgg337
  z53 := Tryz.sizeOf337
  v53 := Tryz.zeroValue337
  t55 := Tryz.underlying339
  a55 := Tryz.isAgg339
  z55 := Tryz.sizeOf339
  v55 := Tryz.zeroValue339
  t66 := Tryz.underlying347
  a66 := Tryz.isAgg347
  z66 := Tryz.sizeOf347
  v66 := Tryz.zeroValue347
  t70 := Tryz.underlying351
  a70 := Tryz.isAgg351
  z70 := Tryz.sizeOf351
  v70 := Tryz.zeroValue351
  t76 := Tryz.underlying365
  a76 := Tryz.isAgg365
  z76 := Tryz.sizeOf365
  v76 := Tryz.zeroValue365
  t77 := Tryz.underlying158
  a77 := Tryz.isAgg158
  z77 := Tryz.sizeOf158
  v77 := Tryz.zeroValue158 }
open Go.RowKit Go.Lib Go.Sort in

theorem Tryz.slices_SortFunc_none {α : Type} [Inhabited α] (p : Option Addr) (cap : Nat) (fv : Value) (w : World) :
    Calls Tryz.prog 230 #[.slice p 0 cap, fv] w fun e w' => e = .returned (.tuple #[]) ∧ w' = w := AnyF.slices_SortFunc_none Tryz.laysSlF06_f230 p cap fv w
open Go.RowKit Go.Lib Go.Sort in

theorem Tryz.slices_SortFunc_total {α : Type} [Inhabited α] (enc : α → Value) (h1 : OneCell enc) (cf : α → α → Int) (hO : SWO (ltOf cf)) (g : Nat) (cb : Array Value) (blk off cap : Nat) (d : Array α) (w : World) (eg : ∀ args w, (callFunc g args).run Tryz.prog w = .ok (.enter g args) w) (hcmp : CmpLays1 Tryz.prog g cb enc cf blk off d.size w) (hH : Holds enc w blk off d) (hblk : blk < w.heap.size) (hsz : d.size < 4611686018427387904) (hT : ∀ x y, (ltOf cf) x y = false → (ltOf cf) y x = false → x = y) :
    Calls Tryz.prog 230 #[.slice (some ⟨blk, off, none⟩) d.size cap, .func (.func g) #[] cb] w fun e w' =>
      e = .returned (.tuple #[]) ∧ ∃ n os, w' = sortWorld enc w blk off n (d.toList.mergeSort fun x y => !(ltOf cf) y x).toArray os := Any.slices_SortFunc_total Tryz.laysSlF6_f230 enc h1 cf hO g cb blk off cap d w eg hcmp hH hblk hsz hT
def Tryz.laysSlF06_f191_ren : Go.Shelf.Ren := ⟨fun | 6 => 191 | 15 => 189 | 14 => 225 | 28 => 222 | 29 => 223 | 20 => 238 | 21 => 239 | 22 => 240 | 23 => 241 | 24 => 242 | 25 => 243 | 26 => 244 | 27 => 245 | 46 => 252 | 47 => 234 | 48 => 235 | 49 => 253 | 50 => 254 | 57 => 266 | n => n, fun | 22 => 103 | 24 => 106 | 25 => 306 | 3 => 3 | 39 => 281 | 0 => 0 | 53 => 337 | 55 => 339 | 4 => 4 | 46 => 331 | 45 => 330 | 50 => 80 | 5 => 5 | 9 => 9 | 66 => 347 | 70 => 351 | 76 => 365 | 77 => 158 | n => n, fun | n => n⟩
theorem Tryz.laysSlF06_f191 : Go.Proofs.SlLaysF0.n6 Tryz.prog Tryz.laysSlF06_f191_ren := {
  mixed := by kernel_rfl
  f6 := ⟨Tryz.f191.name, by decide, Tryz.func191.trans (congrArg some (by kernel_rfl))⟩
  f14 := ⟨Tryz.f225.name, by decide, Tryz.func225.trans (congrArg some (by kernel_rfl))⟩
  f15 := Tryz.func189.trans (congrArg some (by kernel_rfl))
  f20 := ⟨Tryz.f238.name, by decide, Tryz.func238.trans (congrArg some (by kernel_rfl))⟩
  f21 := ⟨Tryz.f239.name, by decide, Tryz.func239.trans (congrArg some (by kernel_rfl))⟩
  f22 := ⟨Tryz.f240.name, by decide, Tryz.func240.trans (congrArg some (by kernel_rfl))⟩
  f23 := ⟨Tryz.f241.name, by decide, Tryz.func241.trans (congrArg some (by kernel_rfl))⟩
  f24 := ⟨Tryz.f242.name, by decide, Tryz.func242.trans (congrArg some (by kernel_rfl))⟩
  f25 := ⟨Tryz.f243.name, by decide, Tryz.func243.trans (congrArg some (by kernel_rfl))⟩
  f26 := ⟨Tryz.f244.name, by decide, Tryz.func244.trans (congrArg some (by kernel_rfl))⟩
  f27 := ⟨Tryz.f245.name, by decide, Tryz.func245.trans (congrArg some (by kernel_rfl))⟩
  f28 := Tryz.func222.trans (congrArg some (by kernel_rfl))
  f29 := Tryz.func223.trans (congrArg some (by kernel_rfl))
  f46 := ⟨Tryz.f252.name, by decide, Tryz.func252.trans (congrArg some (by kernel_rfl))⟩
  f47 := Tryz.func234.trans (congrArg some (by kernel_rfl))
  f48 := Tryz.func235.trans (congrArg some (by kernel_rfl))
  f49 := ⟨Tryz.f253.name, by decide, Tryz.func253.trans (congrArg some (by kernel_rfl))⟩
  f50 := ⟨Tryz.f254.name, by decide, Tryz.func254.trans (congrArg some (by kernel_rfl))⟩
  f57 := ⟨Tryz.f266.name, by decide, Tryz.func266.trans (congrArg some (by kernel_rfl))⟩
  t0 := Tryz.underlying0
  a0 := Tryz.isAgg0
  z0 := Tryz.sizeOf0
  v0 := Tryz.zeroValue0
  t3 := Tryz.underlying3
  a3 := Tryz.isAgg3
  z3 := Tryz.sizeOf3
  v3 := Tryz.zeroValue3
  t4 := Tryz.underlying4
  a4 := Tryz.isAgg4
  z4 := Tryz.sizeOf4
  v4 := Tryz.zeroValue4
  t5 := Tryz.underlying5
  a5 := Tryz.isAgg5
  z5 := Tryz.sizeOf5
  v5 := Tryz.zeroValue5
  t9 := Tryz.underlying9
  a9 := Tryz.isAgg9
  z9 := Tryz.sizeOf9
  v9 := Tryz.zeroValue9
  t22 := Tryz.underlying103
  a22 := Tryz.isAgg103
  z22 := Tryz.sizeOf103
  v22 := Tryz.zeroValue103
  t25 := Tryz.underlying306
  a25 := Tryz.isAgg306
  z25 := Tryz.sizeOf306
  v25 := Tryz.zeroValue306
  t39 := Tryz.underlying281
  a39 := Tryz.isAgg281
  z39 := Tryz.sizeOf281
  v39 := Tryz.zeroValue281
  t45 := Tryz.underlying330
  a45 := Tryz.isAgg330
  z45 := Tryz.sizeOf330
  v45 := Tryz.zeroValue330
  t46 := Tryz.underlying331
  a46 := Tryz.isAgg331
  z46 := Tryz.sizeOf331
  v46 := Tryz.zeroValue331
  t50 := Tryz.underlying80
  a50 := Tryz.isAgg80
  z50 := Tryz.sizeOf80
  v50 := Tryz.zeroValue80
  t53 := Tryz.underlying337
  a53 := Tryz.isAgg337
  z53 := Tryz.sizeOf337
  v53 := Tryz.zeroValue337
  t55 := Tryz.underlying339
  a55 := Tryz.isAgg339
  z55 := Tryz.sizeOf339
  v55 := Tryz.zeroValue339
  t66 := Tryz.underlying347
  a66 := Tryz.isAgg347
  z66 := Tryz.sizeOf347
  v66 := Tryz.zeroValue347
  t70 := Tryz.underlying351
  a70 := Tryz.isAgg351
  z70 := Tryz.sizeOf351
  v70 := Tryz.zeroValue351
  t76 := Tryz.underlying365
  a76 := Tryz.isAgg365
  z76 := Tryz.sizeOf365
  v76 := Tryz.zeroValue365
  t77 := Tryz.underlying158
  a77 := Tryz.isAgg158
  z77 := Tryz.sizeOf158
  v77 := Tryz.zeroValue158 }
open Go.RowKit Go.Lib Go.Sort in
theorem Tryz.slices_SortFunc_noneE {α : Type} [Inhabited α] (p : Option Addr) (cap : Nat) (fv : Value) (w : World) :
    Calls Tryz.prog 191 #[.slice p 0 cap, fv] w fun e w' => e = .returned (.tuple #[]) ∧ w' = w := AnyF.slices_SortFunc_none Tryz.laysSlF06_f191 p cap fv w
open Go.RowKit Go.Lib Go.Sort in
theorem Tryz.slices_SortFunc_totalE {α : Type} [Inhabited α] (enc : α → List Value) (hk : ∀ x, (enc x).length = 2) (h1 : ∀ x, ∀ v ∈ enc x, v.oneCell' = true) (cf : α → α → Int) (hO : SWO (ltOf cf)) (g : Nat) (cb : Array Value) (blk off cap : Nat) (d : Array α) (w : World) (eg : ∀ args w, (callFunc g args).run Tryz.prog w = .ok (.enter g args) w) (hcmp : CmpLays Tryz.prog g cb enc 2 cf blk off d.size w) (hH : HoldsK enc 2 w blk off d) (hblk : blk < w.heap.size) (hsz : d.size < 4611686018427387904) (hT : ∀ x y, (ltOf cf) x y = false → (ltOf cf) y x = false → x = y) :
    Calls Tryz.prog 191 #[.slice (some ⟨blk, off, none⟩) d.size cap, .func (.func g) #[] cb] w fun e w' =>
      e = .returned (.tuple #[]) ∧ ∃ n os, w' = sortWorldK enc 2 w blk off n (d.toList.mergeSort fun x y => !(ltOf cf) y x).toArray os := AnyQ.slices_SortFunc_total Tryz.laysSlF06_f191 2 Tryz.isAgg106 Tryz.sizeOf106 enc hk h1 cf hO g cb blk off cap d w eg hcmp hH hblk hsz hT
end Go.Proofs
