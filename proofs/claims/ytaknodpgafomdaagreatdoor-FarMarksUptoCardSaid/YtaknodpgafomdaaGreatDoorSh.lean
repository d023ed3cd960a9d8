/- The library's contracts, laid at this dump. -/
import Derived.Shelf.Small.Wraps
import Derived.Shelf.Sort.Plain
import Derived.Shelf.Slices.In.SortNone
import Derived.Ground.SlgcProg
import Derived.Shelf.SlicesG.Cmp
import Derived.Ground.SlsfProg
import Derived.Shelf.SlSortCmp.NoneTotal
import Derived.Test.YtaknodpgafomdaaGreatDoorProg
namespace Go.Proofs
open Go.Shelf
def Tryz.lays122_ren : Go.Shelf.Ren := ⟨fun | 122 => 226 | 215 => 208 | n => n, fun | 3 => 3 | 4 => 4 | n => n, fun | n => n⟩
theorem Tryz.lays122 : Go.Proofs.Lays.n122 Tryz.prog Tryz.lays122_ren := {
  mixed := by kernel_rfl
  f122 := Tryz.func226.trans (congrArg some (by kernel_rfl))
  f215 := Tryz.func208.trans (congrArg some (by kernel_rfl))
  t3 := Tryz.underlying3
  a3 := Tryz.isAgg3
  z3 := Tryz.sizeOf3
  v3 := Tryz.zeroValue3
  t4 := Tryz.underlying4
  a4 := Tryz.isAgg4
  z4 := Tryz.sizeOf4
  v4 := Tryz.zeroValue4 }
open Go.RowKit in

theorem Tryz.cmp_Compare_int (x y : Int) (w : World) :
    Calls Tryz.prog 226 #[.int .i64 x, .int .i64 y] w fun e w' => e = .returned (.int .i64 (Lib.compareInt x y)) ∧ w' = w := Any.cmp_Compare_int Tryz.lays122 x y w
def Tryz.lays189_ren : Go.Shelf.Ren := ⟨fun | 189 => 108 | 125 => 144 | 257 => 143 | 128 => 177 | 129 => 178 | 294 => 168 | 295 => 169 | 296 => 170 | 297 => 171 | 298 => 172 | 299 => 173 | 216 => 174 | 300 => 175 | 301 => 176 | 328 => 203 | 329 => 204 | 330 => 205 | 331 => 206 | 332 => 207 | 215 => 208 | 343 => 221 | n => n, fun | 28 => 35 | 3 => 3 | 46 => 206 | 0 => 0 | 51 => 241 | 53 => 243 | 4 => 4 | 183 => 235 | 182 => 234 | 131 => 85 | 5 => 5 | 9 => 9 | 218 => 273 | 222 => 277 | 228 => 296 | 229 => 212 | n => n, fun | n => n⟩
theorem Tryz.lays189 : Go.Proofs.Lays.n189 Tryz.prog Tryz.lays189_ren := {
  mixed := by kernel_rfl
  f125 := Tryz.func144.trans (congrArg some (by kernel_rfl))
  f128 := Tryz.func177.trans (congrArg some (by kernel_rfl))
  f129 := Tryz.func178.trans (congrArg some (by kernel_rfl))
  f189 := Tryz.func108.trans (congrArg some (by kernel_rfl))
  f215 := Tryz.func208.trans (congrArg some (by kernel_rfl))
  f216 := Tryz.func174.trans (congrArg some (by kernel_rfl))
  f257 := Tryz.func143.trans (congrArg some (by kernel_rfl))
  f294 := Tryz.func168.trans (congrArg some (by kernel_rfl))
  f295 := Tryz.func169.trans (congrArg some (by kernel_rfl))
  f296 := Tryz.func170.trans (congrArg some (by kernel_rfl))
  f297 := Tryz.func171.trans (congrArg some (by kernel_rfl))
  f298 := Tryz.func172.trans (congrArg some (by kernel_rfl))
  f299 := Tryz.func173.trans (congrArg some (by kernel_rfl))
  f300 := Tryz.func175.trans (congrArg some (by kernel_rfl))
  f301 := Tryz.func176.trans (congrArg some (by kernel_rfl))
  f328 := Tryz.func203.trans (congrArg some (by kernel_rfl))
  f329 := Tryz.func204.trans (congrArg some (by kernel_rfl))
  f330 := Tryz.func205.trans (congrArg some (by kernel_rfl))
  f331 := Tryz.func206.trans (congrArg some (by kernel_rfl))
  f332 := Tryz.func207.trans (congrArg some (by kernel_rfl))
  f343 := Tryz.func221.trans (congrArg some (by kernel_rfl))
  t0 := Tryz.underlying0
  a0 := Tryz.isAgg0
  z0 := Tryz.sizeOf0
  v0 := Tryz.zeroValue0
  t3 := Tryz.underlying3
  a3 := Tryz.isAgg3
  z3 := Tryz.sizeOf3
  v3 := Tryz.zeroValue3
  t4 := Tryz.underlying4
  a4 := Tryz.isAgg4
  z4 := Tryz.sizeOf4
  v4 := Tryz.zeroValue4
  t5 := Tryz.underlying5
  a5 := Tryz.isAgg5
  z5 := Tryz.sizeOf5
  v5 := Tryz.zeroValue5
  t9 := Tryz.underlying9
  a9 := Tryz.isAgg9
  z9 := Tryz.sizeOf9
  v9 := Tryz.zeroValue9
  t28 := Tryz.underlying35
  a28 := Tryz.isAgg35
  z28 := Tryz.sizeOf35
  v28 := Tryz.zeroValue35
  t46 := Tryz.underlying206
  a46 := Tryz.isAgg206
  z46 := Tryz.sizeOf206
  v46 := Tryz.zeroValue206
  t51 := Tryz.underlying241
  a51 := Tryz.isAgg241
  z51 := Tryz.sizeOf241
  v51 := Tryz.zeroValue241
  t53 := Tryz.underlying243
  a53 := Tryz.isAgg243
  z53 := Tryz.sizeOf243
  v53 := Tryz.zeroValue243
  t131 := Tryz.underlying85
  a131 := Tryz.isAgg85
  z131 := Tryz.sizeOf85
  v131 := Tryz.zeroValue85
  t182 := Tryz.underlying234
  a182 := Tryz.isAgg234
  z182 := Tryz.sizeOf234
  v182 := Tryz.zeroValue234
  t183 := Tryz.underlying235
  a183 := Tryz.isAgg235
  z183 := Tryz.sizeOf235
  v183 := Tryz.zeroValue235
  t218 := Tryz.underlying273
  a218 := Tryz.isAgg273
  z218 := Tryz.sizeOf273
  v218 := Tryz.zeroValue273
  t222 := Tryz.underlying277
  a222 := Tryz.isAgg277
  z222 := Tryz.sizeOf277
  v222 := Tryz.zeroValue277
  t228 := Tryz.underlying296
  a228 := Tryz.isAgg296
  z228 := Tryz.sizeOf296
  v228 := Tryz.zeroValue296
  t229 := Tryz.underlying212
  a229 := Tryz.isAgg212
  z229 := Tryz.sizeOf212
  v229 := Tryz.zeroValue212 }
open Go.Sort Go.RowKit in
theorem Tryz.slices_Sort_int (blk off cap : Nat) (zs : List Int) (w : World) (hH : Holds (Value.int .i64) w blk off zs.toArray) (hblk : blk < w.heap.size) (hsz : zs.length < 4611686018427387904) :
    Calls Tryz.prog 108 #[.slice (some ⟨blk, off, none⟩) zs.length cap] w fun e w' =>
      e = .returned (.tuple #[]) ∧ ∃ n os, w' = grow (putRow (Value.int .i64) (Sort.ahead w n) blk off (zs.mergeSort fun x y => decide (x ≤ y)).toArray) os := Any.slices_Sort_int Tryz.lays189 blk off cap zs w hH hblk hsz
open Go.RowKit Go.Sort in

theorem Tryz.slices_Sort_int_none (p : Option Addr) (cap : Nat) (w : World) :
    Calls Tryz.prog 108 #[.slice p 0 cap] w fun e w' => e = .returned (.tuple #[]) ∧ w' = w := Any.slices_Sort_int_none Tryz.lays189 p cap w
def Tryz.laysSlF6_f225_ren : Go.Shelf.Ren := ⟨fun | 6 => 225 | 15 => 144 | 14 => 228 | 28 => 177 | 29 => 178 | 20 => 229 | 21 => 230 | 22 => 231 | 23 => 232 | 24 => 233 | 25 => 234 | 26 => 235 | 27 => 236 | 46 => 237 | 47 => 204 | 48 => 205 | 49 => 238 | 50 => 239 | 57 => 240 | n => n, fun | 22 => 35 | 24 => 3 | 25 => 300 | 3 => 3 | 39 => 206 | 0 => 0 | 53 => 241 | 55 => 243 | 4 => 4 | 46 => 235 | 45 => 234 | 50 => 85 | 5 => 5 | 9 => 9 | 66 => 273 | 70 => 277 | 76 => 296 | 77 => 212 | n => n, fun | n => n⟩
theorem Tryz.laysSlF6_f225 : Go.Proofs.SlLaysF.n6 Tryz.prog Tryz.laysSlF6_f225_ren := {
  mixed := by kernel_rfl
  f6 := ⟨Tryz.f225.name, by decide, Tryz.func225.trans (congrArg some (by kernel_rfl))⟩
  f14 := ⟨Tryz.f228.name, by decide, Tryz.func228.trans (congrArg some (by kernel_rfl))⟩
  f15 := Tryz.func144.trans (congrArg some (by kernel_rfl))
  f20 := ⟨Tryz.f229.name, by decide, Tryz.func229.trans (congrArg some (by kernel_rfl))⟩
  f21 := ⟨Tryz.f230.name, by decide, Tryz.func230.trans (congrArg some (by kernel_rfl))⟩
  f22 := ⟨Tryz.f231.name, by decide, Tryz.func231.trans (congrArg some (by kernel_rfl))⟩
  f23 := ⟨Tryz.f232.name, by decide, Tryz.func232.trans (congrArg some (by kernel_rfl))⟩
  f24 := ⟨Tryz.f233.name, by decide, Tryz.func233.trans (congrArg some (by kernel_rfl))⟩
  f25 := ⟨Tryz.f234.name, by decide, Tryz.func234.trans (congrArg some (by kernel_rfl))⟩
  f26 := ⟨Tryz.f235.name, by decide, Tryz.func235.trans (congrArg some (by kernel_rfl))⟩
  f27 := ⟨Tryz.f236.name, by decide, Tryz.func236.trans (congrArg some (by kernel_rfl))⟩
  f28 := Tryz.func177.trans (congrArg some (by kernel_rfl))
  f29 := Tryz.func178.trans (congrArg some (by kernel_rfl))
  f46 := ⟨Tryz.f237.name, by decide, Tryz.func237.trans (congrArg some (by kernel_rfl))⟩
  f47 := Tryz.func204.trans (congrArg some (by kernel_rfl))
  f48 := Tryz.func205.trans (congrArg some (by kernel_rfl))
  f49 := ⟨Tryz.f238.name, by decide, Tryz.func238.trans (congrArg some (by kernel_rfl))⟩
  f50 := ⟨Tryz.f239.name, by decide, Tryz.func239.trans (congrArg some (by kernel_rfl))⟩
  f57 := ⟨Tryz.f240.name, by decide, Tryz.func240.trans (congrArg some (by kernel_rfl))⟩
  t0 := Tryz.underlying0
  a0 := Tryz.isAgg0
  z0 := Tryz.sizeOf0
  v0 := Tryz.zeroValue0
  t3 := Tryz.underlying3
  a3 := Tryz.isAgg3
  z3 := Tryz.sizeOf3
  v3 := Tryz.zeroValue3
  t4 := Tryz.underlying4
  a4 := Tryz.isAgg4
  z4 := Tryz.sizeOf4
  v4 := Tryz.zeroValue4
  t5 := Tryz.underlying5
  a5 := Tryz.isAgg5
  z5 := Tryz.sizeOf5
  v5 := Tryz.zeroValue5
  t9 := Tryz.underlying9
  a9 := Tryz.isAgg9
  z9 := Tryz.sizeOf9
  v9 := Tryz.zeroValue9
  t22 := Tryz.underlying35
  a22 := Tryz.isAgg35
  z22 := Tryz.sizeOf35
  v22 := Tryz.zeroValue35
  a24 := Tryz.isAgg3
  z24 := Tryz.sizeOf3
  t25 := Tryz.underlying300
  a25 := Tryz.isAgg300
  z25 := Tryz.sizeOf300
  v25 := Tryz.zeroValue300
  t39 := Tryz.underlying206
  a39 := Tryz.isAgg206
  z39 := Tryz.sizeOf206
  v39 := Tryz.zeroValue206
  t45 := Tryz.underlying234
  a45 := Tryz.isAgg234
  z45 := Tryz.sizeOf234
  v45 := Tryz.zeroValue234
  t46 := Tryz.underlying235
  a46 := Tryz.isAgg235
  z46 := Tryz.sizeOf235
  v46 := Tryz.zeroValue235
  t50 := Tryz.underlying85
  a50 := Tryz.isAgg85
  z50 := Tryz.sizeOf85
  v50 := Tryz.zeroValue85
  t53 := Tryz.underlying241
  a53 := Tryz.isAgg241
  z53 := Tryz.sizeOf241
  v53 := Tryz.zeroValue241
  t55 := Tryz.underlying243
  a55 := Tryz.isAgg243
  z55 := Tryz.sizeOf243
  v55 := Tryz.zeroValue243
  t66 := Tryz.underlying273
  a66 := Tryz.isAgg273
  z66 := Tryz.sizeOf273
  v66 := Tryz.zeroValue273
  t70 := Tryz.underlying277
  a70 := Tryz.isAgg277
  z70 := Tryz.sizeOf277
  v70 := Tryz.zeroValue277
  t76 := Tryz.underlying296
  a76 := Tryz.isAgg296
  z76 := Tryz.sizeOf296
  v76 := Tryz.zeroValue296
  t77 := Tryz.underlying212
  a77 := Tryz.isAgg212
  z77 := Tryz.sizeOf212
  v77 := Tryz.zeroValue212 }
def Tryz.laysSlF06_f225_ren : Go.Shelf.Ren := ⟨fun | 6 => 225 | 15 => 144 | 14 => 228 | 28 => 177 | 29 => 178 | 20 => 229 | 21 => 230 | 22 => 231 | 23 => 232 | 24 => 233 | 25 => 234 | 26 => 235 | 27 => 236 | 46 => 237 | 47 => 204 | 48 => 205 | 49 => 238 | 50 => 239 | 57 => 240 | n => n, fun | 22 => 35 | 24 => 3 | 25 => 300 | 3 => 3 | 39 => 206 | 0 => 0 | 53 => 241 | 55 => 243 | 4 => 4 | 46 => 235 | 45 => 234 | 50 => 85 | 5 => 5 | 9 => 9 | 66 => 273 | 70 => 277 | 76 => 296 | 77 => 212 | n => n, fun | n => n⟩
theorem Tryz.laysSlF06_f225 : Go.Proofs.SlLaysF0.n6 Tryz.prog Tryz.laysSlF06_f225_ren := {
  mixed := by kernel_rfl
  f6 := ⟨Tryz.f225.name, by decide, Tryz.func225.trans (congrArg some (by kernel_rfl))⟩
  f14 := ⟨Tryz.f228.name, by decide, Tryz.func228.trans (congrArg some (by kernel_rfl))⟩
  f15 := Tryz.func144.trans (congrArg some (by kernel_rfl))
  f20 := ⟨Tryz.f229.name, by decide, Tryz.func229.trans (congrArg some (by kernel_rfl))⟩
  f21 := ⟨Tryz.f230.name, by decide, Tryz.func230.trans (congrArg some (by kernel_rfl))⟩
  f22 := ⟨Tryz.f231.name, by decide, Tryz.func231.trans (congrArg some (by kernel_rfl))⟩
  f23 := ⟨Tryz.f232.name, by decide, Tryz.func232.trans (congrArg some (by kernel_rfl))⟩
  f24 := ⟨Tryz.f233.name, by decide, Tryz.func233.trans (congrArg some (by kernel_rfl))⟩
  f25 := ⟨Tryz.f234.name, by decide, Tryz.func234.trans (congrArg some (by kernel_rfl))⟩
  f26 := ⟨Tryz.f235.name, by decide, Tryz.func235.trans (congrArg some (by kernel_rfl))⟩
  f27 := ⟨Tryz.f236.name, by decide, Tryz.func236.trans (congrArg some (by kernel_rfl))⟩
  f28 := Tryz.func177.trans (congrArg some (by kernel_rfl))
  f29 := Tryz.func178.trans (congrArg some (by kernel_rfl))
  f46 := ⟨Tryz.f237.name, by decide, Tryz.func237.trans (congrArg some (by kernel_rfl))⟩
  f47 := Tryz.func204.trans (congrArg some (by kernel_rfl))
  f48 := Tryz.func205.trans (congrArg some (by kernel_rfl))
  f49 := ⟨Tryz.f238.name, by decide, Tryz.func238.trans (congrArg some (by kernel_rfl))⟩
  f50 := ⟨Tryz.f239.name, by decide, Tryz.func239.trans (congrArg some (by kernel_rfl))⟩
  f57 := ⟨Tryz.f240.name, by decide, Tryz.func240.trans (congrArg some (by kernel_rfl))⟩
  t0 := Tryz.underlying0
  a0 := Tryz.isAgg0
  z0 := Tryz.sizeOf0
  v0 := Tryz.zeroValue0
  t3 := Tryz.underlying3
  a3 := Tryz.isAgg3
  z3 := Tryz.sizeOf3
  v3 := Tryz.zeroValue3
  t4 := Tryz.underlying4
  a4 := Tryz.isAgg4
  z4 := Tryz.sizeOf4
  v4 := Tryz.zeroValue4
  t5 := Tryz.underlying5
  a5 := Tryz.isAgg5
  z5 := Tryz.sizeOf5
  v5 := Tryz.zeroValue5
  t9 := Tryz.underlying9
  a9 := Tryz.isAgg9
  z9 := Tryz.sizeOf9
  v9 := Tryz.zeroValue9
  t22 := Tryz.underlying35
  a22 := Tryz.isAgg35
  z22 := Tryz.sizeOf35
  v22 := Tryz.zeroValue35
  t25 := Tryz.underlying300
  a25 := Tryz.isAgg300
  z25 := Tryz.sizeOf300
  v25 := Tryz.zeroValue300
  t39 := Tryz.underlying206
  a39 := Tryz.isAgg206
  z39 := Tryz.sizeOf206
  v39 := Tryz.zeroValue206
  t45 := Tryz.underlying234
  a45 := Tryz.isAgg234
  z45 := Tryz.sizeOf234
  v45 := Tryz.zeroValue234
  t46 := Tryz.underlying235
  a46 := Tryz.isAgg235
  z46 := Tryz.sizeOf235
  v46 := Tryz.zeroValue235
  t50 := Tryz.underlying85
  a50 := Tryz.isAgg85
  z50 := Tryz.sizeOf85
  v50 := Tryz.zeroValue85
  t53 := Tryz.underlying241
  a53 := Tryz.isAgg241
  z53 := Tryz.sizeOf241
  v53 := Tryz.zeroValue241
  t55 := Tryz.underlying243
  a55 := Tryz.isAgg243
  z55 := Tryz.sizeOf243
  v55 := Tryz.zeroValue243
  t66 := Tryz.underlying273
  a66 := Tryz.isAgg273
  z66 := Tryz.sizeOf273
  v66 := Tryz.zeroValue273
  t70 := Tryz.underlying277
  a70 := Tryz.isAgg277
  z70 := Tryz.sizeOf277
  v70 := Tryz.zeroValue277
  t76 := Tryz.underlying296
  a76 := Tryz.isAgg296
  z76 := Tryz.sizeOf296
  v76 := Tryz.zeroValue296
  t77 := Tryz.underlying212
  a77 := Tryz.isAgg212
  z77 := Tryz.sizeOf212
  v77 := Tryz.zeroValue212 }
open Go.RowKit Go.Lib Go.Sort in

theorem Tryz.slices_SortFunc_none {α : Type} [Inhabited α] (p : Option Addr) (cap : Nat) (fv : Value) (w : World) :
    Calls Tryz.prog 225 #[.slice p 0 cap, fv] w fun e w' => e = .returned (.tuple #[]) ∧ w' = w := AnyF.slices_SortFunc_none Tryz.laysSlF06_f225 p cap fv w
open Go.RowKit Go.Lib Go.Sort in

theorem Tryz.slices_SortFunc_total {α : Type} [Inhabited α] (enc : α → Value) (h1 : OneCell enc) (cf : α → α → Int) (hO : SWO (ltOf cf)) (g : Nat) (cb : Array Value) (blk off cap : Nat) (d : Array α) (w : World) (eg : ∀ args w, (callFunc g args).run Tryz.prog w = .ok (.enter g args) w) (hcmp : CmpLays1 Tryz.prog g cb enc cf blk off d.size w) (hH : Holds enc w blk off d) (hblk : blk < w.heap.size) (hsz : d.size < 4611686018427387904) (hT : ∀ x y, (ltOf cf) x y = false → (ltOf cf) y x = false → x = y) :
    Calls Tryz.prog 225 #[.slice (some ⟨blk, off, none⟩) d.size cap, .func (.func g) #[] cb] w fun e w' =>
      e = .returned (.tuple #[]) ∧ ∃ n os, w' = sortWorld enc w blk off n (d.toList.mergeSort fun x y => !(ltOf cf) y x).toArray os := Any.slices_SortFunc_total Tryz.laysSlF6_f225 enc h1 cf hO g cb blk off cap d w eg hcmp hH hblk hsz hT
end Go.Proofs
