/- The law's first call, run by the kernel. -/
import Derived.KernelRfl
import Derived.Test.YtgebecbidfdhlaaGreatDoorAc4
set_option linter.unusedSimpArgs false
set_option linter.unusedVariables false
namespace Go.Abs
open Go Pr
set_option maxRecDepth 100000
def gVC1:List V:=[.slR [[.slR [[.slR [[.int .i64 2,.nils,.int .i64 1],[.int .i64 2,.nils,.int .i64 2]] false]] false,.int .i64 0,.nils],[.slR [[.slR [[.int .i64 2,.nils,.int .i64 3]] false]] false,.int .i64 0,.nils],[.slR [[.slR [[.int .i64 2,.nils,.int .i64 4]] false]] false,.int .i64 0,.nils],[.slR [[.slR [[.int .i64 0,.slR [[.int .i64 120,.int .i64 120]] false,.int .i64 0],[.int .i64 2,.nils,.int .i64 3]] false],[.nils]] true,.int .i64 0,.nils],[.slR [[.slR [[.int .i64 0,.slR [[.int .i64 120,.int .i64 120]] false,.int .i64 0],[.int .i64 2,.nils,.int .i64 4]] false],[.nils]] true,.int .i64 0,.nils]] false,.nils]
def symN (n:Int):Sy:=⟨2,.nil,n⟩
def symX:Sy:=⟨0,.of [⟨120,120⟩],0⟩
def cGr:Gr:=⟨.of [⟨.of [.of [symN 1,symN 2]],0,.nil⟩,⟨.of [.of [symN 3]],0,.nil⟩,⟨.of [.of [symN 4]],0,.nil⟩,⟨.full [.of [symX,symN 3],.nil],0,.nil⟩,⟨.full [.of [symX,symN 4],.nil],0,.nil⟩],.nil⟩
theorem qw3:cGr.cells=gVC1:=rfl
def cBC1 (o:Obj):Heap:=⟨1,.n (some o) .e .e⟩
def cEv (id:Nat):Ev:=⟨cGr,⟨.sl id 0 1 1 true,[120],id+1⟩,8,false⟩
def cEvN:Ev:=⟨cGr,⟨.nils,[],0⟩,8,false⟩
theorem qvS:cGr.Fine:=⟨⟨by decide,by decide,by decide,by decide,by decide⟩,by decide⟩
theorem cEvS (id:Nat):EvS (cEv id):=⟨qvS.toSmall,show (0:Nat)<1000000000 by decide,show (1:Nat)<1000000 by decide⟩
theorem cRg:∀p∈cGr.p.l,∀a∈p.a.l,∀s∈a.l,s.r.l.length<1500000:=by decide
theorem cMay:mayE cEvN=true→∀id,mayE (cEv id)=true:=λh id=>by
 simp only [mayE,Bool.and_eq_true,decide_eq_true_eq] at h ⊢;exact⟨h.1,show (1:Nat)≤200 by decide,show (1:Int)≤8 by decide,show (8:Int)≤16 by decide⟩
theorem qv8 {x:Opd}{id lo len e mk:Nat}{f:Bool}{tm:Tm}{h:Heap}(hx:x.ev tm=.sl id lo len e f) (h0:0<len) (hg:(h.get id).isSome=true):(qay (.same x)).run mk tm h=some ⟨.sl id lo len e f,h⟩:=by
 simp [qay,hx,hg,h0]
def cBC0 (_:Obj):Heap:=⟨0,.e⟩
def cXC0:List V:=gVC1++[.sl 1 0 1 1 true,.int .i64 8,.bool false]
def cGC0 (o:Obj):Heap:=((cBC0 o).push (.rows [[.nils,.nils]])).set 0 (.rows [gVC1])
def cWC0 (o:Obj):Heap:=(cGC0 o).push (.rows [[.int .u8 120]])
def cHC0 (o:Obj):Heap:=((cWC0 o).push (.rows [[.nils,.nils,.nils,.int .i64 0,.bool false]])).set 2 (.rows [cXC0])
end Go.Abs

