/- The law's first call, run by the kernel. -/
import Derived.KernelRfl
import Derived.Test.YtjepefjpjiibgaaGreatDoorAc3
set_option linter.unusedSimpArgs false
set_option linter.unusedVariables false
namespace Go.Abs
open Go Pr
set_option maxRecDepth 100000
def xA:List V:=[.slR [[.slR [[.slR [[.int .i64 2,.nils,.int .i64 1]] false]] false,.int .i64 1,.nils],[.slR [[.slR [[.int .i64 0,.slR [[.int .i64 120,.int .i64 120]] false,.int .i64 0],[.int .i64 2,.nils,.int .i64 1]] false],[.nils]] true,.int .i64 0,.nils]] false,.nils,.slR [[.int .u8 120],[.int .u8 120],[.int .u8 120]] false,.int .i64 8,.bool false]
def yA:List V:=[.slR [[.slR [[.slR [[.int .i64 0,.slR [[.int .i64 120,.int .i64 120]] false,.int .i64 0]] false]] false,.int .i64 0,.nils]] false,.nils,.slR [[.int .u8 121]] false,.int .i64 8,.bool true]
def hA0 (o:Obj):Heap:=⟨1,.n (some o) .e .e⟩
def hA1 (o:Obj):Heap:=((hA0 o).push (.rows [[.nils,.nils,.nils,.int .i64 0,.bool false]])).set 1 (.rows [xA])
def hA2 (o:Obj):Heap:=((hA1 o).push (.rows [[.nils,.nils,.nils,.int .i64 0,.bool false]])).set 2 (.rows [yA])
theorem runOfX:(λo=>evCall PR 4000 1 (.fn 323 [] []) [.str [64,108,111,110,103,32,97,32,61,32,34,120,34,42,59],.str [120,120,120],.bool false] (hA0 o))=λo=>some [⟨.agg xA,hA0 o⟩]:=by kernel_rfl
theorem runOfY:(λo=>evCall PR 4000 1 (.fn 323 [] []) [.str [97,32,61,32,34,120,34,59],.str [121],.bool true] (hA1 o))=λo=>some [⟨.agg yA,hA1 o⟩]:=by kernel_rfl
theorem qpr:(λo=>evCall PR 4000 1 (.fn 313 [] []) [.agg xA,.int .i64 0,.int .i64 0,.int .i64 (-1)] (hA1 o))=λo=>some [⟨.slR [[.int .i64 0,.int .i64 0],[.int .i64 1,.int .i64 0],[.int .i64 2,.int .i64 0],[.int .i64 3,.int .i64 0]] false,hA1 o⟩]:=by kernel_rfl
theorem qrA:(λo=>evCall PR 4000 1 (.fn 311 [] []) [.agg xA,.int .i64 0,.int .i64 0,.int .i64 (-1)] (hA1 o))=λo=>some [⟨.slR [[.int .i64 3,.int .i64 0]] false,hA1 o⟩]:=by kernel_rfl
theorem qrz:(λo=>evCall PR 4000 1 (.fn 311 [] []) [.agg yA,.int .i64 0,.int .i64 0,.int .i64 (-1)] (hA2 o))=λo=>some [⟨.slR [[.int .i64 1,.int .i64 1]] false,hA2 o⟩]:=by kernel_rfl
theorem qry:(λo=>evCall PR 4000 1 (.fn 312 [] []) [.agg xA] (hA2 o))=λo=>some [⟨.bool true,hA2 o⟩]:=by kernel_rfl
theorem qnH:(λo=>evCall PR 4000 1 (.fn 316 [] []) [.agg xA] (hA2 o))=λo=>some [⟨.int .i64 5,hA2 o⟩]:=by kernel_rfl
theorem awakeEnds:Awake 310:=λd mk o hmk=>by
 have e0:(Heap.push ⟨0,.e⟩ o:Heap)=hA0 o:=rfl;rw [e0];have n0:(hA0 o).n=1:=rfl;have n1:(hA1 o).n=2:=rfl;have G1:(hA2 o).get 1=some (.rows [xA]):=by rw [hA2,Heap.get_set,if_neg (by decide),Heap.get_push,if_neg (by rw [n1]; decide),hA1,Heap.get_set,if_pos rfl]
 have G11:(hA1 o).get 1=some (.rows [xA]):=by rw [hA1,Heap.get_set,if_pos rfl]
 have G2:(hA2 o).get 2=some (.rows [yA]):=by rw [hA2,Heap.get_set,if_pos rfl]
 have n2:(hA2 o).n=3:=rfl;have lx:xA.length=5:=rfl;have ly:yA.length=5:=rfl;have ox:ones xA=true:=rfl;have oy:ones yA=true:=rfl;have h1:((hA0 o).push (.rows [[.nils,.nils,.nils,.int .i64 0,.bool false]])).set 1 (.rows [xA])=hA1 o:=rfl;have h2:((hA1 o).push (.rows [[.nils,.nils,.nils,.int .i64 0,.bool false]])).set 2 (.rows [yA])=hA2 o:=rfl;refine WF.po f310 b310 [.tm 0] rfl rfl rfl rfl rfl rfl ?_;unfold b310;simp -dsimp [n0];refine WFS.by (WF.ran qda (congrFun runOfX o)) ?_
 intro v h' e;cases e;have pX:qbW [.nils,.nils,.nils,.int .i64 0,.bool false] 0 xA=xA:=rfl;have pY:qbW [.nils,.nils,.nils,.int .i64 0,.bool false] 0 yA=yA:=rfl;have tX:List.take 5 xA=xA:=rfl;have tY:List.take 5 yA=yA:=rfl;have hE:∀(H:Heap) (r:List (List V)),lenV .sl (.slR r false) H=some (.int .i64 r.length):=λ_ _=>rfl;simp -dsimp [n0,lx,ox];rw [pX,h1];simp -dsimp [lx,tX];refine WFS.by (WF.ran qda (congrFun qpr o)) ?_
 intro v h' e;cases e;simp -dsimp [G11,lx,tX];refine WFS.by (WF.ran qda (congrFun qrA o)) ?_
 intro v h' e;cases e;simp -dsimp;refine WFS.by (WF.ran qda (congrFun runOfY o)) ?_
 intro v h' e;cases e;simp -dsimp [n1,ly,oy];rw [pY,h2];simp -dsimp [ly,tY];refine WFS.by (WF.ran qda (congrFun qrz o)) ?_
 intro v h' e;cases e;simp -dsimp [G1,lx,tX];refine WFS.by (WF.ran qda (congrFun qry o)) ?_
 intro v h' e;cases e;have i3:qaw 2 (.slR [[.int .i64 3,.int .i64 0]] false) (.int .i64 0)=some (.ptrR [.int .i64 3,.int .i64 0] 0):=rfl;have i1:qaw 2 (.slR [[.int .i64 1,.int .i64 1]] false) (.int .i64 0)=some (.ptrR [.int .i64 1,.int .i64 1] 0):=rfl;have q3:eqv (.struct [.int,.int]) (.agg [.int .i64 3,.int .i64 0]) (.agg [.int .i64 3,.int .i64 0])=some true:=rfl;have q1:eqv (.struct [.int,.int]) (.agg [.int .i64 1,.int .i64 1]) (.agg [.int .i64 1,.int .i64 1])=some true:=rfl;simp -dsimp [hE,i3,i1,q3,q1,G1,lx,tX];refine WFS.by (WF.ran qda (congrFun qnH o)) ?_
 intro v h' e;cases e;simp -dsimp
end Go.Abs

