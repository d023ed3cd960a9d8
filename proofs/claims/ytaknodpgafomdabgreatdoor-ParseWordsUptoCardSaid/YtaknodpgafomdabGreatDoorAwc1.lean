/- The law's first call, run by the kernel. -/
import Derived.Test.YtaknodpgafomdabGreatDoorAwb1
set_option linter.unusedSimpArgs false
set_option linter.unusedVariables false
namespace Go.Abs
open Go Pr
set_option maxRecDepth 100000
set_option linter.unusedSimpArgs false
theorem runP4:evCall PR 4000 0 (.fn 433 [] []) [.agg exA,.agg exA] exH4=some [⟨.bool true,exH4⟩]:=by kernel_rfl
theorem qD7{x:Opd}{id lo len e mk:Nat}{f:Bool}{tm:Tm}{h:Heap}(hx:x.ev tm=.sl id lo len e f)(h0:0<len)(hg:(h.get id).isSome=true):(qay (.same x)).run mk tm h=some ⟨.sl id lo len e f,h⟩:=by
 simp[qay,hx,hg,h0]
theorem qD6:Awake0 429:=λd=>by
 have n0:(⟨0,.e⟩:Heap).n=0:=rfl;refine qBt f429 b429 [.tm 0] rfl rfl rfl rfl rfl rfl ?_;unfold b429;simp -dsimp[n0,-qar];rw[qar];simp -dsimp[n0,-qar];rw[qar];simp -dsimp[n0,-qar];have hh1:(Heap.push ⟨0,.e⟩ (Obj.rows [[V.int .u8 120]]))=exH1:=rfl;rw[hh1];refine OpS.intro (qD7 (id:=0) (lo:=0) (len:=1) (e:=1) (f:=true) (by simp) (by omega) rfl) ?_;have eT:[97,32,61,32,34,120,34,59]=exT:=rfl;simp -dsimp[n0,-qar];rw[eT];refine WFS.by (qD3 qda runP1) ?_
 intro v h' e;cases e;have n1:exH1.n=1:=rfl;have lA:exA.length=3:=rfl;have oA:ones exA=true:=rfl;have tA:List.take 3 exA=exA:=rfl;have pA:qbW [.int .i64 0,.nils,.int .i64 0] 0 exA=exA:=rfl;have lB:exB.length=3:=rfl;have oB:ones exB=true:=rfl;have tB:List.take 3 exB=exB:=rfl;have pB:qbW [.int .i64 0,.nils,.int .i64 0] 0 exB=exB:=rfl;have lC:exC.length=3:=rfl;have oC:ones exC=true:=rfl;have tC:List.take 3 exC=exC:=rfl;have pC:qbW [.int .i64 0,.nils,.int .i64 0] 0 exC=exC:=rfl;simp -dsimp[n0,n1,lA,oA,pA,-qar];rw[qar];simp -dsimp[n0,n1,-qar];have hh2:((exH1.push (.rows [[.int .i64 0,.nils,.int .i64 0]])).set 1 (.rows [exA])).push (.rows [[.int .u8 121]])=exH2:=rfl;rw[hh2];refine OpS.intro (qD7 (id:=2) (lo:=0) (len:=1) (e:=1) (f:=true) (by simp) (by omega) rfl) ?_;simp -dsimp[n0,-qar];refine WFS.by (qD3 qda runP2) ?_
 intro v h' e;cases e;have n2:exH2.n=3:=rfl;simp -dsimp[n0,n2,lB,oB,pB,-qar];rw[qar];simp -dsimp[n0,n2,-qar];have hh3:((exH2.push (.rows [[.int .i64 0,.nils,.int .i64 0]])).set 3 (.rows [exB])).push (.rows [[.int .u8 120]])=exH3:=rfl;rw[hh3];refine OpS.intro (qD7 (id:=4) (lo:=0) (len:=1) (e:=1) (f:=true) (by simp) (by omega) rfl) ?_;simp -dsimp[n0,-qar];refine WFS.by (qD3 qda runP3) ?_
 intro v h' e;cases e;have n3:exH3.n=5:=rfl;simp -dsimp[n0,n3,lC,oC,pC,-qar];rw[qar];have hh4:(exH3.push (.rows [[.int .i64 0,.nils,.int .i64 0]])).set 5 (.rows [exC])=exH4:=rfl;rw[hh4];have g1:exH4.get 1=some (.rows [exA]):=rfl;have g3:exH4.get 3=some (.rows [exB]):=rfl;have g5:exH4.get 5=some (.rows [exC]):=rfl;have hA:exA=[.int .i64 1,.slR [[.int .i64 0,.int .i64 0,.int .i64 0,.int .i64 1]] true,.int .i64 1]:=rfl;have hB:exB=[.int .i64 0,.nils,.int .i64 1]:=rfl;have hC:exC=[.int .i64 3,.nils,.int .i64 0]:=rfl;rw[hA]at g1;rw[hB]at g3;rw[hC]at g5;simp -dsimp[n0,g1,g3,g5,-qar];rw[<-hA];refine WFS.by (qD3 qda runP4) ?_
 intro v h' e;cases e;simp -dsimp
end Go.Abs

