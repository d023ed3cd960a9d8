/- The law's first call, run by the kernel. -/
import Derived.Test.YtgebecbidfdhlaaGreatDoorAwc1
set_option linter.unusedSimpArgs false
set_option linter.unusedVariables false
namespace Go.Abs
open Go Pr
set_option maxRecDepth 100000
theorem awakeCount:Awake 387:=λd mk o hmk=>by
 have e0:(Heap.push ⟨0,.e⟩ o:Heap)=cBC1 o:=rfl;rw [e0];have n0:(cBC1 o).n=1:=rfl;refine WF.po f387 b387 [.tm 0] rfl rfl rfl rfl rfl rfl ?_;unfold b387;simp -dsimp [n0,-qar];rw [qar];simp -dsimp [n0,-qar];rw [qar];simp -dsimp [n0,-qar];refine WFS.by (WF.ran qda (congrFun runGC1 o)) ?_
 intro v h' e;cases e;have lg:gVC1.length=2:=rfl;have og:ones gVC1=true:=rfl;have tg:List.take 2 gVC1=gVC1:=rfl;have pg:qbW [.nils,.nils] 0 gVC1=gVC1:=rfl;simp -dsimp [n0,lg,og,-qar];rw [pg,qar];simp -dsimp [n0,lg,og,tg,-qar];have hg1:((((cBC1 o).push (Obj.rows [[V.nils,V.nils]])).set 1 (Obj.rows [gVC1])).push (Obj.rows [[V.int IntKind.u8 120]]))=cWC1 o:=rfl;rw [hg1];refine OpS.intro (qv8 (id:=2) (lo:=0) (len:=1) (e:=1) (f:=true) (by simp) (by omega) (by show (((cGC1 o).push _).get 2).isSome=true; rw [Heap.get_push,if_pos (show 2=(cGC1 o).n from rfl)]; rfl)) ?_;have nw:(cWC1 o).n=3:=rfl;have px0:qbW [.nils,.nils,.nils,.int .i64 0,.bool false] 0 gVC1=gVC1++[V.nils,V.int .i64 0,V.bool false]:=rfl;have px1:(gVC1++[V.nils,V.int .i64 0,V.bool false]).length=5:=rfl;have px2:(((gVC1++[V.nils,V.int .i64 0,V.bool false]).set 2 (.sl 2 0 1 1 true)).set 3 (.int .i64 8))=cXC1:=rfl;have lx:cXC1.length=5:=rfl;have ox:ones cXC1=true:=rfl;have tx:List.take 5 cXC1=cXC1:=rfl;have pxx:qbW [.nils,.nils,.nils,.int .i64 0,.bool false] 0 cXC1=cXC1:=rfl;simp -dsimp [n0,nw,lg,px0,px1,px2,lx,ox,-qar];have hh:((cWC1 o).push (Obj.rows [[V.nils,V.nils,V.nils,V.int IntKind.i64 0,V.bool false]])).set 3 (Obj.rows [cXC1])=cHC1 o:=rfl;have gx:(cHC1 o).get 3=some (.rows [cXC1]):=by rw [cHC1,Heap.get_set,if_pos rfl]
 have hxe:gVC1++[V.sl 2 0 1 1 true,V.int .i64 8,V.bool false]=cXC1:=rfl;rw [hxe];simp -dsimp [ox,-qar];rw [pxx,hh,qar];simp -dsimp [gx,tx,lx];have hB:WB (cHC1 o) (cEv 2).w:=.inr ⟨2,0,true,[[.int .u8 120]],rfl,by rw [cHC1,Heap.get_set,if_neg (by decide),Heap.get_push,if_neg (by rw [nw]; decide),cWC1,Heap.get_push,if_pos (show 2=(cGC1 o).n from rfl)],by decide,rfl,Nat.lt_succ_self _⟩;have hm:(cEv 2).w.m≤(cHC1 o).n:=show (3:Nat)≤4 by decide
 have lw:((cEv 2).w.l.length:Int)=1:=rfl;have hA:qvt (cEv 2).calm 0 0 (cEv 2).w.l.length (-1)=2:=by
  rw [lw]; exact (qvw (x:=cEv 2) (cMay qv1 2) 1 (-1) (by decide) (by decide) (by decide) (by decide)).trans (cD0 2)
 have hT:qvt (cEv 2).calm 1 0 1 (-1)=1:=(qvw (x:=cEv 2) (cMay qv1 2) 1 (-1) (by decide) (by decide) (by decide) (by decide)).trans (cD1 2);have hU:qvt (cEv 2).calm 1 1 0 (-1)=0:=(qvw (x:=cEv 2) (cMay qv1 2) 0 (-1) (by decide) (by decide) (by decide) (by decide)).trans (cD2 2);refine WFS.by (qwa (cEvS 2) qvS cRg hB hm) ?_
 intro v h' e;rw [hA] at e;cases e;simp -dsimp [gx,tx,lx];refine WFS.by (qvx (cEvS 2) qvS cRg hB hm 1 0 1 (-1)) ?_
 intro v h' e;rw [hT] at e;cases e;simp -dsimp [gx,tx,lx];refine WFS.by (qvx (cEvS 2) qvS cRg hB hm 1 1 0 (-1)) ?_
 intro v h' e;rw [hU] at e;cases e;simp -dsimp
end Go.Abs

