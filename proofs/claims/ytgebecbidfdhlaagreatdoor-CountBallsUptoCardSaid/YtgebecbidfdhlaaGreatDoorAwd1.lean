/- The law's first call, run by the kernel. -/
import Derived.Test.YtgebecbidfdhlaaGreatDoorAwc1
set_option linter.unusedSimpArgs false
set_option linter.unusedVariables false
namespace Go.Abs
open Go Pr
set_option maxRecDepth 100000
theorem awakeCount0:Awake0 387:=λd=>by
 obtain⟨o⟩:Nonempty Obj:=⟨.dfr⟩;have e0:(⟨0,.e⟩:Heap)=cBC0 o:=rfl;rw [e0];have n0:(cBC0 o).n=0:=rfl;refine WF.po f387 b387 [.tm 0] rfl rfl rfl rfl rfl rfl ?_;unfold b387;simp -dsimp [n0,-qar];rw [qar];simp -dsimp [n0,-qar];rw [qar];simp -dsimp [n0,-qar];refine WFS.by (WF.ran qda (congrFun qxx o)) ?_
 intro v h' e;cases e;have lg:gVC1.length=2:=rfl;have og:ones gVC1=true:=rfl;have tg:List.take 2 gVC1=gVC1:=rfl;have pg:qbW [.nils,.nils] 0 gVC1=gVC1:=rfl;simp -dsimp [n0,lg,og,-qar];rw [pg,qar];simp -dsimp [n0,lg,og,tg,-qar];have hg1:((((cBC0 o).push (Obj.rows [[V.nils,V.nils]])).set 0 (Obj.rows [gVC1])).push (Obj.rows [[V.int IntKind.u8 120]]))=cWC0 o:=rfl;rw [hg1];refine OpS.intro (qv8 (id:=1) (lo:=0) (len:=1) (e:=1) (f:=true) (by simp) (by omega) (by show (((cGC0 o).push _).get 1).isSome=true; rw [Heap.get_push,if_pos (show 1=(cGC0 o).n from rfl)]; rfl)) ?_;have nw:(cWC0 o).n=2:=rfl;have px0:qbW [.nils,.nils,.nils,.int .i64 0,.bool false] 0 gVC1=gVC1++[V.nils,V.int .i64 0,V.bool false]:=rfl;have px1:(gVC1++[V.nils,V.int .i64 0,V.bool false]).length=5:=rfl;have px2:(((gVC1++[V.nils,V.int .i64 0,V.bool false]).set 2 (.sl 1 0 1 1 true)).set 3 (.int .i64 8))=cXC0:=rfl;have lx:cXC0.length=5:=rfl;have ox:ones cXC0=true:=rfl;have tx:List.take 5 cXC0=cXC0:=rfl;have pxx:qbW [.nils,.nils,.nils,.int .i64 0,.bool false] 0 cXC0=cXC0:=rfl;simp -dsimp [n0,nw,lg,px0,px1,px2,lx,ox,-qar];have hh:((cWC0 o).push (Obj.rows [[V.nils,V.nils,V.nils,V.int IntKind.i64 0,V.bool false]])).set 2 (Obj.rows [cXC0])=cHC0 o:=rfl;have gx:(cHC0 o).get 2=some (.rows [cXC0]):=by rw [cHC0,Heap.get_set,if_pos rfl]
 have hxe:gVC1++[V.sl 1 0 1 1 true,V.int .i64 8,V.bool false]=cXC0:=rfl;rw [hxe];simp -dsimp [ox,-qar];rw [pxx,hh,qar];simp -dsimp [gx,tx,lx];have hB:WB (cHC0 o) (cEv 1).w:=.inr ⟨1,0,true,[[.int .u8 120]],rfl,by rw [cHC0,Heap.get_set,if_neg (by decide),Heap.get_push,if_neg (by rw [nw]; decide),cWC0,Heap.get_push,if_pos (show 1=(cGC0 o).n from rfl)],by decide,rfl,Nat.lt_succ_self _⟩;have hm:(cEv 1).w.m≤(cHC0 o).n:=show (2:Nat)≤3 by decide
 have lw:((cEv 1).w.l.length:Int)=1:=rfl;have hA:qvt (cEv 1).calm 0 0 (cEv 1).w.l.length (-1)=2:=by
  rw [lw]; exact (qvw (x:=cEv 1) (cMay qv1 1) 1 (-1) (by decide) (by decide) (by decide) (by decide)).trans (cD0 1)
 have hT:qvt (cEv 1).calm 1 0 1 (-1)=1:=(qvw (x:=cEv 1) (cMay qv1 1) 1 (-1) (by decide) (by decide) (by decide) (by decide)).trans (cD1 1);have hU:qvt (cEv 1).calm 1 1 0 (-1)=0:=(qvw (x:=cEv 1) (cMay qv1 1) 0 (-1) (by decide) (by decide) (by decide) (by decide)).trans (cD2 1);refine WFS.by (qwa (cEvS 1) qvS cRg hB hm) ?_
 intro v h' e;rw [hA] at e;cases e;simp -dsimp [gx,tx,lx];refine WFS.by (qvx (cEvS 1) qvS cRg hB hm 1 0 1 (-1)) ?_
 intro v h' e;rw [hT] at e;cases e;simp -dsimp [gx,tx,lx];refine WFS.by (qvx (cEvS 1) qvS cRg hB hm 1 1 0 (-1)) ?_
 intro v h' e;rw [hU] at e;cases e;simp -dsimp
def xEv (g:Gr) (id N:Nat):Ev:=⟨g,⟨.sl id 0 N 1 true,List.replicate N 120,id+1⟩,8,false⟩
def hVB:List V:=[.slR [[.slR [[.slR [[.int .i64 2,.nils,.int .i64 1]] false]] false,.int .i64 0,.nils],[.slR [[.slR [[.int .i64 0,.slR [[.int .i64 120,.int .i64 120]] false,.int .i64 0],[.int .i64 2,.nils,.int .i64 1]] false],[.nils]] true,.int .i64 0,.nils]] false,.nils]
def hGr:Gr:=⟨.of [⟨.of [.of [symN 1]],0,.nil⟩,⟨.full [.of [symX,symN 1],.nil],0,.nil⟩],.nil⟩
theorem qxz:hGr.Fine:=⟨⟨by decide,by decide,by decide,by decide,by decide⟩,by decide⟩
theorem hRg:∀p∈hGr.p.l,∀a∈p.a.l,∀s∈a.l,s.r.l.length<1500000:=by decide
def hEvN:Ev:=⟨hGr,⟨.nils,[],0⟩,8,false⟩
theorem xLen {g:Gr}{id N:Nat}:(xEv g id N).w.l.length=N:=List.length_replicate
theorem xRef {g:Gr}{id N:Nat}(h:∀p∈g.p.l,bitB p.marks 8=false) (q:Int):∀n k:Int,0≤n→n<(xEv g id N).g.p.l.length→0≤k→k≤(xEv g id N).w.l.length→refV (xEv g id N) n k q=q:=qwW (x:=xEv g id N) h q
theorem xEvS {g:Gr}{id N:Nat}(h:g.Fine) (hk:g.keys.l.length<1000000000) (hN:N≤12):EvS (xEv g id N):=⟨h.toSmall,hk,show (List.replicate N (120:UInt8)).length<1000000 by simp; omega⟩
theorem xMay {g:Gr}{y:Ev}(hm:mayE y=true) (h1:y.g=g) (h2:y.tab=8) {id N:Nat}(hN:N≤12):mayE (xEv g id N)=true :=
 qxy hm h1.symm h2.symm (by rw [xLen]; omega)
def qxk (g:Gr) (id N:Nat):Nat:=min (qxn (xEv g id N) (λn k=>(qxu (xEv g id N) (-1) n k).2) (61 * (N+1)) 0 0 N) 2
theorem ballsG:(λid=>(List.range 13).map λN=>qxk cGr id N)=λ_=>[1,2,2,2,2,2,2,2,2,2,2,2,2]:=by kernel_rfl
theorem ballsH:(λid=>(List.range 13).map λN=>qxk hGr id N)=λ_=>[1,1,1,1,1,1,1,1,1,1,1,1,1]:=by kernel_rfl
theorem qxi {g:Gr}{id N:Nat}(hm:mayE (xEv g id N)=true) (hb:∀p∈g.p.l,bitB p.marks 8=false) (hg:0<g.p.l.length):qvt (xEv g id N) 0 0 (xEv g id N).w.l.length (-1)=(qxk g id N:Nat):=by
 have h:=qxw hm (xRef (N:=N) (id:=id) hb (-1)) (Lk:=λn k=>(qxu (xEv g id N) (-1) n k).2) (λn k n0 n1 k0 k1=>by rw [qxt (qbq hm) (xRef (N:=N) (id:=id) hb (-1)) n k n0 n1 k0 k1]) (n:=0) (k:=0) (xEv g id N).w.l.length (Int.le_refl 0) (by show (0:Int)<(g.p.l.length:Nat); omega) (Int.le_refl 0) (by rw [xLen]; omega);rw [h,xLen];rfl
theorem qxm {g:Gr}{id N:Nat}{l:List Nat}(h:(λid=>(List.range 13).map λN=>qxk g id N)=λ_=>l) (hN:N≤12):l[N]?=some (qxk g id N):=by
 have h2:=congrFun h id;rw [←h2,List.getElem?_map,List.getElem?_range (by omega)];rfl
end Go.Abs

