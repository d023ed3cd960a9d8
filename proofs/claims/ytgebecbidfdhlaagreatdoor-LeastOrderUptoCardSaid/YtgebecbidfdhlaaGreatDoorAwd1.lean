/- The law's first call, run by the kernel. -/
import Derived.Test.YtgebecbidfdhlaaGreatDoorAwc1
set_option linter.unusedSimpArgs false
set_option linter.unusedVariables false
namespace Go.Abs
open Go Pr
set_option maxRecDepth 100000
def qws:List Nd:=[(0,0,0,1),(1,0,0,1),(3,0,0,1),(3,1,1,1),(2,0,1,1),(4,1,1,1)]
def lA (n:Int):Nat:=if n=0 then 5 else if n<3 then 2 else 1
theorem lN0:(0:Int)<(cGr.p.l.length:Int):=by decide
theorem lK0:(0:Int)≤(1:Nat):=by decide
theorem lHq (id:Nat):∀n k:Int,0≤n→n<(cEv id).g.p.l.length→0≤k→k≤(cEv id).w.l.length→refV (cEv id) n k (-1) = -1 :=
 qwW (x:=cEv id) (show ∀p∈cGr.p.l,bitB p.marks 8=false by decide) (-1)
theorem lHW (id:Nat):EvW (cEv id):=qbq (cMay qv1 id)
theorem lHsz (id:Nat):∀n k:Int,0≤n→n<(cEv id).g.p.l.length→0≤k→k≤(cEv id).w.l.length→∀e∈(qaL (cEv id) n k (-1)).2,(lstN (cEv id) n k e.1 (-1) e.2).length<1000000:=λn k n0 n1 k0 k1 =>
 qw1 (lHW id) (show (1:Nat)<1000000 by decide) (lHq id) (A:=lA) (B:=1)
  (show ∀i:Nat,i<cGr.p.l.length→1≤lA i∧∀a∈(lat cGr.p.l i).a.l,1+sumA lA a.l≤lA i+1 * cntT a.l by decide)
  (show ∀i:Nat,i<cGr.p.l.length→lA i+1 * 1<1000000 by decide) n0 n1 k0 k1
theorem lEnd (id:Nat):((1,0):En)∈(qaL (cEv id) 0 0 (-1)).2:=by
 rw [qv6 (lHW id) (Int.le_refl 0) lN0 (Int.le_refl 0) lK0];have:(λid=>(qwl (cEv id) 0 0 (-1)).2)=λ_=>[((0,0):En),(1,0)]:=by kernel_rfl
 rw [congrFun this id];simp
theorem lTree (id:Nat):lstN (cEv id) 0 0 1 (-1) 0=qws:=by
 rw [lstN_K (lHW id) (lHq id) (Lk:=λn k=>qwl (cEv id) n k (-1)) (λn k n0 n1 k0 k1=>qv6 (lHW id) n0 n1 k0 k1) 1 0 (Int.le_refl 0) lN0 (Int.le_refl 0) lK0];have:(λid=>qwV (cEv id) (-1) (λn k=>qwl (cEv id) n k (-1)) (61 * ((cEv id).w.l.length+1)) 0 0 1 0)=λ_=>qws:=by kernel_rfl
 exact congrFun this id
theorem lLess:quw cGr qws qws=false:=by simp [quw,quN]
theorem awakeLeast:Awake 386:=λd mk o hmk=>by
 have e0:(Heap.push ⟨0,.e⟩ o:Heap)=cBC1 o:=rfl;rw [e0];have n0:(cBC1 o).n=1:=rfl;refine WF.po f386 b386 [.tm 0] rfl rfl rfl rfl rfl rfl ?_;unfold b386;simp -dsimp [n0,-qar];rw [qar];simp -dsimp [n0,-qar];rw [qar];simp -dsimp [n0,-qar];refine WFS.by (WF.ran qda (congrFun runGC1 o)) ?_
 intro v h' e;cases e;have lg:gVC1.length=2:=rfl;have og:ones gVC1=true:=rfl;have tg:List.take 2 gVC1=gVC1:=rfl;have pg:qbW [.nils,.nils] 0 gVC1=gVC1:=rfl;simp -dsimp [n0,lg,og,-qar];rw [pg,qar];simp -dsimp [n0,lg,og,tg,-qar];have hg1:((((cBC1 o).push (Obj.rows [[V.nils,V.nils]])).set 1 (Obj.rows [gVC1])).push (Obj.rows [[V.int IntKind.u8 120]]))=cWC1 o:=rfl;rw [hg1];refine OpS.intro (qv8 (id:=2) (lo:=0) (len:=1) (e:=1) (f:=true) (by simp) (by omega) (by show (((cGC1 o).push _).get 2).isSome=true; rw [Heap.get_push,if_pos (show 2=(cGC1 o).n from rfl)]; rfl)) ?_;have nw:(cWC1 o).n=3:=rfl;have px0:qbW [.nils,.nils,.nils,.int .i64 0,.bool false] 0 gVC1=gVC1++[V.nils,V.int .i64 0,V.bool false]:=rfl;have px1:(gVC1++[V.nils,V.int .i64 0,V.bool false]).length=5:=rfl;have px2:(((gVC1++[V.nils,V.int .i64 0,V.bool false]).set 2 (.sl 2 0 1 1 true)).set 3 (.int .i64 8))=cXC1:=rfl;have lx:cXC1.length=5:=rfl;have ox:ones cXC1=true:=rfl;have tx:List.take 5 cXC1=cXC1:=rfl;have pxx:qbW [.nils,.nils,.nils,.int .i64 0,.bool false] 0 cXC1=cXC1:=rfl;simp -dsimp [n0,nw,lg,px0,px1,px2,lx,ox,-qar];have hh:((cWC1 o).push (Obj.rows [[V.nils,V.nils,V.nils,V.int IntKind.i64 0,V.bool false]])).set 3 (Obj.rows [cXC1])=cHC1 o:=rfl;have gx:(cHC1 o).get 3=some (.rows [cXC1]):=by rw [cHC1,Heap.get_set,if_pos rfl]
 have gy:(cHC1 o).get 1=some (.rows [gVC1]):=by rw [cHC1,Heap.get_set,if_neg (by decide),Heap.get_push,if_neg (by rw [nw]; decide),cWC1,Heap.get_push,if_neg (show ¬(1:Nat)=(cGC1 o).n by rw [show (cGC1 o).n=2 from rfl]; decide),cGC1,Heap.get_set,if_pos rfl]
 have hxe:gVC1++[V.sl 2 0 1 1 true,V.int .i64 8,V.bool false]=cXC1:=rfl;rw [hxe];simp -dsimp [ox,-qar];rw [pxx,hh,qar];simp -dsimp [gx,tx,lx,-qar];have hB:WB (cHC1 o) (cEv 2).w:=.inr ⟨2,0,true,[[.int .u8 120]],rfl,by rw [cHC1,Heap.get_set,if_neg (by decide),Heap.get_push,if_neg (by rw [nw]; decide),cWC1,Heap.get_push,if_pos (show 2=(cGC1 o).n from rfl)],by decide,rfl,Nat.lt_succ_self _⟩;have hm:(cEv 2).w.m≤(cHC1 o).n:=show (3:Nat)≤4 by decide
 refine WFS.by (qwT (q:=-1) (cEvS 2) qvS cRg hB hm (cMay qv1 2) (lHq 2) (lHsz 2) (n:=0) (k:=0) (Int.le_refl 0) lN0 (Int.le_refl 0) lK0 (lEnd 2)) ?_
 rintro v h' ⟨e1,s,hs,e2⟩;simp only at e1 e2;subst e1 e2;rw [show ((1,0):En).1=1 from rfl,show ((1,0):En).2=0 from rfl,lTree 2] at hs;have hsl:∀H,lenV .sl (s.enc qui) H=some (.int .i64 6):=λH=>by simp [hs,qws]
 have hat:∀i:Nat,i<6→qaw 4 (s.enc qui) (.int .i64 i)=some (.ptrR (qui (lat qws i)) 0):=λi hi=>by
  rw [qap (f:=qui) (s:=s) (esz:=4) (k:=.i64) (n:=(i:Int)) (by omega) (by rw [hs]; show (i:Int)<6; omega) (λ_=>rfl),hs];rfl
 have h0:qaw 4 (s.enc qui) (.int .i64 0)=some (.ptrR (qui (lat qws 0)) 0):=hat 0 (by decide);have h1:qaw 4 (s.enc qui) (.int .i64 1)=some (.ptrR (qui (lat qws 1)) 0):=hat 1 (by decide);have h4:qaw 4 (s.enc qui) (.int .i64 4)=some (.ptrR (qui (lat qws 4)) 0):=hat 4 (by decide);have q0:eqv (.struct [.int,.int,.int,.int]) (.agg (qui (lat qws 0))) (.agg [.int .i64 0,.int .i64 0,.int .i64 0,.int .i64 1])=some true:=eqNd (0,0,0,1) (0,0,0,1);have q1:eqv (.struct [.int,.int,.int,.int]) (.agg (qui (lat qws 1))) (.agg [.int .i64 1,.int .i64 0,.int .i64 0,.int .i64 1])=some true:=eqNd (1,0,0,1) (1,0,0,1);have q4:eqv (.struct [.int,.int,.int,.int]) (.agg (qui (lat qws 4))) (.agg [.int .i64 2,.int .i64 0,.int .i64 1,.int .i64 1])=some true:=eqNd (2,0,1,1) (2,0,1,1);have l0:∀y:Nd,(qui y).length=4:=λ_=>rfl;have t0:∀y:Nd,List.take 4 (qui y)=qui y:=λ_=>rfl;simp -dsimp [hsl,h0,h1,h4,q0,q1,q4,eqoV,l0,t0,gy,tg,lg];have hN:NdB (cHC1 o) ⟨s.enc qui,s.l,0⟩:=.inl ⟨s,rfl,rfl⟩;have hs6:s.l.length<1000000:=by rw [hs]; decide
 rw [←qw3];refine WFS.by (qu2 cGr qvS.toSmall hN (Nat.zero_le _) hs6 hN (Nat.zero_le _) hs6) ?_
 intro v h' e;cases e;rw [hs,lLess];simp -dsimp
end Go.Abs

