/- The law's first call, run by the kernel. -/
import Derived.Test.YtgebecbidfdhlaaGreatDoorAwc1
set_option linter.unusedSimpArgs false
set_option linter.unusedVariables false
namespace Go.Abs
open Go Pr
set_option maxRecDepth 100000
def qws:List Nd:=[(0,0,0,1),(1,0,0,1),(3,0,0,1),(3,1,1,1),(2,0,1,1),(4,1,1,1)]
def lA (n:Int):Nat:=if n=0 then 5 else if n<3 then 2 else 1
theorem lN0:(0:Int)<(cGr.p.l.length:Int):=by decide
theorem lK0:(0:Int)≤(1:Nat):=by decide
theorem lHq (id:Nat):∀n k:Int,0≤n→n<(cEv id).g.p.l.length→0≤k→k≤(cEv id).w.l.length→refV (cEv id) n k (-1) = -1 :=
 qwW (x:=cEv id) (show ∀p∈cGr.p.l,bitB p.marks 8=false by decide) (-1)
theorem lHW (id:Nat):EvW (cEv id):=qbq (cMay qv1 id)
theorem lHsz (id:Nat):∀n k:Int,0≤n→n<(cEv id).g.p.l.length→0≤k→k≤(cEv id).w.l.length→∀e∈(qaL (cEv id) n k (-1)).2,(lstN (cEv id) n k e.1 (-1) e.2).length<1000000:=λn k n0 n1 k0 k1 =>
 qw1 (lHW id) (show (1:Nat)<1000000 by decide) (lHq id) (A:=lA) (B:=1)
  (show ∀i:Nat,i<cGr.p.l.length→1≤lA i∧∀a∈(lat cGr.p.l i).a.l,1+sumA lA a.l≤lA i+1 * cntT a.l by decide)
  (show ∀i:Nat,i<cGr.p.l.length→lA i+1 * 1<1000000 by decide) n0 n1 k0 k1
theorem lEnd (id:Nat):((1,0):En)∈(qaL (cEv id) 0 0 (-1)).2:=by
 rw [qv6 (lHW id) (Int.le_refl 0) lN0 (Int.le_refl 0) lK0];have:(λid=>(qwl (cEv id) 0 0 (-1)).2)=λ_=>[((0,0):En),(1,0)]:=by kernel_rfl
 rw [congrFun this id];simp
theorem lTree (id:Nat):lstN (cEv id) 0 0 1 (-1) 0=qws:=by
 rw [qyk (lHW id) (lHq id) (Lk:=λn k=>qwl (cEv id) n k (-1)) (λn k n0 n1 k0 k1=>qv6 (lHW id) n0 n1 k0 k1) 1 0 (Int.le_refl 0) lN0 (Int.le_refl 0) lK0];have:(λid=>qwV (cEv id) (-1) (λn k=>qwl (cEv id) n k (-1)) (61 * ((cEv id).w.l.length+1)) 0 0 1 0)=λ_=>qws:=by kernel_rfl
 exact congrFun this id
theorem lLess:quw cGr qws qws=false:=by simp [quw,quN]
theorem qyf:Awake0 386:=λd=>by
 obtain⟨o⟩:Nonempty Obj:=⟨.dfr⟩;have e0:(⟨0,.e⟩:Heap)=cBC0 o:=rfl;rw [e0];have n0:(cBC0 o).n=0:=rfl;refine WF.po f386 b386 [.tm 0] rfl rfl rfl rfl rfl rfl ?_;unfold b386;simp -dsimp [n0,-qar];rw [qar];simp -dsimp [n0,-qar];rw [qar];simp -dsimp [n0,-qar];refine WFS.by (WF.ran qda (congrFun qxx o)) ?_
 intro v h' e;cases e;have lg:gVC1.length=2:=rfl;have og:ones gVC1=true:=rfl;have tg:List.take 2 gVC1=gVC1:=rfl;have pg:qbW [.nils,.nils] 0 gVC1=gVC1:=rfl;simp -dsimp [n0,lg,og,-qar];rw [pg,qar];simp -dsimp [n0,lg,og,tg,-qar];have hg1:((((cBC0 o).push (Obj.rows [[V.nils,V.nils]])).set 0 (Obj.rows [gVC1])).push (Obj.rows [[V.int IntKind.u8 120]]))=cWC0 o:=rfl;rw [hg1];refine OpS.intro (qv8 (id:=1) (lo:=0) (len:=1) (e:=1) (f:=true) (by simp) (by omega) (by show (((cGC0 o).push _).get 1).isSome=true; rw [Heap.get_push,if_pos (show 1=(cGC0 o).n from rfl)]; rfl)) ?_;have nw:(cWC0 o).n=2:=rfl;have px0:qbW [.nils,.nils,.nils,.int .i64 0,.bool false] 0 gVC1=gVC1++[V.nils,V.int .i64 0,V.bool false]:=rfl;have px1:(gVC1++[V.nils,V.int .i64 0,V.bool false]).length=5:=rfl;have px2:(((gVC1++[V.nils,V.int .i64 0,V.bool false]).set 2 (.sl 1 0 1 1 true)).set 3 (.int .i64 8))=cXC0:=rfl;have lx:cXC0.length=5:=rfl;have ox:ones cXC0=true:=rfl;have tx:List.take 5 cXC0=cXC0:=rfl;have pxx:qbW [.nils,.nils,.nils,.int .i64 0,.bool false] 0 cXC0=cXC0:=rfl;simp -dsimp [n0,nw,lg,px0,px1,px2,lx,ox,-qar];have hh:((cWC0 o).push (Obj.rows [[V.nils,V.nils,V.nils,V.int IntKind.i64 0,V.bool false]])).set 2 (Obj.rows [cXC0])=cHC0 o:=rfl;have gx:(cHC0 o).get 2=some (.rows [cXC0]):=by rw [cHC0,Heap.get_set,if_pos rfl]
 have gy:(cHC0 o).get 0=some (.rows [gVC1]):=by rw [cHC0,Heap.get_set,if_neg (by decide),Heap.get_push,if_neg (by rw [nw]; decide),cWC0,Heap.get_push,if_neg (show ¬(0:Nat)=(cGC0 o).n by rw [show (cGC0 o).n=1 from rfl]; decide),cGC0,Heap.get_set,if_pos rfl]
 have hxe:gVC1++[V.sl 1 0 1 1 true,V.int .i64 8,V.bool false]=cXC0:=rfl;rw [hxe];simp -dsimp [ox,-qar];rw [pxx,hh,qar];simp -dsimp [gx,tx,lx,-qar];have hB:WB (cHC0 o) (cEv 1).w:=.inr ⟨1,0,true,[[.int .u8 120]],rfl,by rw [cHC0,Heap.get_set,if_neg (by decide),Heap.get_push,if_neg (by rw [nw]; decide),cWC0,Heap.get_push,if_pos (show 1=(cGC0 o).n from rfl)],by decide,rfl,Nat.lt_succ_self _⟩;have hm:(cEv 1).w.m≤(cHC0 o).n:=show (2:Nat)≤3 by decide
 refine WFS.by (qwT (q:=-1) (cEvS 1) qvS cRg hB hm (cMay qv1 1) (lHq 1) (lHsz 1) (n:=0) (k:=0) (Int.le_refl 0) lN0 (Int.le_refl 0) lK0 (lEnd 1)) ?_
 rintro v h' ⟨e1,s,hs,e2⟩;simp only at e1 e2;subst e1 e2;rw [show ((1,0):En).1=1 from rfl,show ((1,0):En).2=0 from rfl,lTree 1] at hs;have hsl:∀H,lenV .sl (s.enc qui) H=some (.int .i64 6):=λH=>by simp [hs,qws]
 have hat:∀i:Nat,i<6→qaw 4 (s.enc qui) (.int .i64 i)=some (.ptrR (qui (lat qws i)) 0):=λi hi=>by
  rw [qap (f:=qui) (s:=s) (esz:=4) (k:=.i64) (n:=(i:Int)) (by omega) (by rw [hs]; show (i:Int)<6; omega) (λ_=>rfl),hs];rfl
 have h0:qaw 4 (s.enc qui) (.int .i64 0)=some (.ptrR (qui (lat qws 0)) 0):=hat 0 (by decide);have h1:qaw 4 (s.enc qui) (.int .i64 1)=some (.ptrR (qui (lat qws 1)) 0):=hat 1 (by decide);have h4:qaw 4 (s.enc qui) (.int .i64 4)=some (.ptrR (qui (lat qws 4)) 0):=hat 4 (by decide);have q0:eqv (.struct [.int,.int,.int,.int]) (.agg (qui (lat qws 0))) (.agg [.int .i64 0,.int .i64 0,.int .i64 0,.int .i64 1])=some true:=eqNd (0,0,0,1) (0,0,0,1);have q1:eqv (.struct [.int,.int,.int,.int]) (.agg (qui (lat qws 1))) (.agg [.int .i64 1,.int .i64 0,.int .i64 0,.int .i64 1])=some true:=eqNd (1,0,0,1) (1,0,0,1);have q4:eqv (.struct [.int,.int,.int,.int]) (.agg (qui (lat qws 4))) (.agg [.int .i64 2,.int .i64 0,.int .i64 1,.int .i64 1])=some true:=eqNd (2,0,1,1) (2,0,1,1);have l0:∀y:Nd,(qui y).length=4:=λ_=>rfl;have t0:∀y:Nd,List.take 4 (qui y)=qui y:=λ_=>rfl;simp -dsimp [hsl,h0,h1,h4,q0,q1,q4,eqoV,l0,t0,gy,tg,lg];have hN:NdB (cHC0 o) ⟨s.enc qui,s.l,0⟩:=.inl ⟨s,rfl,rfl⟩;have hs6:s.l.length<1000000:=by rw [hs]; decide
 rw [←qw3];refine WFS.by (qu2 cGr qvS.toSmall hN (Nat.zero_le _) hs6 hN (Nat.zero_le _) hs6) ?_
 intro v h' e;cases e;rw [hs,lLess];simp -dsimp
def xEv (g:Gr) (id N:Nat):Ev:=⟨g,⟨.sl id 0 N 1 true,List.replicate N 120,id+1⟩,8,false⟩
theorem xLen {g:Gr}{id N:Nat}:(xEv g id N).w.l.length=N:=List.length_replicate
theorem xRef {g:Gr}{id N:Nat}(h:∀p∈g.p.l,bitB p.marks 8=false) (q:Int):∀n k:Int,0≤n→n<(xEv g id N).g.p.l.length→0≤k→k≤(xEv g id N).w.l.length→refV (xEv g id N) n k q=q:=qwW (x:=xEv g id N) h q
theorem xEvS {g:Gr}{id N:Nat}(h:g.Fine) (hk:g.keys.l.length<1000000000) (hN:N≤12):EvS (xEv g id N):=⟨h.toSmall,hk,show (List.replicate N (120:UInt8)).length<1000000 by simp; omega⟩
theorem xMay {g:Gr}{y:Ev}(hm:mayE y=true) (h1:y.g=g) (h2:y.tab=8) {id N:Nat}(hN:N≤12):mayE (xEv g id N)=true :=
 qxy hm h1.symm h2.symm (by rw [xLen]; omega)
def gVg:List V:=[.slR [[.slR [[.slR [[.int .i64 2,.nils,.int .i64 1],[.int .i64 2,.nils,.int .i64 2]] false]] false,.int .i64 0,.nils],[.slR [[.slR [[.int .i64 0,.slR [[.int .i64 120,.int .i64 120]] false,.int .i64 0],[.int .i64 2,.nils,.int .i64 1]] false],[.nils]] false,.int .i64 0,.nils],[.slR [[.slR [[.int .i64 0,.slR [[.int .i64 120,.int .i64 120]] false,.int .i64 0],[.int .i64 2,.nils,.int .i64 2]] false],[.nils]] false,.int .i64 0,.nils]] false,.nils]
def gVh:List V:=[.slR [[.slR [[.slR [[.int .i64 2,.nils,.int .i64 1],[.int .i64 2,.nils,.int .i64 2]] false]] false,.int .i64 0,.nils],[.slR [[.nils],[.slR [[.int .i64 0,.slR [[.int .i64 120,.int .i64 120]] false,.int .i64 0],[.int .i64 2,.nils,.int .i64 1]] false]] false,.int .i64 0,.nils],[.slR [[.nils],[.slR [[.int .i64 0,.slR [[.int .i64 120,.int .i64 120]] false,.int .i64 0],[.int .i64 2,.nils,.int .i64 2]] false]] false,.int .i64 0,.nils]] false,.nils]
def gGg:Gr:=⟨.of [⟨.of [.of [symN 1,symN 2]],0,.nil⟩,⟨.of [.of [symX,symN 1],.nil],0,.nil⟩,⟨.of [.of [symX,symN 2],.nil],0,.nil⟩],.nil⟩
def gGh:Gr:=⟨.of [⟨.of [.of [symN 1,symN 2]],0,.nil⟩,⟨.of [.nil,.of [symX,symN 1]],0,.nil⟩,⟨.of [.nil,.of [symX,symN 2]],0,.nil⟩],.nil⟩
theorem qym:gGg.Fine:=⟨⟨by decide,by decide,by decide,by decide,by decide⟩,by decide⟩
theorem qyl:gGh.Fine:=⟨⟨by decide,by decide,by decide,by decide,by decide⟩,by decide⟩
theorem gRg:∀p∈gGg.p.l,∀a∈p.a.l,∀s∈a.l,s.r.l.length<1500000:=by decide
theorem kRg:∀p∈gGh.p.l,∀a∈p.a.l,∀s∈a.l,s.r.l.length<1500000:=by decide
def gEvN:Ev:=⟨gGg,⟨.nils,[],0⟩,8,false⟩
def kEvN:Ev:=⟨gGh,⟨.nils,[],0⟩,8,false⟩
def qyh (g:Gr) (id N:Nat):List Nd:=qwV (xEv g id N) (-1) (qxu (xEv g id N) (-1)) (61 * (N+1)) 0 0 N 0
def qyi (g:Gr) (id N:Nat):Bool:=(qxu (xEv g id N) (-1) 0 0).2.any λe=>decide (e=((N:Int),(0:Int)))
def qyj (t:List Nd) (N:Nat) (y:Nd):Bool:=decide (t.length=N+3)&&decide (lat t 1=y)
theorem greedG:(λid=>(List.range 13).all λN=>qyi gGg id N&&qyj (qyh gGg id N) N (1,if 0<N then 0 else 1,0,N))=λ_=>true:=by kernel_rfl
theorem greedH:(λid=>(List.range 13).all λN=>qyi gGh id N&&qyj (qyh gGh id N) N (1,0,0,0))=λ_=>true:=by kernel_rfl
def gA (n:Int):Nat:=if n=0 then 3 else 1
section
variable {g:Gr}{id N:Nat}(hm:mayE (xEv g id N)=true) (hb:∀p∈g.p.l,bitB p.marks 8=false) (hg:g.p.l.length=3)
include hm hb hg
theorem qye (h:qyi g id N=true):(((N:Int),(0:Int)):En)∈(qaL (xEv g id N) 0 0 (-1)).2:=by
 rw [qxt (qbq hm) (xRef (N:=N) (id:=id) hb (-1)) 0 0 (Int.le_refl 0) (by show (0:Int)<(g.p.l.length:Nat); omega) (Int.le_refl 0) (by rw [xLen]; omega)];obtain⟨e,he,h2⟩:=List.any_eq_true.1 h;rw [←of_decide_eq_true h2];exact he
theorem qyd:lstN (xEv g id N) 0 0 N (-1) 0=qyh g id N:=by
 rw [qyk (qbq hm) (xRef (N:=N) (id:=id) hb (-1)) (Lk:=qxu (xEv g id N) (-1)) (qxt (qbq hm) (xRef (N:=N) (id:=id) hb (-1))) N 0 (Int.le_refl 0) (by show (0:Int)<(g.p.l.length:Nat); omega) (Int.le_refl 0) (by rw [xLen]; omega),xLen];rfl
end
theorem qyc {g:Gr}{id N:Nat}(hm:mayE (xEv g id N)=true) (hN:N≤12) (hb:∀p∈g.p.l,bitB p.marks 8=false) (hA:∀i:Nat,i<g.p.l.length→1≤gA i∧∀a∈(lat g.p.l i).a.l,1+sumA gA a.l≤gA i+1 * cntT a.l):∀n k:Int,0≤n→n<(xEv g id N).g.p.l.length→0≤k→k≤(xEv g id N).w.l.length→∀e∈(qaL (xEv g id N) n k (-1)).2,(lstN (xEv g id N) n k e.1 (-1) e.2).length<1000000:=λn k n0 n1 k0 k1 =>
 qw1 (qbq hm) (by rw [xLen]; omega) (xRef (N:=N) (id:=id) hb (-1)) (A:=gA) (B:=1) hA (λi _=>by
  rw [xLen];have:gA i≤3:=by
   unfold gA; split<;>omega
  omega) n0 n1 k0 k1
end Go.Abs

