/- What the program's functions come to, by the evaluator's rules; the intermediate code. -/
import Derived.Test.YtgebecbidfdhlaaGreatDoorAc3
set_option linter.unusedSimpArgs false
set_option linter.unusedVariables false
namespace Go.Abs
open Go Pr
def qwl (x:Ev) (n k r:Int):List En × List En:=qb9 x (61 * (x.w.l.length+1)) n k r
def qwc (x:Ev):Nat→Int→Int→Int→Int→Nat
 | 0,_,_,_,_=>0
 | m+1,n,k,u,r=>if endB (qwl x n k r).2 u=true then ((lat x.g.p.l n.toNat).a.l.map λa=>qvs (λn' k'=>(qwl x n' k' (refV x n k r)).2) (λn' k' u'=>qwc x m n' k' u' (refV x n k r)) x.w.l u a.l k).sum else 0
def qvC (x:Ev) (n k u r:Int):Int:=((min (qwc x (61 * (x.w.l.length+1)) n k u r) 2:Nat):Int)
theorem qvD {g:Gr}{w:List UInt8}{L L':Look}{k0:Int}{C C':Int→Int→Int→Nat}{u:Int}(h0:0≤k0):∀(m l:List Sy) (k:Int),(∀s∈m,s.kind=2→0≤s.n)→(∀i,i<m.length→(lat m i).kind=2→∀j,NowP g w (l++m.take i) k0 (j,0)→L (lat m i).n j=L' (lat m i).n j∧(∀u',C (lat m i).n j u'=C' (lat m i).n j u')∧∀f∈L (lat m i).n j,EndP g w (lat m i).n j f) →
  NowP g w l k0 (k,0)→qvs L C w u m k=qvs L' C' w u m k
 | [],_,_,_,_,_=>rfl
 | s::m,l,k,hs,hC,h=>by
  rw [qvs,qvs];have h1:∀k',NowP g w (l++[s]) k0 (k',0)→qvs L C w u m k'=qvs L' C' w u m k':=λk' hk' =>
   qvD h0 m (l++[s]) k' (λt ht=>hs t (by simp [ht])) (λi hi hk j hj=>hC (i+1) (by simp; omega) (by simpa [lat] using hk) j (by simpa using hj)) hk'
  split
  ·rename_i hk;obtain⟨e0,e1,e2⟩:=hC 0 (by simp) (by simpa [lat] using hk) k (by simpa using h);rw [show lat (s::m) 0=s from rfl] at e0 e1 e2;rw [←e0];congr 1;refine List.map_congr_left λe he=>?_;rw [h1 e.1 (qvO h0 (hs s (by simp) hk) hk e2 h he),e1]
  ·split
   ·rename_i hk hm;exact h1 _ (qvA h0 hk h hm)
   ·rfl
section
variable {x:Ev}(hx:EvW x)
include hx
theorem qv5 {n k:Int}(k0:0≤k) (k1:k≤x.w.l.length):muN x.g x.w.l n k<61 * (x.w.l.length+1):=by
 have hok:=qaF hx.m;have hp:=hok.p;have r1:=qlj (g:=x.g) n;unfold muN;have:(x.w.l.length-k.toNat) * 61≤x.w.l.length * 61:=Nat.mul_le_mul_right _ (by omega);omega
theorem qv6 {n k r:Int}(n0:0≤n) (n1:n<x.g.p.l.length) (k0:0≤k) (k1:k≤x.w.l.length):qaL x n k r=qwl x n k r :=
 ((qgQ hx _ n k r (Nat.lt_succ_self _) n0 n1 k0 k1).2.2 _ (qv5 hx k0 k1)).symm
theorem qwb:∀(m:Nat) (n k u r:Int),muN x.g x.w.l n k<m→0≤n→n<x.g.p.l.length→0≤k→k≤x.w.l.length→qvK x m n k u r=qwc x m n k u r:=by
 intro m;induction m with
 | zero=>intro _ _ _ _ h; omega
 | succ m ih =>
  intro n k u r hmu n0 n1 k0 k1;rw [qvK,qwc,qv6 hx n0 n1 k0 k1];split
  ·congr 1;refine List.map_congr_left λa ha=>?_;refine qvD (g:=x.g) k0 a.l [] k (λs hs hk=>(qcD hx ha s hs hk).1) (λi hi hk j hj=>?_) ⟨Int.le_refl _,k1,by simp,λ_=>.nil⟩;obtain⟨q1,q2,q3,q4,q5⟩:=qvT hx n0 k0 k1 ha hi hk (by simpa using hj);simp only at q1 q4 q5;exact⟨by unfold qaN; rw [qv6 hx q2 q3 q4 q5],λu'=>ih _ _ _ _ (by omega) q2 q3 q4 q5,(qbf hx q2 q3 q4 q5).2⟩
  ·rfl
end
theorem qvw {x:Ev}(hm:mayE x=true) {n k:Int}(u r:Int) (n0:0≤n) (n1:n<x.g.p.l.length) (k0:0≤k) (k1:k≤x.w.l.length):qvt x n k u r=qvC x n k u r:=by
 have hx:=qbq hm;unfold qvt qvC;rw [if_pos ⟨hm,n0,n1,k0,k1⟩];unfold qvr;rw [←qvH hx _ n k u r (Nat.lt_succ_self _) n0 n1 k0 k1 _ (qv5 hx k0 k1),qwb hx _ n k u r (qv5 hx k0 k1) n0 n1 k0 k1]
theorem qwf {x:Ev}{n mk:Nat}{h:Heap}(hg:x.g.Fine) (hB:WB h x.w) (e:evCall PR n mk (.fn 312 [] []) [.agg x.cells] h=some [⟨.bool true,h⟩]):mayE x=true:=by
 obtain⟨l,N,h0,_,h2,h3⟩:=qbJ (d:=false) (mk:=mk) x hg hB;have e1:=qdU qda n (max n N) mk mk (by omega) (Nat.le_refl _) _ _ _ _ e;have h4:=h2 (max n N) (by omega);simp only at h4;rw [h4] at e1;cases e1;have:=h3 _ (List.mem_singleton.2 rfl);simp only [VH.mk.injEq,V.bool.injEq,and_true] at this;exact this.symm
def qxo (L:Look) (C:Int→Int→Int→Nat) (w:List UInt8) (u:Int):List Sy→Int→Nat
 | [],k=>if k=u then 1 else 0
 | s::ss,k=>if s.kind=2 then ((L s.n k).map λe=>if qxo L C w u ss e.1=0 then 0 else qxo L C w u ss e.1 * C s.n k e.1).sum else if 0<qbr s w k then qxo L C w u ss (k+qbr s w k) else 0
theorem qxl {L:Look}{C:Int→Int→Int→Nat}{w:List UInt8}{u:Int}:∀(l:List Sy) (k:Int),qxo L C w u l k=qvs L C w u l k
 | [],_=>rfl
 | s::ss,k=>by
  have ih:=λk=>qxl (L:=L) (C:=C) (w:=w) (u:=u) ss k;rw [qxo,qvs];split
  ·congr 1;refine List.map_congr_left λe _=>?_;rw [ih];split
   ·rename_i h;rw [h,Nat.zero_mul]
   ·rfl
  ·split
   ·exact ih _
   ·rfl
def qxn (x:Ev) (Lk:Int→Int→List En):Nat→Int→Int→Int→Nat
 | 0,_,_,_=>0
 | m+1,n,k,u=>if endB (Lk n k) u=true then ((lat x.g.p.l n.toNat).a.l.map λa=>qxo Lk (λn' k' u'=>qxn x Lk m n' k' u') x.w.l u a.l k).sum else 0
section
variable {x:Ev}(hx:EvW x) {q:Int}{Lk:Int→Int→List En}
 (hq:∀n k:Int,0≤n→n<x.g.p.l.length→0≤k→k≤x.w.l.length→refV x n k q=q)
 (hL:∀n k:Int,0≤n→n<x.g.p.l.length→0≤k→k≤x.w.l.length→(qaL x n k q).2=Lk n k)
include hx hq hL
theorem qxs:∀(m:Nat) (n k u:Int),muN x.g x.w.l n k<m→0≤n→n<x.g.p.l.length→0≤k→k≤x.w.l.length→qvK x m n k u q=qxn x Lk m n k u:=by
 intro m;induction m with
 | zero=>intro _ _ _ h; omega
 | succ m ih =>
  intro n k u hmu n0 n1 k0 k1;rw [qvK,qxn,hL n k n0 n1 k0 k1,hq n k n0 n1 k0 k1];split
  ·congr 1;refine List.map_congr_left λa ha=>?_;rw [qxl];refine qvD (g:=x.g) k0 a.l [] k (λs hs hk=>(qcD hx ha s hs hk).1) (λi hi hk j hj=>?_) ⟨Int.le_refl _,k1,by simp,λ_=>.nil⟩;obtain⟨q1,q2,q3,q4,q5⟩:=qvT hx n0 k0 k1 ha hi hk (by simpa using hj);simp only at q1 q4 q5;exact⟨by unfold qaN; exact hL _ _ q2 q3 q4 q5,λu'=>ih _ _ _ (by omega) q2 q3 q4 q5,(qbf hx q2 q3 q4 q5).2⟩
  ·rfl
theorem qxr {n k:Int}(u:Int) (n0:0≤n) (n1:n<x.g.p.l.length) (k0:0≤k) (k1:k≤x.w.l.length):qvr x n k u q=qxn x Lk (61 * (x.w.l.length+1)) n k u:=by
 unfold qvr;rw [←qvH hx _ n k u q (Nat.lt_succ_self _) n0 n1 k0 k1 _ (qv5 hx k0 k1),qxs hx hq hL _ n k u (qv5 hx k0 k1) n0 n1 k0 k1]
end
theorem qxw {x:Ev}(hm:mayE x=true) {q:Int}{Lk:Int→Int→List En}
  (hq:∀n k:Int,0≤n→n<x.g.p.l.length→0≤k→k≤x.w.l.length→refV x n k q=q)
  (hL:∀n k:Int,0≤n→n<x.g.p.l.length→0≤k→k≤x.w.l.length→(qaL x n k q).2=Lk n k) {n k:Int}(u:Int) (n0:0≤n) (n1:n<x.g.p.l.length) (k0:0≤k) (k1:k≤x.w.l.length) :
  qvt x n k u q=((min (qxn x Lk (61 * (x.w.l.length+1)) n k u) 2:Nat):Int):=by
 unfold qvt;rw [if_pos ⟨hm,n0,n1,k0,k1⟩,qxr (qbq hm) hq hL u n0 n1 k0 k1]
theorem qxy {x y:Ev}(hm:mayE x=true) (hg:y.g=x.g) (ht:y.tab=x.tab) (hw:y.w.l.length≤200):mayE y=true:=by
 simp only [mayE,Bool.and_eq_true,decide_eq_true_eq] at hm ⊢;rw [hg,ht];exact⟨hm.1,hw,hm.2.2⟩
abbrev RowT:=List (List En × List En)
def qxj (x:Ev) (q:Int) (T:List RowT) (k:Int):Nat→Int→List En × List En
 | 0,_=>([],[])
 | d+1,n=>(qcG x (λn' k'=>if k'=k then (qxj x q T k d n').2 else (lat (lat T (k'-k-1).toNat) n'.toNat).2) n k,
   endE x n k q (qcG x (λn' k'=>if k'=k then (qxj x q T k d n').2 else (lat (lat T (k'-k-1).toNat) n'.toNat).2) n k))
def rowP (x:Ev) (q:Int) (T:List RowT) (k:Int):RowT:=(List.range x.g.p.l.length).map λn:Nat=>qxj x q T k 62 n
def tabF (x:Ev) (q:Int):Nat→List RowT
 | 0=>[rowP x q [] x.w.l.length]
 | j+1=>rowP x q (tabF x q j) (x.w.l.length-j-1)::tabF x q j
def qxu (x:Ev) (q:Int) (n k:Int):List En × List En:=lat (lat (tabF x q x.w.l.length) k.toNat) n.toNat
section
variable {x:Ev}(hx:EvW x) {q:Int}
 (hq:∀n k:Int,0≤n→n<x.g.p.l.length→0≤k→k≤x.w.l.length→refV x n k q=q)
include hx hq
theorem qxv {T:List RowT}{k:Int}(k0:0≤k) (k1:k≤x.w.l.length) (hT:∀n k':Int,0≤n→n<x.g.p.l.length→k<k'→k'≤x.w.l.length→lat (lat T (k'-k-1).toNat) n.toNat=qaL x n k' q) :
  ∀(d:Nat) (n:Int),qnR x.g n<d→0≤n→n<x.g.p.l.length→qxj x q T k d n=qaL x n k q:=by
 intro d;induction d with
 | zero=>intro _ h; omega
 | succ d ih =>
  intro n hr n0 n1;rw [qbD hx n0 n1 k0 k1,hq n k n0 n1 k0 k1,qxj];have hc:qcG x (λn' k'=>if k'=k then (qxj x q T k d n').2 else (lat (lat T (k'-k-1).toNat) n'.toNat).2) n k=qcG x (qaN x q) n k:=by
   unfold qcG;congr 1;have key:∀as:List (Sl Sy),(∀a∈as,a∈(lat x.g.p.l n.toNat).a.l)→(as.flatMap λa=>qaA (λn' k'=>if k'=k then (qxj x q T k d n').2 else (lat (lat T (k'-k-1).toNat) n'.toNat).2) x.w.l a.l [(k,0)])=as.flatMap λa=>qaA (qaN x q) x.w.l a.l [(k,0)]:=by
    intro as;induction as with
    | nil=>intro _; rw [List.flatMap_nil,List.flatMap_nil]
    | cons a as ihs =>
     intro h;rw [List.flatMap_cons,List.flatMap_cons,ihs λb hb=>h b (by simp [hb])];congr 1;refine (qdp (g:=x.g) k0 a.l [] [(k,0)] (λs hs hk=>(qcD hx (h a (by simp)) s hs hk).1) (λi hi hk e he=>?_) (by
      intro e he;rw [List.mem_singleton] at he; subst he;exact⟨Int.le_refl _,k1,by simp only; omega,λ_=>.nil⟩)).symm
     obtain⟨q1,q2,q3,q4,q5⟩:=qvT hx n0 k0 k1 (h a (by simp)) hi hk (by simpa using he);have hin:=(qbf hx (ref:=q) q2 q3 q4 q5).2;refine⟨?_,hin⟩;show (qaL x _ _ q).2=_;have hle:=he.1
     by_cases c:e.1=k
     ·rw [if_pos c,c,ih _ (by unfold muN at q1; rw [c] at q1; omega) q2 q3]
     ·rw [if_neg c,hT _ _ q2 q3 (by omega) q5]
   exact key _ λ_ h=>h
  rw [hc]
theorem qxq {T:List RowT}{k:Int}(k0:0≤k) (k1:k≤x.w.l.length) (hT:∀n k':Int,0≤n→n<x.g.p.l.length→k<k'→k'≤x.w.l.length→lat (lat T (k'-k-1).toNat) n.toNat=qaL x n k' q) {n:Int}(n0:0≤n) (n1:n<x.g.p.l.length):lat (rowP x q T k) n.toNat=qaL x n k q:=by
 have hok:=qaF hx.m;have hp:=hok.p;have r1:=qlj (g:=x.g) n;have h:=qxv hx hq k0 k1 hT 62 n (by omega) n0 n1;rw [←h];have:(rowP x q T k)[n.toNat]?=some (qxj x q T k 62 n):=by
  unfold rowP;rw [List.getElem?_map,List.getElem?_range (by omega)];simp only [Option.map_some];rw [show ((n.toNat:Nat):Int)=n by omega]
 unfold lat;rw [List.getElem!_eq_getElem?_getD,this];rfl
theorem qxp:∀(j:Nat),j≤x.w.l.length→∀n k:Int,0≤n→n<x.g.p.l.length→x.w.l.length-j≤k→k≤x.w.l.length→lat (lat (tabF x q j) (k-(x.w.l.length-j)).toNat) n.toNat=qaL x n k q
 | 0,_,n,k,n0,n1,k0,k1=>by
  obtain rfl:k=x.w.l.length:=by omega
  rw [show ((x.w.l.length:Int)-(x.w.l.length-(0:Nat))).toNat=0 by omega];exact qxq hx hq (by omega) (by omega) (λ_ _ _ _ _ _=>by omega) n0 n1
 | j+1,hj,n,k,n0,n1,k0,k1=>by
  have ih:=qxp j (by omega)
  by_cases c:k=x.w.l.length-(j+1:Nat)
  ·subst c;rw [show ((x.w.l.length:Int)-(j+1:Nat)-(x.w.l.length-(j+1:Nat))).toNat=0 by omega];show lat (rowP x q (tabF x q j) (x.w.l.length-j-1)) n.toNat=_;rw [show (x.w.l.length:Int)-(j+1:Nat)=x.w.l.length-j-1 by omega];refine qxq hx hq (by omega) (by omega) (λn' k' a b c d=>?_) n0 n1;rw [←ih n' k' a b (by omega) d];congr 2;omega
  ·rw [show (k-(x.w.l.length-(j+1:Nat))).toNat=(k-(x.w.l.length-j)).toNat+1 by omega];exact ih n k n0 n1 (by omega) k1
theorem qxt:∀n k:Int,0≤n→n<x.g.p.l.length→0≤k→k≤x.w.l.length→qaL x n k q=qxu x q n k:=λn k n0 n1 k0 k1=>by
 rw [←qxp hx hq _ (Nat.le_refl _) n k n0 n1 (by omega) k1];unfold qxu;congr 2;omega
end
def ltI:List Int→List Int→Bool
 | [],[]=>false
 | [],_::_=>true
 | _::_,[]=>false
 | a::l,b::m=>decide (a<b)||(decide (a=b)&&ltI l m)
def quw (g:Gr) (a b:List Nd):Bool:=mayB g&&ltI (qum g a) (qum g b)
def qwn:Int:=1099511627776
def badC (L:Look) (w:List UInt8) (u:Int):List Sy→Int→Int
 | [],k=>if k=u then 0 else qwn
 | s::ss,k=>if s.kind=2 then (L s.n k).foldl (λo e=>min o (e.2+badC L w u ss e.1)) qwn else if 0<qbr s w k then badC L w u ss (k+qbr s w k) else qwn
def qwt (g:Gr) (f:En→List Nd) (ok:En→Bool):List En→Option (List Nd × En)→Option (List Nd × En)
 | [],b=>b
 | e::l,b=>qwt g f ok l (if ok e=true then (match b with
   | none=>some (f e,e)
   | some c=>if quw g (f e) c.1=true then some (f e,e) else b) else b)
def qwp (g:Gr) (L:Look) (T:Int→Int→Int→Int→List Nd) (w:List UInt8) (u:Int):List Sy→Int→Int→List Nd
 | [],_,_=>[]
 | s::ss,k,b=>if s.kind=2 then (match qwt g (λe=>T s.n k e.1 e.2) (λe=>decide (e.2+badC L w u ss e.1=b)) (L s.n k) none with
   | some c=>c.1++qwp g L T w u ss c.2.1 (b-c.2.2)
   | none=>[]) else if 0<qbr s w k then qwp g L T w u ss (k+qbr s w k) b else []
noncomputable def qwq (x:Ev) (n k u r:Int):Bool:=qbp x n k u r&&(!bitB (lat x.g.p.l n.toNat).marks 1||decide (((qaL x n k r).1.getLast?.map (·.1))=some u))
noncomputable def qwx (x:Ev):Nat→Int→Int→Int→Int→Int→List Nd
 | 0,_,_,_,_,_=>[]
 | m+1,n,k,u,r,b =>
  if 0≤idxP (λa=>qwq x n k u r&&decide (badC (qaN x (refV x n k r)) x.w.l u a.l k=b)) (lat x.g.p.l n.toNat).a.l 0 then
   (n,idxP (λa=>qwq x n k u r&&decide (badC (qaN x (refV x n k r)) x.w.l u a.l k=b)) (lat x.g.p.l n.toNat).a.l 0,k,u) ::
    qwp x.g (qaN x (refV x n k r)) (λn' k' u' b'=>qwx x m n' k' u' (refV x n k r) b') x.w.l u (lat (lat x.g.p.l n.toNat).a.l (idxP (λa=>qwq x n k u r&&decide (badC (qaN x (refV x n k r)) x.w.l u a.l k=b)) (lat x.g.p.l n.toNat).a.l 0).toNat).l k b
  else [(n,(lat x.g.p.l n.toNat).a.l.length,k,u)]
noncomputable def lstN (x:Ev) (n k u r b:Int):List Nd:=qwx x (muN x.g x.w.l n k+1) n k u r b
section
variable {x:Ev}(hx:EvW x)
include hx
end
set_option maxRecDepth 10000
def intI (n:Int):V:=.int .i64 n
def NdX (X:Nat→Prop) (h:Heap) (v:V) (l:List Nd):Prop:=(∃s:Sl Nd,v=s.enc qui∧s.l=l) ∨
 ∃id lo f rs,v=.sl id lo l.length 4 f∧h.get id=some (.rows rs)∧lo+l.length≤rs.length∧(rs.drop lo).take l.length=l.map qui∧id<h.n∧¬X id
theorem NdX.fr {X X':Nat→Prop}{h h':Heap}{v:V}{l:List Nd}(hw:NdX X h v l) (hn:h.n≤h'.n) (hk:∀i rs,i<h.n→¬X i→h.get i=some (.rows rs)→h'.get i=some (.rows rs)) (hX:∀i,i<h.n→X' i→X i):NdX X' h' v l:=by
 rcases hw with a|⟨id,lo,f,rs,a,b,c,d,e,g⟩
 ·exact .inl a
 ·exact .inr ⟨id,lo,f,rs,a,hk id rs e g b,c,d,by omega,λhx=>g (hX id e hx)⟩
noncomputable def bdS (x:Ev) (p:Spn):Int:=(((qaL x p.1 p.2.1 p.2.2.1).2.find? λe=>decide (e.1=p.2.2.2)).map (·.2)).getD 0
noncomputable def lstS (x:Ev) (p:Spn):List Nd:=lstN x p.1 p.2.1 p.2.2.2 p.2.2.1 (bdS x p)
noncomputable def badP (x:Ev) (p:Pls):Int:=badC (qaN x p.2.2.2.2.2) x.w.l p.2.2.2.2.1 ((lat (lat x.g.p.l p.1.toNat).a.l p.2.1.toNat).l.drop p.2.2.1.toNat) p.2.2.2.1
def qwL (x:Ev) (M:Nat) (X:Nat→Prop) (h:Heap):Prop:=∃es c S,h.get M=some (.map es c)∧MapR qvL (λv:V=>v) es S∧∀p v,qaS p S=some v→NdX X h v (lstS x p)
theorem qwL.fr {x:Ev}{M:Nat}{X X':Nat→Prop}{h h':Heap}(hw:qwL x M X h) (hM:h'.get M=h.get M) (hn:h.n≤h'.n) (hk:∀i rs,i<h.n→¬X i→h.get i=some (.rows rs)→h'.get i=some (.rows rs)) (hX:∀i,i<h.n→X' i→X i):qwL x M X' h':=by
 obtain⟨es,c,S,a,b,e⟩:=hw;exact⟨es,c,S,by rw [hM,a],b,λp v hv=>(e p v hv).fr hn hk hX⟩
structure CtL (x:Ev) (K M1 M2 M3:Nat) (X:Nat→Prop) (h:Heap):Prop where
 k:h.get K=some (.rows [[x.g.p.enc Pd.cells,x.g.keys.enc qac,x.w.v,.int .i64 x.tab,.bool x.heal,.map M1,.map M2,.map M3]])
 m1:Kept qme qvF (λp=>(ofE x p.1 p.2.1 p.2.2).2) M1 h
 m2:Kept qvz intI (badP x) M2 h
 m3:qwL x M3 X h
 lk:K<h.n
 l1:M1<h.n
 l2:M2<h.n
 l3:M3<h.n
 d1:K≠M1
 d2:K≠M2
 d3:K≠M3
 d4:M1≠M2
 d5:M1≠M3
 d6:M2≠M3
 wb:WB h x.w
 wk:x.w.m≤K
 w1:x.w.m≤M1
 w2:x.w.m≤M2
 w3:x.w.m≤M3
section
variable {x:Ev}{K M1 M2 M3:Nat}{X X':Nat→Prop}{h h':Heap}
theorem CtL.keep (hC:CtL x K M1 M2 M3 X h) (hn:h.n≤h'.n) (hk:∀i,i<h.n→h'.get i=h.get i) (hX:∀i,i<h.n→X' i→X i):CtL x K M1 M2 M3 X' h':=by
 obtain⟨k,m1,m2,m3,lk,l1,l2,l3,d1,d2,d3,d4,d5,d6,wb,wk,w1,w2,w3⟩:=hC;exact⟨by rw [hk _ lk,k],m1.keep (hk _ l1),m2.keep (hk _ l2),m3.fr (hk _ l3) hn (λi rs hi _ e=>by rw [hk i hi,e]) hX,by omega,by omega,by omega,by omega,d1,d2,d3,d4,d5,d6,wb.keep λi hi=>hk i (by omega),wk,w1,w2,w3⟩
theorem CtL.less (hC:CtL x K M1 M2 M3 X h) (hX:∀i,i<h.n→X' i→X i):CtL x K M1 M2 M3 X' h:=hC.keep (Nat.le_refl _) (λ_ _=>rfl) hX
theorem CtL.upd (hC:CtL x K M1 M2 M3 X h) {N:Nat}(hN:X N) (hn:h.n≤h'.n) (h1:K≠N) (h2:M1≠N) (h3:M2≠N) (h4:M3≠N) (h5:x.w.m≤N) (hk:∀i,i<h.n→i≠N→h'.get i=h.get i):CtL x K M1 M2 M3 X h':=by
 obtain⟨k,m1,m2,m3,lk,l1,l2,l3,d1,d2,d3,d4,d5,d6,wb,wk,w1,w2,w3⟩:=hC;exact⟨by rw [hk _ lk h1,k],m1.keep (hk _ l1 h2),m2.keep (hk _ l2 h3),m3.fr (hk _ l3 h4) hn (λi rs hi hx e=>by rw [hk i hi (λc=>hx (c ▸ hN)),e]) (λ_ _ h=>h),by omega,by omega,by omega,by omega,d1,d2,d3,d4,d5,d6,wb.keep λi hi=>hk i (by omega) (by omega),wk,w1,w2,w3⟩
theorem CtL.set1 (hC:CtL x K M1 M2 M3 X h) {es:List (Nat × V × V)}{c:Nat}(hm:Kept qme qvF (λp=>(ofE x p.1 p.2.1 p.2.2).2) M1 (h.set M1 (.map es c))):CtL x K M1 M2 M3 X (h.set M1 (.map es c)):=by
 obtain⟨k,m1,m2,m3,lk,l1,l2,l3,d1,d2,d3,d4,d5,d6,wb,wk,w1,w2,w3⟩:=hC;obtain⟨es1,c1,S1,g1,_⟩:=m1
 exact⟨by rw [Heap.get_set,if_neg d1,k],hm,m2.keep (by rw [Heap.get_set,if_neg (Ne.symm d4)]),m3.fr (by rw [Heap.get_set,if_neg (Ne.symm d5)]) (by simp) (λi rs hi _ e=>by
  rw [Heap.get_set,if_neg (λc=>by rw [c,g1] at e; cases e),e]) (λ_ _ h=>h),lk,l1,l2,l3,d1,d2,d3,d4,d5,d6,wb.keep λi hi=>by rw [Heap.get_set,if_neg (by omega)],wk,w1,w2,w3⟩
theorem CtL.set2 (hC:CtL x K M1 M2 M3 X h) {es:List (Nat × V × V)}{c:Nat}(hm:Kept qvz intI (badP x) M2 (h.set M2 (.map es c))):CtL x K M1 M2 M3 X (h.set M2 (.map es c)):=by
 obtain⟨k,m1,m2,m3,lk,l1,l2,l3,d1,d2,d3,d4,d5,d6,wb,wk,w1,w2,w3⟩:=hC;obtain⟨es1,c1,S1,g1,_⟩:=m2
 exact⟨by rw [Heap.get_set,if_neg d2,k],m1.keep (by rw [Heap.get_set,if_neg d4]),hm,m3.fr (by rw [Heap.get_set,if_neg (Ne.symm d6)]) (by simp) (λi rs hi _ e=>by
  rw [Heap.get_set,if_neg (λc=>by rw [c,g1] at e; cases e),e]) (λ_ _ h=>h),lk,l1,l2,l3,d1,d2,d3,d4,d5,d6,wb.keep λi hi=>by rw [Heap.get_set,if_neg (by omega)],wk,w1,w2,w3⟩
theorem CtL.set3 (hC:CtL x K M1 M2 M3 X h) {es:List (Nat × V × V)}{c:Nat}(hm:qwL x M3 X (h.set M3 (.map es c))):CtL x K M1 M2 M3 X (h.set M3 (.map es c)):=by
 obtain⟨k,m1,m2,m3,lk,l1,l2,l3,d1,d2,d3,d4,d5,d6,wb,wk,w1,w2,w3⟩:=hC;exact⟨by rw [Heap.get_set,if_neg d3,k],m1.keep (by rw [Heap.get_set,if_neg d5]),m2.keep (by rw [Heap.get_set,if_neg d6]),hm,lk,l1,l2,l3,d1,d2,d3,d4,d5,d6,wb.keep λi hi=>by rw [Heap.get_set,if_neg (by omega)],wk,w1,w2,w3⟩
end
section
variable {x:Ev}{K M1 M2 M3 mk:Nat}{X:Nat→Prop}{h:Heap}{d:Bool}
end
section
variable {x:Ev}{k0 q u n alt:Int}{A:Sl Sy}
end
section
variable {x:Ev}{K M1 M2 M3 mk:Nat}{X:Nat→Prop}{h:Heap}{d:Bool}
end
def qvi (v:V) (b s:Bool):Bool:=match v with
 | .bool c=>cond (c == b) s true
 | .tup []=>true
 | _=>false
@[simp] theorem qvm {c b s:Bool}:qvi (.bool c) b s=cond (c == b) s true:=(rfl)
@[simp] theorem qvl {b s:Bool}:qvi (.tup []) b s=true:=(rfl)
@[simp] theorem qvn {d:Nat}{g:Nat × Bool}{o:RdO}{h:Heap}{tm:Tm}:qgg (some ⟨some d,some g,.r o⟩) (some h) tm=qvi ((gK g.1).run tm) g.2 (qpi ((qbc o).run tm h) ((gK d).run tm)):=(rfl)
section
variable {d:Bool}{mk:Nat}{h:Heap}
end
def OneB (Y:Nat→Prop) (h:Heap) (v:V) (e1 e2:Int):Option (List Nd × En)→Prop
 | none=>v=.nils
 | some c=>NdX Y h v c.1∧c.1≠[]∧c.1.length<1000000∧e1=c.2.1∧e2=c.2.2
structure TkS (x:Ev) (K M1 M2 M3:Nat) (Y:Nat→Prop) (B O:Nat) (n alt z j u q b:Int) (sym:Int) (s:Sy) (fr:Int) (c:Option (List Nd × En)) (h:Heap):Prop where
 ct:CtL x K M1 M2 M3 Y h
 f0:h.get B=some (.rows [[.ptr K 0 0]])
 p0:h.get (B+1)=some (.rows [[.int .i64 n,.int .i64 alt,.int .i64 sym,.int .i64 j,.int .i64 u,.int .i64 q]])
 d0:h.get (B+2)=some (.rows [[.int .i64 b]])
 s0:h.get O=some (.rows [s.cells])
 x0:h.get (O+1)=some (.rows [[.int .i64 n,.int .i64 alt,.int .i64 z,.int .i64 fr,.int .i64 u,.int .i64 q]])
 one:∃v e1 e2,h.get (O+2)=some (.rows [[v]])∧h.get (O+3)=some (.rows [[.int .i64 e1,.int .i64 e2]])∧OneB Y h v e1 e2 c
 lt:O+3<h.n
 bo:B+2<O
 y1:Y (O+1)
 y2:Y (O+2)
 y3:Y (O+3)
 yn:∀i,Y i→i<h.n
 kb:K<B∧M1<B∧M2<B∧M3<B
def FrT (M1 M2 M3 O:Nat) (h h':Heap):Prop:=h.n≤h'.n∧∀i,i<h.n→i≠M1→i≠M2→i≠M3→i≠O+1→i≠O+2→i≠O+3→h'.get i=h.get i
theorem OneB.fr {Y:Nat→Prop}{h h':Heap}{v:V}{e1 e2:Int}{c:Option (List Nd × En)}(hc:OneB Y h v e1 e2 c) (hn:h.n≤h'.n) (hk:∀i rs,i<h.n→¬Y i→h.get i=some (.rows rs)→h'.get i=some (.rows rs)):OneB Y h' v e1 e2 c:=by
 cases c with
 | none=>exact hc
 | some c=>exact⟨hc.1.fr hn hk (λ_ _ h=>h),hc.2⟩
theorem CtL.rows {x:Ev}{K M1 M2 M3:Nat}{X:Nat→Prop}{h:Heap}(hC:CtL x K M1 M2 M3 X h) {i:Nat}{rs:List (List V)}(hi:h.get i=some (.rows rs)):i≠M1∧i≠M2∧i≠M3:=by
 obtain⟨_,_,_,g1,_⟩:=hC.m1;obtain⟨_,_,_,g2,_⟩:=hC.m2;obtain⟨_,_,_,g3,_⟩:=hC.m3;refine⟨λc=>?_,λc=>?_,λc=>?_⟩
 ·rw [c,g1] at hi; cases hi
 ·rw [c,g2] at hi; cases hi
 ·rw [c,g3] at hi; cases hi
theorem CtL.frk {x:Ev}{K M1 M2 M3:Nat}{X:Nat→Prop}{h h':Heap}(hC:CtL x K M1 M2 M3 X h) (hF:Fr3 M1 M2 M3 h h'):∀i rs,i<h.n→h.get i=some (.rows rs)→h'.get i=some (.rows rs):=λi rs hi e=>by
 obtain⟨a,b,c⟩:=hC.rows e;rw [hF.2 i hi a b c,e]
section
variable {x:Ev}{K M1 M2 M3 mk B O:Nat}{Y:Nat→Prop}{h:Heap}{d:Bool}{n alt z j u q b sym fr:Int}{s:Sy}{c:Option (List Nd × En)}
theorem TkS.mv (hT:TkS x K M1 M2 M3 Y B O n alt z j u q b sym s fr c h) {h':Heap}(hC:CtL x K M1 M2 M3 Y h') (hF:Fr3 M1 M2 M3 h h'):TkS x K M1 M2 M3 Y B O n alt z j u q b sym s fr c h':=by
 obtain⟨c0,f0,p0,d0,s0,x0,⟨v,e1,e2,g1,g2,g3⟩,lt,bo,y1,y2,y3,yn,kb⟩:=hT;have hk:=c0.frk hF;have:=hF.1;exact⟨hC,hk _ _ (by omega) f0,hk _ _ (by omega) p0,hk _ _ (by omega) d0,hk _ _ (by omega) s0,hk _ _ (by omega) x0,⟨v,e1,e2,hk _ _ (by omega) g1,hk _ _ (by omega) g2,g3.fr hF.1 λi rs hi _ e=>hk i rs hi e⟩,by omega,bo,y1,y2,y3,λi hi=>by have:=yn i hi; omega,kb⟩
end
theorem NdX.rows {X:Nat→Prop}{h:Heap}{v:V}{l:List Nd}(hv:NdX X h v l):qal h v=some (l.map qui):=by
 rcases hv with ⟨s,rfl,rfl⟩|⟨id,lo,f,rs,rfl,a,b,c,_⟩
 ·cases s<;>rfl
 ·simp only [qal,a];rw [Nat.ble_eq_true_of_le b,c]; rfl
theorem CtL.upd2 {x:Ev}{K M1 M2 M3:Nat}{X:Nat→Prop}{h h':Heap}(hC:CtL x K M1 M2 M3 X h) {P:Nat→Prop}(hP:∀i,P i→X i∧K<i∧M1<i∧M2<i∧M3<i) (hn:h.n≤h'.n) (hk:∀i,i<h.n→¬P i→h'.get i=h.get i):CtL x K M1 M2 M3 X h':=by
 obtain⟨k,m1,m2,m3,lk,l1,l2,l3,d1,d2,d3,d4,d5,d6,wb,wk,w1,w2,w3⟩:=hC;have hp:∀i,i≤K∨i≤M1∨i≤M2∨i≤M3→¬P i:=λi hi c=>by have:=hP i c; omega
 exact⟨by rw [hk _ lk (hp _ (by omega)),k],m1.keep (hk _ l1 (hp _ (by omega))),m2.keep (hk _ l2 (hp _ (by omega))),m3.fr (hk _ l3 (hp _ (by omega))) hn (λi rs hi hx e=>by rw [hk i hi (λc=>hx (hP i c).1),e]) (λ_ _ h=>h),by omega,by omega,by omega,by omega,d1,d2,d3,d4,d5,d6,wb.keep λi hi=>hk i (by omega) (hp _ (by omega)),wk,w1,w2,w3⟩
structure RsS (x:Ev) (K M1 M2 M3:Nat) (X:Nat→Prop) (h:Heap) (Y:Nat→Prop) (n alt u q sym j b:Int) (out:V) (done:List Nd) (H:Heap):Prop where
 ct:CtL x K M1 M2 M3 Y H
 fr:Fr3 M1 M2 M3 h H
 nn:h.n+3≤H.n
 f0:H.get h.n=some (.rows [[.ptr K 0 0]])
 p0:H.get (h.n+1)=some (.rows [[.int .i64 n,.int .i64 alt,.int .i64 sym,.int .i64 j,.int .i64 u,.int .i64 q]])
 d0:H.get (h.n+2)=some (.rows [[.int .i64 b]])
 own:Own H (h.n+3) out 4 (done.map qui)
 oy:∀i,slId out=some i→Y i
 y1:Y (h.n+1)
 y2:Y (h.n+2)
 yx:∀i,X i→Y i
 yn:∀i,Y i→i<H.n
section
variable {x:Ev}{K M1 M2 M3 mk:Nat}{X Y:Nat→Prop}{h H:Heap}{d:Bool}{n alt u q sym j b:Int}{out:V}{done:List Nd}
theorem RsS.setB (hS:RsS x K M1 M2 M3 X h Y n alt u q sym j b out done H) (hl:K<h.n∧M1<h.n∧M2<h.n∧M3<h.n) (b':Int):RsS x K M1 M2 M3 X h Y n alt u q sym j b' out done (H.set (h.n+2) (.rows [[.int .i64 b']])):=by
 obtain⟨ct,fr,nn,f0,p0,d0,own,oy,y1,y2,yx,yn⟩:=hS;have gk:∀i,i≠h.n+2→(H.set (h.n+2) (.rows [[.int .i64 b']])).get i=H.get i:=λi hne=>by rw [Heap.get_set,if_neg hne]
 refine⟨ct.upd y2 (by simp) (by omega) (by omega) (by omega) (by omega) (by have:=ct.wk; omega) λi _ hne=>gk i hne,fr.trans_lt (by simp) λi hi=>gk i (by omega),by simpa using nn,by rw [gk _ (by omega),f0],by rw [gk _ (by omega),p0],by rw [Heap.get_set,if_pos rfl],own.setOff (own.slId (by omega)),oy,y1,y2,yx,by simpa using yn⟩
theorem RsS.more (hS:RsS x K M1 M2 M3 X h Y n alt u q sym j b out done H) {H':Heap}(hn:H.n≤H'.n) (hk:∀i,i<H.n→H'.get i=H.get i) (m:Nat) (hm:m≤H'.n):RsS x K M1 M2 M3 X h (λi=>Y i∨(H.n≤i∧i<m)) n alt u q sym j b out done H':=by
 obtain⟨ct,fr,nn,f0,p0,d0,own,oy,y1,y2,yx,yn⟩:=hS;refine⟨ct.keep hn hk λi hi hy=>?_,fr.trans_lt hn λi hi=>hk i (by have:=fr.1; omega),by omega,by rw [hk _ (by omega),f0],by rw [hk _ (by omega),p0],by rw [hk _ (by omega),d0],own.ext hk hn,λi hi=>.inl (oy i hi),.inl y1,.inl y2,λi hi=>.inl (yx i hi),λi hi=>?_⟩
 ·rcases hy with c|c
  ·exact c
  ·omega
 ·rcases hi with c|c
  ·have:=yn i c; omega
  ·omega
theorem RsS.app (hS:RsS x K M1 M2 M3 X h Y n alt u q sym j b out done H) (hl:K<h.n∧M1<h.n∧M2<h.n∧M3<h.n) (hmk:mk≤h.n) (l:List Nd) (hlen:done.length+l.length<2000000) :
  ∃v' H',qaj mk H 4 32 out (l.map qui)=some ⟨v',H'⟩∧∃Y',RsS x K M1 M2 M3 X h Y' n alt u q sym j b v' (done++l) H'∧∀i,i<H.n→slId out≠some i→H'.get i=H.get i:=by
 obtain⟨ct,fr,nn,f0,p0,d0,own,oy,y1,y2,yx,yn⟩:=hS;obtain⟨v',H',a1,a2,a3,a4,a5⟩:=qaC (mk:=mk) (bytes:=32) (xs:=l.map qui) own (by omega) (by
  intro r hr;obtain⟨y,_,rfl⟩:=List.mem_map.1 hr;exact⟨rfl,rfl⟩) (by simp; omega) (by omega) (by omega)
 have hlow:∀i,i<h.n+3→slId out≠some i:=λi hi=>own.slId hi;have hcu:=ct.upd2 (P:=λi=>slId out=some i) (h':=H') (λi hi=>⟨oy i hi,by
  have:¬i<h.n+3:=λc=>hlow i c hi;omega⟩) a3 λi hi hp=>a4 i hi hp
 refine⟨v',H',a1,λi=>Y i∨(H.n≤i∧i<H'.n),⟨?_,fr.trans_lt a3 λi hi=>a4 i (by have:=fr.1; omega) (hlow i (by omega)),by omega,by rw [a4 _ (by omega) (hlow _ (by omega)),f0],by rw [a4 _ (by omega) (hlow _ (by omega)),p0],by rw [a4 _ (by omega) (hlow _ (by omega)),d0],by rw [List.map_append]; exact a2,λi hi=>?_,.inl y1,.inl y2,λi hi=>.inl (yx i hi),λi hi=>?_⟩,a4⟩
 ·
  have hct:=ct.keep (h':=H) (X':=λi=>Y i∨(H.n≤i∧i<H'.n)) (Nat.le_refl _) (λ_ _=>rfl) λi hi hy=>by
   rcases hy with c|c
   ·exact c
   ·omega
  exact hct.upd2 (P:=λi=>slId out=some i) (λi hi=>⟨.inl (oy i hi),by
   have:¬i<h.n+3:=λc=>hlow i c hi;omega⟩) a3 λi hi hp=>a4 i hi hp
 ·rcases a5 i hi with c|c
  ·refine .inr ⟨c,?_⟩;rcases a2 with ⟨rfl,_⟩|⟨id,rfl,_,_,g,_⟩
   ·simp [slId] at hi
   ·simp [slId] at hi; omega
  ·exact .inl (oy i c)
 ·rcases hi with c|c
  ·have:=yn i c; omega
  ·exact c.2
theorem FrT.trans {O:Nat}{h h' h'':Heap}(a:FrT M1 M2 M3 O h h') (b:FrT M1 M2 M3 O h' h''):FrT M1 M2 M3 O h h'' :=
 ⟨Nat.le_trans a.1 b.1,λi hi x1 x2 x3 x4 x5 x6=>by rw [b.2 i (by have:=a.1; omega) x1 x2 x3 x4 x5 x6,a.2 i hi x1 x2 x3 x4 x5 x6]⟩
theorem FrT.refl {O:Nat}{h:Heap}:FrT M1 M2 M3 O h h:=⟨Nat.le_refl _,λ_ _ _ _ _ _ _ _=>rfl⟩
end
section
variable {x:Ev}{k0 q u n alt b0:Int}{A:Sl Sy}
end
theorem qwL.put {x:Ev}{M:Nat}{X:Nat→Prop}{h:Heap}{es es':List (Nat × V × V)}{c c':Nat}{S:List (Spn × V)}{p:Spn}{v:V}(hM:h.get M=some (.map es c)) (hS:∀p v,qaS p S=some v→NdX X h v (lstS x p)) (hR:MapR qvL (λv:V=>v) es' (aSet p v S)) (hv:NdX X h v (lstS x p)):qwL x M X (h.set M (.map es' c')):=by
 have hk:∀i rs,i<h.n→¬X i→h.get i=some (.rows rs)→(h.set M (.map es' c')).get i=some (.rows rs):=λi rs _ _ e=>by
  rw [Heap.get_set,if_neg (λc=>by rw [c,hM] at e; cases e),e]
 refine⟨es',c',aSet p v S,by rw [Heap.get_set,if_pos rfl],hR,λr w hw=>?_⟩;rw [qhs] at hw;split at hw
 ·rename_i e; cases hw; rw [e]; exact hv.fr (by simp) hk (λ_ _ h=>h)
 ·exact (hS r w hw).fr (by simp) hk (λ_ _ h=>h)
section
variable {x:Ev}{q:Int}
end
theorem qwr {mk k:Nat}{h:Heap}:∀l:List Nd,allM (allM (freeze mk h (k+1))) (l.map qui)=some (l.map qui)
 | []=>rfl
 | x::l=>by
  have:=qwr (mk:=mk) (k:=k) (h:=h) l;have e:∀y,freeze mk h (k+1) (.int .i64 y)=some (.int .i64 y):=λy=>rfl;simp only [List.map_cons,qui,allM,e] at this ⊢;rw [this]
theorem NdX.frz {X:Nat→Prop}{h:Heap}{v:V}{l:List Nd}(hv:NdX X h v l) {m k:Nat}(hX:∀i,i<m→X i):∃s:Sl Nd,s.l=l∧freeze m h (k+2) v=some (s.enc qui):=by
 rcases hv with ⟨s,rfl,rfl⟩|⟨id,lo,f,rs,rfl,a,b,c,d,e⟩
 ·refine⟨s,rfl,?_⟩;cases s with
  | nil=>rfl
  | of l =>
   show (match allM (allM (freeze m h (k+1))) (l.map qui) with|some r=>some (V.slR r false)|none=>none)=_;rw [qwr]; rfl
  | full l =>
   show (match allM (allM (freeze m h (k+1))) (l.map qui) with|some r=>some (V.slR r true)|none=>none)=_;rw [qwr]; rfl
 ·have hm:m≤id:=by
   rcases Nat.lt_or_ge id m with q|q
   ·exact absurd (hX id q) e
   ·exact q
  have hr:qal h (.sl id lo l.length 4 f)=some (l.map qui):=by
   simp only [qal,a];rw [Nat.ble_eq_true_of_le b,c]; rfl
  refine⟨.of l,rfl,?_⟩;show cond (Nat.ble m id) (match qal h (.sl id lo l.length 4 f) with|some rows=>(match allM (allM (freeze m h (k+1))) rows with|some r=>some (V.slR r false)|none=>none)|none=>none) none=_;rw [hr,Nat.ble_eq_true_of_le hm];simp only [qwr,cond];rfl
section
variable {x:Ev}{q mk:Nat}{h:Heap}{d:Bool}
end
section
variable {x:Ev}(hx:EvW x) {q:Int}{Lk:Int→Int→List En × List En}
 (hq:∀n k:Int,0≤n→n<x.g.p.l.length→0≤k→k≤x.w.l.length→refV x n k q=q)
 (hL:∀n k:Int,0≤n→n<x.g.p.l.length→0≤k→k≤x.w.l.length→qaL x n k q=Lk n k)
include hx hq hL
end
def sumA (A:Int→Nat):List Sy→Nat
 | []=>0
 | s::l=>(if s.kind=2 then A s.n else 0)+sumA A l
def cntT:List Sy→Nat
 | []=>0
 | s::l=>(if s.kind=2 then 0 else 1)+cntT l
section
variable {x:Ev}(hx:EvW x) (hw:x.w.l.length<1000000) {q:Int}
 (hq:∀n k:Int,0≤n→n<x.g.p.l.length→0≤k→k≤x.w.l.length→refV x n k q=q) {A:Int→Nat}{B:Nat}
 (hA:∀i:Nat,i<x.g.p.l.length→1≤A i∧∀a∈(lat x.g.p.l i).a.l,1+sumA A a.l≤A i+B * cntT a.l)
include hx hw hq hA
end
theorem qwW {x:Ev}(h:∀p∈x.g.p.l,bitB p.marks 8=false) (q:Int):∀n k:Int,0≤n→n<x.g.p.l.length→0≤k→k≤x.w.l.length→refV x n k q=q:=λn k n0 n1 _ _=>by
 unfold refV;rw [if_neg];rintro⟨_,h2⟩;rw [h _ (qai (by omega))] at h2;cases h2
end Go.Abs

