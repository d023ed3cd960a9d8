/- What the program's functions come to, by the evaluator's rules; the intermediate code. -/
import Derived.Test.YtjgjlijanemgeaaGreatDoorAc3
set_option linter.unusedSimpArgs false
set_option linter.unusedVariables false
namespace Go.Abs
open Go Pr
def qwl (x:Ev) (n k r:Int):List En × List En:=qb9 x (61 * (x.w.l.length+1)) n k r
def qwc (x:Ev):Nat→Int→Int→Int→Int→Nat
 | 0,_,_,_,_=>0
 | m+1,n,k,u,r=>if endB (qwl x n k r).2 u=true then ((lat x.g.p.l n.toNat).a.l.map λa=>qvs (λn' k'=>(qwl x n' k' (refV x n k r)).2) (λn' k' u'=>qwc x m n' k' u' (refV x n k r)) x.w.l u a.l k).sum else 0
def qvC (x:Ev) (n k u r:Int):Int:=((min (qwc x (61 * (x.w.l.length+1)) n k u r) 2:Nat):Int)
theorem qvD {g:Gr}{w:List UInt8}{L L':Look}{k0:Int}{C C':Int→Int→Int→Nat}{u:Int}(h0:0≤k0):∀(m l:List Sy) (k:Int),(∀s∈m,s.kind=2→0≤s.n)→(∀i,i<m.length→(lat m i).kind=2→∀j,NowP g w (l++m.take i) k0 (j,0)→L (lat m i).n j=L' (lat m i).n j∧(∀u',C (lat m i).n j u'=C' (lat m i).n j u')∧∀f∈L (lat m i).n j,EndP g w (lat m i).n j f) →
  NowP g w l k0 (k,0)→qvs L C w u m k=qvs L' C' w u m k
 | [],_,_,_,_,_=>rfl
 | s::m,l,k,hs,hC,h=>by
  rw [qvs,qvs];have h1:∀k',NowP g w (l++[s]) k0 (k',0)→qvs L C w u m k'=qvs L' C' w u m k':=λk' hk' =>
   qvD h0 m (l++[s]) k' (λt ht=>hs t (by simp [ht])) (λi hi hk j hj=>hC (i+1) (by simp; omega) (by simpa [lat] using hk) j (by simpa using hj)) hk'
  split
  ·rename_i hk;obtain⟨e0,e1,e2⟩:=hC 0 (by simp) (by simpa [lat] using hk) k (by simpa using h);rw [show lat (s::m) 0=s from rfl] at e0 e1 e2;rw [←e0];congr 1;refine List.map_congr_left λe he=>?_;rw [h1 e.1 (qvO h0 (hs s (by simp) hk) hk e2 h he),e1]
  ·split
   ·rename_i hk hm;exact h1 _ (qvA h0 hk h hm)
   ·rfl
section
variable {x:Ev}(hx:EvW x)
include hx
theorem qv5 {n k:Int}(k0:0≤k) (k1:k≤x.w.l.length):muN x.g x.w.l n k<61 * (x.w.l.length+1):=by
 have hok:=qaF hx.m;have hp:=hok.p;have r1:=qlj (g:=x.g) n;unfold muN;have:(x.w.l.length-k.toNat) * 61≤x.w.l.length * 61:=Nat.mul_le_mul_right _ (by omega);omega
theorem qv6 {n k r:Int}(n0:0≤n) (n1:n<x.g.p.l.length) (k0:0≤k) (k1:k≤x.w.l.length):qaL x n k r=qwl x n k r :=
 ((qgQ hx _ n k r (Nat.lt_succ_self _) n0 n1 k0 k1).2.2 _ (qv5 hx k0 k1)).symm
theorem qwb:∀(m:Nat) (n k u r:Int),muN x.g x.w.l n k<m→0≤n→n<x.g.p.l.length→0≤k→k≤x.w.l.length→qvK x m n k u r=qwc x m n k u r:=by
 intro m;induction m with
 | zero=>intro _ _ _ _ h; omega
 | succ m ih =>
  intro n k u r hmu n0 n1 k0 k1;rw [qvK,qwc,qv6 hx n0 n1 k0 k1];split
  ·congr 1;refine List.map_congr_left λa ha=>?_;refine qvD (g:=x.g) k0 a.l [] k (λs hs hk=>(qcD hx ha s hs hk).1) (λi hi hk j hj=>?_) ⟨Int.le_refl _,k1,by simp,λ_=>.nil⟩;obtain⟨q1,q2,q3,q4,q5⟩:=qvT hx n0 k0 k1 ha hi hk (by simpa using hj);simp only at q1 q4 q5;exact⟨by unfold qaN; rw [qv6 hx q2 q3 q4 q5],λu'=>ih _ _ _ _ (by omega) q2 q3 q4 q5,(qbf hx q2 q3 q4 q5).2⟩
  ·rfl
end
theorem qvw {x:Ev}(hm:mayE x=true) {n k:Int}(u r:Int) (n0:0≤n) (n1:n<x.g.p.l.length) (k0:0≤k) (k1:k≤x.w.l.length):qvt x n k u r=qvC x n k u r:=by
 have hx:=qbq hm;unfold qvt qvC;rw [if_pos ⟨hm,n0,n1,k0,k1⟩];unfold qvr;rw [←qvH hx _ n k u r (Nat.lt_succ_self _) n0 n1 k0 k1 _ (qv5 hx k0 k1),qwb hx _ n k u r (qv5 hx k0 k1) n0 n1 k0 k1]
theorem qwf {x:Ev}{n mk:Nat}{h:Heap}(hg:x.g.Fine) (hB:WB h x.w) (e:evCall PR n mk (.fn 312 [] []) [.agg x.cells] h=some [⟨.bool true,h⟩]):mayE x=true:=by
 obtain⟨l,N,h0,_,h2,h3⟩:=qbJ (d:=false) (mk:=mk) x hg hB;have e1:=qdU qda n (max n N) mk mk (by omega) (Nat.le_refl _) _ _ _ _ e;have h4:=h2 (max n N) (by omega);simp only at h4;rw [h4] at e1;cases e1;have:=h3 _ (List.mem_singleton.2 rfl);simp only [VH.mk.injEq,V.bool.injEq,and_true] at this;exact this.symm
end Go.Abs

