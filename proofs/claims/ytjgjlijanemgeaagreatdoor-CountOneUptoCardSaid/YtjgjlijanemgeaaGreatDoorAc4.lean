/- What the program's functions come to, by the evaluator's rules; the intermediate code. -/
import Derived.Test.YtjgjlijanemgeaaGreatDoorAc3
set_option linter.unusedSimpArgs false
set_option linter.unusedVariables false
namespace Go.Abs
open Go Pr
set_option maxRecDepth 10000
theorem qvX {L:Look}{C:Int→Int→Int→Nat}{w:List UInt8}{u:Int}:∀(m:List Sy) (k:Int),(∀s∈m,s.kind≠2)→qvs L C w u m k≤1
 | [],k,_=>by rw [qvs]; split<;>omega
 | s::m,k,h=>by
  rw [qvs,if_neg (h s (by simp))];split
  ·exact qvX m _ λt ht=>h t (by simp [ht])
  ·omega
theorem qvU {N:Look}{w:List UInt8}:∀(m:List Sy) (now:List En),(∀s∈m,s.kind≠2)→now.length≤1→(qaA N w m now).length≤1
 | [],now,_,h=>h
 | s::m,now,hk,h=>by
  rw [qaA];refine qvU m _ (λt ht=>hk t (by simp [ht])) ?_;have h1:(now.flatMap (qa2 N w s)).length≤1:=by
   match now,h with
   | [],_=>simp
   | [e],_ =>
    rw [List.flatMap_cons,List.flatMap_nil,List.append_nil];unfold qa2;rw [if_neg (hk s (by simp))];split<;>simp
  rw [qq8]
  ·exact h1
  ·match now.flatMap (qa2 N w s),h1 with
   | [],_=>simp
   | [e],_=>simp
def OneM (l:Sl Sy) (w:Sl UInt8) (o:Out) (st:St):Prop :=
 (o=.ret∧(gK 4).run st.tm=.bool true∧st.defs=[])∨(o=.normal∧(∀s∈l.l,s.kind≠2)∧(gK 0).run st.tm=l.enc Sy.cells∧(gK 1).run st.tm=w.enc qak∧st.h=⟨0,.e⟩∧st.defs=[])
def oneP (l:Sl Sy):Pd:=⟨.full [l],0,.nil⟩
def oneX (l:Sl Sy) (w:Sl UInt8):Ev:=⟨⟨.full [oneP l],.nil⟩,⟨w.enc qak,w.l,0⟩,1,false⟩
theorem qwk {l:Sl Sy}{w:Sl UInt8}(hk:∀s∈l.l,s.kind≠2):(ofE (oneX l w) 0 0 (-1)).2.length≤1∧(qvt (oneX l w) 0 0 w.l.length (-1)=1↔endB (ofE (oneX l w) 0 0 (-1)).2 w.l.length=true)∧0≤qvt (oneX l w) 0 0 w.l.length (-1)∧qvt (oneX l w) 0 0 w.l.length (-1)≤1:=by
 have hce:=qvI (x:=oneX l w) rfl 0 0 w.l.length (-1);have hcr:=qvG (oneX l w) 0 0 w.l.length (-1);have h1:qvt (oneX l w) 0 0 w.l.length (-1)≤1∧(ofE (oneX l w) 0 0 (-1)).2.length≤1:=by
  by_cases c:mayE (oneX l w)=true∧(0:Int)≤0∧(0:Int)<(oneX l w).g.p.l.length∧(0:Int)≤0∧(0:Int)≤(oneX l w).w.l.length
  ·obtain⟨hm,n0,n1,k0,k1⟩:=c;have hx:=qbq hm;refine⟨?_,?_⟩
   ·rw [qvt,if_pos ⟨hm,n0,n1,k0,k1⟩,qvy hx _ _ n0 n1 k0 k1];split
    ·have:(lat (oneX l w).g.p.l (0:Int).toNat).a.l=[l]:=rfl;rw [this];simp only [List.map_cons,List.map_nil,List.sum_cons,List.sum_nil,Nat.add_zero];have:=qvX (L:=qaN (oneX l w) (refV (oneX l w) 0 0 (-1))) (C:=λn' k' u'=>qvr (oneX l w) n' k' u' (refV (oneX l w) 0 0 (-1))) (w:=(oneX l w).w.l) (u:=w.l.length) l.l 0 hk;omega
    ·simp
   ·rw [qqO hm n0 n1 k0 k1,qcI hx n0 n1 k0 k1 rfl];refine Nat.le_trans (List.length_filter_le _ _) (Nat.le_trans (qjc _ _ _).length_le ?_);rw [qbD hx n0 n1 k0 k1];simp only [qcG];have:(lat (oneX l w).g.p.l (0:Int).toNat).a.l=[l]:=rfl;rw [this,List.flatMap_cons,List.flatMap_nil,List.append_nil];have h2:=qvU (N:=qaN (oneX l w) (refV (oneX l w) 0 0 (-1))) (w:=(oneX l w).w.l) l.l [(0,0)] hk (by simp);rw [qq8]
    ·exact h2
    ·match qaA (qaN (oneX l w) (refV (oneX l w) 0 0 (-1))) (oneX l w).w.l l.l [(0,0)],h2 with
     | [],_=>simp
     | [e],_=>simp
  ·rw [qvt,if_neg c,show ofE (oneX l w) 0 0 (-1)=([],[]) from if_neg c];simp
 refine⟨h1.2,?_,hcr.1,h1.1⟩;rw [←hce];constructor<;>intro h<;>omega
theorem countOne_ok (hA:Awake0 387) (l:Sl Sy) (hlr:∀s∈l.l,s.r.l.length<1500000) (w:Sl UInt8) :
  WF PR false 0 (.fn 379 [] []) [l.enc Sy.cells,w.enc qak] ⟨0,.e⟩ λr=>r.v=.bool true:=by
 refine WF.go f379 b379 [.tm 4] rfl rfl rfl rfl rfl rfl ?_;unfold b379;simp -dsimp;refine WFS.by (hA _) ?_
 intro v h' e;cases e;have hl:∀H,lenV .sl (l.enc Sy.cells) H=some (.int .i64 l.l.length):=λH=>by simp
 have hw:∀H,lenV .sl (w.enc qak) H=some (.int .i64 w.l.length):=λH=>by simp
 by_cases c1:(40:Int)<l.l.length
 ·simp -dsimp [c1]
 by_cases c2:(12:Int)<w.l.length
 ·simp -dsimp [c1,c2]
 simp -dsimp [c1,c2];refine qvg (OneM l w) ?_ ?_
 ·refine qaf (λk st=>∃(i:Nat) (n:Int),i+k=l.l.length∧(gK 7).run st.tm=.int .i64 i∧(gK 6).run st.tm=.int .i64 n∧0≤n∧n≤1000∧(∀j,j<i→(lat l.l j).kind≠2)∧st.h=⟨0,.e⟩∧st.defs=[]) l.l.length ⟨0,0,by omega,by simp,by simp,by omega,by omega,λj hj=>by omega,rfl,rfl⟩ ?_;rintro k ⟨tm,h,defs,round⟩ ⟨i,n,hi,t7,t6,n0,n1,hk,rfl,rfl⟩ hK;have t0:=hK 0 rfl;have t1:=hK 1 rfl;simp at t0 t1 t7 t6;clear hK;simp -dsimp [t7,t0];rw [qaa];refine⟨λhc=>?_,λhc=>?_⟩
  ·have d1:i<l.l.length:=by simpa using hc
   obtain⟨s,hs⟩:∃s,lat l.l i=s:=⟨_,rfl⟩;have hr:=hlr s (by rw [←hs]; exact qai d1);have hia:qaw 3 (l.enc Sy.cells) (.int .i64 i)=some (.ptrR s.cells 0):=by
    have:=qap (f:=Sy.cells) (s:=l) (esz:=3) (k:=.i64) (n:=(i:Int)) (by omega) (by omega) (λ_=>rfl);rw [this]; simp [hs]
   simp -dsimp [t7,t6,t0,hia,Sy.cells,fw64 (n:=n+s.r.l.length) (by omega) (by omega)]
   by_cases d2:s.kind=2
   ·simp -dsimp [d2];exact Or.inl ⟨rfl,by simp,rfl⟩
   by_cases d3:1000<n+s.r.l.length
   ·simp -dsimp [d2,d3];exact Or.inl ⟨rfl,by simp,rfl⟩
   simp -dsimp [d2,d3,t7,fw64 (n:=(i:Int)+1) (by omega) (by omega)];refine qah.intro (k-1) (by omega) ⟨i+1,n+s.r.l.length,by omega,by simp,by simp,by omega,by omega,λj hj=>?_,rfl,rfl⟩
   by_cases e:j=i
   ·rw [e,hs]; exact d2
   ·exact hk j (by omega)
  ·have d1:i=l.l.length:=by simp at hc; omega
   subst d1;simp -dsimp;refine Or.inr ⟨rfl,λs hs=>?_,by simp [t0],by simp [t1],rfl,rfl⟩;obtain⟨j,hj,rfl⟩:=List.getElem_of_mem hs;rw [←lat_eq hj]; exact hk j hj
 ·rintro o ⟨tm,h,defs,round⟩ (⟨rfl,t4,rfl⟩|⟨rfl,hk,t0,t1,rfl,rfl⟩)
  ·simp only at t4;simp -dsimp [t4]
  ·simp only at t0 t1;simp -dsimp [t0,t1];obtain⟨X,hX⟩:∃X,oneX l w=X:=⟨_,rfl⟩;have hlaw:=qwk (w:=w) hk;rw [hX] at hlaw;have hXc:[V.slR [[V.slR [[Sl.enc Sy.cells l]] true,V.int IntKind.i64 0,V.nils]] true,V.nils,Sl.enc qak w,V.int IntKind.i64 1,V.bool false]=X.cells:=by rw [←hX]; rfl
   have hXl:X.w.l=w.l:=by rw [←hX]; rfl
   have hXm:X.w.m=0:=by rw [←hX]; rfl
   have hXk:X.calm=X:=by rw [←hX]; rfl
   have hBX:∀H,WB H X.w:=λH=>.inl ⟨w,by rw [←hX]; rfl,by rw [←hX]; rfl⟩;have hP:∀p∈X.g.p.l,p=oneP l:=λp hp=>by rw [←hX] at hp; simpa [oneX] using hp
   have hPa:∀a∈(oneP l).a.l,a=l:=λa ha=>by simpa [oneP] using ha
   have hgX:X.g.Fine:=by
    refine⟨⟨by rw [←hX]; simp [oneX],λp hp=>?_,λp hp=>?_,λp hp=>?_,λp hp=>?_⟩,λp hp=>?_⟩
    ·rw [hP p hp]; simp [oneP]
    ·rw [hP p hp]; intro a ha; rw [hPa a ha]; omega
    ·rw [hP p hp]; intro a ha s hs; rw [hPa a ha] at hs; have:=hlr s hs; omega
    ·rw [hP p hp]; simp [oneP]
    ·rw [hP p hp]; intro a ha s hs; rw [hPa a ha] at hs; have:=hlr s hs; omega
   have hrX:∀p∈X.g.p.l,∀a∈p.a.l,∀s∈a.l,s.r.l.length<1500000:=λp hp=>by
    rw [hP p hp]; intro a ha s hs; rw [hPa a ha] at hs; exact hlr s hs
   have hSX:EvS X:=⟨hgX.toSmall,by rw [←hX]; simp [oneX],by rw [hXl]; omega⟩;rw [hXc];obtain⟨H,hH⟩:∃H,(Heap.push ⟨0,.e⟩ (Obj.rows [[V.nils,V.nils,V.nils,V.int IntKind.i64 0,V.bool false]])).set 0 (.rows [X.cells])=H:=⟨_,rfl⟩;have G0:H.get 0=some (.rows [X.cells]):=by rw [←hH,Heap.get_set,if_pos rfl]
   have hcl:X.cells.length=5:=rfl;have htk:List.take 5 X.cells=X.cells:=rfl;rw [hH];refine WFS.by (qwa hSX hgX hrX (hBX _) (by omega)) ?_
   intro v h' e;cases e;rw [hXk,hXl];simp -dsimp [G0,htk];refine WFS.by (qec X hSX hgX hrX (hBX _) (by omega) 0 0 (-1)) ?_
   intro v h' e;cases e;obtain⟨E,hE⟩:∃E,(ofE X 0 0 (-1)).2=E:=⟨_,rfl⟩;obtain⟨C,hC⟩:∃C,qvt X 0 0 w.l.length (-1)=C:=⟨_,rfl⟩;rw [hE,hC] at hlaw;rw [hE,hC];obtain⟨q1,q2,q3,q4⟩:=hlaw
   match E,q1 with
   | [],_ =>
    have:¬C=1:=by rw [q2]; simp [endB]
    simp -dsimp [q4,this]
   | [e],_ =>
    have hia:qaw 2 ((slE [e]).enc qad) (.int .i64 0)=some (.ptrR (qad e) 0):=by
     have:=qap (f:=qad) (s:=slE [e]) (esz:=2) (k:=.i64) (n:=0) (by omega) (by simp) (λ_=>rfl);rw [this]; simp; rfl
    have hq:decide (C=1)=decide (e.1=(w.l.length:Int)):=by
     rw [Bool.eq_iff_iff,decide_eq_true_eq,decide_eq_true_eq,q2];simp [endB]
    simp -dsimp [q4,hia,qad,hq,t1]
def qwl (x:Ev) (n k r:Int):List En × List En:=qb9 x (61 * (x.w.l.length+1)) n k r
def qwc (x:Ev):Nat→Int→Int→Int→Int→Nat
 | 0,_,_,_,_=>0
 | m+1,n,k,u,r=>if endB (qwl x n k r).2 u=true then ((lat x.g.p.l n.toNat).a.l.map λa=>qvs (λn' k'=>(qwl x n' k' (refV x n k r)).2) (λn' k' u'=>qwc x m n' k' u' (refV x n k r)) x.w.l u a.l k).sum else 0
def qvC (x:Ev) (n k u r:Int):Int:=((min (qwc x (61 * (x.w.l.length+1)) n k u r) 2:Nat):Int)
theorem qvD {g:Gr}{w:List UInt8}{L L':Look}{k0:Int}{C C':Int→Int→Int→Nat}{u:Int}(h0:0≤k0):∀(m l:List Sy) (k:Int),(∀s∈m,s.kind=2→0≤s.n)→(∀i,i<m.length→(lat m i).kind=2→∀j,NowP g w (l++m.take i) k0 (j,0)→L (lat m i).n j=L' (lat m i).n j∧(∀u',C (lat m i).n j u'=C' (lat m i).n j u')∧∀f∈L (lat m i).n j,EndP g w (lat m i).n j f) →
  NowP g w l k0 (k,0)→qvs L C w u m k=qvs L' C' w u m k
 | [],_,_,_,_,_=>rfl
 | s::m,l,k,hs,hC,h=>by
  rw [qvs,qvs];have h1:∀k',NowP g w (l++[s]) k0 (k',0)→qvs L C w u m k'=qvs L' C' w u m k':=λk' hk' =>
   qvD h0 m (l++[s]) k' (λt ht=>hs t (by simp [ht])) (λi hi hk j hj=>hC (i+1) (by simp; omega) (by simpa [lat] using hk) j (by simpa using hj)) hk'
  split
  ·rename_i hk;obtain⟨e0,e1,e2⟩:=hC 0 (by simp) (by simpa [lat] using hk) k (by simpa using h);rw [show lat (s::m) 0=s from rfl] at e0 e1 e2;rw [←e0];congr 1;refine List.map_congr_left λe he=>?_;rw [h1 e.1 (qvO h0 (hs s (by simp) hk) hk e2 h he),e1]
  ·split
   ·rename_i hk hm;exact h1 _ (qvA h0 hk h hm)
   ·rfl
section
variable {x:Ev}(hx:EvW x)
include hx
theorem qv5 {n k:Int}(k0:0≤k) (k1:k≤x.w.l.length):muN x.g x.w.l n k<61 * (x.w.l.length+1):=by
 have hok:=qaF hx.m;have hp:=hok.p;have r1:=qlj (g:=x.g) n;unfold muN;have:(x.w.l.length-k.toNat) * 61≤x.w.l.length * 61:=Nat.mul_le_mul_right _ (by omega);omega
theorem qv6 {n k r:Int}(n0:0≤n) (n1:n<x.g.p.l.length) (k0:0≤k) (k1:k≤x.w.l.length):qaL x n k r=qwl x n k r :=
 ((qgQ hx _ n k r (Nat.lt_succ_self _) n0 n1 k0 k1).2.2 _ (qv5 hx k0 k1)).symm
theorem qwb:∀(m:Nat) (n k u r:Int),muN x.g x.w.l n k<m→0≤n→n<x.g.p.l.length→0≤k→k≤x.w.l.length→qvK x m n k u r=qwc x m n k u r:=by
 intro m;induction m with
 | zero=>intro _ _ _ _ h; omega
 | succ m ih =>
  intro n k u r hmu n0 n1 k0 k1;rw [qvK,qwc,qv6 hx n0 n1 k0 k1];split
  ·congr 1;refine List.map_congr_left λa ha=>?_;refine qvD (g:=x.g) k0 a.l [] k (λs hs hk=>(qcD hx ha s hs hk).1) (λi hi hk j hj=>?_) ⟨Int.le_refl _,k1,by simp,λ_=>.nil⟩;obtain⟨q1,q2,q3,q4,q5⟩:=qvT hx n0 k0 k1 ha hi hk (by simpa using hj);simp only at q1 q4 q5;exact⟨by unfold qaN; rw [qv6 hx q2 q3 q4 q5],λu'=>ih _ _ _ _ (by omega) q2 q3 q4 q5,(qbf hx q2 q3 q4 q5).2⟩
  ·rfl
end
theorem qvw {x:Ev}(hm:mayE x=true) {n k:Int}(u r:Int) (n0:0≤n) (n1:n<x.g.p.l.length) (k0:0≤k) (k1:k≤x.w.l.length):qvt x n k u r=qvC x n k u r:=by
 have hx:=qbq hm;unfold qvt qvC;rw [if_pos ⟨hm,n0,n1,k0,k1⟩];unfold qvr;rw [←qvH hx _ n k u r (Nat.lt_succ_self _) n0 n1 k0 k1 _ (qv5 hx k0 k1),qwb hx _ n k u r (qv5 hx k0 k1) n0 n1 k0 k1]
theorem qwf {x:Ev}{n mk:Nat}{h:Heap}(hg:x.g.Fine) (hB:WB h x.w) (e:evCall PR n mk (.fn 312 [] []) [.agg x.cells] h=some [⟨.bool true,h⟩]):mayE x=true:=by
 obtain⟨l,N,h0,_,h2,h3⟩:=qbJ (d:=false) (mk:=mk) x hg hB;have e1:=qdU qda n (max n N) mk mk (by omega) (Nat.le_refl _) _ _ _ _ e;have h4:=h2 (max n N) (by omega);simp only at h4;rw [h4] at e1;cases e1;have:=h3 _ (List.mem_singleton.2 rfl);simp only [VH.mk.injEq,V.bool.injEq,and_true] at this;exact this.symm
end Go.Abs

