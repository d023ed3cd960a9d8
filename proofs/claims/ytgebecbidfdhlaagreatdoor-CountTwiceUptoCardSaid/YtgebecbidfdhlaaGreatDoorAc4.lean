/- What the program's functions come to, by the evaluator's rules; the intermediate code. -/
import Derived.Test.YtgebecbidfdhlaaGreatDoorAc3
set_option linter.unusedSimpArgs false
set_option linter.unusedVariables false
namespace Go.Abs
open Go Pr
structure qxP (g g':Gr):Prop where
 n:g'.p.l.length=g.p.l.length
 a:∀(n:Nat) (a:Sl Sy),a∈(lat g'.p.l n).a.l↔a∈(lat g.p.l n).a.l
 m:∀n,(lat g'.p.l n).marks=(lat g.p.l n).marks
 no:∀n,(lat g'.p.l n).no=(lat g.p.l n).no
theorem qxP.symm {g g':Gr}(h:qxP g g'):qxP g' g:=⟨h.n.symm,λn a=>(h.a n a).symm,λn=>(h.m n).symm,λn=>(h.no n).symm⟩
theorem qx3 {α : Type} [Inhabited α] {ls:List (Sl α)}{x : α}{a:Sl α}(ha:a∈ls) (hx:x∈a.l):∀{i:Nat},ls.length≤i→x∈qbt ls i:=λ{i} hi=>by
 obtain⟨j,hj,rfl⟩:=List.getElem_of_mem ha;have key:∀m,j<m→x∈qbt ls m:=by
  intro m;induction m with
  | zero=>intro h; omega
  | succ m ih =>
   intro h;rw [qbt,List.mem_append]
   by_cases e:j=m
   ·subst e; right; rw [lat_eq hj]; exact hx
   ·left; exact ih (by omega)
 exact key i (by omega)
theorem qxT {α : Type}{l l':List α}(h:∀a,a∈l'↔a∈l) (p : α→Bool):l'.any p=l.any p:=by
 rw [Bool.eq_iff_iff,List.any_eq_true,List.any_eq_true];exact⟨λ⟨a,ha,hp⟩=>⟨a,(h a).1 ha,hp⟩,λ⟨a,ha,hp⟩=>⟨a,(h a).2 ha,hp⟩⟩
section
variable {g g':Gr}(h:qxP g g')
include h
theorem qxF {n c:Int}(hc:c∈qhv g n):c∈qhv g' n:=by
 unfold qhv qnq at hc ⊢;rw [List.mem_filterMap] at hc ⊢;obtain⟨s,hs,e⟩:=hc;obtain⟨a,ha,hsa⟩:=qjZ (Nat.le_refl _) hs;exact⟨s,qx3 ((h.a _ a).2 ha) hsa (Nat.le_refl _),e⟩
theorem qx0 (a b:Int):rchB g' a b=rchB g a b:=by
 have key:∀{g g':Gr},qxP g g'→Rch g a b→Rch g' a b:=λ{g g'} h hr=>by
  induction hr with
  | one hb=>exact .one (qxF h hb)
  | more _ hc ih=>exact .more ih (qxF h hc)
 unfold rchB;rw [Bool.eq_iff_iff];simp only [decide_eq_true_eq];exact⟨key h.symm,key h⟩
theorem qxB (a:Int):qaB g' a=qaB g a:=by
 unfold qaB;rw [h.n];refine List.map_congr_left λk _=>qx0 h a k
theorem qxC (ob:List Bool):∀i,qbj g' ob i=qbj g ob i
 | 0=>rfl
 | i+1=>by simp only [qbj,qxC ob i,qxT (h.a i)]
theorem qxD:∀k ob,qfX g' k ob=qfX g k ob
 | 0,_=>rfl
 | k+1,ob=>by
  have ih:=qxD k;simp only [qfX,qxC h,h.n,ih]
theorem qx1 (k:Int):nulB g' k=nulB g k:=by
 have key:∀T:List (Int × Bool),qcQ g' T g.p.l.length↔qcQ g T g.p.l.length:=λT=>by
  unfold qcQ canB; simp only [qxT (h.a _)]
 unfold nulB;rw [Bool.eq_iff_iff];simp only [decide_eq_true_eq,h.n,key]
theorem qxG (hm:mayB g'=mayB g) {n y:Int}(hy:y∈qaq g n):y∈qaq g' n:=by
 have e:nulB g'=nulB g:=funext λk=>qx1 h k;obtain⟨h1,h2,h3,k,hk,j,hj,h4⟩:=qmH.1 hy;obtain⟨k',hk',e2⟩:=List.getElem_of_mem ((h.a n.toNat _).2 (qai hk));refine qmH.2 ⟨by rw [hm]; exact h1,h2,by rw [h.n]; exact h3,k',hk',j,?_⟩;rw [lat_eq hk',e2,e];exact⟨hj,h4⟩
theorem qxI (hm:mayB g'=mayB g) (a b:Int):qcO g' a b=qcO g a b:=by
 have key:∀{g g':Gr},qxP g g'→mayB g'=mayB g→qdZ g a b→qdZ g' a b:=λ{g g'} h hm hr=>by
  induction hr with
  | one hb=>exact .one (qxG h hm hb)
  | more _ hc ih=>exact .more ih (qxG h hm hc)
 unfold qcO;rw [Bool.eq_iff_iff];simp only [decide_eq_true_eq];exact⟨key h.symm hm.symm,key h hm⟩
theorem qxH (hm:mayB g'=mayB g) {q q':Nat→Bool}(hq:∀n,q' n=q n):qgY g' q'=qgY g q:=by
 have hl:(λn=>qeB (lat g'.p.l n)&&q' n)=λn=>qeB (lat g.p.l n)&&q n:=by
  funext n;unfold qeB;rw [h.m,h.no,hq]
 unfold qgY;rw [hm,h.n,hl]
theorem qxJ (inn:List Bool) (w:Int):qhw g' inn w=qhw g inn w:=by
 unfold qhw;simp only [h.m]
theorem qxS (hm:mayB g'=mayB g):(qcP g').2=(qcP g).2:=by
 have c1:qfg g'=qfg g:=by unfold qfg; rw [hm,h.n]; simp only [qxI h hm]
 have c2:qhx g'=qhx g:=by unfold qhx; rw [hm,qxB h]
 have c3:qo9 g'=qo9 g:=by unfold qo9 qe4; rw [hm,h.n,qxD h]
 have c4:badI g'=badI g:=qxH h hm λn=>by rw [qxB h,qxJ h]
 have c5:qrV g'=qrV g:=qxH h hm λn=>by rw [qxB h,qxJ h,h.m]
 unfold qcP cnL;rw [hm,c1,c2,c3,c4,c5]
end
def twP (p:Pd) (a:Sl Sy):Pd:=⟨.of (p.a.l++[a]),p.marks,p.no⟩
def twG (g:Gr) (a:Sl Sy):Gr:=⟨.of (twP (lat g.p.l 0) a::g.p.l.drop 1),g.keys⟩
theorem qx6 {g:Gr}{a:Sl Sy}(hn:0<g.p.l.length):lat (twG g a).p.l 0=twP (lat g.p.l 0) a∧∀n,0<n→lat (twG g a).p.l n=lat g.p.l n:=by
 refine⟨rfl,λn hn=>?_⟩;obtain⟨m,rfl⟩:∃m,n=m+1:=⟨n-1,by omega⟩;show lat (g.p.l.drop 1) m=_;unfold lat;rw [List.getElem!_eq_getElem?_getD,List.getElem!_eq_getElem?_getD,List.getElem?_drop,Nat.add_comm]
theorem qxA {g:Gr}{a:Sl Sy}(ha:a∈(lat g.p.l 0).a.l) (hn:0<g.p.l.length):qxP g (twG g a):=by
 obtain⟨h1,h2⟩:=qx6 (a:=a) hn;refine⟨by show (_::g.p.l.drop 1).length=_; simp; omega,λn b=>?_,λn=>?_,λn=>?_⟩
 ·rcases Nat.eq_zero_or_pos n with rfl|c
  ·rw [h1];show b∈(lat g.p.l 0).a.l++[a]↔_;rw [List.mem_append,List.mem_singleton];exact⟨λh=>h.elim id λe=>e ▸ ha,.inl⟩
  ·rw [h2 n c]
 ·rcases Nat.eq_zero_or_pos n with rfl|c
  ·rw [h1]; rfl
  ·rw [h2 n c]
 ·rcases Nat.eq_zero_or_pos n with rfl|c
  ·rw [h1]; rfl
  ·rw [h2 n c]
theorem tw_may {g:Gr}{a:Sl Sy}(hm:mayB g=true) (ha:a∈(lat g.p.l 0).a.l) (h7:(lat g.p.l 0).a.l.length≤7):mayB (twG g a)=true:=by
 simp only [mayB,Bool.and_eq_true,List.all_eq_true,decide_eq_true_eq] at hm ⊢;obtain⟨⟨h1,h2⟩,h3⟩:=hm;have hn:(twG g a).p.l.length=g.p.l.length:=(qxA ha (by omega)).n;have h0:lat g.p.l 0∈g.p.l:=qai (by omega);refine⟨⟨λp hp=>?_,by rw [hn]; exact h2⟩,by rw [hn]; exact h3⟩;rw [hn];rcases List.mem_cons.1 (show p∈twP (lat g.p.l 0) a::g.p.l.drop 1 from hp) with rfl|hp
 ·have:=h1 _ h0;simp only [qcj,Bool.not_eq_true',Bool.or_eq_false_iff,decide_eq_false_iff_not] at this ⊢;obtain⟨⟨⟨⟨⟨k1,k2⟩,k3⟩,k4⟩,k5⟩,k6⟩:=this;refine⟨⟨⟨⟨⟨?_,?_⟩,k3⟩,k4⟩,k5⟩,?_⟩
  ·show ¬(((lat g.p.l 0).a.l++[a]).length:Int)=0;simp only [List.length_append,List.length_singleton]; omega
  ·show ¬8<(((lat g.p.l 0).a.l++[a]).length:Int);simp only [List.length_append,List.length_singleton]; omega
  ·show ((lat g.p.l 0).a.l++[a]).any _=false;rw [List.any_append,k6,Bool.false_or];rw [List.any_eq_false] at k6;simpa using k6 a ha
 ·exact h1 p (List.mem_of_mem_drop hp)
set_option maxRecDepth 10000
section
variable {mk n:Nat}{h:Heap}
theorem qs9 {α : Type}{f : α→List V}{k:Nat}(hf:∀a,allM (freeze n h k) (f a)=some (f a)):∀l:List α,allM (allM (freeze n h k)) (l.map f)=some (l.map f)
 | []=>rfl
 | a::l=>by simp only [List.map_cons,allM,hf,qs9 hf l]
theorem qtm {α : Type}{f : α→List V}{k:Nat}(hf:∀a,allM (freeze n h k) (f a)=some (f a)) (s:Sl α):freeze n h (k+1) (s.enc f)=some (s.enc f):=by
 cases s with
 | nil=>rfl
 | of l=>simp only [Sl.enc,freeze,qs9 hf l]
 | full l=>simp only [Sl.enc,freeze,qs9 hf l]
theorem qtV (k:Nat) (r:Rg):allM (freeze n h (k+1)) r.cells=some r.cells:=rfl
theorem qtU (k:Nat) (s:Sy):allM (freeze n h (k+2)) s.cells=some s.cells:=by
 have:=qtm (n:=n) (h:=h) (qtV k) s.r;simp only [Sy.cells,allM,this]; rfl
theorem qt4 (k:Nat) (a:Sl Sy):allM (freeze n h (k+3)) (qaK a)=some (qaK a):=by
 have:=qtm (n:=n) (h:=h) (qtU k) a;simp only [qaK,allM,this]
theorem frz_pd (k:Nat) (p:Pd):allM (freeze n h (k+4)) p.cells=some p.cells:=by
 have h1:=qtm (n:=n) (h:=h) (qt4 k) p.a;have h2:=qtm (n:=n) (h:=h) (qtV (k+2)) p.no;simp only [Pd.cells,allM,h1,h2]; rfl
theorem qt3 (l:List Pd):allM (allM (freeze n h qat)) (l.map Pd.cells)=some (l.map Pd.cells):=qs9 (frz_pd 12) l
theorem qt1 {H:Heap}{m B:Nat}{v:V}{L:List Pd}{cs:List V}{o:Opd}{tm:Tm}(ho:o.ev tm=.ptr B 0 0) (h1:H.get B=some (.rows [v::cs])) (hO:Own H m v 3 (L.map Pd.cells)) (hne:L≠[]) (hm:mk≤m) (hB:mk≤B) (hBm:slId v≠some B) :
  ∃H',xV (.ldF (cs.length+1) o 0) mk tm H=some ⟨.agg ((Sl.of L).enc Pd.cells::cs),H'⟩∧H'.get B=some (.rows [(Sl.of L).enc Pd.cells::cs])∧H'.n=H.n∧∀j,j≠B→slId v≠some j→H'.get j=H.get j:=by
 rcases hO with ⟨_,q⟩|⟨id,rfl,q2,q3,q4,q5⟩
 ·exact absurd (by simpa using q) hne
 ·have hBi:B≠id:=λe=>hBm (by rw [e]; rfl);have hz:frzV mk ⟨.sl id 0 (L.map Pd.cells).length 3 false,H⟩=some ⟨(Sl.of L).enc Pd.cells,H.kill id⟩:=by
   have hr:qal H (.sl id 0 (L.map Pd.cells).length 3 false)=some (L.map Pd.cells):=by simp [qal,q2]; exact List.take_of_length_le (by simp)
   have hmi:mk≤id:=by omega
   simp only [frzV,hr,qt3,qa3,hmi,decide_true,cond];rfl
  have hk:(H.kill id).get B=some (.rows [V.sl id 0 (L.map Pd.cells).length 3 false::cs]):=by rw [Heap.get_kill,if_neg (by omega),h1]
  obtain⟨H',hH'⟩:∃H',(H.kill id).set B (.rows [(Sl.of L).enc Pd.cells::cs])=H':=⟨_,rfl⟩;have hg:qs7 mk 0 (.ptr B 0 0) H=some H':=by
   have hone:((Sl.of L).enc Pd.cells).one=true:=qtx;simp only [qs7,h1,nthR,nth,Nat.add_zero,hz,qa3,hB,decide_true,hone,Bool.and_self,cond,hk,List.set_cons_zero];rw [hH']
  have hB':H'.get B=some (.rows [(Sl.of L).enc Pd.cells::cs]):=by rw [←hH',Heap.get_set,if_pos rfl]
  refine⟨H',?_,hB',by rw [←hH']; simp,λj h1 h2=>?_⟩
  ·simp only [xV,ho,hg];have:(qbc (.load (some (cs.length+1)) o)).run tm H'=some (.agg ((Sl.of L).enc Pd.cells::cs)):=by
    simp [ho,hB']
   rw [this]
  ·rw [←hH',Heap.get_set,if_neg h1,Heap.get_kill,if_neg (λe=>h2 (by simp [slId,e]))]
theorem qtD {H:Heap}{m B n':Nat}{v:V}{L:List Pd}{cs:List V}{o:Opd}{tm:Tm}{Q:VH→Prop}(h1:H.get B=some (.rows [v::cs])) (hn:n'=cs.length+1) (ho:o.ev tm=.ptr B 0 0) (hO:Own H m v 3 (L.map Pd.cells)) (hne:L≠[]) (hm:mk≤m) (hB:mk≤B) (hBm:slId v≠some B)
  (hq:∀H',H'.get B=some (.rows [(Sl.of L).enc Pd.cells::cs])→H'.n=H.n→(∀j,j≠B→slId v≠some j→H'.get j=H.get j)→Q ⟨.agg ((Sl.of L).enc Pd.cells::cs),H'⟩):OpS (xV (.ldF n' o 0) mk tm H) Q ⟨⟩:=by
 subst hn;obtain⟨H',e,a,b,c⟩:=qt1 ho h1 hO hne hm hB hBm;exact OpS.intro e (hq H' a b c)
end
section
variable {d:Bool}{mk:Nat}{h:Heap}
theorem qtN {s:Sl Pd}(hne:s.l≠[]) (hl:s.l.length<1000000000):WF PR false mk (.fn 333 [] []) [s.enc Pd.cells] h λr=>r=⟨.sl h.n 0 s.l.length 3 false,h.push (.rows (s.l.map Pd.cells))⟩:=by
 refine WF.go f333 b333 [.tm 2] rfl rfl rfl rfl rfl rfl ?_;unfold b333;have hen:eqv (.slice) (s.enc Pd.cells) .nils=some false:=by
  cases s with
  | nil=>exact absurd rfl hne
  | of l=>rfl
  | full l=>rfl
 simp -dsimp [hen];have hrw:qal h (s.enc Pd.cells)=some (s.l.map Pd.cells):=by cases s<;>rfl
 rw [qaE (xs:=s.l.map Pd.cells) (by simp [hrw])];simp -dsimp;have happ:qaj mk h 3 56 (.slR [] true) (s.l.map Pd.cells)=some ⟨.sl h.n 0 s.l.length 3 false,h.push (.rows (s.l.map Pd.cells))⟩:=by
  obtain⟨a,t,e⟩:=List.exists_cons_of_ne_nil hne;have h1:=qe0 (xs:=s.l.map Pd.cells) λy hy=>by
   obtain⟨q,_,rfl⟩:=List.mem_map.1 hy;simp [Pd.cells,ones]
  rw [e] at h1 hl ⊢;simp only [List.map_cons] at h1 ⊢;have hl2:t.length+1<4294967296:=by simp at hl; omega
  simp [qaj,qal,qaI,qa9,h1,hl2]
 refine OpS.intro happ ?_;simp -dsimp
def qs4 (g:Gr) (l:Sl Sy):Gr:=⟨.of (⟨.full [l],0,.nil⟩::g.p.l.drop 1),.nil⟩
noncomputable def qs3 (x:Ev) (l:Sl Sy) (k r:Int):Sl En:=if mayE x=true∧0≤k∧k≤x.w.l.length∧mayB (qs4 x.g l)=true then (if l.l.length=0 then .full [(k,0)] else slE (qaA (qaN x r) x.w.l l.l [(k,0)])) else .nil
theorem qtb (x:Ev) (hx:EvS x) (hg:x.g.Fine) (hr:∀p∈x.g.p.l,∀a∈p.a.l,∀s∈a.l,s.r.l.length<1500000) (hB:WB h x.w) (hm:x.w.m≤h.n) (l:Sl Sy) (hl:l.l.length<1000000000) (hlr:∀s∈l.l,s.r.l.length<1500000) (k r:Int) :
  WF PR d mk (.fn 320 [] []) [.agg x.cells,l.enc Sy.cells,.int .i64 k,.int .i64 r] h λv=>v=⟨(qs3 x l k r).enc qad,h⟩:=by
 refine WF.po f320 b320 [.tm 8] rfl rfl rfl rfl rfl rfl ?_;unfold b320;have e5:[Sl.enc Pd.cells x.g.p,Sl.enc qac x.g.keys,x.w.v,V.int IntKind.i64 x.tab,V.bool x.heal]=x.cells:=rfl;simp -dsimp [Ev.cells];rw [e5];obtain⟨H,hH⟩:∃H,h.push (Obj.rows [x.cells])=H:=⟨_,rfl⟩;have g0:H.get h.n=some (.rows [x.cells]):=by rw [←hH]; simp
 have gn:H.n=h.n+1:=by rw [←hH]; simp
 have gk:∀i,i<h.n→H.get i=h.get i:=λi hi=>by rw [←hH]; simp [show ¬i=h.n by omega]
 have hB2:WB H x.w:=hB.keep λi hi=>gk i (by omega);rw [hH];refine WFS.by (qbJ x hg hB2) ?_
 intro v h' e;cases e;simp -dsimp;have hnone:¬(mayE x=true∧0≤k∧k≤x.w.l.length∧mayB (qs4 x.g l)=true)→qs3 x l k r=.nil:=λh=>if_neg h;rw [Gd_f];refine⟨λh1=>?_,λh1=>?_⟩;rotate_left
 ·have hof:=hnone (by simp at h1; simp [h1]);simp -dsimp [h1];rw [hof];rfl
 have hmay:mayE x=true:=by simpa using h1
 simp -dsimp [h1];rw [Gd_f];refine⟨λh2=>?_,λh2=>?_⟩;rotate_left
 ·have hof:=hnone (by simp at h2; omega);simp -dsimp [h2];rw [hof];rfl
 have k0:0≤k:=by simpa using h2
 simp -dsimp [h2,g0,Ev.cells,hB2.len];rw [qaa];refine⟨λh3=>?_,λh3=>?_⟩
 ·have hof:=hnone (by simp at h3; omega);simp -dsimp;rw [hof];rfl
 have k1:k≤x.w.l.length:=by simp at h3; omega
 have hw:=qbq hmay;have hgm:=qaF hw.m;have hne:x.g.p.l≠[]:=λe=>by have:=hgm.p0; rw [e] at this; simp at this
 simp -dsimp [g0,Ev.cells];refine WFS.by (qtN hne (by have:=hgm.p; omega)) ?_
 intro v h' e;cases e;have m1:h.n≤H.n+1:=by omega
 simp -dsimp [m1];obtain⟨id,hid⟩:∃id,H.n=id:=⟨_,rfl⟩;obtain⟨H2,hH2⟩:∃H2,((H.push (Obj.rows (List.map Pd.cells x.g.p.l))).push (Obj.rows [[V.nils,V.nils]])).set (H.n+1) (Obj.rows [[V.sl H.n 0 x.g.p.l.length 3 false,V.nils]])=H2:=⟨_,rfl⟩;have G0:H2.get id=some (.rows (x.g.p.l.map Pd.cells)):=by rw [←hH2,hid]; simp [hid]
 have GB:H2.get (id+1)=some (.rows [[.sl id 0 x.g.p.l.length 3 false,.nils]]):=by rw [←hH2,hid]; simp
 have Gn:H2.n=id+2:=by rw [←hH2]; simp; omega
 have Gk:∀i,i<id→H2.get i=H.get i:=λi hi=>by rw [←hH2]; simp [show ¬i=H.n+1 by omega,show ¬i=H.n by omega]
 rw [hH2,hid];clear hH2;obtain⟨P,hP⟩:∃P:Pd,(⟨.full [l],0,.nil⟩:Pd)=P:=⟨_,rfl⟩;have hPc:[V.slR [[l.enc Sy.cells]] true,V.int IntKind.i64 0,V.nils]=P.cells:=by rw [←hP]; rfl
 obtain⟨a,t,ht⟩:=List.exists_cons_of_ne_nil hne;have hia:qaw 3 (.sl id 0 x.g.p.l.length 3 false) (.int .i64 0)=some (.ptr id 0 0):=by
  have:=qam (e:=3) (id:=id) (b:=0) (n:=x.g.p.l.length) (f:=false) (k:=.i64) (i:=0) (by omega) (by rw [ht]; simp);simpa using this
 have hl0:x.g.p.l[0]?=some a:=by rw [ht]; rfl
 have m2:h.n≤id:=by omega
 have hon:ones P.cells=true:=by simp [Pd.cells,ones]
 have hput:qbW a.cells 0 P.cells=P.cells:=by simp [qbW,Pd.cells]
 have hset:(x.g.p.l.map Pd.cells).set 0 P.cells=(P::t).map Pd.cells:=by rw [ht]; rfl
 simp -dsimp [GB,hia,G0,hPc,hl0,m2,hon,hput];rw [hset];obtain⟨H3,hH3⟩:∃H3,H2.set id (.rows ((P::t).map Pd.cells))=H3:=⟨_,rfl⟩;have G30:H3.get id=some (.rows ((P::t).map Pd.cells)):=by rw [←hH3,Heap.get_set,if_pos rfl]
 have G3B:H3.get (id+1)=some (.rows [[.sl id 0 x.g.p.l.length 3 false,.nils]]):=by rw [←hH3,Heap.get_set,if_neg (by omega),GB]
 have G3n:H3.n=id+2:=by rw [←hH3]; simpa using Gn
 have G3k:∀i,i<id→H3.get i=H.get i:=λi hi=>by rw [←hH3,Heap.get_set,if_neg (by omega),Gk i hi]
 have hO3:Own H3 id (.sl id 0 x.g.p.l.length 3 false) 3 ((P::t).map Pd.cells):=.inr ⟨id,by rw [ht]; simp,G30,Nat.le_refl _,by omega,by simp⟩;have hAp:(qs4 x.g l).p.l=P::t:=by unfold qs4; rw [ht,hP]; rfl
 have hAc:[(Sl.of (P::t)).enc Pd.cells,V.nils]=(qs4 x.g l).cells:=by unfold qs4; rw [ht,hP]; rfl
 rw [hH3];refine qtD G3B rfl (by simp) hO3 (by simp) (by omega) (by omega) (by simp [slId]) ?_;intro H4 b2 b3 b4;have hsm:(qs4 x.g l).Small:=by
  have hS:=hg.toSmall;have hin:∀p∈(qs4 x.g l).p.l,p=P∨p∈x.g.p.l:=λp hp=>by
   rw [hAp] at hp;rw [ht];rcases List.mem_cons.1 hp with e|e
   ·exact .inl e
   ·exact .inr (List.mem_cons_of_mem _ e)
  have hPa:∀b∈P.a.l,b=l:=λb hb=>by rw [←hP] at hb; simpa using hb
  refine⟨by rw [hAp]; have:=hS.p; rw [ht] at this; simpa using this,λp hp=>?_,λp hp=>?_,λp hp=>?_,λp hp=>?_⟩
  ·rcases hin p hp with rfl|e
   ·rw [←hP]; simp
   ·exact hS.a p e
  ·rcases hin p hp with rfl|e
   ·intro b hb; rw [hPa b hb]; exact hl
   ·exact hS.s p e
  ·rcases hin p hp with rfl|e
   ·intro b hb s hs; rw [hPa b hb] at hs; have:=hlr s hs; omega
   ·exact hS.r p e
  ·rcases hin p hp with rfl|e
   ·rw [←hP]; simp
   ·exact hS.no p e
 simp -dsimp;rw [hAc];refine WFS.by (qfV (qs4 x.g l) hsm) ?_
 intro v h' e;cases e;simp -dsimp;rw [qaa];refine⟨λh4=>?_,λh4=>?_⟩
 ·have hof:=hnone (by simp at h4; simp [h4]);simp -dsimp;rw [hof];rfl
 have hmb:mayB (qs4 x.g l)=true:=by simpa using h4
 have G4:H4.get h.n=some (.rows [x.cells]):=by rw [b4 _ (by omega) (by simp [slId]; omega),G3k _ (by omega),g0]
 have z1:¬h.n=H4.n:=by omega
 simp -dsimp [G4,Ev.cells,z1];have hgm2:=qaF hmb;have hlP:l∈P.a.l:=by rw [←hP]; simp
 have hPm:P∈(qs4 x.g l).p.l:=by rw [hAp]; simp
 have hll:=hgm2.s P hPm l hlP;have hsy:∀s∈l.l,s.kind=2→0≤s.n∧s.n<x.g.p.l.length:=λs hs hk=>by
  have:=(hgm2.sy P hPm l hlP s hs).non hk;rw [hAp] at this;rw [ht];simp only [List.length_cons] at this ⊢;exact⟨this.1,this.2.1⟩
 have hL:LkE x r (H4.n+1) H4.n ((H4.push (Obj.map [] 0)).push (Obj.rows [qba x H4.n])):=by
  refine⟨by simp,⟨[],0,[],by simp,MapR.nil,List.nodup_nil,λp v hv=>by simp [qaS] at hv⟩,by simp,by simp<;>omega,by omega,hB2.keep λi hi=>?_,by omega,by omega⟩;rw [Heap.get_push,if_neg (by simp; omega),Heap.get_push,if_neg (by omega),b4 _ (by omega) (by simp [slId]; omega),G3k _ (by omega)]
 have hask:∀j,j<l.l.length→(lat l.l j).kind=2→∀e,NowP x.g x.w.l (l.l.take j) k e→ql6 x r (lat l.l j).n e.1 r∧(∀f∈qaN x r (lat l.l j).n e.1,EndP x.g x.w.l (lat l.l j).n e.1 f)∧(qaN x r (lat l.l j).n e.1).Pairwise (λa b=>a.1<b.1):=by
  intro j hj hkj e he;have hs:=hsy (lat l.l j) (qai hj) hkj;have z0:0≤e.1:=by have:=he.1; omega
  exact⟨qgS hx hw hr _ _ _ r (Nat.lt_succ_self _) hs.1 hs.2 z0 he.2.1 (.inl rfl),(qbf hw hs.1 hs.2 z0 he.2.1).2,(qc3 hw hs.1 hs.2 z0 he.2.1).2⟩
 refine WFS.by (qoW hx hw.w l (by omega) k0 k1 (λs hs=>⟨λhk2=>(hsy s hs hk2).1,hlr s hs⟩) hask hL (by omega) (by omega)) ?_
 rintro v2 H5 ⟨⟨s,rfl,hs,hf⟩,hL5,hF5⟩;have hof:qs3 x l k r=s:=by
  rw [hf,hs];exact if_pos ⟨hmay,k0,k1,hmb⟩
 simp -dsimp;rw [hof,hf];split
 ·rfl
 ·exact qou _
end
theorem qx7 {A B:List En}(h:∀e,e∈A↔e∈B):qbG A=qbG B:=by
 refine qft (qdc A) (qdc B) λe=>?_;rw [qd5,qd5];constructor
 ·rintro⟨h1,h2⟩;exact⟨(h e).1 h1,λf hf=>h2 f ((h f).2 hf)⟩
 ·rintro⟨h1,h2⟩;exact⟨(h e).2 h1,λf hf=>h2 f ((h f).1 hf)⟩
theorem qx2:∀{l:List Nat},0<l.sum→∃a∈l,0<a
 | [],h=>by simp at h
 | a::l,h=>by
  rw [List.sum_cons] at h
  by_cases c:0<a
  ·exact⟨a,by simp,c⟩
  ·obtain⟨b,hb,h2⟩:=qx2 (l:=l) (by omega);exact⟨b,by simp [hb],h2⟩
theorem qxK {L:Look}{C:Int→Int→Int→Nat}{w:List UInt8}{u:Int}:∀(m:List Sy) (now:List En) (f:En),f∈now→0<qvs L C w u m f.1→∃e∈qaA L w m now,e.1=u
 | [],now,f,hf,h=>by
  rw [qvs] at h;split at h
  ·rename_i e; exact⟨f,hf,e⟩
  ·omega
 | s::m,now,f,hf,h=>by
  rw [qaA];have key:∀e,e∈qa2 L w s f→0<qvs L C w u m e.1→∃e∈qaA L w m (qbG (now.flatMap (qa2 L w s))),e.1=u:=λe he h2=>by
   obtain⟨g,hg,g1,_⟩:=qla (List.mem_flatMap.2 ⟨f,hf,he⟩);exact qxK m _ g hg (by rw [g1]; exact h2)
  rw [qvs] at h;split at h
  ·rename_i hk;obtain⟨a,ha,h2⟩:=qx2 h;obtain⟨e,he,rfl⟩:=List.mem_map.1 ha;refine key (e.1,f.2+e.2) ?_ (Nat.pos_of_mul_pos_right h2);unfold qa2;rw [if_pos hk];exact List.mem_map.2 ⟨e,he,rfl⟩
  ·rename_i hk;split at h
   ·rename_i hm;refine key (f.1+qbr s w f.1,f.2) ?_ h;unfold qa2;rw [if_neg hk,if_pos hm];simp
   ·omega
theorem qxZ {α : Type}{f f' : α→Nat}:∀(l:List α),(∀a∈l,f a≤f' a)→(l.map f).sum≤(l.map f').sum
 | [],_=>Nat.le_refl _
 | a::l,h=>by
  simp only [List.map_cons,List.sum_cons];have h1:=h a (by simp);have h2:=qxZ l λb hb=>h b (by simp [hb]);omega
theorem qxO {g:Gr}{w:List UInt8}{L:Look}{k0:Int}{C C':Int→Int→Int→Nat}{u:Int}(h0:0≤k0):∀(m l:List Sy) (k:Int),(∀s∈m,s.kind=2→0≤s.n)→(∀i,i<m.length→(lat m i).kind=2→∀j,NowP g w (l++m.take i) k0 (j,0)→(∀u',C (lat m i).n j u'≤C' (lat m i).n j u')∧∀f∈L (lat m i).n j,EndP g w (lat m i).n j f) →
  NowP g w l k0 (k,0)→qvs L C w u m k≤qvs L C' w u m k
 | [],_,_,_,_,_=>Nat.le_refl _
 | s::m,l,k,hs,hC,h=>by
  rw [qvs,qvs];have h1:∀k',NowP g w (l++[s]) k0 (k',0)→qvs L C w u m k'≤qvs L C' w u m k':=λk' hk' =>
   qxO h0 m (l++[s]) k' (λt ht=>hs t (by simp [ht])) (λi hi hk j hj=>hC (i+1) (by simp; omega) (by simpa [lat] using hk) j (by simpa using hj)) hk'
  split
  ·rename_i hk;obtain⟨e1,e2⟩:=hC 0 (by simp) (by simpa [lat] using hk) k (by simpa using h);rw [show lat (s::m) 0=s from rfl] at e1 e2;exact qxZ _ λe he=>Nat.mul_le_mul (h1 e.1 (qvO h0 (hs s (by simp) hk) hk e2 h he)) (e1 e.1)
  ·split
   ·rename_i hk hm;exact h1 _ (qvA h0 hk h hm)
   ·exact Nat.le_refl _
section
variable {x y:Ev}(hx:EvW x) (hy:EvW y) (h:qxP x.g y.g) (hw:y.w.l=x.w.l) (ht:y.tab=x.tab) (hk:y.g.keys=x.g.keys) (hh:y.heal=x.heal)
include hx hy h
theorem qxU (n:Int):qnR y.g n=qnR x.g n:=by
 have hm:mayB y.g=mayB x.g:=by rw [hx.m,hy.m]
 unfold qnR;rw [h.n];simp only [qxI h hm]
include hw
theorem qx8 (n k:Int):muN y.g y.w.l n k=muN x.g x.w.l n k:=by
 unfold muN;rw [hw,qxU hx hy h]
include ht
theorem qxN (n k r:Int):refV y n k r=refV x n k r:=by
 unfold refV qdt;rw [hx.m,hy.m,h.n,h.m,hw,ht]
include hk
theorem qxV (n k u r:Int):qbp y n k u r=qbp x n k u r:=by
 unfold qbp qdt tMay qhy qcW qfl;have hb:∀m,qa7 y k u m=qa7 x k u m:=λm=>by
  induction m with
  | zero=>rfl
  | succ m ih=>simp only [qa7,ih,qbY,hw,ht]
 rw [hx.m,hy.m,h.n,h.m,h.no,hw,ht,hk,hb]
include hh
theorem qxW:∀(m:Nat) (n k r:Int),muN x.g x.w.l n k<m→0≤n→n<x.g.p.l.length→0≤k→k≤x.w.l.length→qaL y n k r=qaL x n k r:=by
 intro m;induction m with
 | zero=>intro _ _ _ h; omega
 | succ m ih =>
  intro n k r hmu n0 n1 k0 k1;have hc:qcG y (qaN y (refV y n k r)) n k=qcG x (qaN x (refV x n k r)) n k:=by
   rw [qxN hx hy h hw ht];unfold qcG;rw [hw];refine qx7 λe=>?_;rw [List.mem_flatMap,List.mem_flatMap];have hA:∀a∈(lat x.g.p.l n.toNat).a.l,qaA (qaN y (refV x n k r)) x.w.l a.l [(k,0)]=qaA (qaN x (refV x n k r)) x.w.l a.l [(k,0)]:=λa ha =>
    (qdp (g:=x.g) k0 a.l [] [(k,0)] (λs hs hk=>(qcD hx ha s hs hk).1) (λi hi hk e he=>by
     obtain⟨q1,q2,q3,q4,q5⟩:=qvT hx n0 k0 k1 ha hi hk (by simpa using he);exact⟨by unfold qaN; rw [ih _ _ _ (by omega) q2 q3 q4 q5],(qbf hx q2 q3 q4 q5).2⟩) (by
     intro e he;rw [List.mem_singleton] at he; subst he;exact⟨Int.le_refl _,k1,by simp only; omega,λ_=>.nil⟩)).symm
   constructor
   ·rintro⟨a,ha,he⟩;have ha':=(h.a _ a).1 ha;exact⟨a,ha',by rw [←hA a ha']; exact he⟩
   ·rintro⟨a,ha,he⟩;exact⟨a,(h.a _ a).2 ha,by rw [hA a ha]; exact he⟩
  rw [qbD hy n0 (by rw [h.n]; exact n1) k0 (by rw [hw]; exact k1),qbD hx n0 n1 k0 k1,hc];have hp:(λe:En=>qbp y n k e.1 r)=λe=>qbp x n k e.1 r:=funext λe=>qxV hx hy h hw ht hk n k e.1 r;have hs:qb4 y n=qb4 x n:=by funext c; unfold qb4; rw [h.m]
  have hl:qcr y n k=qcr x n k:=by unfold qcr; rw [hh,h.m,hw]
  unfold endE;rw [hp,hs,hl]
theorem qxR {n k r:Int}(n0:0≤n) (n1:n<x.g.p.l.length) (k0:0≤k) (k1:k≤x.w.l.length):qaL y n k r=qaL x n k r:=qxW hx hy h hw ht hk hh _ n k r (Nat.lt_succ_self _) n0 n1 k0 k1
end
theorem qtC {g:Gr}(h:mayB g=true) {p:Pd}(hp:p∈g.p.l) {a:Sl Sy}(ha:a∈p.a.l):mayB (qs4 g a)=true:=by
 have hg:=h;simp only [mayB,Bool.and_eq_true,List.all_eq_true,decide_eq_true_eq] at h;obtain⟨⟨h1,h2⟩,h3⟩:=h;have hlen:(qs4 g a).p.l.length=g.p.l.length:=by simp [qs4]; omega
 have hodd:oddB g.p.l.length a=false:=by
  have:=h1 p hp;simp only [qcj,Bool.not_eq_true',Bool.or_eq_false_iff,List.any_eq_false] at this;simpa using this.2 a ha
 simp only [mayB,Bool.and_eq_true,List.all_eq_true,decide_eq_true_eq,hlen];refine⟨⟨λq hq=>?_,h2⟩,h3⟩;simp only [qs4,l_of,List.mem_cons] at hq;rcases hq with rfl|hq
 ·simp [qcj,hodd,qji,qeg]
 ·exact h1 q (List.mem_of_mem_drop hq)
theorem qtP {x:Ev}(hm:mayE x=true) {k r:Int}(k0:0≤k) (k1:k≤x.w.l.length) {p:Pd}(hp:p∈x.g.p.l) {a:Sl Sy}(ha:a∈p.a.l):(qs3 x a k r).l=qaA (qaN x r) x.w.l a.l [(k,0)]:=by
 unfold qs3;rw [if_pos ⟨hm,k0,k1,qtC (qbq hm).m hp ha⟩];split
 ·rename_i h;rw [List.length_eq_zero_iff.1 h]; rfl
 ·rw [qjd]
theorem qti {g:Gr}(h:mayB g=true) (a:Sl Sy):mayB (qs4 g a) = !oddB g.p.l.length a:=by
 simp only [mayB,Bool.and_eq_true,List.all_eq_true,decide_eq_true_eq] at h;obtain⟨⟨h1,h2⟩,h3⟩:=h;have hlen:(qs4 g a).p.l.length=g.p.l.length:=by simp [qs4]; omega
 have hp:qcj g.p.l.length ⟨.full [a],0,.nil⟩ = !oddB g.p.l.length a:=by simp [qcj,qji,qeg]
 have hd:(g.p.l.drop 1).all (qcj g.p.l.length)=true:=by
  rw [List.all_eq_true];exact λq hq=>h1 q (List.mem_of_mem_drop hq)
 unfold mayB;rw [hlen];have:(qs4 g a).p.l=⟨.full [a],0,.nil⟩::g.p.l.drop 1:=rfl;rw [this,List.all_cons,hp,hd];have h2':0<g.p.l.length:=by omega
 simp [h2',h3]
section
variable {x:Ev}{l:Sl Sy}{k r:Int}(hm:mayE x=true) (k0:0≤k) (k1:k≤x.w.l.length)
include hm k0 k1
theorem qta:(qs3 x l k r).l=if oddB x.g.p.l.length l=false then qaA (qaN x r) x.w.l l.l [(k,0)] else []:=by
 unfold qs3;rw [qti (qbq hm).m]
 by_cases h:oddB x.g.p.l.length l=false
 ·rw [if_pos h,if_pos ⟨hm,k0,k1,by simp [h]⟩];split
  ·rename_i h;rw [List.length_eq_zero_iff.1 h]; rfl
  ·rw [qjd]
 ·rw [if_neg h,if_neg (by simp at h; simp [h])]; rfl
theorem qtg:∀e∈(qs3 x l k r).l,NowP x.g x.w.l l.l k e:=λe he=>by
 rw [qta hm k0 k1] at he;split at he
 ·rename_i ho;have hsy:∀s∈l.l,s.kind=2→0≤s.n∧s.n<x.g.p.l.length:=λs hs hk=>by
   simp only [oddB,Bool.or_eq_false_iff,List.any_eq_false] at ho;have:=(qsv (by simpa using ho.2 s hs)).non hk;exact⟨this.1,this.2.1⟩
  exact qfm (g:=x.g) (N:=qaN x r) (w:=x.w.l) k0 l.l [] [(k,0)] (λs hs hk2=>(hsy s hs hk2).1) (λj hj hkj e he=>by
   have hs:=hsy (lat l.l j) (qai hj) hkj;have z0:0≤e.1:=by have:=he.1; omega
   exact (qbf (qbq hm) hs.1 hs.2 z0 he.2.1).2) (by
   intro e he;rw [List.mem_singleton] at he; subst he;exact⟨Int.le_refl _,k1,by simp only; omega,λ_=>.nil⟩) e he
 ·cases he
theorem qth:(qs3 x l k r).l.length≤201:=by
 have hn:=qtg (l:=l) (r:=r) hm k0 k1;rw [qta hm k0 k1] at hn ⊢;split at hn
 ·rename_i h;rw [if_pos h];exact qb7 (qka _ _ (by simp)) (n:=x.w.l.length) (λe he=>by
   have:=hn e he;exact⟨by have:=this.1; omega,this.2.1⟩) (qbq hm).w
 ·rename_i h;rw [if_neg h]; simp
end
def twE (x:Ev) (a:Sl Sy):Ev:=⟨twG x.g a,x.w,x.tab,x.heal⟩
section
variable {x:Ev}(hm:mayE x=true) {a:Sl Sy}(ha:a∈(lat x.g.p.l 0).a.l) (h7:(lat x.g.p.l 0).a.l.length≤7)
include hm ha h7
theorem qxL:mayE (twE x a)=true:=by
 have hx:=qbq hm;have hok:=qaF hx.m;have h:=qxA ha hok.p0;have h1:=tw_may hx.m ha h7;have h2:=qxS h (by rw [h1,hx.m]);simp only [mayE,Bool.and_eq_true,decide_eq_true_eq] at hm ⊢;exact⟨by show (qcP (twG x.g a)).2=0; rw [h2]; exact hm.1,hm.2⟩
theorem qxE {n k r:Int}(n0:0≤n) (n1:n<x.g.p.l.length) (k0:0≤k) (k1:k≤x.w.l.length):qaL (twE x a) n k r=qaL x n k r:=by
 have hx:=qbq hm;exact qxR hx (qbq (qxL hm ha h7)) (qxA ha (qaF hx.m).p0) rfl rfl rfl rfl n0 n1 k0 k1
theorem qxY (n k r:Int):refV (twE x a) n k r=refV x n k r:=by
 have hx:=qbq hm;exact qxN hx (qbq (qxL hm ha h7)) (qxA ha (qaF hx.m).p0) rfl rfl n k r
theorem tw_mu (n k:Int):muN (twE x a).g (twE x a).w.l n k=muN x.g x.w.l n k:=by
 have hx:=qbq hm;exact qx8 hx (qbq (qxL hm ha h7)) (qxA ha (qaF hx.m).p0) rfl n k
theorem qxQ {n k:Int}(n0:0≤n) (k0:0≤k) (k1:k≤x.w.l.length) {b:Sl Sy}(hb:b∈(lat x.g.p.l n.toNat).a.l) {C C':Int→Int→Int→Nat}{u r:Int}
  (hC:∀i,i<b.l.length→(lat b.l i).kind=2→∀j:Int,0≤j→j≤x.w.l.length→muN x.g x.w.l (lat b.l i).n j<muN x.g x.w.l n k→∀u',C' (lat b.l i).n j u'=C (lat b.l i).n j u'):qvs (qaN (twE x a) r) C' x.w.l u b.l k=qvs (qaN x r) C x.w.l u b.l k:=by
 have hx:=qbq hm;refine (qvD (g:=x.g) k0 b.l [] k (λs hs hk=>(qcD hx hb s hs hk).1) (λi hi hk j hj=>?_) ⟨Int.le_refl _,k1,by simp,λ_=>.nil⟩).symm;obtain⟨q1,q2,q3,q4,q5⟩:=qvT hx n0 k0 k1 hb hi hk (by simpa using hj);simp only at q1 q4 q5;exact⟨by unfold qaN; rw [qxE hm ha h7 q2 q3 q4 q5],λu'=>(hC i hi hk j q4 q5 q1 u').symm,(qbf hx q2 q3 q4 q5).2⟩
theorem tw_ge:∀(m:Nat) (n k u r:Int),muN x.g x.w.l n k<m→0≤n→n<x.g.p.l.length→0≤k→k≤x.w.l.length→qvK x m n k u r≤qvK (twE x a) m n k u r:=by
 have hx:=qbq hm;intro m;induction m with
 | zero=>intro _ _ _ _ h; omega
 | succ m ih =>
  intro n k u r hmu n0 n1 k0 k1;rw [qvK,qvK,qxE hm ha h7 n0 n1 k0 k1,qxY hm ha h7];split
  ·have hle:((lat x.g.p.l n.toNat).a.l.map λb=>qvs (qaN x (refV x n k r)) (λn' k' u'=>qvK x m n' k' u' (refV x n k r)) x.w.l u b.l k).sum≤((lat x.g.p.l n.toNat).a.l.map λb=>qvs (qaN (twE x a) (refV x n k r)) (λn' k' u'=>qvK (twE x a) m n' k' u' (refV x n k r)) x.w.l u b.l k).sum:=by
    refine qxZ _ λb hb=>?_;rw [qxQ hm ha h7 (n:=n) n0 k0 k1 hb (C:=λn' k' u'=>qvK (twE x a) m n' k' u' (refV x n k r)) λ_ _ _ _ _ _ _ _=>rfl];refine qxO (g:=x.g) k0 b.l [] k (λs hs hk=>(qcD hx hb s hs hk).1) (λi hi hk j hj=>?_) ⟨Int.le_refl _,k1,by simp,λ_=>.nil⟩;obtain⟨q1,q2,q3,q4,q5⟩:=qvT hx n0 k0 k1 hb hi hk (by simpa using hj);simp only at q1 q4 q5;exact⟨λu'=>ih _ _ _ _ (by omega) q2 q3 q4 q5,(qbf hx q2 q3 q4 q5).2⟩
   refine Nat.le_trans hle ?_;obtain⟨t1,t2⟩:=qx6 (g:=x.g) (a:=a) (qaF hx.m).p0
   by_cases c:n.toNat=0
   ·rw [c];show _≤((lat (twG x.g a).p.l 0).a.l.map _).sum;rw [t1];show _≤(((lat x.g.p.l 0).a.l++[a]).map _).sum;rw [List.map_append,List.sum_append];exact Nat.le_add_right _ _
   ·show _≤((lat (twG x.g a).p.l n.toNat).a.l.map _).sum;rw [t2 _ (by omega)];exact Nat.le_refl _
  ·exact Nat.le_refl _
theorem qx5:∀(m:Nat) (n k u r:Int),muN x.g x.w.l n k<m→0<n→n<x.g.p.l.length→¬Rch x.g n 0→0≤k→k≤x.w.l.length→qvK (twE x a) m n k u r=qvK x m n k u r:=by
 have hx:=qbq hm;intro m;induction m with
 | zero=>intro _ _ _ _ h; omega
 | succ m ih =>
  intro n k u r hmu n0 n1 hr k0 k1;rw [qvK,qvK,qxE hm ha h7 (by omega) n1 k0 k1,qxY hm ha h7];split
  ·obtain⟨_,t2⟩:=qx6 (g:=x.g) (a:=a) (qaF hx.m).p0;show ((lat (twG x.g a).p.l n.toNat).a.l.map _).sum=_;rw [t2 _ (by omega)];congr 1;refine List.map_congr_left λb hb=>?_;refine qxQ hm ha h7 (n:=n) (by omega) k0 k1 hb λi hi hk j j0 j1 hj u'=>?_;have hs:=qrc hb hi hk;have hsy:=qcD hx hb _ (qai hi) hk;have hne:(lat b.l i).n≠0:=λe=>hr (.one (by have h2:=hs; rw [e] at h2; exact h2));refine ih _ _ _ _ (by omega) (by omega) hsy.2 (λhc=>hr ?_) j0 j1;have key:∀c,Rch x.g (lat b.l i).n c→Rch x.g n c:=λc hc=>by
    induction hc with
    | one h=>exact .more (.one hs) h
    | more _ h ih=>exact .more ih h
   exact key 0 hc
  ·rfl
theorem tw_all (hr:¬Rch x.g 0 0) {u r:Int}(hp:0<x.g.p.l.length):qvr (twE x a) 0 0 u r=qvr x 0 0 u r+(if endB (qaL x 0 0 r).2 u=true then qvs (qaN x (refV x 0 0 r)) (λn k u=>qvr x n k u (refV x 0 0 r)) x.w.l u a.l 0 else 0):=by
 have hx:=qbq hm;have p0:(0:Int)<x.g.p.l.length:=by omega
 have k1:(0:Int)≤x.w.l.length:=by omega
 have ha':a∈(lat x.g.p.l (0:Int).toNat).a.l:=ha;unfold qvr;rw [tw_mu hm ha h7,qvK,qvK,qxE hm ha h7 (Int.le_refl 0) p0 (Int.le_refl 0) k1,qxY hm ha h7];split
 ·have hC:∀b∈(lat x.g.p.l (0:Int).toNat).a.l,qvs (qaN (twE x a) (refV x 0 0 r)) (λn' k' u'=>qvK (twE x a) (muN x.g x.w.l 0 0) n' k' u' (refV x 0 0 r)) x.w.l u b.l 0=qvs (qaN x (refV x 0 0 r)) (λn' k' u'=>qvK x (muN x.g x.w.l 0 0) n' k' u' (refV x 0 0 r)) x.w.l u b.l 0:=λb hb =>
   qxQ hm ha h7 (n:=0) (Int.le_refl 0) (Int.le_refl 0) k1 hb λi hi hk j j0 j1 hj u'=>by
    have hs:=qrc hb hi hk;have hsy:=qcD hx hb _ (qai hi) hk;have hne:(lat b.l i).n≠0:=λe=>hr (.one (by have h2:=hs; rw [e] at h2; exact h2));refine qx5 hm ha h7 _ _ _ _ _ hj (by omega) hsy.2 (λhc=>hr ?_) j0 j1;have key:∀c,Rch x.g (lat b.l i).n c→Rch x.g 0 c:=λc hc=>by
     induction hc with
     | one h=>exact .more (.one hs) h
     | more _ h ih=>exact .more ih h
    exact key 0 hc
  have hD:qvs (qaN x (refV x 0 0 r)) (λn' k' u'=>qvK x (muN x.g x.w.l 0 0) n' k' u' (refV x 0 0 r)) x.w.l u a.l 0=qvs (qaN x (refV x 0 0 r)) (λn k u=>qvK x (muN x.g x.w.l n k+1) n k u (refV x 0 0 r)) x.w.l u a.l 0:=by
   refine qvB (g:=x.g) (Int.le_refl 0) a.l [] 0 (λs hs hk=>(qcD hx ha' s hs hk).1) (λi hi hk j hj=>?_) ⟨Int.le_refl _,k1,by simp,λ_=>.nil⟩;obtain⟨q1,q2,q3,q4,q5⟩:=qvT hx (Int.le_refl 0) (Int.le_refl 0) k1 ha' hi hk (by simpa using hj);simp only at q1 q4 q5;exact⟨λu'=>qvH hx _ _ _ _ _ (Nat.lt_succ_self _) q2 q3 q4 q5 _ q1,(qbf hx q2 q3 q4 q5).2⟩
  rw [←hD,←hC a ha'];obtain⟨t1,_⟩:=qx6 (g:=x.g) (a:=a) (qaF hx.m).p0;show ((lat (twG x.g a).p.l 0).a.l.map _).sum=_;rw [t1];show (((lat x.g.p.l 0).a.l++[a]).map _).sum=_;rw [List.map_append,List.sum_append,List.map_cons,List.map_nil,List.sum_cons,List.sum_nil,Nat.add_zero];congr 1;congr 1;exact List.map_congr_left λb hb=>hC b hb
 ·rfl
end
theorem qx4 {m:Int}(h0:0≤m) (h1:m<8):bitB m 8=false:=by
 have:∀k:Nat,k<8→bitB (k:Int) 8=false:=by decide
 obtain⟨k,rfl⟩:∃k:Nat,m=k:=⟨m.toNat,by omega⟩;exact this k (by omega)
theorem qxX {x:Ev}(hm:mayE x=true) (hh:x.heal=false) {a:Sl Sy}(ha:a∈(lat x.g.p.l 0).a.l) (h7:(lat x.g.p.l 0).a.l.length≤7) :
  (qvt x 0 0 x.w.l.length (-1)=0→qvt (twE x a) 0 0 x.w.l.length (-1)=0)∧qvt x 0 0 x.w.l.length (-1)≤qvt (twE x a) 0 0 x.w.l.length (-1) ∧
  ((lat x.g.p.l 0).marks<8→rchB x.g 0 0=false →
   (endB (qs3 x a 0 (-1)).l x.w.l.length=false→qvt (twE x a) 0 0 x.w.l.length (-1)=qvt x 0 0 x.w.l.length (-1)) ∧
   (endB (qs3 x a 0 (-1)).l x.w.l.length=true→qvt x 0 0 x.w.l.length (-1)≠0→qvt (twE x a) 0 0 x.w.l.length (-1)=2)):=by
 have hx:=qbq hm;have hok:=qaF hx.m;have hmy:=qxL hm ha h7;have hp0:=hok.p0;have p0:(0:Int)<x.g.p.l.length:=by omega
 have k1:(0:Int)≤x.w.l.length:=by omega
 have hny:(twE x a).g.p.l.length=x.g.p.l.length:=(qxA ha hp0).n;have e1:qvt x 0 0 x.w.l.length (-1)=((min (qvr x 0 0 x.w.l.length (-1)) 2:Nat):Int):=by
  unfold qvt; rw [if_pos ⟨hm,Int.le_refl 0,p0,Int.le_refl 0,k1⟩]
 have e2:qvt (twE x a) 0 0 x.w.l.length (-1)=((min (qvr (twE x a) 0 0 x.w.l.length (-1)) 2:Nat):Int):=by
  unfold qvt; rw [if_pos ⟨hmy,Int.le_refl 0,by rw [hny]; exact p0,Int.le_refl 0,k1⟩]
 have ho:ofE (twE x a) 0 0 (-1)=ofE x 0 0 (-1):=by
  unfold ofE;rw [if_pos ⟨hmy,Int.le_refl 0,by rw [hny]; exact p0,Int.le_refl 0,k1⟩,if_pos ⟨hm,Int.le_refl 0,p0,Int.le_refl 0,k1⟩,qxE hm ha h7 (Int.le_refl 0) p0 (Int.le_refl 0) k1]
 have c1:=qvI hh 0 0 x.w.l.length (-1);have c2:=qvI (x:=twE x a) hh 0 0 x.w.l.length (-1);rw [ho] at c2;have r1:=qvG x 0 0 x.w.l.length (-1);have r2:=qvG (twE x a) 0 0 x.w.l.length (-1);refine⟨λh=>?_,?_,λhk hr=>?_⟩
 ·by_cases c:0<qvt (twE x a) 0 0 x.w.l.length (-1)
  ·have:=c1.2 (c2.1 c); omega
  ·omega
 ·have hge:=tw_ge hm ha h7 (muN x.g x.w.l 0 0+1) 0 0 x.w.l.length (-1) (Nat.lt_succ_self _) (Int.le_refl 0) p0 (Int.le_refl 0) k1;rw [e1,e2];unfold qvr;rw [tw_mu hm ha h7];omega
 ·have hmk:=hok.marks _ (qai hp0);have href:refV x 0 0 (-1) = -1:=by
   unfold refV;rw [if_neg];rintro⟨_,h2⟩;rw [show (0:Int).toNat=0 from rfl,qx4 (by omega) hk] at h2;cases h2
  have hr':¬Rch x.g 0 0:=by simpa [rchB] using hr
  have hall:=tw_all hm ha h7 hr' (u:=x.w.l.length) (r:=-1) hp0;rw [href] at hall;have hal:=qtP hm (k:=0) (r:=-1) (Int.le_refl 0) k1 (qai hp0) ha;have ha':a∈(lat x.g.p.l (0:Int).toNat).a.l:=ha;refine⟨λhis=>?_,λhis hne=>?_⟩
  ·have hz:qvs (qaN x (-1)) (λn k u=>qvr x n k u (-1)) x.w.l x.w.l.length a.l 0=0:=by
    rcases Nat.eq_zero_or_pos (qvs (qaN x (-1)) (λn k u=>qvr x n k u (-1)) x.w.l x.w.l.length a.l 0) with c|c
    ·exact c
    ·obtain⟨e,he,h2⟩:=qxK a.l [(0,0)] (0,0) (by simp) c;rw [hal] at his;have:endB (qaA (qaN x (-1)) x.w.l a.l [(0,0)]) x.w.l.length=true:=List.any_eq_true.2 ⟨e,he,by simpa using h2⟩;rw [this] at his; cases his
   rw [hz] at hall;rw [e1,e2,hall];split<;>rfl
  ·have hend:endB (qaL x 0 0 (-1)).2 x.w.l.length=true:=by
    have:=c1.1 (by omega);unfold ofE at this;rw [if_pos ⟨hm,Int.le_refl 0,p0,Int.le_refl 0,k1⟩] at this;exact this
   rw [if_pos hend] at hall;rw [hal] at his;obtain⟨e,he,h2⟩:=List.any_eq_true.1 his;simp only [decide_eq_true_eq] at h2;obtain⟨f,hf,h3⟩:=qvJ (g:=x.g) (L:=qaN x (-1)) (w:=x.w.l) (C:=λn k u=>qvr x n k u (-1)) (k0:=0) (Int.le_refl 0) a.l [] [(0,0)] (λs hs hk=>(qcD hx ha' s hs hk).1) (λi hi hk e he f hf=>by
    obtain⟨q1,q2,q3,q4,q5⟩:=qvT hx (Int.le_refl 0) (Int.le_refl 0) k1 ha' hi hk (by simpa using he);exact⟨(qbf hx q2 q3 q4 q5).2 f hf,qv2 hx hh _ _ _ _ (Nat.lt_succ_self _) q2 q3 q4 q5 f hf⟩) (by
     intro e he;rw [List.mem_singleton] at he; subst he;exact⟨Int.le_refl _,k1,by simp only; omega,λ_=>.nil⟩) e he
   rw [List.mem_singleton] at hf;subst hf;rw [h2] at h3;simp only at h3;rw [e2,hall];omega
section
variable {mk:Nat}
theorem frz_as {H:Heap}{m:Nat}{v:V}{L:List (Sl Sy)}(hO:Own H m v 1 (L.map qaK)) (hne:L≠[]) (hm:mk≤m) :
  ∃H',frzV mk ⟨v,H⟩=some ⟨(Sl.of L).enc qaK,H'⟩∧H'.n=H.n∧∀j,j<m→H'.get j=H.get j:=by
 rcases hO with ⟨_,q⟩|⟨id,rfl,q2,q3,q4,q5⟩
 ·exact absurd (by simpa using q) hne
 ·have hr:qal H (.sl id 0 (L.map qaK).length 1 false)=some (L.map qaK):=by simp [qal,q2]; exact List.take_of_length_le (by simp)
  have hmi:mk≤id:=by omega
  have hf:allM (allM (freeze H.n H qat)) (L.map qaK)=some (L.map qaK):=qs9 (qt4 13) L;refine⟨H.kill id,?_,by simp,λj hj=>by rw [Heap.get_kill,if_neg (by omega)]⟩;simp only [frzV,hr,hf,qa3,hmi,decide_true,cond];rfl
theorem qyb {h:Heap}{esz bytes:Nat}{s o:Opd}{tm:Tm}{xs:List (List V)}{q r:VH}{Q:VH→Prop}(hx:qal h (o.ev tm)=some xs) (ha:qaj mk h esz bytes (s.ev tm) xs=some q) (hz:frzV mk q=some r) (hq:Q r):OpS (xV (.wf (.append esz bytes s o)) mk tm h) Q ⟨⟩:=by
 refine OpS.intro (?_:_=some r) hq;simp only [xV,qaE hx,ha,hz]
end
theorem qx9 {x:Ev}{A:Sl Sy}(hA:A∈(lat x.g.p.l 0).a.l) {p:Pd}(hp:p∈(twE x A).g.p.l):p=twP (lat x.g.p.l 0) A∨p∈x.g.p.l:=by
 rcases List.mem_cons.1 (show p∈twP (lat x.g.p.l 0) A::x.g.p.l.drop 1 from hp) with c|c
 ·exact .inl c
 ·exact .inr (List.mem_of_mem_drop c)
theorem qxM {x:Ev}(h0:0<x.g.p.l.length) {A:Sl Sy}(hA:A∈(lat x.g.p.l 0).a.l) {p:Pd}(hp:p∈(twE x A).g.p.l):∃q∈x.g.p.l,(∀a∈p.a.l,a∈q.a.l)∧p.a.l.length≤q.a.l.length+1∧p.no=q.no:=by
 rcases qx9 hA hp with rfl|hp
 ·refine⟨_,qai h0,λa ha=>?_,by show (_++[A]).length≤_; simp,rfl⟩;rcases List.mem_append.1 (show a∈(lat x.g.p.l 0).a.l++[A] from ha) with c|c
  ·exact c
  ·rw [List.mem_singleton] at c; rw [c]; exact hA
 ·exact⟨p,hp,λ_ h=>h,by omega,rfl⟩
theorem qya {x:Ev}(hx:x.Ok) (h0:0<x.g.p.l.length) (h7:(lat x.g.p.l 0).a.l.length≤7) {A:Sl Sy}(hA:A∈(lat x.g.p.l 0).a.l):(twE x A).g.Fine∧∀p∈(twE x A).g.p.l,∀a∈p.a.l,∀s∈a.l,s.r.l.length<1500000:=by
 have hP:=hx.g;have hn:(twE x A).g.p.l.length=x.g.p.l.length:=(qxA hA h0).n;refine⟨⟨⟨by rw [hn]; exact hP.p,λp hp=>?_,λp hp a ha=>?_,λp hp a ha=>?_,λp hp=>?_⟩,λp hp a ha=>?_⟩,λp hp a ha=>?_⟩
 ·rcases qx9 hA hp with rfl|hp
  ·show (_++[A]).length<_;simp only [List.length_append,List.length_singleton]; omega
  ·exact hP.a p hp
 ·obtain⟨q,hq,h1,_⟩:=qxM h0 hA hp; exact hP.s q hq a (h1 a ha)
 ·obtain⟨q,hq,h1,_⟩:=qxM h0 hA hp; exact hP.r q hq a (h1 a ha)
 ·obtain⟨q,hq,_,_,h1⟩:=qxM h0 hA hp; rw [h1]; exact hP.no q hq
 ·obtain⟨q,hq,h1,_⟩:=qxM h0 hA hp; exact hP.fr q hq a (h1 a ha)
 ·obtain⟨q,hq,h1,_⟩:=qxM h0 hA hp; exact hx.r q hq a (h1 a ha)
theorem countTwice_ok (hA:Awake 387) (x:Ev) (hx:x.Ok) (hkl:x.g.keys.l.length<1000000000) (s:Sl UInt8) (hs:x.w=⟨s.enc qak,s.l,0⟩) (k:Int) :
  WF PR false 0 (.fn 421 [] []) [.agg x.cells,.int .i64 k] ⟨0,.e⟩ λr=>r.v=.bool true:=by
 refine WF.go f421 b421 [.tm 4] rfl rfl rfl rfl rfl rfl ?_;unfold b421;have hB0:∀H,WB H x.w:=λH=>.inl ⟨s,by rw [hs],by rw [hs]⟩;have hlw:∀H,lenV .sl x.w.v H=some (.int .i64 x.w.l.length):=λH=>(hB0 H).len;have hxc:[x.g.p.enc Pd.cells,x.g.keys.enc qac,x.w.v,.int .i64 x.tab,.bool x.heal]=x.cells:=rfl;have hm0:x.w.m=0:=by rw [hs]
 have hone:x.w.v.one=true:=(hB0 ⟨0,.e⟩).cells.2;simp -dsimp [-qar];rw [qar];simp -dsimp [Ev.cells,-qar];rw [hxc];obtain⟨h1,hh1⟩:∃h1,(Heap.push ⟨0,.e⟩ (Obj.rows [x.cells]):Heap)=h1:=⟨_,rfl⟩;have g1:h1.get 0=some (.rows [[x.g.p.enc Pd.cells,x.g.keys.enc qac,x.w.v,.int .i64 x.tab,.bool x.heal]]):=by rw [←hh1]; simp; rfl
 have n1:h1.n=1:=by rw [←hh1]; simp
 rw [qar];simp -dsimp [-qar];refine WFS.by (hA _ _ _ (Nat.zero_le _)) ?_
 intro v h' e;cases e;rw [hh1];simp -dsimp [-qar];rw [qar];simp -dsimp [g1,-qar];rw [hxc];refine WFS.by (qe5 x hx.few (hB0 _)) ?_
 rintro v h' ⟨e0,b,e1,hb⟩;simp only at e0 e1;subst e0 e1;cases b with
 | false=>simp -dsimp [g1]
 | true =>
 obtain⟨hp16,hw16⟩:=hb rfl;simp -dsimp [g1,hlw]
 by_cases c12:(12:Int)<x.w.l.length
 ·simp -dsimp [c12]
 simp -dsimp [c12,g1];rw [hxc];refine WFS.by (qbJ x hx.g (hB0 _)) ?_
 intro v h' e;cases e;cases hmay:mayE x with
 | false=>simp -dsimp
 | true =>
 have hgm:=qaF (qbq hmay).m;have hp0:=hgm.p0;obtain⟨P0,hP0⟩:∃P0,lat x.g.p.l 0=P0:=⟨_,rfl⟩;have hPm:P0∈x.g.p.l:=by rw [←hP0]; exact qai hp0
 have hia0:qaw 3 (x.g.p.enc Pd.cells) (.int .i64 0)=some (.ptrR P0.cells 0):=by
  have:=qap (f:=Pd.cells) (s:=x.g.p) (esz:=3) (k:=.i64) (n:=0) (by omega) (by omega) (λ_=>rfl);rw [this]; simp [hP0]
 by_cases ck0:k<0
 ·simp -dsimp [ck0]
 simp -dsimp [ck0,g1,hia0,Pd.cells]
 by_cases ck1:(P0.a.l.length:Int)≤k
 ·simp -dsimp [ck1]
 simp -dsimp [ck1,g1,hia0,Pd.cells]
 by_cases c7:(7:Int)<P0.a.l.length
 ·simp -dsimp [c7]
 simp -dsimp [c7,g1];obtain⟨H1,hH1⟩:∃H1,(h'.push (.rows [[.nils,.nils,.nils,.int .i64 0,.bool false]])).set h'.n (.rows [x.cells])=H1:=⟨_,rfl⟩;have G0:H1.get 0=some (.rows [[x.g.p.enc Pd.cells,x.g.keys.enc qac,x.w.v,.int .i64 x.tab,.bool x.heal]]):=by rw [←hH1,Heap.get_set,if_neg (by omega),Heap.get_push,if_neg (by omega),g1]
 have G1:H1.get 1=some (.rows [[x.g.p.enc Pd.cells,x.g.keys.enc qac,x.w.v,.int .i64 x.tab,.bool x.heal]]):=by rw [←hH1,n1,Heap.get_set,if_pos rfl]; rfl
 have Gn:H1.n=2:=by rw [←hH1]; simp [n1]
 have hpl:∀p∈x.g.p.l.map Pd.cells,p.length=3∧ones p=true:=λp hp=>by
  obtain⟨q,_,rfl⟩:=List.mem_map.1 hp;exact⟨rfl,by simp [Pd.cells,ones]⟩
 have hpr:qal H1 (x.g.p.enc Pd.cells)=some (x.g.p.l.map Pd.cells):=by cases x.g.p<;>rfl
 simp -dsimp [hone,-qar];rw [hxc,hH1,qar];simp -dsimp [G0];rw [qaE (xs:=x.g.p.l.map Pd.cells) (by simp [hpr])];obtain⟨v4,H4,a1,a2,a3,a4,a5⟩:=qaC (h:=H1) (mk:=0) (m0:=2) (esz:=3) (bytes:=56) (v:=.nils) (rows:=[]) (xs:=x.g.p.l.map Pd.cells) (.inl ⟨rfl,rfl⟩) (Nat.zero_le _) hpl (by simp; omega) (by omega) (by omega);simp -dsimp;refine OpS.intro a1 ?_;have hO:Own H4 2 v4 3 (x.g.p.l.map Pd.cells):=by simpa using a2
 have K4:∀j,j<2→H4.get j=H1.get j:=λj hj=>a4 j (by omega) (by simp [slId]);have G40:=(K4 0 (by omega)).trans G0;have G41:=(K4 1 (by omega)).trans G1;have hv4:=hO.cells;have hne:x.g.p.l≠[]:=λe=>by rw [e] at hp0; simp at hp0
 rcases hO with ⟨_,q⟩|⟨id,rfl,q2,q3,q4,_⟩
 ·exact absurd (by simpa using q) hne
 obtain⟨H5,hH5⟩:∃H5,H4.set 1 (.rows [[.sl id 0 (x.g.p.l.map Pd.cells).length 3 false,x.g.keys.enc qac,x.w.v,.int .i64 x.tab,.bool x.heal]])=H5:=⟨_,rfl⟩;rw [show (x.g.p.l.map Pd.cells).length=x.g.p.l.length by simp] at hH5;have hn4:2≤H4.n:=by omega
 have G50:H5.get 0=some (.rows [[x.g.p.enc Pd.cells,x.g.keys.enc qac,x.w.v,.int .i64 x.tab,.bool x.heal]]):=by rw [←hH5,Heap.get_set,if_neg (by omega),G40]
 have G51:H5.get 1=some (.rows [[.sl id 0 x.g.p.l.length 3 false,x.g.keys.enc qac,x.w.v,.int .i64 x.tab,.bool x.heal]]):=by rw [←hH5,Heap.get_set,if_pos rfl]
 have G5i:H5.get id=some (.rows (x.g.p.l.map Pd.cells)):=by rw [←hH5,Heap.get_set,if_neg (by omega),q2]
 have n5:H5.n=H4.n:=by rw [←hH5]; simp
 have hid0:¬0=id:=by omega
 have hid1:¬1=id:=by omega
 simp -dsimp [G41,n1,-qnc];rw [hH5,qnc];simp -dsimp [G50,G51,hia0,Pd.cells];have hal:∀p∈P0.a.l.map qaK,p.length=1∧ones p=true:=λp hp=>by
  obtain⟨q,_,rfl⟩:=List.mem_map.1 hp;exact⟨rfl,by simp [qaK,ones]⟩
 have har:qal H5 (P0.a.enc qaK)=some (P0.a.l.map qaK):=by cases P0.a<;>rfl
 rw [qaE (xs:=P0.a.l.map qaK) (by simp [har])];obtain⟨v6,H6,b1,b2,b3,b4,b5⟩:=qaC (h:=H5) (mk:=0) (m0:=H5.n) (esz:=1) (bytes:=24) (v:=.nils) (rows:=[]) (xs:=P0.a.l.map qaK) (.inl ⟨rfl,rfl⟩) (Nat.zero_le _) hal (by simp; omega) (by omega) (Nat.le_refl _);simp -dsimp;refine OpS.intro b1 ?_;have hO6:Own H6 H5.n v6 1 (P0.a.l.map qaK):=by simpa using b2
 have K6:∀j,j<H5.n→H6.get j=H5.get j:=λj hj=>b4 j hj (by simp [slId]);have G60:=(K6 0 (by omega)).trans G50;have G61:=(K6 1 (by omega)).trans G51;have G6i:=(K6 id (by omega)).trans G5i;have hiak:qaw 1 (P0.a.enc qaK) (.int .i64 k)=some (.ptrR (qaK (lat P0.a.l k.toNat)) 0):=by
  exact qap (f:=qaK) (s:=P0.a) (esz:=1) (k:=.i64) (n:=k) (by omega) (by omega) (λ_=>rfl)
 obtain⟨A,hAk⟩:∃A,lat P0.a.l k.toNat=A:=⟨_,rfl⟩;rw [hAk] at hiak;simp -dsimp [G60,G61,hia0,Pd.cells,hiak,qaK];have hn5:0<H5.n:=by omega
 obtain⟨v7,H7,d1,d2,d3,d4,d5⟩:=qaC (h:=H6) (mk:=0) (m0:=H5.n) (esz:=1) (bytes:=24) (v:=v6) (rows:=P0.a.l.map qaK) (xs:=[qaK A]) hO6 (Nat.zero_le _) (λq hq=>by rw [List.mem_singleton] at hq; subst hq; exact⟨rfl,by simp [qaK,ones]⟩) (by simp; omega) (by omega) b3;have hO7:Own H7 H5.n v7 1 ((P0.a.l++[A]).map qaK):=by simpa using d2
 obtain⟨H8,z1,z2,z3⟩:=frz_as (mk:=0) hO7 (by simp) (Nat.zero_le _);have K8:∀j,j<H5.n→H8.get j=H5.get j:=λj hj=>by
  rw [z3 j hj,d4 j (by omega) (λe=>?_),K6 j hj];rcases b5 j e with c|c
  ·omega
  ·simp [slId] at c
 refine qyb (xs:=[qaK A]) (by simp [qal,qaK]) (by simpa using d1) z1 ?_;have G80:=(K8 0 (by omega)).trans G50;have G81:=(K8 1 (by omega)).trans G51;have G8i:=(K8 id (by omega)).trans G5i;have hiai:qaw 3 (.sl id 0 x.g.p.l.length 3 false) (.int .i64 0)=some (.ptr id 0 0):=by
  have:=qam (e:=3) (id:=id) (b:=0) (n:=x.g.p.l.length) (f:=false) (k:=.i64) (i:=0) (by omega) (by omega);simpa using this
 have hl0:(x.g.p.l.map Pd.cells)[0]?=some P0.cells:=by rw [List.getElem?_map,qaz hp0,hP0]; rfl
 obtain⟨H9,hH9⟩:∃H9,H8.set id (.rows ((x.g.p.l.map Pd.cells).set 0 (twP P0 A).cells))=H9:=⟨_,rfl⟩;have hid8:id<H8.n:=by omega
 have G90:H9.get 0=some (.rows [[x.g.p.enc Pd.cells,x.g.keys.enc qac,x.w.v,.int .i64 x.tab,.bool x.heal]]):=by rw [←hH9,Heap.get_set,if_neg hid0,G80]
 have G91:H9.get 1=some (.rows [[.sl id 0 x.g.p.l.length 3 false,x.g.keys.enc qac,x.w.v,.int .i64 x.tab,.bool x.heal]]):=by rw [←hH9,Heap.get_set,if_neg hid1,G81]
 have hLL:(x.g.p.l.map Pd.cells).set 0 (twP P0 A).cells=(twG x.g A).p.l.map Pd.cells:=by
  rw [←List.map_set];congr 1;obtain⟨q,qs,hq⟩:=List.exists_cons_of_ne_nil hne;show _=twP (lat x.g.p.l 0) A::x.g.p.l.drop 1;rw [hP0,hq];rfl
 have G9i:H9.get id=some (.rows ((twG x.g A).p.l.map Pd.cells)):=by rw [←hH9,Heap.get_set,if_pos rfl,hLL]
 have htc:[(Sl.of (P0.a.l++[A])).enc qaK,V.int .i64 P0.marks,P0.no.enc Rg.cells]=(twP P0 A).cells:=rfl;simp -dsimp [hiai,G8i,hl0,Pd.cells,qbW,G61,G81,G50,-qar];rw [htc,hH9,qar];have hSx:EvS x:=⟨hx.g.toSmall,hkl,by omega⟩;have hmx:∀H:Heap,x.w.m≤H.n:=λH=>by rw [hm0]; exact Nat.zero_le _
 simp -dsimp [G90,-qar];rw [hxc];refine WFS.by (qwa hSx hx.g hx.r (hB0 _) (hmx _)) ?_
 intro v h5 e;cases e;obtain⟨ca,hca⟩:∃c,qvt x.calm 0 0 x.w.l.length (-1)=c:=⟨_,rfl⟩;rw [hca];have hAm:A∈P0.a.l:=by rw [←hAk]; exact qai (by omega)
 have hAm0:A∈(lat x.g.p.l 0).a.l:=by rw [hP0]; exact hAm
 have h70:(lat x.g.p.l 0).a.l.length≤7:=by rw [hP0]; omega
 obtain⟨hFy,hRy⟩:=qya hx hp0 h70 hAm0;have hSy:EvS (twE x A):=⟨hFy.toSmall,hkl,hSx.w⟩;have hOz:Own H9 2 (.sl id 0 x.g.p.l.length 3 false) 3 ((twG x.g A).p.l.map Pd.cells):=.inr ⟨id,by simp [(qxA hAm0 hp0).n],G9i,q3,by rw [←hH9]; simpa using hid8,by simp [twG]⟩;simp -dsimp;refine qtD G91 rfl (by simp) hOz (by simp [twG]) (Nat.zero_le _) (Nat.zero_le _) (hOz.slId (by omega)) ?_;intro H10 t2 t3 t4;have s0:H10.get 0=some (.rows [[x.g.p.enc Pd.cells,x.g.keys.enc qac,x.w.v,.int .i64 x.tab,.bool x.heal]]):=by rw [t4 0 (by omega) (by simp [slId]; omega),G90]
 have hyc:[(Sl.of (twG x.g A).p.l).enc Pd.cells,x.g.keys.enc qac,x.w.v,.int .i64 x.tab,.bool x.heal]=(twE x A).cells:=rfl;simp -dsimp;rw [hyc];refine WFS.by (qwa hSy hFy hRy (hB0 _) (hmx _)) ?_
 intro v h6 e;cases e;obtain⟨cb,hcb⟩:∃c,qvt (twE x A).calm 0 0 (twE x A).w.l.length (-1)=c:=⟨_,rfl⟩;rw [hcb];obtain⟨y,hy⟩:∃y:Ev,x.calm=y:=⟨_,rfl⟩;have hyc2:[x.g.p.enc Pd.cells,x.g.keys.enc qac,x.w.v,.int .i64 x.tab,.bool false]=y.cells:=by rw [←hy]; rfl
 obtain⟨H11,hH11⟩:∃H11,H10.set 0 (.rows [y.cells])=H11:=⟨_,rfl⟩;have g0:H11.get 0=some (.rows [[x.g.p.enc Pd.cells,x.g.keys.enc qac,x.w.v,.int .i64 x.tab,.bool false]]):=by rw [←hH11,Heap.get_set,if_pos rfl,hyc2]
 have n11:2≤H11.n:=by rw [←hH11,Heap.n_set,t3,←hH9]; simp; omega
 simp -dsimp [s0,qbW,-qnc];rw [hyc2,hH11,qnc];simp -dsimp [g0,hia0,Pd.cells,hiak,qaK];have hSy2:EvS y:=by rw [←hy]; exact qwi hSx
 have hgy:y.g=x.g:=by rw [←hy]; rfl
 have hwy:y.w=x.w:=by rw [←hy]; rfl
 have hmy:mayE y=true:=by rw [←hy]; exact hmay
 have hAsm:A.l.length<1000000000:=hx.g.s P0 hPm A hAm;have hAr:∀s∈A.l,s.r.l.length<1500000:=hx.r P0 hPm A hAm;have hAf:=λd mk=>qtb (d:=d) (mk:=mk) y hSy2 (by rw [hgy]; exact hx.g) (by rw [hgy]; exact hx.r) (by rw [hwy]; exact hB0 H11) (by rw [hwy]; exact hmx _) A hAsm hAr 0 (-1);rw [hyc2];refine WFS.by (hAf _ _) ?_
 intro v h7 e;cases e;have hEl:=qth (l:=A) (r:=-1) hmy (Int.le_refl 0) (by omega);obtain⟨B,hB⟩:∃B,qs3 y A 0 (-1)=B:=⟨_,rfl⟩;rw [hB] at hEl ⊢;have hend:∀H,lenV .sl (B.enc qad) H=some (.int .i64 B.l.length):=λH=>by simp
 obtain⟨W,hW⟩:∃W:Nat,x.w.l.length=W:=⟨_,rfl⟩;simp -dsimp;have hlaw:=qxX (x:=x.calm) hmay rfl (a:=A) hAm0 h70;have hca2:qvt x.calm 0 0 x.calm.w.l.length (-1)=ca:=hca;have hcb2:qvt (twE x.calm A) 0 0 x.calm.w.l.length (-1)=cb:=hcb;have hB2:qs3 x.calm A 0 (-1)=B:=by rw [hy]; exact hB
 rw [hca2,hcb2,hB2] at hlaw;obtain⟨l1,l2,l3⟩:=hlaw;have l3:P0.marks<8→rchB x.g 0 0=false→(endB B.l x.w.l.length=false→cb=ca)∧(endB B.l x.w.l.length=true→ca≠0→cb=2):=by rw [←hP0]; exact l3
 refine qaf (λm st=>∃i:Nat,i+m=B.l.length∧(gK 12).run st.tm=.int .i64 i∧(gK 11).run st.tm=.bool ((B.l.take i).any λe=>decide (e.1=x.w.l.length))∧st.h=H11∧st.defs=[]) B.l.length ⟨0,by omega,by simp,by simp,rfl,rfl⟩ ?_;rintro m ⟨tm,H2,defs,round⟩ ⟨i,hi,t12,t11,rfl,rfl⟩ hK;have u2:=hK 2 rfl;have u8:=hK 8 rfl;have u9:=hK 9 rfl;have u10:=hK 10 rfl;simp at u2 u8 u9 u10 t12 t11;clear hK;simp -dsimp [t12,u10];rw [qaa];refine⟨λhc=>?_,λhc=>?_⟩
 ·have d1:i<B.l.length:=by simpa using hc
  have hia:qaw 2 (B.enc qad) (.int .i64 i)=some (.ptrR (qad (lat B.l i)) 0):=by
   have:=qap (f:=qad) (s:=B) (esz:=2) (k:=.i64) (n:=(i:Int)) (by omega) (by omega) (λ_=>rfl);rw [this]; simp
  have hsn:=qlZ (λe:En=>decide (e.1=x.w.l.length)) d1;obtain⟨a,ha⟩:∃a,(B.l.take i).any (λe=>decide (e.1=x.w.l.length))=a:=⟨_,rfl⟩;rw [ha] at t11 hsn;cases a with
  | true =>
   simp -dsimp [t11,t12,fw64 (n:=(i:Int)+1) (by omega) (by omega)];exact qah.intro (m-1) (by omega) ⟨i+1,by omega,by simp,by simp [hsn],rfl,rfl⟩
  | false =>
   simp -dsimp [t11,t12,u10,u2,g0,hlw,hia,qad,fw64 (n:=(i:Int)+1) (by omega) (by omega)];exact qah.intro (m-1) (by omega) ⟨i+1,by omega,by simp,by simp [hsn],rfl,rfl⟩
 have d1:i=B.l.length:=by simp at hc; omega
 subst d1;rw [List.take_length] at t11;have t11:(gK 11).run tm=.bool (endB B.l x.w.l.length):=t11;have hgc:[x.g.p.enc Pd.cells,x.g.keys.enc qac]=x.g.cells:=rfl;simp -dsimp [u2,g0,-qar];rw [qar];simp -dsimp [u2,g0,-qar];rw [hgc];refine WFS.by (qox x.g hx.g.toSmall 0 (Nat.zero_le _)) ?_
 rintro v h7 ⟨hv,hn7,hk7⟩;have n12:2≤H2.n:=n11;simp only at hv hn7 hk7;have hmm:=(qbq hmay).m;rcases hv with ⟨hv,_⟩|⟨_,F,rfl,hF,hF1,hF2⟩
 ·exact absurd ⟨hmm,Int.le_refl 0,by omega⟩ hv
 have g7:h7.get 0=some (.rows [[x.g.p.enc Pd.cells,x.g.keys.enc qac,x.w.v,.int .i64 x.tab,.bool false]]):=by rw [hk7 0 (by omega),g0]
 have hF0:(qao (qaB x.g 0))[0]?=some [.bool (rchB x.g 0 0)]:=by
  unfold qao qaB;rw [List.getElem?_map,List.getElem?_map,List.getElem?_range hp0];rfl
 have hiaF:qaw 1 (.sl F 0 x.g.p.l.length 1 true) (.int .i64 0)=some (.ptr F 0 0):=by
  have:=qam (e:=1) (id:=F) (b:=0) (n:=x.g.p.l.length) (f:=true) (k:=.i64) (i:=0) (by omega) (by omega);simpa using this
 have hln0:¬(x.g.p.l.length:Int)=0:=by omega
 simp -dsimp [u8,u9]
 by_cases q1:ca=0
 ·simp -dsimp [q1,u9,l1 q1]
 simp -dsimp [q1,u2,g7,hia0,Pd.cells]
 by_cases q2:(8:Int)≤P0.marks
 ·simp -dsimp [q2,u8,u9];exact l2
 cases hrc:rchB x.g 0 0 with
 | true =>
  rw [hrc] at hF0;simp -dsimp [q2,hne,hln0,hiaF,hF,hF0,u8,u9];exact l2
 | false =>
  rw [hrc] at hF0;obtain⟨l4,l5⟩:=l3 (by omega) hrc;simp -dsimp [q2,hne,hln0,hiaF,hF,hF0,t11];cases hE:endB B.l x.w.l.length with
  | false=>simp -dsimp [u8,u9,l4 hE]
  | true=>simp -dsimp [u9,l5 hE q1]
def Awake0 (f:Nat):Prop:=∀(d:Bool),WF PR d 0 (.fn f [] []) [] ⟨0,.e⟩ λr=>r=⟨.bool true,⟨0,.e⟩⟩
end Go.Abs

