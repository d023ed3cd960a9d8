/- What the program's functions come to, by the evaluator's rules; the intermediate code. -/
import Derived.Test.YtjgjlijanemgeaaGreatDoorAc3
set_option linter.unusedSimpArgs false
set_option linter.unusedVariables false
namespace Go.Abs
open Go Pr
set_option maxRecDepth 10000
def qvi (v:V) (b s:Bool):Bool:=match v with
 | .bool c=>cond (c == b) s true
 | .tup []=>true
 | _=>false
@[simp] theorem qvm {c b s:Bool}:qvi (.bool c) b s=cond (c == b) s true:=(rfl)
@[simp] theorem qvl {b s:Bool}:qvi (.tup []) b s=true:=(rfl)
@[simp] theorem qvn {d:Nat}{g:Nat × Bool}{o:RdO}{h:Heap}{tm:Tm}:qgg (some ⟨some d,some g,.r o⟩) (some h) tm=qvi ((gK g.1).run tm) g.2 (qpi ((qbc o).run tm h) ((gK d).run tm)):=(rfl)
section
variable {d:Bool}{mk:Nat}{h:Heap}
theorem quW (g:Gr) (y:Nd):WF PR d mk (.fn 383 [] []) [.agg g.cells,.agg (qui y)] h λq=>q=⟨.bool (outN g y),h⟩:=by
 refine WF.po f383 b383 [.tm 4] rfl rfl rfl rfl rfl rfl ?_;unfold b383;have z0:¬h.n=h.n+1:=by omega
 by_cases c1:0≤y.1
 rotate_left
 ·simp -dsimp [Gr.cells,qui,c1];simp [outN,c1]
 by_cases c2:y.1<g.p.l.length
 rotate_left
 ·simp -dsimp [Gr.cells,qui,z0,c1,c2];simp [outN,c1,c2]
 simp -dsimp [Gr.cells,qui,z0,c1,c2,Pd.cells];simp [outN,c1,c2]
theorem quZ (a:Int):WF PR d mk (.fn 208 [] []) [.int .i64 a] h λr=>r=⟨.bool false,h⟩:=by
 refine WF.go f208 b208 [.tm 2] rfl rfl rfl rfl rfl rfl ?_;unfold b208;simp -dsimp
theorem qu3 (a b:Int):WF PR d mk (.fn 227 [] []) [.int .i64 a,.int .i64 b] h λq=>q=⟨.int .i64 (if a<b then -1 else if b<a then 1 else 0),h⟩:=by
 refine WF.po f227 b227 [.tm 4] rfl rfl rfl rfl rfl rfl ?_;unfold b227;simp -dsimp;refine WFS.by (quZ a) ?_
 intro v h' e;cases e;simp -dsimp;refine WFS.by (quZ b) ?_
 intro v h' e;cases e;simp -dsimp
 by_cases c1:a<b
 ·simp -dsimp [c1]
 by_cases c2:b<a
 ·simp -dsimp [c1,c2]
 simp -dsimp [c1,c2]
theorem qux {l:List Int}(h:l≠[]):cmpI [] l = -1∧cmpI l []=1:=by
 cases l with
 | nil=>exact absurd rfl h
 | cons a l=>simp [cmpI,ltI]
theorem qu4 {a b:Int}{l m:List Int}:cmpI (a::l) (b::m)=if a<b then -1 else if b<a then 1 else cmpI l m:=by
 unfold cmpI;simp only [ltI]
 by_cases c1:a<b
 ·simp [c1]
 by_cases c2:b<a
 ·simp [c1,c2]; omega
 have:a=b:=by omega
 subst this;simp
theorem quM (s t:Sl Int) (hs:s.l.length<1000000000) (ht:t.l.length<1000000000):WF PR d mk (.fn 391 [] []) [s.enc qaM,t.enc qaM] h λq=>q=⟨.int .i64 (cmpI s.l t.l),h⟩:=by
 refine WF.po f391 b391 [.tm 4] rfl rfl rfl rfl rfl rfl ?_;unfold b391;simp -dsimp;refine qaf (λk st=>∃i:Nat,i+k=s.l.length∧i≤t.l.length∧cmpI s.l t.l=cmpI (s.l.drop i) (t.l.drop i)∧(gK 11).run st.tm=.int .i64 i∧st.h=h∧st.defs=[]) s.l.length ⟨0,by omega,by omega,rfl,by simp,rfl,rfl⟩ ?_;rintro k ⟨tm,h',defs,round⟩ ⟨i,hi,hit,hx,h11,rfl,rfl⟩ hK;have t0:=hK 0 rfl;have t1:=hK 1 rfl;have t9:=hK 9 rfl;have t10:=hK 10 rfl;simp at t0 t1 t9 t10 h11;clear hK;simp -dsimp [t10,h11];rw [qaa];refine⟨λhc=>?_,λhc=>?_⟩
 ·have c1:i<s.l.length:=by simpa using hc
  have ha:=qe6 (s:=s) (k:=.i64) (n:=(i:Int)) (by omega) (by omega);have hd:=qbu c1;simp only [Int.toNat_natCast] at ha
  by_cases c2:i<t.l.length
  rotate_left
  ·simp -dsimp [t9,t1,h11,ha,qaM,show (t.l.length:Int)≤i by omega];rw [hx,List.drop_eq_nil_of_le (by omega:t.l.length≤i),(qux (by rw [hd]; simp)).2]
  have hb:=qe6 (s:=t) (k:=.i64) (n:=(i:Int)) (by omega) (by omega);simp only [Int.toNat_natCast] at hb;have hd2:=qbu c2;simp -dsimp [t9,t1,h11,ha,hb,qaM,show ¬(t.l.length:Int)≤i by omega];refine WFS.by (qu3 (lat s.l i) (lat t.l i)) ?_
  intro v h' e;cases e;rw [hd,hd2,qu4] at hx
  by_cases d1:lat s.l i<lat t.l i
  ·simp -dsimp [d1];rw [hx,if_pos d1]
  by_cases d2:lat t.l i<lat s.l i
  ·simp -dsimp [d1,d2];rw [hx,if_neg d1,if_pos d2]
  rw [if_neg d1,if_neg d2] at hx;simp -dsimp [d1,d2,h11,fw64 (n:=(i:Int)+1) (by omega) (by omega)];exact qah.intro (k-1) (by omega) ⟨i+1,by omega,by omega,hx,by simp,rfl,rfl⟩
 ·have c1:i=s.l.length:=by simp at hc; omega
  subst c1;rw [List.drop_length] at hx
  by_cases c2:s.l.length<t.l.length
  ·simp -dsimp [t0,t1,c2];rw [hx,(qux (by intro e; have:=congrArg List.length e; simp at this; omega)).1]
  ·simp -dsimp [t0,t1,c2];rw [hx,List.drop_eq_nil_of_le (by omega)];rfl
theorem quK (l:List Int):∀q∈qab l,q.length=1∧ones q=true:=λq hq=>by
 obtain⟨z,_,rfl⟩:=List.mem_map.1 hq;exact⟨rfl,rfl⟩
theorem quE (g:Gr) {v:V}{t:List Nd}{m:Nat}(hN:NdB h ⟨v,t,m⟩) (hm:m≤h.n) (hl:t.length<1000000):WF PR d mk (.fn 392 [] []) [.agg g.cells,v] h λq=>q=⟨(slOf (qum g t)).enc qaM,h⟩:=by
 refine WF.po f392 b392 [.tm 4] rfl rfl rfl rfl rfl rfl ?_;unfold b392;have hlt:∀H,lenV .sl v H=some (.int .i64 t.length):=λH=>hN.len;have hkeep:∀H,(∀i,i<h.n→H.get i=h.get i)→NdB H ⟨v,t,m⟩:=λH hk=>hN.keep λi hi=>hk i (by simp only at hi; omega);simp -dsimp [Gr.cells,hlt];refine qaf (λk st=>∃(i:Nat) (u:V),i+k=t.length∧(gK 10).run st.tm=.int .i64 i∧(gK 5).run st.tm=u∧Own st.h (h.n+1) u 1 (qab (qum g (t.take i)))∧h.n+1≤st.h.n∧st.h.get h.n=some (.rows [[g.p.enc Pd.cells,g.keys.enc qac]])∧(∀j,j<h.n→st.h.get j=h.get j)∧st.defs=[]) t.length
  ⟨0,.nils,by omega,by simp,by simp,.inl ⟨rfl,rfl⟩,by simp,by simp,λj hj=>by simp only; rw [Heap.get_push,if_neg (by omega)],rfl⟩ ?_
 rintro k ⟨tm,H,defs,round⟩ ⟨i,u,hi,h10,h5,hO,hn,hg,hk,rfl⟩ hK;have t1:=hK 2 rfl;have t8:=hK 8 rfl;have t9:=hK 9 rfl;simp at t1 t8 t9 h10 h5;simp only at hO hn hg hk;clear hK;simp -dsimp [t9,h10];rw [qaa];refine⟨λhc=>?_,λhc=>?_⟩
 ·have c1:i<t.length:=by simpa using hc
  obtain⟨y,hy⟩:∃y,lat t i=y:=⟨_,rfl⟩;obtain⟨p,e1,e2,-⟩:=(hkeep H hk).at (k:=(i:Int)) (by omega) (by simp only; omega);simp only [Int.toNat_natCast] at e1 e2;rw [hy] at e2;have m1:h.n≤H.n:=by omega
  obtain⟨H2,hH2⟩:∃H2,(H.push (.rows [[.int .i64 0,.int .i64 0,.int .i64 0,.int .i64 0]])).set H.n (.rows [[.int .i64 y.1,.int .i64 y.2.1,.int .i64 y.2.2.1,.int .i64 y.2.2.2]])=H2:=⟨_,rfl⟩;have k2:∀j,j<H.n→H2.get j=H.get j:=λj hj=>by rw [←hH2,Heap.get_set,if_neg (by omega),Heap.get_push,if_neg (by omega)]
  have n2:H2.n=H.n+1:=by rw [←hH2]; simp
  have g2:H2.get H.n=some (.rows [[.int .i64 y.1,.int .i64 y.2.1,.int .i64 y.2.2.1,.int .i64 y.2.2.2]]):=by rw [←hH2,Heap.get_set,if_pos rfl]
  have g20:H2.get h.n=some (.rows [[g.p.enc Pd.cells,g.keys.enc qac]]):=by rw [k2 _ (by omega),hg]
  have hO2:Own H2 (h.n+1) u 1 (qab (qum g (t.take i))):=hO.ext k2 (by omega);have htk:qum g (t.take (i+1))=qum g (t.take i)++numN g y:=by rw [List.take_add_one,qaz c1,hy]; simp [qum]
  have hnl:=quA (g:=g) (t.take i);have htl:(t.take i).length≤t.length:=by rw [List.length_take]; omega
  simp -dsimp [-qar,-qnc];rw [qar];simp -dsimp [-qar,-qnc,t8,h10,e1,e2,qui,m1];rw [hH2,qar];simp -dsimp [-qar,-qnc,h5,g2];rw [qaE (xs:=qab [y.2.1]) (by simp; rfl)];obtain⟨u3,H3,a1,a2,a3,a4,a5⟩:=qaC (mk:=h.n) (bytes:=8) (xs:=qab [y.2.1]) hO2 (by omega) (quK _) (by simp; omega) (by omega) (by omega);have hs2:∀j,j<h.n+1→slId u≠some j:=λj hj=>hO2.slId hj;have hBH:slId u≠some H.n:=by
   rcases hO with ⟨rfl,_⟩|⟨id,rfl,_,_,q,_⟩
   ·simp [slId]
   ·simp [slId]; omega
  have g3:H3.get H.n=some (.rows [[.int .i64 y.1,.int .i64 y.2.1,.int .i64 y.2.2.1,.int .i64 y.2.2.2]]):=by rw [a4 _ (by omega) hBH,g2]
  have g30:H3.get h.n=some (.rows [[g.p.enc Pd.cells,g.keys.enc qac]]):=by rw [a4 _ (by omega) (hs2 _ (by omega)),g20]
  have k3:∀j,j<h.n→H3.get j=h.get j:=λj hj=>by rw [a4 _ (by omega) (hs2 _ (by omega)),k2 _ (by omega),hk j hj]
  have hO3:Own H3 (h.n+1) u3 1 (qab (qum g (t.take i)++[y.2.1])):=by simpa [qab] using a2
  simp -dsimp [-qar,-qnc];refine OpS.intro a1 ?_;simp -dsimp [-qar,-qnc];rw [qnc];have hno:∀{b:Bool},outN g y=b→b=false→qum g (t.take (i+1))=qum g (t.take i)++[y.2.1]:=λho hb=>by rw [htk,numN,ho,hb]; rfl
  by_cases d1:0≤y.1
  rotate_left
  ·simp -dsimp [g3,d1,h10,fw64 (n:=(i:Int)+1) (by omega) (by omega)];refine qah.intro (k-1) (by omega) ⟨i+1,u3,by omega,by simp,by simp,?_,by simp only; omega,g30,k3,rfl⟩;rw [hno (b:=false) (by simp [outN,d1]) rfl]; exact hO3
  by_cases d2:y.1<g.p.l.length
  rotate_left
  ·simp -dsimp [g3,g30,t1,d1,d2,h10,fw64 (n:=(i:Int)+1) (by omega) (by omega)];refine qah.intro (k-1) (by omega) ⟨i+1,u3,by omega,by simp,by simp,?_,by simp only; omega,g30,k3,rfl⟩;rw [hno (b:=false) (by simp [outN,d2]) rfl]; exact hO3
  by_cases d3:y.2.1=(lat g.p.l y.1.toNat).a.l.length
  rotate_left
  ·simp -dsimp [g3,g30,t1,d1,d2,d3,Pd.cells,h10,fw64 (n:=(i:Int)+1) (by omega) (by omega)];refine qah.intro (k-1) (by omega) ⟨i+1,u3,by omega,by simp,by simp,?_,by simp only; omega,g30,k3,rfl⟩;rw [hno (b:=false) (by simp [outN,d3]) rfl]; exact hO3
  have ho:outN g y=true:=by simp [outN,d1,d2,d3]
  have htk2:qum g (t.take (i+1))=qum g (t.take i)++[y.2.1]++[y.2.2.2]:=by rw [htk,numN,ho]; simp
  obtain⟨u4,H4,b1,b2,b3,b4,b5⟩:=qaC (mk:=h.n) (bytes:=8) (xs:=qab [y.2.2.2]) hO3 (by omega) (quK _) (by simp; omega) (by omega) (by omega);have hs3:∀j,j<h.n+1→slId u3≠some j:=λj hj=>hO3.slId hj;simp -dsimp [g3,g30,t1,d1,d2,←d3,Pd.cells];rw [qaE (xs:=qab [y.2.2.2]) (by simp; rfl)];simp -dsimp;refine OpS.intro b1 ?_;simp -dsimp [h10,fw64 (n:=(i:Int)+1) (by omega) (by omega)];refine qah.intro (k-1) (by omega) ⟨i+1,u4,by omega,by simp,by simp,?_,by simp only; omega,?_,λj hj=>?_,rfl⟩
  ·rw [htk2]; simpa [qab] using b2
  ·rw [b4 _ (by omega) (hs3 _ (by omega)),g30]
  ·rw [b4 _ (by omega) (hs3 _ (by omega)),k3 j hj]
 ·have c1:i=t.length:=by simp at hc; omega
  subst c1;rw [List.take_length] at hO;simp -dsimp [h5];exact qhL hO (by omega)
theorem qu2 (g:Gr) (hg:g.Small) {va vb:V}{a b:List Nd}{ma mb:Nat}(hA:NdB h ⟨va,a,ma⟩) (hma:ma≤h.n) (hal:a.length<1000000) (hB:NdB h ⟨vb,b,mb⟩) (hmb:mb≤h.n) (hbl:b.length<1000000) :
  WF PR d mk (.fn 385 [] []) [.agg g.cells,va,vb] h λq=>q=⟨.bool (quw g a b),h⟩:=by
 refine WF.po f385 b385 [.tm 6] rfl rfl rfl rfl rfl rfl ?_;unfold b385;have e2:[Sl.enc Pd.cells g.p,Sl.enc qac g.keys]=g.cells:=rfl;obtain⟨H,hH⟩:∃H,h.push (.rows [[g.p.enc Pd.cells,g.keys.enc qac]])=H:=⟨_,rfl⟩;have g0:H.get h.n=some (.rows [[g.p.enc Pd.cells,g.keys.enc qac]]):=by rw [←hH]; simp
 have gn:H.n=h.n+1:=by rw [←hH]; simp
 have gk:∀i,i<h.n→H.get i=h.get i:=λi hi=>by rw [←hH]; simp [show ¬i=h.n by omega]
 have hA2:NdB H ⟨va,a,ma⟩:=hA.keep λi hi=>gk i (by simp only at hi; omega);have hB2:NdB H ⟨vb,b,mb⟩:=hB.keep λi hi=>gk i (by simp only at hi; omega);simp -dsimp [Gr.cells,-qnc];rw [hH,qnc];simp -dsimp [g0];rw [e2];refine WFS.by (qfV g hg) ?_
 intro v h' e;cases e;cases hm:mayB g with
 | false =>
  simp -dsimp [g0];simp [quw,hm]
 | true =>
 simp -dsimp [g0];rw [e2];refine WFS.by (quE g hA2 (by omega) hal) ?_
 intro v h' e;cases e;simp -dsimp [g0];rw [e2];refine WFS.by (quE g hB2 (by omega) hbl) ?_
 intro v h' e;cases e;have n1:=quA (g:=g) a;have n2:=quA (g:=g) b;simp -dsimp;refine WFS.by (quM (slOf (qum g a)) (slOf (qum g b)) (by rw [quV]; omega) (by rw [quV]; omega)) ?_
 intro v h' e;cases e;simp -dsimp [g0];rw [e2];simp -dsimp [qvk];simp [quw,hm]
theorem eqNd (y z:Nd):eqv (.struct [.int,.int,.int,.int]) (.agg (qui y)) (.agg (qui z))=some (decide (y=z)):=by
 obtain⟨y1,y2,y3,y4⟩:=y;obtain⟨z1,z2,z3,z4⟩:=z;simp [eqv,okKs,SK.ok,qui,eqL,eq1,ikB,qek]
theorem quR {va vb:V}{a b:List Nd}{ma mb:Nat}(hA:NdB h ⟨va,a,ma⟩) (hma:ma≤h.n) (hal:a.length<1000000) (hB:NdB h ⟨vb,b,mb⟩) (hmb:mb≤h.n) :
  WF PR d mk (.fn 384 [] []) [va,vb] h λq=>q=⟨.bool (decide (a=b)),h⟩:=by
 refine WF.po f384 b384 [.tm 4] rfl rfl rfl rfl rfl rfl ?_;unfold b384;have hla:∀H,lenV .sl va H=some (.int .i64 a.length):=λH=>hA.len;have hlb:∀H,lenV .sl vb H=some (.int .i64 b.length):=λH=>hB.len
 by_cases c0:a.length=b.length
 rotate_left
 ·have:¬a=b:=λe=>c0 (by rw [e]);simp -dsimp [hla,hlb,c0,show ¬((a.length:Int)=b.length) by omega,this]
 simp -dsimp [hla,hlb,c0];refine qaf (λk st=>∃i:Nat,i+k=b.length∧a.take i=b.take i∧(gK 5).run st.tm=.int .i64 i∧st.h=h∧st.defs=[]) b.length ⟨0,by omega,rfl,by simp,rfl,rfl⟩ ?_;rintro k ⟨tm,h',defs,round⟩ ⟨i,hi,hx,h5,rfl,rfl⟩ hK;have t0:=hK 0 rfl;have t1:=hK 1 rfl;simp at t0 t1 h5;clear hK;simp only at hA hB hma hmb;simp -dsimp [t0,h5,hla,c0];rw [qaa];refine⟨λhc=>?_,λhc=>?_⟩
 ·have c1:i<b.length:=by simpa using hc
  have c2:i<a.length:=by omega
  obtain⟨p,e1,e2,-⟩:=hA.at (k:=(i:Int)) (by omega) (by simp only; omega);obtain⟨q,f1,f2,-⟩:=hB.at (k:=(i:Int)) (by omega) (by simp only; omega);simp only [Int.toNat_natCast] at e1 e2 f1 f2;obtain⟨y,hy⟩:∃y,lat a i=y:=⟨_,rfl⟩;obtain⟨z,hz⟩:∃z,lat b i=z:=⟨_,rfl⟩;rw [hy] at e2;rw [hz] at f2
  by_cases d1:y=z
  ·have ht:a.take (i+1)=b.take (i+1):=by rw [List.take_add_one,List.take_add_one,hx,qaz c1,qaz c2,hy,hz,d1]
   simp -dsimp [t0,t1,h5,e1,e2,f1,f2,eqNd,d1,fw64 (n:=(i:Int)+1) (by omega) (by omega)];exact qah.intro (k-1) (by omega) ⟨i+1,by omega,ht,by simp,rfl,rfl⟩
  ·have:¬a=b:=λe=>d1 (by rw [←hy,←hz,e]);simp -dsimp [t0,t1,h5,e1,e2,f1,f2,eqNd,d1,this]
 ·have c1:i=b.length:=by simp at hc; omega
  have:a=b:=by
   rw [c1,List.take_length,←c0,List.take_length] at hx;exact hx
  simp -dsimp;exact this
end
def Awake2 (f:Nat):Prop:=∀(d:Bool) (mk:Nat) (o o2:Obj),mk≤2→WF PR d mk (.fn f [] []) [] ((Heap.push ⟨0,.e⟩ o).push o2) λr=>r=⟨.bool true,(Heap.push ⟨0,.e⟩ o).push o2⟩
section
variable {mk n:Nat}{h:Heap}
end
theorem quC {x:Ev}{t u:List Nd}(h:quk x t=true) (hu:u≠[]):quk x (t++u)=false:=by
 cases hw:quk x (t++u) with
 | false=>rfl
 | true=>exact absurd (quH h hw) hu
theorem quP {x:Ev}{t:List Nd}{k:Nat}(h:quk x t=true) (hk:k<t.length):quk x (t.take k)=false:=by
 cases hw:quk x (t.take k) with
 | false=>rfl
 | true =>
  have hd:t.drop k≠[]:=by
   intro e;have:=congrArg List.length e;simp at this;omega
  have:=quC hw hd;rw [List.take_append_drop,h] at this;cases this
theorem qvb {x:Ev}{z:Nd}{t:List Nd}(h:z.2.2.2≠x.w.l.length):quk x (z::t)=false:=by
 cases hw:quk x (z::t) with
 | false=>rfl
 | true=>exact absurd (qup.1 hw).2.1 h
theorem validLess_ok (hA:Awake2 381) (x:Ev) (hx:x.Ok) (hkl:x.g.keys.l.length<1000000000) (s:Sl UInt8) (hs:x.w=⟨s.enc qak,s.l,0⟩) (t:Sl Nd) (more:Nd) :
  WF PR false 0 (.fn 375 [] []) [.agg x.cells,t.enc qui,.agg (qui more)] ⟨0,.e⟩ λr=>r.v=.bool true:=by
 refine WF.go f375 b375 [.tm 6] rfl rfl rfl rfl rfl rfl ?_;unfold b375;have hB0:∀H,WB H x.w:=λH=>.inl ⟨s,by rw [hs],by rw [hs]⟩;have hlw:∀H,lenV .sl x.w.v H=some (.int .i64 x.w.l.length):=λH=>(hB0 H).len;have hxc:[x.g.p.enc Pd.cells,x.g.keys.enc qac,x.w.v,.int .i64 x.tab,.bool x.heal]=x.cells:=rfl;have hm0:x.w.m=0:=by rw [hs]
 simp -dsimp [-qar];rw [qar];simp -dsimp [Ev.cells,qui,-qar];rw [hxc,qar];simp -dsimp [-qar];refine WFS.by (hA _ _ _ _ (Nat.zero_le _)) ?_
 intro v h' e;cases e;obtain⟨h1,hh1⟩:∃h1,((Heap.push ⟨0,.e⟩ (Obj.rows [x.cells])).push (.rows [[.int .i64 more.1,.int .i64 more.2.1,.int .i64 more.2.2.1,.int .i64 more.2.2.2]]):Heap)=h1:=⟨_,rfl⟩;have g1:h1.get 0=some (.rows [[x.g.p.enc Pd.cells,x.g.keys.enc qac,x.w.v,.int .i64 x.tab,.bool x.heal]]):=by rw [←hh1]; simp; rfl
 have g1':h1.get 1=some (.rows [[.int .i64 more.1,.int .i64 more.2.1,.int .i64 more.2.2.1,.int .i64 more.2.2.2]]):=by rw [←hh1]; simp
 have n1:h1.n=2:=by rw [←hh1]; simp
 rw [hh1];simp -dsimp [-qar];rw [qar];simp -dsimp [g1,-qar];rw [hxc];refine WFS.by (qe5 x hx.few (hB0 _)) ?_
 rintro v h' ⟨e0,b,e1,hb⟩;simp only at e0 e1;subst e0 e1;cases b with
 | false=>simp -dsimp
 | true =>
 obtain⟨hp16,hw16⟩:=hb rfl;have hS:EvS x:=⟨hx.g.toSmall,hkl,by omega⟩
 by_cases c1:(12:Int)<x.w.l.length
 ·simp -dsimp [g1,hlw,c1]
 by_cases c2:(100:Int)<t.l.length
 ·simp -dsimp [g1,hlw,c1,c2]
 simp -dsimp [g1,hlw,c1,c2];rw [hxc];have hN0:∀H,NdB H ⟨t.enc qui,t.l,0⟩:=λH=>.inl ⟨t,rfl,rfl⟩;refine WFS.by (quq hS hx.g hx.r (hB0 _) (by omega) (hN0 _) (Nat.zero_le _) (by omega)) ?_
 intro v h' e;cases e;cases hv:quk x t.l with
 | false=>simp -dsimp
 | true =>
 obtain⟨hmay,hup,j,hj⟩:=qup.1 hv;have hne:t.l≠[]:=by intro e; rw [e] at hj; simp [qul] at hj
 have hlp:0<t.l.length:=List.length_pos_iff.2 hne;have hrw:∀H,qal H (t.enc qui)=some (t.l.map qui):=λH=>by simp
 have hpl:∀l:List Nd,∀q∈l.map qui,q.length=4∧ones q=true:=λl q hq=>by
  obtain⟨z,_,rfl⟩:=List.mem_map.1 hq;exact⟨rfl,rfl⟩
 simp -dsimp;rw [qaE (xs:=t.l.map qui) (by simp)];obtain⟨v4,H4,a1,a2,a3,a4,a5⟩:=qaC (h:=h') (mk:=0) (m0:=2) (esz:=4) (bytes:=32) (v:=.nils) (rows:=[]) (xs:=t.l.map qui) (.inl ⟨rfl,rfl⟩) (Nat.zero_le _) (hpl _) (by simp; omega) (by omega) (by omega);simp -dsimp;refine OpS.intro a1 ?_;have hO:Own H4 2 v4 4 (t.l.map qui):=by simpa using a2
 rcases hO with ⟨_,q⟩|⟨id,rfl,q2,q3,q4,_⟩
 ·exact absurd (by simpa using q) hne
 obtain⟨y,tl,hyt⟩:=List.exists_cons_of_ne_nil hne;have hia:qaw 4 (.sl id 0 t.l.length 4 false) (.int .i64 0)=some (.ptr id 0 0):=by
  have:=qam (e:=4) (id:=id) (b:=0) (n:=t.l.length) (f:=false) (k:=.i64) (i:=0) (by omega) (by omega);simpa using this
 have hl0:(t.l.map qui)[0]?=some (qui y):=by rw [hyt]; rfl
 have hw:=hS.w;have hy0:lat t.l 0=y:=by rw [hyt]; rfl
 have hyu:y.2.2.2=x.w.l.length:=by rw [←hy0]; exact hup
 have hfw:fw .i64 (y.2.2.2-1)=y.2.2.2-1:=fw64 (by omega) (by omega);obtain⟨z,hz⟩:∃z:Nd,(y.1,y.2.1,y.2.2.1,y.2.2.2-1)=z:=⟨_,rfl⟩;have hset:(t.l.map qui).set 0 [.int .i64 y.1,.int .i64 y.2.1,.int .i64 y.2.2.1,.int .i64 (y.2.2.2-1)]=(z::tl).map qui:=by rw [hyt,←hz]; rfl
 simp -dsimp [-qar,-qnc];rw [qar];simp -dsimp [-qar,-qnc,hia,q2,hl0,qui,hfw];rw [hset];obtain⟨H5,hH5⟩:∃H5,H4.set id (.rows ((z::tl).map qui))=H5:=⟨_,rfl⟩;rw [hH5,qnc];have k5:∀i,i≠id→H5.get i=H4.get i:=λi hi=>by rw [←hH5,Heap.get_set,if_neg hi]
 have n5:H5.n=H4.n:=by rw [←hH5]; simp
 have k4:∀i,i<2→H4.get i=h'.get i:=λi hi=>a4 i (by omega) (by simp [slId]);have g50:H5.get 0=some (.rows [[x.g.p.enc Pd.cells,x.g.keys.enc qac,x.w.v,.int .i64 x.tab,.bool x.heal]]):=by rw [k5 _ (by omega),k4 _ (by omega),g1]
 have g51:H5.get 1=some (.rows [[.int .i64 more.1,.int .i64 more.2.1,.int .i64 more.2.2.1,.int .i64 more.2.2.2]]):=by rw [k5 _ (by omega),k4 _ (by omega),g1']
 have g5i:H5.get id=some (.rows ((z::tl).map qui)):=by rw [←hH5,Heap.get_set,if_pos rfl]
 have hlt:∀H,lenV .sl (t.enc qui) H=some (.int .i64 t.l.length):=λH=>by simp
 have hrow1:∀H:Heap,∀v,qaV 4 (List.replicate 1 [V.int IntKind.i64 0,.int .i64 0,.int .i64 0,.int .i64 0]) v []=some (List.replicate 1 [V.int IntKind.i64 0,.int .i64 0,.int .i64 0,.int .i64 0]):=λ_ _=>rfl;simp -dsimp [g50,fw64 (n:=(t.l.length:Int)-1) (by omega) (by omega)];rw [hxc];refine qu6 (hN0 H5) (k:=(t.l.length:Int)-1) (by omega) (by simp only; omega) (by simp) ?_;intro vh hNh;simp -dsimp;refine WFS.by (quq hS hx.g hx.r (hB0 _) (by omega) hNh (Nat.zero_le _) (by simp; omega)) ?_
 intro v h9 e;cases e;have hw1:quk x (t.l.take ((t.l.length:Int)-1).toNat)=false:=quP hv (by omega);simp only at hw1 ⊢;rw [hw1];simp -dsimp [g50];rw [qaE (xs:=t.l.map qui) (by simp)];obtain⟨v6,H6,b1,b2,b3,b4,b5⟩:=qaC (h:=H5) (mk:=0) (m0:=H5.n) (esz:=4) (bytes:=32) (v:=.nils) (rows:=[]) (xs:=t.l.map qui) (.inl ⟨rfl,rfl⟩) (Nat.zero_le _) (hpl _) (by simp; omega) (by omega) (Nat.le_refl _);have hO6:Own H6 H5.n v6 4 (t.l.map qui):=by simpa using b2
 obtain⟨v7,H7,d1,d2,d3,d4,d5⟩:=qaC (h:=H6) (mk:=0) (m0:=H5.n) (esz:=4) (bytes:=32) (v:=v6) (rows:=t.l.map qui) (xs:=[more].map qui) hO6 (Nat.zero_le _) (hpl _) (by simp; omega) (by omega) (by omega);have hO7:Own H7 H5.n v7 4 ((t.l++[more]).map qui):=by simpa using d2
 have k6:∀i,i<H5.n→H6.get i=H5.get i:=λi hi=>b4 i hi (by simp [slId]);have s6:∀i,i<H5.n→slId v6≠some i:=λi hi e=>by rcases b5 i e with h|h; omega; simp [slId] at h
 have k7:∀i,i<H5.n→H7.get i=H5.get i:=λi hi=>by rw [d4 i (by omega) (s6 i hi),k6 i hi]
 have g60:=(k6 0 (by omega)).trans g50;have g61:=(k6 1 (by omega)).trans g51;have g70:=(k7 0 (by omega)).trans g50;have g71:=(k7 1 (by omega)).trans g51;have g7i:=(k7 id (by omega)).trans g5i;have hr1:∀H,qal H (.slR [[.int .i64 more.1,.int .i64 more.2.1,.int .i64 more.2.2.1,.int .i64 more.2.2.2]] true)=some ([more].map qui):=λ_=>rfl;simp -dsimp;refine OpS.intro b1 ?_;simp -dsimp [g61];rw [qaE (xs:=[more].map qui) (by simp; rfl)];simp -dsimp;refine OpS.intro d1 ?_;have hB7:=hB0 H7;simp -dsimp;rw [hxc];refine WFS.by (quq hS hx.g hx.r (hB0 _) (by omega) hO7.ndb (Nat.le_refl _) (by simp; omega)) ?_
 intro v h9 e;cases e;simp only;rw [quC hv (by simp)];have hNu:NdB H7 ⟨.sl id 0 t.l.length 4 false,z::tl,H7.n⟩:=by
  refine .inr ⟨id,0,false,_,?_,g7i,?_,?_,by simp only; omega⟩
  ·rw [hyt]; rfl
  ·simp
  ·rw [List.drop_zero,List.take_of_length_le (by simp)]
 simp -dsimp [g70];rw [hxc];refine WFS.by (quq hS hx.g hx.r (hB0 _) (by omega) hNu (Nat.le_refl _) (by rw [hyt] at c2; simp at c2 ⊢; omega)) ?_
 intro v h9 e;cases e;have hw3:quk x (z::tl)=false:=qvb (by rw [←hz]; simp only; omega);simp only;rw [hw3];simp -dsimp [g50,g60,g70,g51,g61,g71];rw [hxc];simp -dsimp
end Go.Abs

