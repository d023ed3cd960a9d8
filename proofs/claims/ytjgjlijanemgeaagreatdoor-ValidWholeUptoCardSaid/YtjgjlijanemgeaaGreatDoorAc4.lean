/- What the program's functions come to, by the evaluator's rules; the intermediate code. -/
import Derived.Test.YtjgjlijanemgeaaGreatDoorAc3
set_option linter.unusedSimpArgs false
set_option linter.unusedVariables false
namespace Go.Abs
open Go Pr
set_option maxRecDepth 10000
def qvi (v:V) (b s:Bool):Bool:=match v with
 | .bool c=>cond (c == b) s true
 | .tup []=>true
 | _=>false
@[simp] theorem qvm {c b s:Bool}:qvi (.bool c) b s=cond (c == b) s true:=(rfl)
@[simp] theorem qvl {b s:Bool}:qvi (.tup []) b s=true:=(rfl)
@[simp] theorem qvn {d:Nat}{g:Nat × Bool}{o:RdO}{h:Heap}{tm:Tm}:qgg (some ⟨some d,some g,.r o⟩) (some h) tm=qvi ((gK g.1).run tm) g.2 (qpi ((qbc o).run tm h) ((gK d).run tm)):=(rfl)
section
variable {d:Bool}{mk:Nat}{h:Heap}
theorem quW (g:Gr) (y:Nd):WF PR d mk (.fn 383 [] []) [.agg g.cells,.agg (qui y)] h λq=>q=⟨.bool (outN g y),h⟩:=by
 refine WF.po f383 b383 [.tm 4] rfl rfl rfl rfl rfl rfl ?_;unfold b383;have z0:¬h.n=h.n+1:=by omega
 by_cases c1:0≤y.1
 rotate_left
 ·simp -dsimp [Gr.cells,qui,c1];simp [outN,c1]
 by_cases c2:y.1<g.p.l.length
 rotate_left
 ·simp -dsimp [Gr.cells,qui,z0,c1,c2];simp [outN,c1,c2]
 simp -dsimp [Gr.cells,qui,z0,c1,c2,Pd.cells];simp [outN,c1,c2]
theorem quZ (a:Int):WF PR d mk (.fn 208 [] []) [.int .i64 a] h λr=>r=⟨.bool false,h⟩:=by
 refine WF.go f208 b208 [.tm 2] rfl rfl rfl rfl rfl rfl ?_;unfold b208;simp -dsimp
theorem qu3 (a b:Int):WF PR d mk (.fn 227 [] []) [.int .i64 a,.int .i64 b] h λq=>q=⟨.int .i64 (if a<b then -1 else if b<a then 1 else 0),h⟩:=by
 refine WF.po f227 b227 [.tm 4] rfl rfl rfl rfl rfl rfl ?_;unfold b227;simp -dsimp;refine WFS.by (quZ a) ?_
 intro v h' e;cases e;simp -dsimp;refine WFS.by (quZ b) ?_
 intro v h' e;cases e;simp -dsimp
 by_cases c1:a<b
 ·simp -dsimp [c1]
 by_cases c2:b<a
 ·simp -dsimp [c1,c2]
 simp -dsimp [c1,c2]
theorem qux {l:List Int}(h:l≠[]):cmpI [] l = -1∧cmpI l []=1:=by
 cases l with
 | nil=>exact absurd rfl h
 | cons a l=>simp [cmpI,ltI]
theorem qu4 {a b:Int}{l m:List Int}:cmpI (a::l) (b::m)=if a<b then -1 else if b<a then 1 else cmpI l m:=by
 unfold cmpI;simp only [ltI]
 by_cases c1:a<b
 ·simp [c1]
 by_cases c2:b<a
 ·simp [c1,c2]; omega
 have:a=b:=by omega
 subst this;simp
theorem quM (s t:Sl Int) (hs:s.l.length<1000000000) (ht:t.l.length<1000000000):WF PR d mk (.fn 391 [] []) [s.enc qaM,t.enc qaM] h λq=>q=⟨.int .i64 (cmpI s.l t.l),h⟩:=by
 refine WF.po f391 b391 [.tm 4] rfl rfl rfl rfl rfl rfl ?_;unfold b391;simp -dsimp;refine qaf (λk st=>∃i:Nat,i+k=s.l.length∧i≤t.l.length∧cmpI s.l t.l=cmpI (s.l.drop i) (t.l.drop i)∧(gK 11).run st.tm=.int .i64 i∧st.h=h∧st.defs=[]) s.l.length ⟨0,by omega,by omega,rfl,by simp,rfl,rfl⟩ ?_;rintro k ⟨tm,h',defs,round⟩ ⟨i,hi,hit,hx,h11,rfl,rfl⟩ hK;have t0:=hK 0 rfl;have t1:=hK 1 rfl;have t9:=hK 9 rfl;have t10:=hK 10 rfl;simp at t0 t1 t9 t10 h11;clear hK;simp -dsimp [t10,h11];rw [qaa];refine⟨λhc=>?_,λhc=>?_⟩
 ·have c1:i<s.l.length:=by simpa using hc
  have ha:=qe6 (s:=s) (k:=.i64) (n:=(i:Int)) (by omega) (by omega);have hd:=qbu c1;simp only [Int.toNat_natCast] at ha
  by_cases c2:i<t.l.length
  rotate_left
  ·simp -dsimp [t9,t1,h11,ha,qaM,show (t.l.length:Int)≤i by omega];rw [hx,List.drop_eq_nil_of_le (by omega:t.l.length≤i),(qux (by rw [hd]; simp)).2]
  have hb:=qe6 (s:=t) (k:=.i64) (n:=(i:Int)) (by omega) (by omega);simp only [Int.toNat_natCast] at hb;have hd2:=qbu c2;simp -dsimp [t9,t1,h11,ha,hb,qaM,show ¬(t.l.length:Int)≤i by omega];refine WFS.by (qu3 (lat s.l i) (lat t.l i)) ?_
  intro v h' e;cases e;rw [hd,hd2,qu4] at hx
  by_cases d1:lat s.l i<lat t.l i
  ·simp -dsimp [d1];rw [hx,if_pos d1]
  by_cases d2:lat t.l i<lat s.l i
  ·simp -dsimp [d1,d2];rw [hx,if_neg d1,if_pos d2]
  rw [if_neg d1,if_neg d2] at hx;simp -dsimp [d1,d2,h11,fw64 (n:=(i:Int)+1) (by omega) (by omega)];exact qah.intro (k-1) (by omega) ⟨i+1,by omega,by omega,hx,by simp,rfl,rfl⟩
 ·have c1:i=s.l.length:=by simp at hc; omega
  subst c1;rw [List.drop_length] at hx
  by_cases c2:s.l.length<t.l.length
  ·simp -dsimp [t0,t1,c2];rw [hx,(qux (by intro e; have:=congrArg List.length e; simp at this; omega)).1]
  ·simp -dsimp [t0,t1,c2];rw [hx,List.drop_eq_nil_of_le (by omega)];rfl
theorem quK (l:List Int):∀q∈qab l,q.length=1∧ones q=true:=λq hq=>by
 obtain⟨z,_,rfl⟩:=List.mem_map.1 hq;exact⟨rfl,rfl⟩
theorem quE (g:Gr) {v:V}{t:List Nd}{m:Nat}(hN:NdB h ⟨v,t,m⟩) (hm:m≤h.n) (hl:t.length<1000000):WF PR d mk (.fn 392 [] []) [.agg g.cells,v] h λq=>q=⟨(slOf (qum g t)).enc qaM,h⟩:=by
 refine WF.po f392 b392 [.tm 4] rfl rfl rfl rfl rfl rfl ?_;unfold b392;have hlt:∀H,lenV .sl v H=some (.int .i64 t.length):=λH=>hN.len;have hkeep:∀H,(∀i,i<h.n→H.get i=h.get i)→NdB H ⟨v,t,m⟩:=λH hk=>hN.keep λi hi=>hk i (by simp only at hi; omega);simp -dsimp [Gr.cells,hlt];refine qaf (λk st=>∃(i:Nat) (u:V),i+k=t.length∧(gK 10).run st.tm=.int .i64 i∧(gK 5).run st.tm=u∧Own st.h (h.n+1) u 1 (qab (qum g (t.take i)))∧h.n+1≤st.h.n∧st.h.get h.n=some (.rows [[g.p.enc Pd.cells,g.keys.enc qac]])∧(∀j,j<h.n→st.h.get j=h.get j)∧st.defs=[]) t.length
  ⟨0,.nils,by omega,by simp,by simp,.inl ⟨rfl,rfl⟩,by simp,by simp,λj hj=>by simp only; rw [Heap.get_push,if_neg (by omega)],rfl⟩ ?_
 rintro k ⟨tm,H,defs,round⟩ ⟨i,u,hi,h10,h5,hO,hn,hg,hk,rfl⟩ hK;have t1:=hK 2 rfl;have t8:=hK 8 rfl;have t9:=hK 9 rfl;simp at t1 t8 t9 h10 h5;simp only at hO hn hg hk;clear hK;simp -dsimp [t9,h10];rw [qaa];refine⟨λhc=>?_,λhc=>?_⟩
 ·have c1:i<t.length:=by simpa using hc
  obtain⟨y,hy⟩:∃y,lat t i=y:=⟨_,rfl⟩;obtain⟨p,e1,e2,-⟩:=(hkeep H hk).at (k:=(i:Int)) (by omega) (by simp only; omega);simp only [Int.toNat_natCast] at e1 e2;rw [hy] at e2;have m1:h.n≤H.n:=by omega
  obtain⟨H2,hH2⟩:∃H2,(H.push (.rows [[.int .i64 0,.int .i64 0,.int .i64 0,.int .i64 0]])).set H.n (.rows [[.int .i64 y.1,.int .i64 y.2.1,.int .i64 y.2.2.1,.int .i64 y.2.2.2]])=H2:=⟨_,rfl⟩;have k2:∀j,j<H.n→H2.get j=H.get j:=λj hj=>by rw [←hH2,Heap.get_set,if_neg (by omega),Heap.get_push,if_neg (by omega)]
  have n2:H2.n=H.n+1:=by rw [←hH2]; simp
  have g2:H2.get H.n=some (.rows [[.int .i64 y.1,.int .i64 y.2.1,.int .i64 y.2.2.1,.int .i64 y.2.2.2]]):=by rw [←hH2,Heap.get_set,if_pos rfl]
  have g20:H2.get h.n=some (.rows [[g.p.enc Pd.cells,g.keys.enc qac]]):=by rw [k2 _ (by omega),hg]
  have hO2:Own H2 (h.n+1) u 1 (qab (qum g (t.take i))):=hO.ext k2 (by omega);have htk:qum g (t.take (i+1))=qum g (t.take i)++numN g y:=by rw [List.take_add_one,qaz c1,hy]; simp [qum]
  have hnl:=quA (g:=g) (t.take i);have htl:(t.take i).length≤t.length:=by rw [List.length_take]; omega
  simp -dsimp [-qar,-qnc];rw [qar];simp -dsimp [-qar,-qnc,t8,h10,e1,e2,qui,m1];rw [hH2,qar];simp -dsimp [-qar,-qnc,h5,g2];rw [qaE (xs:=qab [y.2.1]) (by simp; rfl)];obtain⟨u3,H3,a1,a2,a3,a4,a5⟩:=qaC (mk:=h.n) (bytes:=8) (xs:=qab [y.2.1]) hO2 (by omega) (quK _) (by simp; omega) (by omega) (by omega);have hs2:∀j,j<h.n+1→slId u≠some j:=λj hj=>hO2.slId hj;have hBH:slId u≠some H.n:=by
   rcases hO with ⟨rfl,_⟩|⟨id,rfl,_,_,q,_⟩
   ·simp [slId]
   ·simp [slId]; omega
  have g3:H3.get H.n=some (.rows [[.int .i64 y.1,.int .i64 y.2.1,.int .i64 y.2.2.1,.int .i64 y.2.2.2]]):=by rw [a4 _ (by omega) hBH,g2]
  have g30:H3.get h.n=some (.rows [[g.p.enc Pd.cells,g.keys.enc qac]]):=by rw [a4 _ (by omega) (hs2 _ (by omega)),g20]
  have k3:∀j,j<h.n→H3.get j=h.get j:=λj hj=>by rw [a4 _ (by omega) (hs2 _ (by omega)),k2 _ (by omega),hk j hj]
  have hO3:Own H3 (h.n+1) u3 1 (qab (qum g (t.take i)++[y.2.1])):=by simpa [qab] using a2
  simp -dsimp [-qar,-qnc];refine OpS.intro a1 ?_;simp -dsimp [-qar,-qnc];rw [qnc];have hno:∀{b:Bool},outN g y=b→b=false→qum g (t.take (i+1))=qum g (t.take i)++[y.2.1]:=λho hb=>by rw [htk,numN,ho,hb]; rfl
  by_cases d1:0≤y.1
  rotate_left
  ·simp -dsimp [g3,d1,h10,fw64 (n:=(i:Int)+1) (by omega) (by omega)];refine qah.intro (k-1) (by omega) ⟨i+1,u3,by omega,by simp,by simp,?_,by simp only; omega,g30,k3,rfl⟩;rw [hno (b:=false) (by simp [outN,d1]) rfl]; exact hO3
  by_cases d2:y.1<g.p.l.length
  rotate_left
  ·simp -dsimp [g3,g30,t1,d1,d2,h10,fw64 (n:=(i:Int)+1) (by omega) (by omega)];refine qah.intro (k-1) (by omega) ⟨i+1,u3,by omega,by simp,by simp,?_,by simp only; omega,g30,k3,rfl⟩;rw [hno (b:=false) (by simp [outN,d2]) rfl]; exact hO3
  by_cases d3:y.2.1=(lat g.p.l y.1.toNat).a.l.length
  rotate_left
  ·simp -dsimp [g3,g30,t1,d1,d2,d3,Pd.cells,h10,fw64 (n:=(i:Int)+1) (by omega) (by omega)];refine qah.intro (k-1) (by omega) ⟨i+1,u3,by omega,by simp,by simp,?_,by simp only; omega,g30,k3,rfl⟩;rw [hno (b:=false) (by simp [outN,d3]) rfl]; exact hO3
  have ho:outN g y=true:=by simp [outN,d1,d2,d3]
  have htk2:qum g (t.take (i+1))=qum g (t.take i)++[y.2.1]++[y.2.2.2]:=by rw [htk,numN,ho]; simp
  obtain⟨u4,H4,b1,b2,b3,b4,b5⟩:=qaC (mk:=h.n) (bytes:=8) (xs:=qab [y.2.2.2]) hO3 (by omega) (quK _) (by simp; omega) (by omega) (by omega);have hs3:∀j,j<h.n+1→slId u3≠some j:=λj hj=>hO3.slId hj;simp -dsimp [g3,g30,t1,d1,d2,←d3,Pd.cells];rw [qaE (xs:=qab [y.2.2.2]) (by simp; rfl)];simp -dsimp;refine OpS.intro b1 ?_;simp -dsimp [h10,fw64 (n:=(i:Int)+1) (by omega) (by omega)];refine qah.intro (k-1) (by omega) ⟨i+1,u4,by omega,by simp,by simp,?_,by simp only; omega,?_,λj hj=>?_,rfl⟩
  ·rw [htk2]; simpa [qab] using b2
  ·rw [b4 _ (by omega) (hs3 _ (by omega)),g30]
  ·rw [b4 _ (by omega) (hs3 _ (by omega)),k3 j hj]
 ·have c1:i=t.length:=by simp at hc; omega
  subst c1;rw [List.take_length] at hO;simp -dsimp [h5];exact qhL hO (by omega)
theorem qu2 (g:Gr) (hg:g.Small) {va vb:V}{a b:List Nd}{ma mb:Nat}(hA:NdB h ⟨va,a,ma⟩) (hma:ma≤h.n) (hal:a.length<1000000) (hB:NdB h ⟨vb,b,mb⟩) (hmb:mb≤h.n) (hbl:b.length<1000000) :
  WF PR d mk (.fn 385 [] []) [.agg g.cells,va,vb] h λq=>q=⟨.bool (quw g a b),h⟩:=by
 refine WF.po f385 b385 [.tm 6] rfl rfl rfl rfl rfl rfl ?_;unfold b385;have e2:[Sl.enc Pd.cells g.p,Sl.enc qac g.keys]=g.cells:=rfl;obtain⟨H,hH⟩:∃H,h.push (.rows [[g.p.enc Pd.cells,g.keys.enc qac]])=H:=⟨_,rfl⟩;have g0:H.get h.n=some (.rows [[g.p.enc Pd.cells,g.keys.enc qac]]):=by rw [←hH]; simp
 have gn:H.n=h.n+1:=by rw [←hH]; simp
 have gk:∀i,i<h.n→H.get i=h.get i:=λi hi=>by rw [←hH]; simp [show ¬i=h.n by omega]
 have hA2:NdB H ⟨va,a,ma⟩:=hA.keep λi hi=>gk i (by simp only at hi; omega);have hB2:NdB H ⟨vb,b,mb⟩:=hB.keep λi hi=>gk i (by simp only at hi; omega);simp -dsimp [Gr.cells,-qnc];rw [hH,qnc];simp -dsimp [g0];rw [e2];refine WFS.by (qfV g hg) ?_
 intro v h' e;cases e;cases hm:mayB g with
 | false =>
  simp -dsimp [g0];simp [quw,hm]
 | true =>
 simp -dsimp [g0];rw [e2];refine WFS.by (quE g hA2 (by omega) hal) ?_
 intro v h' e;cases e;simp -dsimp [g0];rw [e2];refine WFS.by (quE g hB2 (by omega) hbl) ?_
 intro v h' e;cases e;have n1:=quA (g:=g) a;have n2:=quA (g:=g) b;simp -dsimp;refine WFS.by (quM (slOf (qum g a)) (slOf (qum g b)) (by rw [quV]; omega) (by rw [quV]; omega)) ?_
 intro v h' e;cases e;simp -dsimp [g0];rw [e2];simp -dsimp [qvk];simp [quw,hm]
theorem eqNd (y z:Nd):eqv (.struct [.int,.int,.int,.int]) (.agg (qui y)) (.agg (qui z))=some (decide (y=z)):=by
 obtain⟨y1,y2,y3,y4⟩:=y;obtain⟨z1,z2,z3,z4⟩:=z;simp [eqv,okKs,SK.ok,qui,eqL,eq1,ikB,qek]
theorem quR {va vb:V}{a b:List Nd}{ma mb:Nat}(hA:NdB h ⟨va,a,ma⟩) (hma:ma≤h.n) (hal:a.length<1000000) (hB:NdB h ⟨vb,b,mb⟩) (hmb:mb≤h.n) :
  WF PR d mk (.fn 384 [] []) [va,vb] h λq=>q=⟨.bool (decide (a=b)),h⟩:=by
 refine WF.po f384 b384 [.tm 4] rfl rfl rfl rfl rfl rfl ?_;unfold b384;have hla:∀H,lenV .sl va H=some (.int .i64 a.length):=λH=>hA.len;have hlb:∀H,lenV .sl vb H=some (.int .i64 b.length):=λH=>hB.len
 by_cases c0:a.length=b.length
 rotate_left
 ·have:¬a=b:=λe=>c0 (by rw [e]);simp -dsimp [hla,hlb,c0,show ¬((a.length:Int)=b.length) by omega,this]
 simp -dsimp [hla,hlb,c0];refine qaf (λk st=>∃i:Nat,i+k=b.length∧a.take i=b.take i∧(gK 5).run st.tm=.int .i64 i∧st.h=h∧st.defs=[]) b.length ⟨0,by omega,rfl,by simp,rfl,rfl⟩ ?_;rintro k ⟨tm,h',defs,round⟩ ⟨i,hi,hx,h5,rfl,rfl⟩ hK;have t0:=hK 0 rfl;have t1:=hK 1 rfl;simp at t0 t1 h5;clear hK;simp only at hA hB hma hmb;simp -dsimp [t0,h5,hla,c0];rw [qaa];refine⟨λhc=>?_,λhc=>?_⟩
 ·have c1:i<b.length:=by simpa using hc
  have c2:i<a.length:=by omega
  obtain⟨p,e1,e2,-⟩:=hA.at (k:=(i:Int)) (by omega) (by simp only; omega);obtain⟨q,f1,f2,-⟩:=hB.at (k:=(i:Int)) (by omega) (by simp only; omega);simp only [Int.toNat_natCast] at e1 e2 f1 f2;obtain⟨y,hy⟩:∃y,lat a i=y:=⟨_,rfl⟩;obtain⟨z,hz⟩:∃z,lat b i=z:=⟨_,rfl⟩;rw [hy] at e2;rw [hz] at f2
  by_cases d1:y=z
  ·have ht:a.take (i+1)=b.take (i+1):=by rw [List.take_add_one,List.take_add_one,hx,qaz c1,qaz c2,hy,hz,d1]
   simp -dsimp [t0,t1,h5,e1,e2,f1,f2,eqNd,d1,fw64 (n:=(i:Int)+1) (by omega) (by omega)];exact qah.intro (k-1) (by omega) ⟨i+1,by omega,ht,by simp,rfl,rfl⟩
  ·have:¬a=b:=λe=>d1 (by rw [←hy,←hz,e]);simp -dsimp [t0,t1,h5,e1,e2,f1,f2,eqNd,d1,this]
 ·have c1:i=b.length:=by simp at hc; omega
  have:a=b:=by
   rw [c1,List.take_length,←c0,List.take_length] at hx;exact hx
  simp -dsimp;exact this
end
theorem validWhole_ok (hA:Awake 381) (x:Ev) (hx:x.Ok) (hkl:x.g.keys.l.length<1000000000) (s:Sl UInt8) (hs:x.w=⟨s.enc qak,s.l,0⟩) (t u:Sl Nd) :
  WF PR false 0 (.fn 377 [] []) [.agg x.cells,t.enc qui,u.enc qui] ⟨0,.e⟩ λr=>r.v=.bool true:=by
 refine WF.go f377 b377 [.tm 6] rfl rfl rfl rfl rfl rfl ?_;unfold b377;have hB0:∀H,WB H x.w:=λH=>.inl ⟨s,by rw [hs],by rw [hs]⟩;have hlw:∀H,lenV .sl x.w.v H=some (.int .i64 x.w.l.length):=λH=>(hB0 H).len;have hxc:[x.g.p.enc Pd.cells,x.g.keys.enc qac,x.w.v,.int .i64 x.tab,.bool x.heal]=x.cells:=rfl;have hgc:[x.g.p.enc Pd.cells,x.g.keys.enc qac]=x.g.cells:=rfl;have hm0:x.w.m=0:=by rw [hs]
 simp -dsimp [-qar];rw [qar];simp -dsimp [Ev.cells,-qar];rw [hxc,qar];simp -dsimp [-qar];refine WFS.by (hA _ _ _ (Nat.zero_le _)) ?_
 intro v h' e;cases e;obtain⟨h1,hh1⟩:∃h1,(Heap.push ⟨0,.e⟩ (Obj.rows [x.cells]):Heap)=h1:=⟨_,rfl⟩;have g1:h1.get 0=some (.rows [[x.g.p.enc Pd.cells,x.g.keys.enc qac,x.w.v,.int .i64 x.tab,.bool x.heal]]):=by rw [←hh1]; simp; rfl
 have n1:h1.n=1:=by rw [←hh1]; simp
 rw [hh1];simp -dsimp [-qar];rw [qar];simp -dsimp [g1,-qar];rw [hxc];refine WFS.by (qe5 x hx.few (hB0 _)) ?_
 rintro v h' ⟨e0,b,e1,hb⟩;simp only at e0 e1;subst e0 e1;cases b with
 | false=>simp -dsimp
 | true =>
 obtain⟨hp16,hw16⟩:=hb rfl;have hS:EvS x:=⟨hx.g.toSmall,hkl,by omega⟩;have hNt:∀H,NdB H ⟨t.enc qui,t.l,0⟩:=λH=>.inl ⟨t,rfl,rfl⟩;have hNu:∀H,NdB H ⟨u.enc qui,u.l,0⟩:=λH=>.inl ⟨u,rfl,rfl⟩;have hlt:∀H,lenV .sl (t.enc qui) H=some (.int .i64 t.l.length):=λH=>by simp
 by_cases c1:(12:Int)<x.w.l.length
 ·simp -dsimp [g1,hlw,c1]
 by_cases c2:(100:Int)<t.l.length
 ·simp -dsimp [g1,hlw,c1,c2]
 by_cases c3:(100:Int)<u.l.length
 ·simp -dsimp [g1,hlw,c1,c2,c3]
 simp -dsimp [g1,hlw,c1,c2,c3];rw [hxc];refine WFS.by (quq hS hx.g hx.r (hB0 _) (by omega) (hNt _) (Nat.zero_le _) (by omega)) ?_
 intro v h' e;cases e;cases hv:quk x t.l with
 | false=>simp -dsimp
 | true =>
 simp -dsimp [g1];rw [hxc];refine WFS.by (quq hS hx.g hx.r (hB0 _) (by omega) (hNu _) (Nat.zero_le _) (by omega)) ?_
 intro v h' e;cases e;cases hv2:quk x u.l with
 | false=>simp -dsimp
 | true =>
 simp -dsimp;refine WFS.by (quR (hNt _) (Nat.zero_le _) (by omega) (hNu _) (Nat.zero_le _)) ?_
 intro v h' e;cases e;simp -dsimp [g1];rw [hgc];refine WFS.by (qu2 x.g hS.g (hNt _) (Nat.zero_le _) (by omega) (hNu _) (Nat.zero_le _) (by omega)) ?_
 intro v h' e;cases e;simp -dsimp [g1];rw [hgc];refine WFS.by (qu2 x.g hS.g (hNu _) (Nat.zero_le _) (by omega) (hNt _) (Nat.zero_le _) (by omega)) ?_
 intro v h' e;cases e;have hmay:=(qup.1 hv).1;have hmb:mayB x.g=true:=(qbq hmay).m
 by_cases c4:t.l=u.l
 ·have hll:quw x.g u.l u.l=false:=by simp [quw,quN]
  simp -dsimp [c4,hll]
 have hdiff:(quw x.g t.l u.l != quw x.g u.l t.l)=true:=by
  have hne:qum x.g t.l≠qum x.g u.l:=λe=>c4 (quT hv hv2 e);unfold quw;rw [hmb,Bool.true_and,Bool.true_and];cases a:ltI (qum x.g t.l) (qum x.g u.l) with
  | true=>rw [quJ a]; rfl
  | false =>
   cases b:ltI (qum x.g u.l) (qum x.g t.l) with
   | true=>rfl
   | false=>exact absurd (quO a b) hne
 have hpre:∀{a b:List Nd}{n:Nat},quk x a=true→quk x b=true→a≠b→a.take n=b.take n→n≤a.length→n<a.length:=λ{a b n} ha hb hab he hn=>by
  rcases Nat.lt_or_eq_of_le hn with h|h
  ·exact h
  ·exfalso;rw [h,List.take_length] at he;have hbb:b=a++b.drop a.length:=by
    have:=List.take_append_drop a.length b;rw [←he] at this;exact this.symm
   rw [hbb] at hb;have:=quH ha hb;rw [this,List.append_nil] at hbb;exact hab hbb.symm
 simp -dsimp [c4];refine qvg (λo st=>o=.normal∧∃n:Nat,(gK 12).run st.tm=.int .i64 n∧n<t.l.length∧n<u.l.length∧(gK 1).run st.tm=t.enc qui∧(gK 2).run st.tm=u.enc qui∧(gK 10).run st.tm=.bool (quw x.g t.l u.l)∧(gK 11).run st.tm=.bool (quw x.g u.l t.l)∧st.defs=[]) ?_ ?_
 ·refine qaf (λk st=>∃i:Nat,i+k=t.l.length∧i≤u.l.length∧t.l.take i=u.l.take i∧(gK 12).run st.tm=.int .i64 i∧st.h=h'∧st.defs=[]) t.l.length ⟨0,by omega,by omega,rfl,by simp,rfl,rfl⟩ ?_;rintro k ⟨tm,H2,defs,round⟩ ⟨i,hi,hiu,htk,h12,rfl,rfl⟩ hK;have t1:=hK 1 rfl;have t2:=hK 2 rfl;have t10:=hK 10 rfl;have t11:=hK 11 rfl;simp at t1 t2 t10 t11 h12;clear hK;have d1:i<t.l.length:=hpre hv hv2 c4 htk (by omega);have d2:i<u.l.length:=hpre hv2 hv (λe=>c4 e.symm) htk.symm (by omega);obtain⟨p,e1,e2,-⟩:=(hNt H2).at (k:=(i:Int)) (by omega) (by simp only; omega);obtain⟨q,f1,f2,-⟩:=(hNu H2).at (k:=(i:Int)) (by omega) (by simp only; omega);simp only [Int.toNat_natCast] at e1 e2 f1 f2;simp -dsimp [h12,t1,t2,d1,d2,e1,e2,f1,f2,eqNd];rw [qaa];refine⟨λhc=>?_,λhc=>?_⟩
  ·have hc1:lat t.l i=lat u.l i:=by simpa using hc
   simp -dsimp [h12,fw64 (n:=(i:Int)+1) (by omega) (by omega)];refine qah.intro (k-1) (by omega) ⟨i+1,by omega,by omega,?_,by simp,rfl,rfl⟩;rw [List.take_add_one,List.take_add_one,htk,qaz d1,qaz d2,hc1]
  ·simp -dsimp;exact⟨i,by simp [h12],d1,d2,by simp [t1],by simp [t2],by simp [t10],by simp [t11]⟩
 ·rintro o ⟨tm,H2,defs,round⟩ ⟨rfl,n,h12,d1,d2,t1,t2,t10,t11,rfl⟩;simp only at h12 t1 t2 t10 t11;have hq:eqv .bool (.bool (quw x.g t.l u.l)) (.bool (quw x.g u.l t.l))=some false:=by
   have:(quw x.g t.l u.l == quw x.g u.l t.l)=false:=by simpa [bne] using hdiff
   simp only [eqv,this]
  simp -dsimp [t10,t11,hq,h12,t1,t2,d1,d2]
end Go.Abs

