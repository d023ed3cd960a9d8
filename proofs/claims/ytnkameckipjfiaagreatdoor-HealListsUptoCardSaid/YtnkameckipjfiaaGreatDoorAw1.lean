/- The law's first call, run by the kernel. -/
import Derived.Test.YtnkameckipjfiaaGreatDoorAc4
set_option linter.unusedSimpArgs false
set_option linter.unusedVariables false
namespace Go.Abs
open Go Pr
set_option maxRecDepth 100000
def haX:List V:=haV++[.sl 1 0 6 1 true,.int .i64 8,.bool false]
def haB1:Heap:=((⟨0,.e⟩:Heap).push (.rows [[.nils,.nils]])).set 0 (.rows [haV])
def haB2:Heap:=haB1.push (.rows [[.int .u8 121],[.int .u8 59],[.int .u8 10],[.int .u8 120],[.int .u8 59],[.int .u8 10]])
def haB3:Heap:=(haB2.push (.rows [[.nils,.nils,.nils,.int .i64 0,.bool false]])).set 2 (.rows [haX])
theorem haDg:(λid b=>qyr (haE id b) qyK)=λ_ _=>[(0,0,0)]:=by kernel_rfl
theorem qyP:(haE 1 false).cells=haX:=rfl
theorem haHsz (id:Nat):∀n k:Int,0<=n->n<(haE id true).g.p.l.length->0<=k->k<=(haE id true).w.l.length->∀e∈(qaL (haE id true) n k (-1)).2,(lstN (haE id true) n k e.1 (-1) e.2).length<1000000 :=
 qyJ (qbq (qxy (x:=haN) (y:=haE id true) haMay rfl rfl (show (6:Nat)<=200 by decide))) (show (6:Nat)<=200 by decide) (show haG.p.l.length=3 by decide) (qze id true)
  (show ∀i:Nat,i<haG.p.l.length->∀a∈(lat haG.p.l i).a.l,1+sumZ hlA a.l<=hlA i+(3:Nat) * cntT a.l by decide)
  (λa ha=>by
   have:a=Sl.of [sy1 120,sy1 59,sy1 10]:=by simpa using (show a∈[Sl.of [sy1 120,sy1 59,sy1 10]] from ha)
   subst this;exact⟨_,_,rfl,by show ¬(0:Int)=2; decide⟩)
theorem qzs {x:Opd}{id lo len e mk:Nat}{f:Bool}{tm:Tm}{h:Heap}(hx:x.ev tm=.sl id lo len e f) (h0:0<len) (hg:(h.get id).isSome=true):(qay (.same x)).run mk tm h=some ⟨.sl id lo len e f,h⟩:=by
 simp [qay,hx,hg,h0]
theorem qy5:Awake0 427:=λd=>by
 have n0:(⟨0,.e⟩:Heap).n=0:=rfl;refine qBt f427 b427 [.tm 0] rfl rfl rfl rfl rfl rfl ?_;unfold b427;simp -dsimp [n0,-qar];rw [qar];simp -dsimp [n0,-qar];rw [qar];simp -dsimp [n0,-qar];refine qBr (qB9 qda runHa) ?_
 intro v h' e;cases e;have lg:haV.length=2:=rfl;have og:ones haV=true:=rfl;have tg:List.take 2 haV=haV:=rfl;have pg:qbW [.nils,.nils] 0 haV=haV:=rfl;simp -dsimp [n0,lg,og,-qar];rw [pg,qar];simp -dsimp [n0,lg,og,tg,-qar];have hg1:(((⟨0,.e⟩:Heap).push (Obj.rows [[V.nils,V.nils]])).set 0 (Obj.rows [haV])).push (.rows [[.int .u8 121],[.int .u8 59],[.int .u8 10],[.int .u8 120],[.int .u8 59],[.int .u8 10]])=haB2:=rfl;rw [hg1];have gb:haB2.get 1=some (.rows [[.int .u8 121],[.int .u8 59],[.int .u8 10],[.int .u8 120],[.int .u8 59],[.int .u8 10]]):=rfl;refine OpS.intro (qzs (id:=1) (lo:=0) (len:=6) (e:=1) (f:=true) (by simp) (by omega) (by rw [gb]; rfl)) ?_;have nw:haB2.n=2:=rfl;have px0:qbW [.nils,.nils,.nils,.int .i64 0,.bool false] 0 haV=haV++[V.nils,V.int .i64 0,V.bool false]:=rfl;have px1:(haV++[V.nils,V.int .i64 0,V.bool false]).length=5:=rfl;have px2:(((haV++[V.nils,V.int .i64 0,V.bool false]).set 2 (.sl 1 0 6 1 true)).set 3 (.int .i64 8))=haX:=rfl;have lx:haX.length=5:=rfl;have ox:ones haX=true:=rfl;have tx:List.take 5 haX=haX:=rfl;have pxx:qbW [.nils,.nils,.nils,.int .i64 0,.bool false] 0 haX=haX:=rfl;simp -dsimp [n0,nw,lg,px0,px1,px2,lx,ox,-qar];have hh:(haB2.push (Obj.rows [[V.nils,V.nils,V.nils,V.int IntKind.i64 0,V.bool false]])).set 2 (Obj.rows [haX])=haB3:=rfl;have hxe:haV++[V.sl 1 0 6 1 true,V.int .i64 8,V.bool false]=haX:=rfl;have gx:haB3.get 2=some (.rows [haX]):=rfl;rw [hxe];simp -dsimp [ox,-qar];rw [pxx,hh,qar];simp -dsimp [gx,tx,lx,-qar];have hW:WB haB3 (haE 1 false).w:=.inr ⟨1,0,true,_,rfl,(show haB3.get 1=some (.rows [[.int .u8 121],[.int .u8 59],[.int .u8 10],[.int .u8 120],[.int .u8 59],[.int .u8 10]]) from rfl),by decide,rfl,Nat.lt_succ_self _⟩;have hm:(haE 1 false).w.m<=haB3.n:=show (2:Nat)<=3 by decide
 have hS:EvS (haE 1 false):=⟨qyY.toSmall,show (0:Nat)<1000000000 by decide,show (6:Nat)<1000000 by decide⟩;have hMy:∀b,mayE (haE 1 b)=true:=λb=>qxy (x:=haN) haMay rfl rfl (show (6:Nat)<=200 by decide);have hrun:=congrFun haRun 1;simp only [Prod.mk.injEq] at hrun;obtain⟨r1,r2⟩:=hrun;have hend:((((haE 1 false).w.l.length:Int),(1:Int)):En)∈(qaL (haE 1 true) 0 0 (-1)).2:=by
  rw [qxt (qbq (hMy true)) (qze 1 true) 0 0 (Int.le_refl 0) (show (0:Int)<(haG.p.l.length:Nat) by decide) (Int.le_refl 0) (show (0:Int)<=(6:Nat) by decide)];obtain⟨e,he,h2⟩:=List.any_eq_true.1 r1;have:=of_decide_eq_true h2;rw [show ((((haE 1 false).w.l.length:Int),(1:Int)):En)=(6,1) from rfl,<-this];exact he
 have htr:lstN (haE 1 true) 0 0 (haE 1 false).w.l.length (-1) 1=qyK:=by
  rw [<-r2];exact qyk (qbq (hMy true)) (qze 1 true) (Lk:=qxu (haE 1 true) (-1)) (qxt (qbq (hMy true)) (qze 1 true)) 6 1 (Int.le_refl 0) (show (0:Int)<(haG.p.l.length:Nat) by decide) (Int.le_refl 0) (show (0:Int)<=(6:Nat) by decide)
 have hD:∀b,qyr (haE 1 b) qyK=[(0,0,0)]:=λb=>congrFun (congrFun haDg 1) b;have hT:=qyD (d:=false) (mk:=0) (h:=haB3) hS qyY haRg hW hm (y:=haE 1 true) rfl (hMy true) (qze 1 true) (haHsz 1) hend htr (by decide);rw [qyP,hD true] at hT;refine qBr hT ?_
 rintro v h' ⟨f1,s,hs,f2⟩;simp only at f1 f2;subst f1 f2;have hsl:∀H,lenV .sl (s.enc qui) H=some (.int .i64 6):=λH=>by simp [hs,qyK]
 have hdl:∀H,lenV .sl ((slD [(0,0,0)]).enc qyo) H=some (.int .i64 1):=λH=>by simp
 have hia:qaw 3 ((slD [(0,0,0)]).enc qyo) (.int .i64 0)=some (.ptrR [.int .i64 0,.int .i64 0,.int .i64 0] 0):=rfl;have heq:eqv (.struct [.int,.int,.int]) (.agg [.int .i64 0,.int .i64 0,.int .i64 0]) (.agg [.int .i64 0,.int .i64 0,.int .i64 0])=some true:=by
  simp [eqv,okKs,SK.ok,eqL,eq1,qek,ikB]
 simp -dsimp [hsl,hdl,hia,heq,eqoV,gx,tx,lx];have hN:NdB haB3 ⟨s.enc qui,qyK,0⟩:=.inl ⟨s,rfl,hs⟩;have hDi:=qyZ (d:=false) (mk:=0) (h:=haB3) hS qyY hW hm (hMy false) hN (Nat.zero_le _) (by decide);rw [qyP,hD false] at hDi;refine qBr hDi ?_
 intro v h5 e;cases e;simp -dsimp [hdl]
theorem qyH:∀(l:List Bool) (b:Bool),qyn (l++[b])=qyn l++[if b then 120 else 63,10]
 | [],b=>rfl
 | a::l,b=>by
  show (if a then (120:UInt8) else 63)::10::qyn (l++[b])=_;rw [qyH l b]; rfl
def TxM (b:List Bool) (v:V) (h:Heap):Prop:=h.get 0=some (.rows [hlV])/\Own h 1 v 1 ((qyn b).map qak)/\1<=h.n
theorem TxM.add {b:List Bool}{c:Bool}{v:V}{h:Heap}(hT:TxM b v h) (hb:b.length<1000):∃v' h',qaj 0 h 1 1 v [[.int .u8 (if c then 120 else 63)],[.int .u8 10]]=some ⟨v',h'⟩/\TxM (b++[c]) v' h':=by
 obtain⟨h0,hO,hn⟩:=hT;have hl:=qyq b;obtain⟨v3,H3,a1,a2,a3,a4,a5⟩:=qaC (mk:=0) (bytes:=1) (xs:=[[V.int .u8 (if c then 120 else 63)],[V.int .u8 10]]) hO (Nat.zero_le _) (λq hq=>by
  simp only [Jag,List.not_mem_nil,or_false] at hq;rcases hq with rfl|rfl<;>exact⟨rfl,rfl⟩) (by simp; omega) (by omega) hn
 refine⟨v3,H3,a1,by rw [a4 0 (by omega) (hO.slId (by omega)),h0],?_,by omega⟩;rw [qyH];have e:(qyn b).map qak++[[V.int .u8 (if c then 120 else 63)],[V.int .u8 10]]=(qyn b++[if c then 120 else 63,10]).map qak:=by
  rw [List.map_append]; cases c<;>rfl
 rw [<-e]; exact a2
def qAO (l:List Bool):Nat->Nat
 | 0=>0
 | i+1=>qAO l i+if lat l i=false/\(i=0\/lat l (i-1)=true) then 1 else 0
def qAN (l:List Bool):Nat->Nat
 | 0=>0
 | i+1=>qAN l i+if lat l i=false then 1 else 0
theorem qAT (l:List Bool):∀i,qAO l i<=i/\qAN l i<=i
 | 0=>⟨Jac _,Jac _⟩
 | i+1=>by
  obtain⟨a,b⟩:=qAT l i;rw [qAO,qAN];constructor
  ·split<;>omega
  ·split<;>omega
theorem qAQ {l:List Bool}:∀{i:Nat},(∀m,m<i->lat l m=true)->qAN l i=0/\qAO l i=0
 | 0,_=>⟨rfl,rfl⟩
 | i+1,h=>by
  obtain⟨a,b⟩:=qAQ (i:=i) λm hm=>h m (by omega);rw [qAO,qAN,a,b,h i (by omega)];simp
theorem qAR {l:List Bool}{i:Nat}:∀{j:Nat},i<=j->qAN l i<=qAN l j/\qAO l i<=qAO l j
 | 0,h=>by
  have:i=0:=by omega
  subst this; exact⟨Jac _,Jac _⟩
 | j+1,h=>by
  rcases Nat.lt_or_eq_of_le h with c|c
  ·obtain⟨a,b⟩:=qAR (l:=l) (i:=i) (j:=j) (by omega);rw [qAN,qAO]; omega
  ·subst c; exact⟨Jac _,Jac _⟩
theorem qAS {l:List Bool}{k n:Nat}(hk:k<n) (h1:∀m,m<k->lat l m=true) (h2:lat l k=false):1<=qAN l n/\1<=qAO l n:=by
 have hw:1<=qAN l (k+1)/\1<=qAO l (k+1):=by
  have h3:k=0\/lat l (k-1)=true:=by
   cases k with
   | zero=>exact .inl rfl
   | succ k=>exact .inr (h1 k (by omega))
  rw [qAN,qAO,Jab h2,Jab ⟨h2,h3⟩];omega
 have:=qAR (l:=l) (i:=k+1) (j:=n) (by omega);omega
theorem dg_fit {l:List Bool}{D:List Dg}(h:DgQ l D):D.length<=1/\D.length<=qAN l l.length/\D.length<=qAO l l.length/\(D.length=0↔qAN l l.length=0)/\∀q:Nat,q<D.length->∃k:Nat,k<l.length/\lat D q=((2 * k:Int),(k:Int),0):=by
 rcases h with ⟨a,rfl⟩|⟨k,a,b,⟨m,m1,m2⟩,rfl⟩
 ·obtain⟨c,d⟩:=qAQ a;exact⟨by simp,by simp,by simp,by simp [c],λq hq=>by simp at hq⟩
 ·
  have key:∃f,f<l.length/\(∀m,m<f->lat l m=true)/\lat l f=false:=by
   have:∀n,(∃m,m<n/\lat l m=false)->∃f,f<n/\(∀m,m<f->lat l m=true)/\lat l f=false:=by
    intro n;induction n with
    | zero=>rintro⟨m,h,_⟩; omega
    | succ n ih =>
     rintro⟨m,h1,h2⟩
     by_cases c:∃m,m<n/\lat l m=false
     ·obtain⟨f,f1,f2,f3⟩:=ih c;exact⟨f,by omega,f2,f3⟩
     ·refine⟨m,h1,λq hq=>?_,h2⟩;cases hb:lat l q with
      | true=>rfl
      | false=>exact absurd ⟨q,by omega,hb⟩ c
   exact this _ ⟨m,m1,m2⟩
  obtain⟨f,f1,f2,f3⟩:=key;obtain⟨w1,w2⟩:=qAS f1 f2 f3;refine⟨by simp,by simp; omega,by simp; omega,by simp; omega,λq hq=>⟨k,a,?_⟩⟩;have:q=0:=by simpa using hq
  subst this; rfl
theorem healLists_ok (l:Sl Bool) (hl:l.l.length<=1048576):WF PR false 0 (.fn 424 [] []) [l.enc qAP] ⟨0,.e⟩ λr=>r.v=.bool true:=by
 refine WF.go f424 b424 [.tm 2] rfl rfl rfl rfl rfl rfl ?_;unfold b424;simp -dsimp [-qar];rw [qar];simp -dsimp [-qar];rw [qar];simp -dsimp [-qar];refine qBr (qy5 _) ?_
 intro v h' e;cases e;simp -dsimp [-qar];rw [qar];simp -dsimp [-qar];refine qBr (qB9 qda runHl) ?_
 intro v h' e;cases e;have lg:hlV.length=2:=rfl;have og:ones hlV=true:=rfl;have tg:List.take 2 hlV=hlV:=rfl;have pg:qbW [.nils,.nils] 0 hlV=hlV:=rfl;simp -dsimp [lg,og,-qar];rw [pg];obtain⟨H,hH⟩:∃H,(((⟨0,.e⟩:Heap).push (.rows [[.nils,.nils]])).set 0 (.rows [hlV]))=H:=⟨_,rfl⟩;have gn:H.n=1:=by rw [<-hH]; rfl
 have g0:H.get 0=some (.rows [hlV]):=by rw [<-hH]; rfl
 have hll:∀H,lenV .sl (l.enc qAP) H=some (.int .i64 l.l.length):=λH=>by simp
 rw [hH]
 by_cases c1:8<l.l.length
 ·simp -dsimp [hll,show (8:Int)<l.l.length by omega]
 have c2:¬(8:Int)<l.l.length:=by omega
 have hia:∀i:Nat,i<l.l.length->qaw 1 (l.enc qAP) (.int .i64 i)=some (.ptrR [.bool (lat l.l i)] 0):=λi hi=>by
  have:=qap (f:=qAP) (s:=l) (esz:=1) (k:=.i64) (n:=(i:Int)) (by omega) (by omega) (λ_=>rfl);rw [this]; rfl
 simp -dsimp [hll,c2];refine qvg (λo st=>o=.normal/\∃v,TxM l.l v st.h/\st.defs=[]/\(gK 0).run st.tm=l.enc qAP/\(gK 7).run st.tm=v/\(gK 4).run st.tm=.ptr 0 0 0/\(gK 6).run st.tm=.int .i64 0) ?_ ?_
 ·refine qaf (λm st=>∃(i:Nat) (v:V),i+m=l.l.length/\(gK 8).run st.tm=.int .i64 i/\(gK 7).run st.tm=v/\TxM (l.l.take i) v st.h/\st.defs=[]) l.l.length
   ⟨0,.nils,by omega,by simp,by simp,⟨g0,.inl ⟨rfl,by simp [qyn]⟩,by simp only; omega⟩,rfl⟩ ?_
  rintro m ⟨tm,h,defs,round⟩ ⟨i,v,hi,t8,t7,hT,rfl⟩ hK';have t0:=hK' 0 rfl;have t4:=hK' 4 rfl;have t6:=hK' 6 rfl;simp at t0 t4 t6 t8 t7;simp only at hT;clear hK';simp -dsimp [t0,t8,hll];rw [qaa];refine⟨λhc=>?_,λhc=>?_⟩
  ·have d1:i<l.l.length:=by simpa using hc
   obtain⟨v',h',a1,a2⟩:=hT.add (c:=lat l.l i) (by rw [List.length_take]; omega);have hr:l.l.take (i+1)=l.l.take i++[lat l.l i]:=by rw [Jap,qaz d1]; rfl
   rw [<-hr] at a2;cases hb:lat l.l i with
   | true =>
    rw [hb] at a1;simp only [if_true] at a1;simp -dsimp [t8,t0,hia i d1,hb];rw [qaE (xs:=[[.int .u8 120],[.int .u8 10]]) (by simp [qal])];simp -dsimp [t7];refine OpS.intro a1 ?_;simp -dsimp [t8,fw64 (n:=(i:Int)+1) (by omega) (by omega)];exact qah.intro (m-1) (by omega) ⟨i+1,v',by omega,by simp,by simp,a2,rfl⟩
   | false =>
    rw [hb] at a1;simp only [Jan,if_false] at a1;simp -dsimp [t8,t0,hia i d1,hb];rw [qaE (xs:=[[.int .u8 63],[.int .u8 10]]) (by simp [qal])];simp -dsimp [t7];refine OpS.intro a1 ?_;simp -dsimp [t8,fw64 (n:=(i:Int)+1) (by omega) (by omega)];exact qah.intro (m-1) (by omega) ⟨i+1,v',by omega,by simp,by simp,a2,rfl⟩
  ·have d1:i=l.l.length:=by simp at hc; omega
   subst d1;rw [List.take_length] at hT;simp -dsimp;exact⟨v,hT,t0,t7,t4,t6⟩
 ·rintro o' ⟨tm,h,defs,round⟩ ⟨rfl,v,⟨h0,hO,hn⟩,rfl,t0,t7,t4,t6⟩;simp only at h0 hO hn t0 t7 t4 t6;have hvc:=hO.cells;have px0:qbW [.nils,.nils,.nils,.int .i64 0,.bool false] 0 hlV=hlV++[V.nils,V.int .i64 0,V.bool false]:=rfl;have px1:(hlV++[V.nils,V.int .i64 0,V.bool false]).length=5:=rfl;have px2:∀v:V,qbW (hlV++[V.nils,V.int .i64 0,V.bool false]) 2 [v]=hlV++[v,V.int .i64 0,V.bool false]:=λ_=>rfl;have px3:∀v:V,qbW (hlV++[v,V.int .i64 0,V.bool false]) 3 [V.int .i64 8]=hlV++[v,V.int .i64 8,V.bool false]:=λ_=>rfl;simp -dsimp [t4,t7,h0,tg,lg,hvc.1,hvc.2,px0,px1,px2,px3];have hT:=qzb (v:=v) (m:=h.n) (l:=l.l) (d:=false) (mk:=0) (h:=h) (by omega) hO.wb (Jac _);refine qBr hT ?_
  rintro v2 h2 ⟨f1,s,D,hD,f2⟩;simp only at f1 f2;subst f1 f2;obtain⟨e1,e2,e3,e4,e5⟩:=dg_fit hD;have hdl:∀H,lenV .sl ((slD D).enc qyo) H=some (.int .i64 D.length):=λH=>by simp
  simp -dsimp [t6];refine qvg (λo st=>o=.normal/\st.h=h2/\st.defs=[]/\(gK 0).run st.tm=l.enc qAP/\(gK 11).run st.tm=(slD D).enc qyo/\(gK 13).run st.tm=.int .i64 (qAN l.l l.l.length:Nat)/\(gK 14).run st.tm=.int .i64 (qAO l.l l.l.length:Nat)) ?_ ?_
  ·refine qaf (λm st=>∃i:Nat,i+m=l.l.length/\(gK 15).run st.tm=.int .i64 i/\(gK 13).run st.tm=.int .i64 (qAN l.l i:Nat)/\(gK 14).run st.tm=.int .i64 (qAO l.l i:Nat)/\st.h=h2/\st.defs=[]) l.l.length
    ⟨0,by omega,by simp,by simp [qAN],by simp [qAO],rfl,rfl⟩ ?_
   rintro m ⟨tm2,h,defs,round2⟩ ⟨i,hi,t15,t13,t14,rfl,rfl⟩ hK';have u0:=hK' 0 rfl;have u11:=hK' 11 rfl;simp [t0] at u0 u11 t15 t13 t14;clear hK';simp -dsimp [u0,t15,hll];rw [qaa];refine⟨λhc=>?_,λhc=>?_⟩
   ·have d1:i<l.l.length:=by simpa using hc
    have hrl:=qAT l.l i;cases hb:lat l.l i with
    | true =>
     have w1:qAN l.l (i+1)=qAN l.l i:=by rw [qAN,hb]; simp
     have w2:qAO l.l (i+1)=qAO l.l i:=by rw [qAO,hb]; simp
     simp -dsimp [t15,u0,hia i d1,hb,fw64 (n:=(i:Int)+1) (by omega) (by omega)];exact qah.intro (m-1) (by omega) ⟨i+1,by omega,by simp,by rw [w1]; simpa using t13,by rw [w2]; simpa using t14,rfl,rfl⟩
    | false =>
     have w1:qAN l.l (i+1)=qAN l.l i+1:=by rw [qAN,hb]; simp
     have f1:fw .i64 ((qAN l.l i:Int)+1)=((qAN l.l i+1:Nat):Int):=by rw [fw64 (by omega) (by omega)]; rfl
     have f2:fw .i64 ((qAO l.l i:Int)+1)=((qAO l.l i+1:Nat):Int):=by rw [fw64 (by omega) (by omega)]; rfl
     have f3:fw .i64 ((i:Int)+1)=((i+1:Nat):Int):=by rw [fw64 (by omega) (by omega)]; rfl
     by_cases cz:i=0
     ·have w2:qAO l.l (i+1)=qAO l.l i+1:=by rw [qAO,hb,cz]; simp
      have cz':(i=0)=True:=eq_true cz;simp -dsimp [t15,t13,t14,u0,hia i d1,hb,f1,f2,f3,cz'];exact qah.intro (m-1) (by omega) ⟨i+1,by omega,by simp,by rw [w1]; simp,by rw [w2]; simp,rfl,rfl⟩
     ·have cz':(i=0)=False:=eq_false cz;have f4:fw .i64 ((i:Int)-1)=((i-1:Nat):Int):=by rw [fw64 (by omega) (by omega)]; omega
      cases hb2:lat l.l (i-1) with
      | true =>
       have w2:qAO l.l (i+1)=qAO l.l i+1:=by rw [qAO,hb,hb2]; simp
       simp -dsimp [t15,t13,t14,u0,hia i d1,hia (i-1) (by omega),hb,hb2,f1,f2,f3,f4,cz'];exact qah.intro (m-1) (by omega) ⟨i+1,by omega,by simp,by rw [w1]; simp,by rw [w2]; simp,rfl,rfl⟩
      | false =>
       have w2:qAO l.l (i+1)=qAO l.l i:=by rw [qAO,hb,hb2]; simp [cz]
       simp -dsimp [t15,t13,t14,u0,hia i d1,hia (i-1) (by omega),hb,hb2,f1,f2,f3,f4,cz'];exact qah.intro (m-1) (by omega) ⟨i+1,by omega,by simp,by rw [w1]; simp,by rw [w2]; simpa using t14,rfl,rfl⟩
   ·have d1:i=l.l.length:=by simp at hc; omega
    subst d1;simp -dsimp;exact⟨u0,u11,t13,t14⟩
  ·rintro o' ⟨tm2,h,defs,round2⟩ ⟨rfl,rfl,rfl,u0,u11,u13,u14⟩;simp only at u0 u11 u13 u14;simp -dsimp;have hiaD:∀q:Nat,q<D.length->qaw 3 ((slD D).enc qyo) (.int .i64 q)=some (.ptrR (qyo (lat D q)) 0):=λq hq=>by
    have:=qap (f:=qyo) (s:=slD D) (esz:=3) (k:=.i64) (n:=(q:Int)) (by omega) (by rw [slD_l]; omega) (λ_=>rfl);rw [this,slD_l]; rfl
   refine qvg (λo st=>o=.normal/\st.h=h/\st.defs=[]/\(gK 11).run st.tm=(slD D).enc qyo/\(gK 13).run st.tm=.int .i64 (qAN l.l l.l.length:Nat)/\(gK 14).run st.tm=.int .i64 (qAO l.l l.l.length:Nat)) ?_ ?_
   ·refine qaf (λm st=>∃i:Nat,i+m=D.length/\(gK 17).run st.tm=.int .i64 i/\(i=0->(gK 16).run st.tm=.int .i64 (-1))/\st.h=h/\st.defs=[]) D.length
     ⟨0,by omega,by simp,by simp,rfl,rfl⟩ ?_
    rintro m ⟨tm3,h3,defs,round3⟩ ⟨i,hi,t17,t16,rfl,rfl⟩ hK';have w0:=hK' 0 rfl;have w11:=hK' 11 rfl;have w13:=hK' 13 rfl;have w14:=hK' 14 rfl;simp [u0,u11,u13,u14] at w0 w11 w13 w14 t17 t16;clear hK';simp -dsimp [w11,t17,hdl];rw [qaa];refine⟨λhc=>?_,λhc=>?_⟩
    ·have d1:i<D.length:=by simpa using hc
     have cz:i=0:=by omega
     obtain⟨k,k1,k2⟩:=e5 i d1;have hDc:qyo (lat D i)=[.int .i64 (2 * k),.int .i64 k,.int .i64 0]:=by rw [k2]; rfl
     have f3:fw .i64 ((i:Int)+1)=((i+1:Nat):Int):=by rw [fw64 (by omega) (by omega)]; rfl
     have c1:¬(k:Int)<0:=by omega
     have c2:¬(l.l.length:Int)<=k:=by omega
     have c3:¬(k:Int)<=-1:=by omega
     have t16':=t16 cz;have hrem:(binK .rem).run (.int .i64 (2 * k)) (.int .i64 2)=some (.int .i64 0):=by
      show (some (V.int .i64 ((2 * (k:Int)).tmod 2)))=_;rw [Int.mul_tmod_right]
     simp -dsimp [w11,w0,t17,t16',hiaD i d1,hDc,hll,c1,c2,c3,f3,hrem];exact qah.intro (m-1) (by omega) ⟨i+1,by omega,by simp,λh=>by omega,rfl,rfl⟩
    ·have d1:i=D.length:=by simp at hc; omega
     subst d1;simp -dsimp;exact⟨w11,w13,w14⟩
   ·rintro o' ⟨tm3,h3,defs,round3⟩ ⟨rfl,rfl,rfl,w11,w13,w14⟩;simp only at w11 w13 w14;have q1:(decide (D=[]) == decide (qAN l.l l.l.length=0))=true:=by
     have:D=[]↔qAN l.l l.l.length=0:=by rw [<-e4,List.length_eq_zero_iff]
     simp [this]
    simp -dsimp [w11,w13,w14,hdl,e2,e3,q1]
end Go.Abs

