/- The law's first call, run by the kernel. -/
import Derived.Test.YtnkameckipjfiaaGreatDoorAc4
set_option linter.unusedSimpArgs false
set_option linter.unusedVariables false
namespace Go.Abs
open Go Pr
set_option maxRecDepth 100000
def haX:List V:=haV++[.sl 1 0 6 1 true,.int .i64 8,.bool false]
def haB1:Heap:=((⟨0,.e⟩:Heap).push (.rows [[.nils,.nils]])).set 0 (.rows [haV])
def haB2:Heap:=haB1.push (.rows [[.int .u8 121],[.int .u8 59],[.int .u8 10],[.int .u8 120],[.int .u8 59],[.int .u8 10]])
def haB3:Heap:=(haB2.push (.rows [[.nils,.nils,.nils,.int .i64 0,.bool false]])).set 2 (.rows [haX])
theorem haDg:(λid b=>qyr (haE id b) qyK)=λ_ _=>[(0,0,0)]:=by kernel_rfl
theorem qyP:(haE 1 false).cells=haX:=rfl
theorem haHsz (id:Nat):∀n k:Int,0<=n->n<(haE id true).g.p.l.length->0<=k->k<=(haE id true).w.l.length->∀e∈(qaL (haE id true) n k (-1)).2,(lstN (haE id true) n k e.1 (-1) e.2).length<1000000 :=
 qyJ (qbq (qxy (x:=haN) (y:=haE id true) haMay rfl rfl (show (6:Nat)<=200 by decide))) (show (6:Nat)<=200 by decide) (show haG.p.l.length=3 by decide) (qze id true)
  (show ∀i:Nat,i<haG.p.l.length->∀a∈(lat haG.p.l i).a.l,1+sumZ hlA a.l<=hlA i+(3:Nat) * cntT a.l by decide)
  (λa ha=>by
   have:a=Sl.of [sy1 120,sy1 59,sy1 10]:=by simpa using (show a∈[Sl.of [sy1 120,sy1 59,sy1 10]] from ha)
   subst this;exact⟨_,_,rfl,by show ¬(0:Int)=2; decide⟩)
theorem qzs {x:Opd}{id lo len e mk:Nat}{f:Bool}{tm:Tm}{h:Heap}(hx:x.ev tm=.sl id lo len e f) (h0:0<len) (hg:(h.get id).isSome=true):(qay (.same x)).run mk tm h=some ⟨.sl id lo len e f,h⟩:=by
 simp [qay,hx,hg,h0]
theorem qy5:Awake0 427:=λd=>by
 have n0:(⟨0,.e⟩:Heap).n=0:=rfl;refine qBt f427 b427 [.tm 0] rfl rfl rfl rfl rfl rfl ?_;unfold b427;simp -dsimp [n0,-qar];rw [qar];simp -dsimp [n0,-qar];rw [qar];simp -dsimp [n0,-qar];refine qBr (qB9 qda runHa) ?_
 intro v h' e;cases e;have lg:haV.length=2:=rfl;have og:ones haV=true:=rfl;have tg:List.take 2 haV=haV:=rfl;have pg:qbW [.nils,.nils] 0 haV=haV:=rfl;simp -dsimp [n0,lg,og,-qar];rw [pg,qar];simp -dsimp [n0,lg,og,tg,-qar];have hg1:(((⟨0,.e⟩:Heap).push (Obj.rows [[V.nils,V.nils]])).set 0 (Obj.rows [haV])).push (.rows [[.int .u8 121],[.int .u8 59],[.int .u8 10],[.int .u8 120],[.int .u8 59],[.int .u8 10]])=haB2:=rfl;rw [hg1];have gb:haB2.get 1=some (.rows [[.int .u8 121],[.int .u8 59],[.int .u8 10],[.int .u8 120],[.int .u8 59],[.int .u8 10]]):=rfl;refine OpS.intro (qzs (id:=1) (lo:=0) (len:=6) (e:=1) (f:=true) (by simp) (by omega) (by rw [gb]; rfl)) ?_;have nw:haB2.n=2:=rfl;have px0:qbW [.nils,.nils,.nils,.int .i64 0,.bool false] 0 haV=haV++[V.nils,V.int .i64 0,V.bool false]:=rfl;have px1:(haV++[V.nils,V.int .i64 0,V.bool false]).length=5:=rfl;have px2:(((haV++[V.nils,V.int .i64 0,V.bool false]).set 2 (.sl 1 0 6 1 true)).set 3 (.int .i64 8))=haX:=rfl;have lx:haX.length=5:=rfl;have ox:ones haX=true:=rfl;have tx:List.take 5 haX=haX:=rfl;have pxx:qbW [.nils,.nils,.nils,.int .i64 0,.bool false] 0 haX=haX:=rfl;simp -dsimp [n0,nw,lg,px0,px1,px2,lx,ox,-qar];have hh:(haB2.push (Obj.rows [[V.nils,V.nils,V.nils,V.int IntKind.i64 0,V.bool false]])).set 2 (Obj.rows [haX])=haB3:=rfl;have hxe:haV++[V.sl 1 0 6 1 true,V.int .i64 8,V.bool false]=haX:=rfl;have gx:haB3.get 2=some (.rows [haX]):=rfl;rw [hxe];simp -dsimp [ox,-qar];rw [pxx,hh,qar];simp -dsimp [gx,tx,lx,-qar];have hW:WB haB3 (haE 1 false).w:=.inr ⟨1,0,true,_,rfl,(show haB3.get 1=some (.rows [[.int .u8 121],[.int .u8 59],[.int .u8 10],[.int .u8 120],[.int .u8 59],[.int .u8 10]]) from rfl),by decide,rfl,Nat.lt_succ_self _⟩;have hm:(haE 1 false).w.m<=haB3.n:=show (2:Nat)<=3 by decide
 have hS:EvS (haE 1 false):=⟨qyY.toSmall,show (0:Nat)<1000000000 by decide,show (6:Nat)<1000000 by decide⟩;have hMy:∀b,mayE (haE 1 b)=true:=λb=>qxy (x:=haN) haMay rfl rfl (show (6:Nat)<=200 by decide);have hrun:=congrFun haRun 1;simp only [Prod.mk.injEq] at hrun;obtain⟨r1,r2⟩:=hrun;have hend:((((haE 1 false).w.l.length:Int),(1:Int)):En)∈(qaL (haE 1 true) 0 0 (-1)).2:=by
  rw [qxt (qbq (hMy true)) (qze 1 true) 0 0 (Int.le_refl 0) (show (0:Int)<(haG.p.l.length:Nat) by decide) (Int.le_refl 0) (show (0:Int)<=(6:Nat) by decide)];obtain⟨e,he,h2⟩:=List.any_eq_true.1 r1;have:=of_decide_eq_true h2;rw [show ((((haE 1 false).w.l.length:Int),(1:Int)):En)=(6,1) from rfl,<-this];exact he
 have htr:lstN (haE 1 true) 0 0 (haE 1 false).w.l.length (-1) 1=qyK:=by
  rw [<-r2];exact qyk (qbq (hMy true)) (qze 1 true) (Lk:=qxu (haE 1 true) (-1)) (qxt (qbq (hMy true)) (qze 1 true)) 6 1 (Int.le_refl 0) (show (0:Int)<(haG.p.l.length:Nat) by decide) (Int.le_refl 0) (show (0:Int)<=(6:Nat) by decide)
 have hD:∀b,qyr (haE 1 b) qyK=[(0,0,0)]:=λb=>congrFun (congrFun haDg 1) b;have hT:=qyD (d:=false) (mk:=0) (h:=haB3) hS qyY haRg hW hm (y:=haE 1 true) rfl (hMy true) (qze 1 true) (haHsz 1) hend htr (by decide);rw [qyP,hD true] at hT;refine qBr hT ?_
 rintro v h' ⟨f1,s,hs,f2⟩;simp only at f1 f2;subst f1 f2;have hsl:∀H,lenV .sl (s.enc qui) H=some (.int .i64 6):=λH=>by simp [hs,qyK]
 have hdl:∀H,lenV .sl ((slD [(0,0,0)]).enc qyo) H=some (.int .i64 1):=λH=>by simp
 have hia:qaw 3 ((slD [(0,0,0)]).enc qyo) (.int .i64 0)=some (.ptrR [.int .i64 0,.int .i64 0,.int .i64 0] 0):=rfl;have heq:eqv (.struct [.int,.int,.int]) (.agg [.int .i64 0,.int .i64 0,.int .i64 0]) (.agg [.int .i64 0,.int .i64 0,.int .i64 0])=some true:=by
  simp [eqv,okKs,SK.ok,eqL,eq1,qek,ikB]
 simp -dsimp [hsl,hdl,hia,heq,eqoV,gx,tx,lx];have hN:NdB haB3 ⟨s.enc qui,qyK,0⟩:=.inl ⟨s,rfl,hs⟩;have hDi:=qyZ (d:=false) (mk:=0) (h:=haB3) hS qyY hW hm (hMy false) hN (Nat.zero_le _) (by decide);rw [qyP,hD false] at hDi;refine qBr hDi ?_
 intro v h5 e;cases e;simp -dsimp [hdl]
theorem qyH:∀(l:List Bool) (b:Bool),qyn (l++[b])=qyn l++[if b then 120 else 63,10]
 | [],b=>rfl
 | a::l,b=>by
  show (if a then (120:UInt8) else 63)::10::qyn (l++[b])=_;rw [qyH l b]; rfl
def TxM (b:List Bool) (v:V) (h:Heap):Prop:=h.get 0=some (.rows [hlV])/\Own h 1 v 1 ((qyn b).map qak)/\1<=h.n
theorem TxM.add {b:List Bool}{c:Bool}{v:V}{h:Heap}(hT:TxM b v h) (hb:b.length<1000):∃v' h',qaj 0 h 1 1 v [[.int .u8 (if c then 120 else 63)],[.int .u8 10]]=some ⟨v',h'⟩/\TxM (b++[c]) v' h':=by
 obtain⟨h0,hO,hn⟩:=hT;have hl:=qyq b;obtain⟨v3,H3,a1,a2,a3,a4,a5⟩:=qaC (mk:=0) (bytes:=1) (xs:=[[V.int .u8 (if c then 120 else 63)],[V.int .u8 10]]) hO (Nat.zero_le _) (λq hq=>by
  simp only [Jag,List.not_mem_nil,or_false] at hq;rcases hq with rfl|rfl<;>exact⟨rfl,rfl⟩) (by simp; omega) (by omega) hn
 refine⟨v3,H3,a1,by rw [a4 0 (by omega) (hO.slId (by omega)),h0],?_,by omega⟩;rw [qyH];have e:(qyn b).map qak++[[V.int .u8 (if c then 120 else 63)],[V.int .u8 10]]=(qyn b++[if c then 120 else 63,10]).map qak:=by
  rw [List.map_append]; cases c<;>rfl
 rw [<-e]; exact a2
theorem healLines_ok (n k:Int):WF PR false 0 (.fn 425 [] []) [.int .i64 n,.int .i64 k] ⟨0,.e⟩ λr=>r.v=.bool true:=by
 refine WF.go f425 b425 [.tm 4] rfl rfl rfl rfl rfl rfl ?_;unfold b425;simp -dsimp [-qar];rw [qar];simp -dsimp [-qar];rw [qar];simp -dsimp [-qar];refine qBr (qy5 _) ?_
 intro v h' e;cases e;simp -dsimp [-qar];rw [qar];simp -dsimp [-qar];refine qBr (qB9 qda runHl) ?_
 intro v h' e;cases e;have lg:hlV.length=2:=rfl;have og:ones hlV=true:=rfl;have tg:List.take 2 hlV=hlV:=rfl;have pg:qbW [.nils,.nils] 0 hlV=hlV:=rfl;simp -dsimp [lg,og,-qar];rw [pg];obtain⟨H,hH⟩:∃H,(((⟨0,.e⟩:Heap).push (.rows [[.nils,.nils]])).set 0 (.rows [hlV]))=H:=⟨_,rfl⟩;have gn:H.n=1:=by rw [<-hH]; rfl
 have g0:H.get 0=some (.rows [hlV]):=by rw [<-hH]; rfl
 rw [hH]
 by_cases c1:n<1
 ·simp -dsimp [c1]
 by_cases c2:8<n
 ·simp -dsimp [c1,c2]
 by_cases c3:k<0
 ·simp -dsimp [c1,c2,c3]
 by_cases c4:n<=k
 ·simp -dsimp [c1,c2,c3,c4]
 obtain⟨N,hN⟩:∃N:Nat,n=N:=⟨n.toNat,by omega⟩;obtain⟨K,hK⟩:∃K:Nat,k=K:=⟨k.toNat,by omega⟩;subst hN hK;simp -dsimp [c1,c2,c3,c4];refine qvg (λo st=>o=.normal/\∃v,TxM ((List.range N).map λj=>!decide (j=K)) v st.h/\st.defs=[]/\(gK 1).run st.tm=.int .i64 K/\(gK 9).run st.tm=v/\(gK 6).run st.tm=.ptr 0 0 0/\(gK 8).run st.tm=.int .i64 0) ?_ ?_
 ·refine qaf (λm st=>∃(i:Nat) (v:V),i+m=N/\(gK 10).run st.tm=.int .i64 i/\(gK 9).run st.tm=v/\TxM ((List.range i).map λj=>!decide (j=K)) v st.h/\st.defs=[]) N
   ⟨0,.nils,by omega,by simp,by simp,⟨g0,.inl ⟨rfl,by simp [qyn]⟩,by simp only; omega⟩,rfl⟩ ?_
  rintro m ⟨tm,h,defs,round⟩ ⟨i,v,hi,t10,t9,hT,rfl⟩ hK';have t0:=hK' 0 rfl;have t1:=hK' 1 rfl;have t6:=hK' 6 rfl;have t8:=hK' 8 rfl;simp at t0 t1 t6 t8 t10 t9;simp only at hT;clear hK';simp -dsimp [t0,t10];rw [qaa];refine⟨λhc=>?_,λhc=>?_⟩
  ·have d1:i<N:=by simpa using hc
   obtain⟨v',h',a1,a2⟩:=hT.add (c:=!decide (i=K)) (by simp; omega);have hr:(List.range (i+1)).map (λj=>!decide (j=K))=(List.range i).map (λj=>!decide (j=K))++[!decide (i=K)]:=by rw [List.range_succ,List.map_append]; rfl
   rw [<-hr] at a2
   by_cases e:i=K
   ·have ei:(i:Int)=K:=by omega
    simp only [e,decide_true,Bool.not_true,Jan,if_false] at a1;simp -dsimp [t10,t1,ei];rw [qaE (xs:=[[.int .u8 63],[.int .u8 10]]) (by simp [qal])];simp -dsimp [t9];refine OpS.intro a1 ?_;simp -dsimp [t10,fw64 (n:=(i:Int)+1) (by omega) (by omega)];exact qah.intro (m-1) (by omega) ⟨i+1,v',by omega,by simp,by simp,a2,rfl⟩
   ·have ei:¬(i:Int)=K:=by omega
    simp only [e,decide_false,Bool.not_false,if_true] at a1;simp -dsimp [t10,t1,ei];rw [qaE (xs:=[[.int .u8 120],[.int .u8 10]]) (by simp [qal])];simp -dsimp [t9];refine OpS.intro a1 ?_;simp -dsimp [t10,fw64 (n:=(i:Int)+1) (by omega) (by omega)];exact qah.intro (m-1) (by omega) ⟨i+1,v',by omega,by simp,by simp,a2,rfl⟩
  ·have d1:i=N:=by simp at hc; omega
   subst d1;simp -dsimp;exact⟨v,hT,t1,t9,t6,t8⟩
 ·rintro o' ⟨tm,h,defs,round⟩ ⟨rfl,v,⟨h0,hO,hn⟩,rfl,t1,t9,t6,t8⟩;simp only at h0 hO hn t1 t9 t6 t8;obtain⟨L,hL⟩:∃L,(List.range N).map (λj=>!decide (j=K))=L:=⟨_,rfl⟩;have hLl:L.length=N:=by rw [<-hL]; simp
  have hLa:∀j,j<N->lat L j = !decide (j=K):=λj hj=>by
   rw [<-hL,lat_eq (by simp; exact hj)];simp
  rw [hL] at hO;have hvc:=hO.cells;have px0:qbW [.nils,.nils,.nils,.int .i64 0,.bool false] 0 hlV=hlV++[V.nils,V.int .i64 0,V.bool false]:=rfl;have px1:(hlV++[V.nils,V.int .i64 0,V.bool false]).length=5:=rfl;have px2:∀v:V,qbW (hlV++[V.nils,V.int .i64 0,V.bool false]) 2 [v]=hlV++[v,V.int .i64 0,V.bool false]:=λ_=>rfl;have px3:∀v:V,qbW (hlV++[v,V.int .i64 0,V.bool false]) 3 [V.int .i64 8]=hlV++[v,V.int .i64 8,V.bool false]:=λ_=>rfl;simp -dsimp [t6,t9,h0,tg,lg,hvc.1,hvc.2,px0,px1,px2,px3];have hT:=qzb (v:=v) (m:=h.n) (l:=L) (d:=false) (mk:=0) (h:=h) (by omega) hO.wb (Jac _);refine qBr hT ?_
  rintro v2 h2 ⟨f1,s,D,hD,f2⟩;simp only at f1 f2;subst f1 f2;have hKN:K<N:=by omega
  obtain⟨q,q1,q2,q3⟩:∃q:Nat,q<N/\q<=K/\D=[((2 * q:Int),(q:Int),0)]:=by
   rcases hD with ⟨a,_⟩|⟨q,a,b,_,c⟩
   ·have:=a K (by omega);rw [hLa K hKN] at this;simp at this
   ·refine⟨q,by omega,?_,c⟩;apply Classical.byContradiction;intro hc;have:=b K (by omega);rw [hLa K hKN] at this;simp at this
  subst q3;have hdl:∀H,lenV .sl ((slD [((2 * q:Int),(q:Int),0)]).enc qyo) H=some (.int .i64 1):=λH=>by simp
  have hia:qaw 3 ((slD [((2 * q:Int),(q:Int),0)]).enc qyo) (.int .i64 0)=some (.ptrR [.int .i64 (2 * q),.int .i64 q,.int .i64 0] 0):=rfl;have hm2:fw .i64 ((q:Int) * 2)=2 * q:=by rw [fw64 (by omega) (by omega)]; omega
  simp -dsimp [t1,t8,hdl,hia,fw64 (n:=2 * (K:Int)) (by omega) (by omega),hm2,q2]
end Go.Abs

