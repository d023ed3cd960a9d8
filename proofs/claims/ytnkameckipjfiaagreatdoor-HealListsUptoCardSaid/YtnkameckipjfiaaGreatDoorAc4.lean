/- What the program's functions come to, by the evaluator's rules; the intermediate code. -/
import Derived.KernelRfl
import Derived.Test.YtnkameckipjfiaaGreatDoorAc3
set_option linter.unusedSimpArgs false
set_option linter.unusedVariables false
namespace Go.Abs
open Go Pr
set_option maxRecDepth 10000
theorem qwz {E:List En}(hr:E.Pairwise (λa b=>a.1<b.1)) {e:En}(he:e∈E):(E.find? λf=>decide (f.1=e.1))=some e:=by
 induction E with
 | nil=>cases he
 | cons a l ih =>
  rw [List.pairwise_cons] at hr;rw [List.find?_cons];rcases Jag.1 he with c|c
  ·subst c; simp
  ·have:=hr.1 e c;rw [show decide (a.1=e.1)=false by simp; omega];exact ih hr.2 c
theorem qxf {x:Ev}(hx:EvW x) {n k:Int}(u r b:Int) (n0:0<=n) (n1:n<x.g.p.l.length) (k0:0<=k) (k1:k<=x.w.l.length):lstN x n k u r b≠[]:=by
 rw [qw2 hx u r b n0 n1 k0 k1];split<;>simp
theorem qwL.put {x:Ev}{M:Nat}{X:Nat->Prop}{h:Heap}{es es':List (Nat × V × V)}{c c':Nat}{S:List (Spn × V)}{p:Spn}{v:V}(hM:h.get M=some (.map es c)) (hS:∀p v,qaS p S=some v->NdX X h v (lstS x p)) (hR:MapR qvL (λv:V=>v) es' (aSet p v S)) (hv:NdX X h v (lstS x p)):qwL x M X (h.set M (.map es' c')):=by
 have hk:∀i rs,i<h.n->¬X i->h.get i=some (.rows rs)->(h.set M (.map es' c')).get i=some (.rows rs):=λi rs _ _ e=>by
  rw [qBp,Jaa (λc=>by rw [c,hM] at e; cases e),e]
 refine⟨es',c',aSet p v S,by rw [qBp,Jab rfl],hR,λr w hw=>?_⟩;rw [qhs] at hw;split at hw
 ·rename_i e; cases hw; rw [e]; exact hv.fr (by simp) hk (λ_ _ h=>h)
 ·exact (hS r w hw).fr (by simp) hk (λ_ _ h=>h)
theorem qxd {X:Nat->Prop}{h:Heap}{mk:Nat}{y:Nd}(hX:∀i,X i->i<h.n) (l:List Nd) (hl:l.length<1000000) :
  ∃v' h',qaj mk h 4 32 (.slR [qui y] true) (l.map qui)=some ⟨v',h'⟩/\h.n<=h'.n/\(∀i,i<h.n->h'.get i=h.get i)/\NdX X h' v' (y::l):=by
 cases l with
 | nil=>exact⟨_,_,rfl,Jac _,λ_ _=>rfl,.inl ⟨.full [y],rfl,rfl⟩⟩
 | cons z l =>
  have h1:qdH ((z::l).map qui)=true:=qe0 λr hr=>by
   obtain⟨y,_,rfl⟩:=Jak.1 hr;rfl
  simp only [List.length_cons] at hl;refine⟨.sl h.n 0 (1+(l.length+1)) 4 false,h.push (.rows ((y::z::l).map qui)),?_,by simp,λi hi=>by simp; omega,.inr ⟨h.n,0,false,(y::z::l).map qui,by simp; omega,by simp,by simp,by rw [List.drop_zero,List.take_of_length_le (by simp)],by simp,λc=>by have:=hX _ c; omega⟩⟩;simp only [List.map_cons,qui] at h1;have h3:1+(l.length+1)<4294967296:=by omega
  simp [qaj,qal,qaI,qa9,h1,h3,qui]
section
variable {x:Ev}{q:Int}
theorem qw8 (hx:EvS x) (hg:x.g.Fine) (hr:∀p∈x.g.p.l,∀a∈p.a.l,∀s∈a.l,s.r.l.length<1500000) (hm:mayE x=true)
  (hq:∀n k:Int,0<=n->n<x.g.p.l.length->0<=k->k<=x.w.l.length->refV x n k q=q)
  (hsz:∀n k:Int,0<=n->n<x.g.p.l.length->0<=k->k<=x.w.l.length->∀e∈(qaL x n k q).2,(lstN x n k e.1 q e.2).length<1000000) :
  ∀(m:Nat) (n k:Int),muN x.g x.w.l n k<m->0<=n->n<x.g.p.l.length->0<=k->k<=x.w.l.length->∀e∈(qaL x n k q).2,qw6 x q n k e.1 e.2:=by
 intro m;induction m with
 | zero=>intro _ _ h; omega
 | succ m ih =>
  intro n k hmu n0 n1 k0 k1 e he d mk h K M1 M2 M3 X hC hX m1 m2 m3 mh;have hw:=qbq hm;obtain⟨u,b⟩:=e;simp only;have hin:=(qbf hw (ref:=q) n0 n1 k0 k1).2 _ he;have hbd:bdS x (n,k,q,u)=b:=by
   unfold bdS;simp only;rw [qwz (qc3 hw (ref:=q) n0 n1 k0 k1).2 he];rfl
  obtain⟨tot,htot⟩:∃tot,lstN x n k u q b=tot:=⟨_,rfl⟩;have hlS:lstS x (n,k,q,u)=tot:=by
   unfold lstS;rw [hbd]; exact htot
  have hlen:=hsz n k n0 n1 k0 k1 _ he;simp only at hlen;rw [htot] at hlen;have hte:=qw2 hw u q b n0 n1 k0 k1;rw [htot,hq n k n0 n1 k0 k1] at hte;unfold altL at hte;rw [hq n k n0 n1 k0 k1] at hte;rw [htot];refine WF.go f397 b397 [.tm 6] rfl rfl rfl rfl rfl rfl ?_;unfold b397;have lk:=hC.lk;have l1:=hC.l1;have l2:=hC.l2;have l3:=hC.l3;have hl:K<h.n/\M1<h.n/\M2<h.n/\M3<h.n:=⟨lk,l1,l2,l3⟩;obtain⟨P,hP⟩:∃P,lat x.g.p.l n.toNat=P:=⟨_,rfl⟩;rw [hP] at hte;obtain⟨H,hH⟩:∃H,h.push (.rows [[.int .i64 n,.int .i64 k,.int .i64 q,.int .i64 u]])=H:=⟨_,rfl⟩;have hn:H.n=h.n+1:=by rw [<-hH]; simp
  have gk:∀i,i<h.n->H.get i=h.get i:=λi hi=>by rw [<-hH]; simp [show ¬i=h.n by omega]
  have b1:H.get h.n=some (.rows [[.int .i64 n,.int .i64 k,.int .i64 q,.int .i64 u]]):=by rw [<-hH]; simp
  have hC2:=hC.keep (h':=H) (X':=X) (by omega) gk λ_ _ h=>h;obtain⟨es,c,S,e1,e2,e3⟩:=hC2.m3;have hlook:=qlz (kn:=.agg [.int,.int,.int,.int]) (zero:=.nils) qv3 qwd e1 e2 (n,k,q,u);have hsp:qvL (n,k,q,u)=.agg [.int .i64 n,.int .i64 k,.int .i64 q,.int .i64 u]:=rfl;rw [hsp] at hlook;simp -dsimp [hsp,-qnc];rw [hH,qnc];simp -dsimp [b1,hC2.k,qcT,hlook];obtain⟨o,ho⟩:∃o,qaS (n,k,q,u) S=o:=⟨_,rfl⟩;rw [ho];cases o with
  | some v =>
   have:=e3 _ _ ho;rw [hlS] at this;simp -dsimp;exact⟨this,hC2,.of (by omega) gk⟩
  | none =>
  simp -dsimp [b1,hC2.k,qcT,n0,n1,hP,Pd.cells,-qar];have hpm:P∈x.g.p.l:=by rw [<-hP]; exact qai (by omega)
  have hal:=hx.g.a P hpm;have fin:∀H3 v,CtL x K M1 M2 M3 X H3->Fr3 M1 M2 M3 h H3->NdX X H3 v tot->∃gs c2,qmD mk (.agg [.int,.int,.int,.int]) (.map M3) (.agg [.int .i64 n,.int .i64 k,.int .i64 q,.int .i64 u]) v H3=some ⟨.any,H3.set M3 (.map gs c2)⟩/\NdX X (H3.set M3 (.map gs c2)) v tot/\CtL x K M1 M2 M3 X (H3.set M3 (.map gs c2))/\Fr3 M1 M2 M3 h (H3.set M3 (.map gs c2)):=λH3 v hC3 hF3 hv=>by
   obtain⟨es',c',S',g1,g2,g3⟩:=hC3.m3;obtain⟨gs,c2,q1,q2⟩:=qgM (kn:=.agg [.int,.int,.int,.int]) (mk:=mk) qv3 qwd g1 g2 m3 (n,k,q,u) v;refine⟨gs,c2,q1,hv.fr (by simp) (λi rs _ _ e=>by rw [qBp,Jaa (λc=>by rw [c,g1] at e; cases e),e]) (λ_ _ h=>h),hC3.set3 (qwL.put g1 g3 q2 (by rw [hlS]; exact hv)),?_⟩;have:=hF3.1;exact⟨by simp only [qBB]; omega,λi hi x1 x2 x3=>by rw [qBp,Jaa x3,hF3.2 i hi x1 x2 x3]⟩
  obtain⟨HN,hHN⟩:∃HN,(H.push (.rows [[.int .i64 0,.int .i64 0,.int .i64 0,.int .i64 0]])).set H.n (.rows [[.int .i64 n,.int .i64 P.a.l.length,.int .i64 k,.int .i64 u]])=HN:=⟨_,rfl⟩;have nN:HN.n=h.n+2:=by rw [<-hHN]; simp [hn]
  have mH:mk<=H.n:=by omega
  have zH:¬h.n=H.n:=by omega
  have zK:¬K=H.n:=by omega
  rw [qar];simp -dsimp [b1,hC2.k,qcT,n0,n1,hP,Pd.cells,mH,zH,zK,-qar];have eHN:(H.push (.rows [[.int .i64 0,.int .i64 0,.int .i64 0,.int .i64 0]])).set H.n (.rows [[.int .i64 n,.int .i64 P.a.l.length,.int .i64 k,.int .i64 u]])=HN:=hHN;have gkN:∀i,i<H.n->HN.get i=H.get i:=λi hi=>by rw [<-hHN,qBp,Jaa (by omega),qBq,Jaa (by omega)]
  have gN:HN.get H.n=some (.rows [[.int .i64 n,.int .i64 P.a.l.length,.int .i64 k,.int .i64 u]]):=by rw [<-hHN,qBp,Jab rfl]
  obtain⟨Y,hY⟩:∃Y:Nat->Prop,(λi=>X i\/i=H.n)=Y:=⟨_,rfl⟩;have yN:Y H.n:=by rw [<-hY]; exact .inr rfl
  have yx:∀i,X i->Y i:=λi hi=>by rw [<-hY]; exact .inl hi
  have yn:∀i,Y i->i<HN.n:=λi hi=>by
   rw [<-hY] at hi;rcases hi with c|c
   ·have:=hX i c; omega
   ·omega
  have hCN:=hC2.keep (h':=HN) (X':=Y) (by omega) gkN λi hi hy=>by
   rw [<-hY] at hy;rcases hy with c|c
   ·exact c
   ·omega
  have bN:HN.get h.n=some (.rows [[.int .i64 n,.int .i64 k,.int .i64 q,.int .i64 u]]):=by rw [gkN _ (by omega),b1]
  have hFN:Fr3 M1 M2 M3 h HN:=.of (by omega) λi hi=>by rw [gkN i (by omega),gk i hi]
  have e5:[Sl.enc Pd.cells x.g.p,Sl.enc qac x.g.keys,x.w.v,V.int IntKind.i64 x.tab,V.bool x.heal]=x.cells:=rfl;rw [eHN,qar];simp -dsimp [gN,bN,hCN.k,qcT];rw [e5];refine qBr (qtW x hx hCN.wb (by have:=hCN.wk; have:=hCN.lk; omega) n k q) ?_
  intro v h' e;cases e;rw [hq n k n0 n1 k0 k1];simp -dsimp [bN,hCN.k,qcT,n0,n1,hP,Pd.cells];obtain⟨p,hp⟩:∃p:Sl Sy->Bool,(λa:Sl Sy=>qwq x n k u q&&decide (badC (qaN x q) x.w.l u a.l k=b))=p:=⟨_,rfl⟩;rw [hp] at hte;have hbr:0<=b/\b<=1000000:=by
   have h1:=hin.2.2.1;have h2:=hin.2.1;have h3:=hx.w;simp only at h1 h2;omega
  refine qvg (λo st=>o=.normal/\(gK 0).run st.tm=.ptr K 0 0/\(gK 4).run st.tm=.ptr h.n 0 0/\(∃v,(gK 10).run st.tm=v/\NdX X st.h v tot)/\CtL x K M1 M2 M3 X st.h/\Fr3 M1 M2 M3 h st.h /\
   st.h.get h.n=some (.rows [[.int .i64 n,.int .i64 k,.int .i64 q,.int .i64 u]])/\st.defs=[]) ?_ ?_
  rotate_left
  ·rintro o ⟨tm,H5,defs,round⟩ ⟨rfl,t0,t4,⟨v,t10,hv⟩,hC5,hF5,b5,rfl⟩;simp only at t0 t4 t10 hv hC5 hF5 b5;obtain⟨gs,c2,q1,q2,q3,q4⟩:=fin H5 v hC5 hF5 hv;simp -dsimp [t0,t4,t10,b5,hC5.k,qcT];refine OpS.intro q1 ?_;simp -dsimp [t10];exact⟨q2,q3,q4⟩
  refine qaf (λkk st=>∃i:Nat,i+kk=P.a.l.length/\(gK 76).run st.tm=.int .i64 i/\(gK 10).run st.tm=.slR [[.int .i64 n,.int .i64 P.a.l.length,.int .i64 k,.int .i64 u]] true/\idxP p P.a.l 0=idxP p (P.a.l.drop i) i /\
   CtL x K M1 M2 M3 Y st.h/\Fr3 M1 M2 M3 h st.h/\HN.n<=st.h.n/\st.h.get h.n=some (.rows [[.int .i64 n,.int .i64 k,.int .i64 q,.int .i64 u]])/\st.h.get H.n=some (.rows [[.int .i64 n,.int .i64 P.a.l.length,.int .i64 k,.int .i64 u]])/\st.defs=[]) P.a.l.length
   ⟨0,by omega,by simp,by simp,by simp,hCN,hFN,Jac _,bN,gN,rfl⟩ ?_
  rintro kk ⟨tm,H4,defs,round⟩ ⟨i,hi,t76,t10,hidx,hC4,hF4,n4,b4,g4,rfl⟩ hK';have t0:=hK' 0 rfl;have t2:=hK' 2 rfl;have t4:=hK' 4 rfl;have t9:=hK' 9 rfl;have t11:=hK' 11 rfl;have t75:=hK' 75 rfl;simp [*] at t0 t2 t4 t9 t11 t75 t76 t10;simp only at hidx hC4 hF4 n4 b4 g4;clear hK';simp -dsimp [t76,t75];rw [qaa];refine⟨λhc=>?_,λhc=>?_⟩;rotate_left
  ·have f1:i=P.a.l.length:=by simp at hc; omega
   subst f1;rw [List.drop_length,idxP] at hidx;rw [hidx,Jaa (by omega)] at hte;simp -dsimp [t10];subst hte;exact⟨t0,t4,.inl ⟨.full [(n,(P.a.l.length:Int),k,u)],rfl,rfl⟩,hC4.less λi _=>yx i,hF4,b4⟩
  have f1:i<P.a.l.length:=by simpa using hc
  rw [<-hn] at t9;obtain⟨A,hA⟩:∃A,lat P.a.l i=A:=⟨_,rfl⟩;have hdr:=qbu f1;rw [hA] at hdr;rw [hdr,idxP] at hidx;have hA2:lat (lat x.g.p.l n.toNat).a.l ((i:Int)).toNat=A:=by rw [hP,Int.toNat_natCast,hA]
  have ha2:(i:Int)<(lat x.g.p.l n.toNat).a.l.length:=by rw [hP]; omega
  have hbO:qwM x (n,(i:Int),((0:Nat):Int),k,u,q):=qw4 hx hg hr hm n0 n1 (by omega) ha2 hA2 k0 A.l.length 0 k (by omega) ⟨Int.le_refl _,k1,by simp,λ_=>.nil⟩;have hbv:badP x (n,(i:Int),((0:Nat):Int),k,u,q)=badC (qaN x q) x.w.l u A.l k:=by
   unfold badP;simp only [Int.toNat_natCast];rw [hP,hA];rfl
  have hpA:p A=(qwq x n k u q&&decide (badC (qaN x q) x.w.l u A.l k=b)):=by rw [<-hp]
  obtain⟨H5,hH5⟩:∃H5,(H4.push (.rows [[.int .i64 0,.int .i64 0,.int .i64 0,.int .i64 0,.int .i64 0,.int .i64 0]])).set H4.n (.rows [[.int .i64 n,.int .i64 i,.int .i64 0,.int .i64 k,.int .i64 u,.int .i64 q]])=H5:=⟨_,rfl⟩;have n5:H5.n=H4.n+1:=by rw [<-hH5]; simp
  have gk5:∀i,i<H4.n->H5.get i=H4.get i:=λi hi=>by rw [<-hH5,qBp,Jaa (by omega),qBq,Jaa (by omega)]
  have g5:H5.get H4.n=some (.rows [[.int .i64 n,.int .i64 i,.int .i64 0,.int .i64 k,.int .i64 u,.int .i64 q]]):=by rw [<-hH5,qBp,Jab rfl]
  have hC5:=hC4.keep (h':=H5) (X':=Y) (by omega) gk5 λ_ _ h=>h;have hF5:Fr3 M1 M2 M3 h H5:=hF4.trans_lt (by omega) λi hi=>gk5 i (by have:=hF4.1; omega);have b5:H5.get h.n=some (.rows [[.int .i64 n,.int .i64 k,.int .i64 q,.int .i64 u]]):=by rw [gk5 _ (by omega),b4]
  have gN5:H5.get H.n=some (.rows [[.int .i64 n,.int .i64 P.a.l.length,.int .i64 k,.int .i64 u]]):=by rw [gk5 _ (by omega),g4]
  have mH4:mk<=H4.n:=by omega
  have z5:¬h.n=H4.n:=by omega
  have hiw:fw .i64 ((i:Int)+1)=((i+1:Nat):Int):=by rw [fw64 (by omega) (by omega)]; rfl
  simp -dsimp [t76,-qar];rw [qar];simp -dsimp [t76,-qar];rw [qar];simp -dsimp [t76,t4,t11,b4,mH4,z5,-qar];rw [hH5,qar];simp -dsimp [t0,t4,b5];rw [<-hsp];refine qBr (qxg hx hg hr hm u q n0 n1 k0 k1 hC5) ?_
  intro v' h' e;cases e;have next:p A=false->idxP p P.a.l 0=idxP p (P.a.l.drop (i+1)) ((i+1:Nat):Int):=λhf=>by
   rw [hidx,hf]; rfl
  cases hle:qwq x n k u q with
  | false =>
   have hf:p A=false:=by rw [hpA,hle]; rfl
   simp -dsimp [t76,hiw];exact qah.intro (kk-1) (by omega) ⟨i+1,by omega,by simp,by simp [t10],next hf,hC5,hF5,by simp only; omega,b5,gN5,rfl⟩
  | true =>
   have hpk:∀z':Int,qvz (n,(i:Int),z',k,u,q)=.agg [.int .i64 n,.int .i64 i,.int .i64 z',.int .i64 k,.int .i64 u,.int .i64 q]:=λ_=>rfl;have hb2:=hbO.2;rw [hpk] at hb2;simp -dsimp [t0,g5];refine qBr (hb2 _ mk H5 K M1 M2 M3 Y hC5 (λi hi=>by have:=yn i hi; omega) m1 m2 (by omega)) ?_
   rintro v H6 ⟨rfl,hC6,hF6⟩;simp only at hC6 hF6;rw [hbv];have n6:=hF6.1;have hF6':=hF5.trans hF6;have b6:H6.get h.n=some (.rows [[.int .i64 n,.int .i64 k,.int .i64 q,.int .i64 u]]):=hC5.frk hF6 _ _ (by omega) b5;have gN6:H6.get H.n=some (.rows [[.int .i64 n,.int .i64 P.a.l.length,.int .i64 k,.int .i64 u]]):=hC5.frk hF6 _ _ (by omega) gN5;have g6:H6.get H4.n=some (.rows [[.int .i64 n,.int .i64 i,.int .i64 0,.int .i64 k,.int .i64 u,.int .i64 q]]):=hC5.frk hF6 _ _ (by omega) g5
   by_cases hbb:badC (qaN x q) x.w.l u A.l k=b
   rotate_left
   ·have hf:p A=false:=by rw [hpA,hle]; simp [hbb]
    simp -dsimp [t2,intI,hbb,t76,hiw];exact qah.intro (kk-1) (by omega) ⟨i+1,by omega,by simp,by simp [t10],next hf,hC6,hF6',by simp only; omega,b6,gN6,rfl⟩
   ·have ht:p A=true:=by rw [hpA,hle]; simp [hbb]
    rw [ht,Jab rfl] at hidx;rw [hidx,Jab (by omega),Int.toNat_natCast,hA] at hte;obtain⟨tl,htl⟩:∃tl,qwp x.g (qaN x q) (λn' k' u' b'=>lstN x n' k' u' q b') x.w.l u A.l k b=tl:=⟨_,rfl⟩;rw [htl] at hte;have hltl:tl.length<1000000:=by rw [hte] at hlen; simp only [List.length_cons] at hlen; omega
    have hAm:A∈(lat x.g.p.l n.toNat).a.l:=by rw [<-hA2]; exact qai (by omega)
    obtain⟨H7,hH7⟩:∃H7,H6.set H.n (.rows [[.int .i64 n,.int .i64 i,.int .i64 k,.int .i64 u]])=H7:=⟨_,rfl⟩;have n7:H7.n=H6.n:=by rw [<-hH7]; simp
    have gk7:∀i,i≠H.n->H7.get i=H6.get i:=λi hne=>by rw [<-hH7,qBp,Jaa hne]
    have gN7:H7.get H.n=some (.rows [[.int .i64 n,.int .i64 i,.int .i64 k,.int .i64 u]]):=by rw [<-hH7,qBp,Jab rfl]
    have hC7:=hC6.upd (N:=H.n) (h':=H7) yN (by omega) (by omega) (by omega) (by omega) (by omega) (by have:=hC.wk; omega) λi _ hne=>gk7 i hne;have hF7:Fr3 M1 M2 M3 h H7:=hF6'.trans_lt (by omega) λi hi=>gk7 i (by omega);have g7:H7.get H4.n=some (.rows [[.int .i64 n,.int .i64 i,.int .i64 0,.int .i64 k,.int .i64 u,.int .i64 q]]):=by rw [gk7 _ (by omega),g6]
    have b7:H7.get h.n=some (.rows [[.int .i64 n,.int .i64 k,.int .i64 q,.int .i64 u]]):=by rw [gk7 _ (by omega),b6]
    have hrest:∀d,WF PR d mk (.fn 410 [] []) [.ptr K 0 0,qvz (n,(i:Int),0,k,u,q),.int .i64 b] H7 λqq=>NdX Y qq.h qq.v tl/\CtL x K M1 M2 M3 Y qq.h/\Fr3 M1 M2 M3 H7 qq.h:=λd =>
     qxa hx hg hr hm n0 n1 (by omega) ha2 hA2 k0 k1 (λi' hi' hki j' hj' e' he'=>by
      obtain⟨q1,q2,q3,q4,q5⟩:=qvT hw n0 k0 k1 hAm hi' hki hj';simp only at q1 q4 q5;exact⟨ih _ _ (by omega) q2 q3 q4 q5 _ he',hsz _ _ q2 q3 q4 q5 _ he',qxf hw _ _ _ q2 q3 q4 q5⟩) (by have:=hbv; rw [hbb] at this; exact this) hbr htl hltl hC7 (λi hi=>by have:=yn i hi; omega) m1 m2 m3 (by omega)
    rw [hpk] at hrest;simp -dsimp [t2,intI,hbb,-qar];rw [qar];simp -dsimp [t9,gN6,mH,-qar,-qnc];rw [hH7,qnc];simp -dsimp [t0,t2,t9,gN7,g7];refine qBr (hrest _) ?_
    rintro v H8 ⟨hv,hC8,hF8⟩;simp only at hv hC8 hF8;have n8:=hF8.1;have gN8:H8.get H.n=some (.rows [[.int .i64 n,.int .i64 i,.int .i64 k,.int .i64 u]]):=hC7.frk hF8 _ _ (by omega) gN7;have b8:H8.get h.n=some (.rows [[.int .i64 n,.int .i64 k,.int .i64 q,.int .i64 u]]):=hC7.frk hF8 _ _ (by omega) b7;obtain⟨v9,H9,a1,a2,a3,a4⟩:=qxd (mk:=mk) (y:=(n,(i:Int),k,u)) (X:=Y) (h:=H8) (λi hi=>by have:=yn i hi; omega) tl hltl;have hC9:=hC8.keep (h':=H9) (X':=X) a2 a3 λi _ hi=>yx i hi;have hF9:Fr3 M1 M2 M3 h H9:=(hF7.trans hF8).trans_lt a2 λi hi=>a3 i (by have:=(hF7.trans hF8).1; omega);have hrw:=hv.rows;simp -dsimp;rw [qaE (xs:=tl.map qui) (by simp; exact hrw)];refine OpS.intro (Eq.trans (congrArg (λs=>qaj mk H8 4 32 s (tl.map qui)) ?_) a1) ?_
    ·simp [qui]
    have gN9:H9.get H.n=some (.rows [[.int .i64 n,.int .i64 i,.int .i64 k,.int .i64 u]]):=by rw [a3 _ (by omega),gN8]
    have b9:H9.get h.n=some (.rows [[.int .i64 n,.int .i64 k,.int .i64 q,.int .i64 u]]):=by rw [a3 _ (by omega),b8]
    simp -dsimp [gN8,gN9,t0,t4,t9];subst hte;exact⟨a4.fr (Jac _) (λ_ _ _ _ e=>e) λi _ hi=>yx i hi,hC9,hF9,b9⟩
end
theorem qwr {mk k:Nat}{h:Heap}:∀l:List Nd,allM (allM (freeze mk h (k+1))) (l.map qui)=some (l.map qui)
 | []=>rfl
 | x::l=>by
  have:=qwr (mk:=mk) (k:=k) (h:=h) l;have e:∀y,freeze mk h (k+1) (.int .i64 y)=some (.int .i64 y):=λy=>rfl;simp only [List.map_cons,qui,allM,e] at this ⊢;rw [this]
theorem NdX.frz {X:Nat->Prop}{h:Heap}{v:V}{l:List Nd}(hv:NdX X h v l) {m k:Nat}(hX:∀i,i<m->X i):∃s:Sl Nd,s.l=l/\freeze m h (k+2) v=some (s.enc qui):=by
 rcases hv with ⟨s,rfl,rfl⟩|⟨id,lo,f,rs,rfl,a,b,c,d,e⟩
 ·refine⟨s,rfl,?_⟩;cases s with
  | nil=>rfl
  | of l =>
   show (match allM (allM (freeze m h (k+1))) (l.map qui) with|some r=>some (V.slR r false)|none=>none)=_;rw [qwr]; rfl
  | full l =>
   show (match allM (allM (freeze m h (k+1))) (l.map qui) with|some r=>some (V.slR r true)|none=>none)=_;rw [qwr]; rfl
 ·have hm:m<=id:=by
   rcases Nat.lt_or_ge id m with q|q
   ·exact absurd (hX id q) e
   ·exact q
  have hr:qal h (.sl id lo l.length 4 f)=some (l.map qui):=by
   simp only [qal,a];rw [Nat.ble_eq_true_of_le b,c]; rfl
  refine⟨.of l,rfl,?_⟩;show cond (Nat.ble m id) (match qal h (.sl id lo l.length 4 f) with|some rows=>(match allM (allM (freeze m h (k+1))) rows with|some r=>some (V.slR r false)|none=>none)|none=>none) none=_;rw [hr,Nat.ble_eq_true_of_le hm];simp only [qwr,cond];rfl
section
variable {x:Ev}{q mk:Nat}{h:Heap}{d:Bool}
theorem qwT {q:Int}(hx:EvS x) (hg:x.g.Fine) (hr:∀p∈x.g.p.l,∀a∈p.a.l,∀s∈a.l,s.r.l.length<1500000) (hB:WB h x.w) (hwm:x.w.m<=h.n) (hm:mayE x=true)
  (hq:∀n k:Int,0<=n->n<x.g.p.l.length->0<=k->k<=x.w.l.length->refV x n k q=q)
  (hsz:∀n k:Int,0<=n->n<x.g.p.l.length->0<=k->k<=x.w.l.length->∀e∈(qaL x n k q).2,(lstN x n k e.1 q e.2).length<1000000)
  {n k:Int}(n0:0<=n) (n1:n<x.g.p.l.length) (k0:0<=k) (k1:k<=x.w.l.length) {e:En}(he:e∈(qaL x n k q).2) :
  WF PR d mk (.fn 393 [] []) [.agg x.cells,.int .i64 n,.int .i64 k,.int .i64 e.1,.int .i64 q] h λr=>r.h=h/\∃s:Sl Nd,s.l=lstN x n k e.1 q e.2/\r.v=.tup [s.enc qui,.int .i64 e.2,.bool true]:=by
 refine qBJ (F:=f393) (Q:=λv=>∃s:Sl Nd,s.l=lstN x n k e.1 q e.2/\v=.tup [s.enc qui,.int .i64 e.2,.bool true]) rfl rfl rfl (Nat.le_of_ble_eq_true rfl) ?_;refine qef b393 [.tm 10,.tm 11,.tm 12] rfl rfl ?_;unfold b393;have e5:[Sl.enc Pd.cells x.g.p,Sl.enc qac x.g.keys,x.w.v,V.int IntKind.i64 x.tab,V.bool x.heal]=x.cells:=rfl;have hwl:∀H,lenV .sl x.w.v H=some (.int .i64 x.w.l.length):=λH=>hB.len;have hone:x.w.v.one=true:=hB.cells.2;obtain⟨H,hH⟩:∃H,(h.push (Obj.rows [[x.g.p.enc Pd.cells,x.g.keys.enc qac,x.w.v,.int .i64 x.tab,.bool x.heal]]))=H:=⟨_,rfl⟩;have g0:H.get h.n=some (.rows [[x.g.p.enc Pd.cells,x.g.keys.enc qac,x.w.v,.int .i64 x.tab,.bool x.heal]]):=by rw [<-hH]; simp
 have gn:H.n=h.n+1:=by rw [<-hH]; simp
 have gk:∀i,i<h.n->H.get i=h.get i:=λi hi=>by rw [<-hH]; simp [show ¬i=h.n by omega]
 have hB2:WB H x.w:=hB.keep λi hi=>gk i (by omega);simp -dsimp [Ev.cells,-qar];rw [qar];simp -dsimp [-qar];rw [hH,qar];simp -dsimp [g0];rw [e5];refine qBr (qbJ x hg hB2) ?_
 intro v' h' e';cases e';rw [hm];have hmk:h.n<=H.n+4:=by omega
 simp -dsimp [show ¬n<0 by omega,g0,show ¬(x.g.p.l.length:Int)<=n by omega,show ¬k<0 by omega,hwl,show ¬(x.w.l.length:Int)<k by omega,hone,qbW,hmk,-qar];rw [qar];simp -dsimp [g0,hone,-qar];obtain⟨H2,hH2⟩:∃H2,((((H.push (Obj.map [] 0)).push (Obj.map [] 0)).push (Obj.map [] 0)).push (.rows [[x.g.p.enc Pd.cells,x.g.keys.enc qac,x.w.v,.int .i64 x.tab,.bool x.heal,.map H.n,.map (H.n+1),.map (H.n+2)]]))=H2:=⟨_,rfl⟩;have gk2:∀i,i<H.n->H2.get i=H.get i:=λi hi=>by rw [<-hH2]; simp [show ¬i=H.n by omega,show ¬i=H.n+1 by omega,show ¬i=H.n+2 by omega,show ¬i=H.n+3 by omega]
 have n2:H2.n=H.n+4:=by rw [<-hH2]; simp
 have nil:∀{κ β : Type} [DecidableEq κ] (kf : κ->V) (vf : β->V) (f : κ->β) (M:Nat),H2.get M=some (.map [] 0)->Kept kf vf f M H2:=λkf vf f M hM=>⟨[],0,[],hM,MapR.nil,λp v hv=>by simp [qaS] at hv⟩;have hC:CtL x (H.n+3) H.n (H.n+1) (H.n+2) (λi=>i<h.n) H2:=by
  refine⟨?_,nil _ _ _ _ ?_,nil _ _ _ _ ?_,⟨[],0,[],?_,MapR.nil,λp v hv=>by simp [qaS] at hv⟩,by omega,by omega,by omega,by omega,by omega,by omega,by omega,by omega,by omega,by omega,hB2.keep λi hi=>gk2 i (by omega),by omega,by omega,by omega,by omega⟩
  ·rw [<-hH2]; simp
  ·rw [<-hH2]; simp
  ·rw [<-hH2]; simp
  ·rw [<-hH2]; simp
 obtain⟨H3,hH3⟩:∃H3,(H2.push (.rows [[.int .i64 0,.int .i64 0,.int .i64 0]])).set (H.n+4) (.rows [[.int .i64 n,.int .i64 k,.int .i64 q]])=H3:=⟨_,rfl⟩;have n3:H3.n=H2.n+1:=by rw [<-hH3]; simp
 have gk3:∀i,i<H2.n->H3.get i=H2.get i:=λi hi=>by rw [<-hH3,qBp,Jaa (by omega),qBq,Jaa (by omega)]
 have b3:H3.get (H.n+4)=some (.rows [[.int .i64 n,.int .i64 k,.int .i64 q]]):=by rw [<-hH3,qBp,Jab rfl]
 have hC3:=hC.keep (h':=H3) (X':=λi=>i<h.n) (by omega) gk3 λ_ _ h=>h;rw [hH2,qar];simp -dsimp [n2,hmk,-qar];rw [hH3,qar];simp -dsimp [b3];refine qBr (qw5 hx hg hr hC3 (λi hi=>by omega) (by omega) n k q) ?_
 rintro v H4 ⟨rfl,hC4,hF4⟩;simp only at hC4 hF4;rw [qqO hm n0 n1 k0 k1];have hw:=qbq hm;have hEl:=qly hm (r:=q) n0 n1 k0 k1;have hrise:=(qc3 hw (ref:=q) n0 n1 k0 k1).2;have htree:=qw8 hx hg hr hm hq hsz _ n k (Nat.lt_succ_self _) n0 n1 k0 k1 e he;obtain⟨E,hE⟩:∃E,(qaL x n k q).2=E:=⟨_,rfl⟩;rw [hE] at he hEl hrise ⊢;have hend:∀H,lenV .sl (qvF E) H=some (.int .i64 E.length):=λH=>by unfold qvF; simp
 have n4:=hF4.1;have b4:H4.get (H.n+4)=some (.rows [[.int .i64 n,.int .i64 k,.int .i64 q]]):=hC3.frk hF4 _ _ (by omega) b3;simp -dsimp [hend];refine qvg (λo st=>o=.ret/\(∃v,(gK 10).run st.tm=v/\NdX (λi=>i<h.n) st.h v (lstN x n k e.1 q e.2))/\(gK 11).run st.tm=.int .i64 e.2/\(gK 12).run st.tm=.bool true/\st.defs=[]) ?_ ?_;rotate_left
 ·rintro o ⟨tm,H5,defs,round⟩ ⟨rfl,⟨v,t10,hv⟩,t11,t12,rfl⟩;simp only at t10 t11 t12 hv;obtain⟨s,s1,s2⟩:=hv.frz (m:=h.n) (k:=13) λi hi=>hi;simp -dsimp [t10,t11,t12];refine⟨_,?_,s,s1,rfl⟩;show (match allM (freeze h.n H5 15) [v,V.int .i64 e.2,V.bool true] with|some r=>some (V.tup r)|none=>none)=_;simp only [allM,s2];rfl
 refine qaf (λkk st=>∃i:Nat,i+kk=E.length/\(gK 57).run st.tm=.int .i64 i/\(∀j,j<i->(lat E j).1≠e.1)/\CtL x (H.n+3) H.n (H.n+1) (H.n+2) (λi=>i<h.n) st.h/\H3.n<=st.h.n/\st.h.get (H.n+4)=some (.rows [[.int .i64 n,.int .i64 k,.int .i64 q]])/\st.defs=[]) E.length
  ⟨0,by omega,by simp,by simp,hC4,n4,b4,rfl⟩ ?_
 rintro kk ⟨tm,H5,defs,round⟩ ⟨i,hi,t57,hne,hC5,n5,b5,rfl⟩ hK';have t3:=hK' 3 rfl;have t13:=hK' 13 rfl;have t14:=hK' 14 rfl;have t55:=hK' 55 rfl;have t56:=hK' 56 rfl;simp [n2] at t3 t13 t14 t55 t56 t57;simp only at hne hC5 n5 b5;clear hK';simp -dsimp [t57,t56];rw [qaa];refine⟨λhc=>?_,λhc=>?_⟩;rotate_left
 ·have f1:i=E.length:=by simp at hc; omega
  obtain⟨j,hj,hje⟩:=List.mem_iff_getElem.1 he;exact absurd (by rw [lat_eq hj,hje]) (hne j (by omega))
 have f1:i<E.length:=by simpa using hc
 obtain⟨f,hf⟩:∃f,lat E i=f:=⟨_,rfl⟩;have hie:qaw 2 (qvF E) (.int .i64 i)=some (.ptrR (qad f) 0):=by
  have:=qap (f:=qad) (s:=slE E) (esz:=2) (k:=.i64) (n:=(i:Int)) (by omega) (by simp; omega) (λ_=>rfl);unfold qvF;rw [this]; simp [hf]
 obtain⟨H6,hH6⟩:∃H6,(H5.push (.rows [[.int .i64 0,.int .i64 0]])).set H5.n (.rows [[.int .i64 f.1,.int .i64 f.2]])=H6:=⟨_,rfl⟩;have n6:H6.n=H5.n+1:=by rw [<-hH6]; simp
 have gk6:∀i,i<H5.n->H6.get i=H5.get i:=λi hi=>by rw [<-hH6,qBp,Jaa (by omega),qBq,Jaa (by omega)]
 have g6:H6.get H5.n=some (.rows [[.int .i64 f.1,.int .i64 f.2]]):=by rw [<-hH6,qBp,Jab rfl]
 have hC6:=hC5.keep (h':=H6) (X':=λi=>i<h.n) (by omega) gk6 λ_ _ h=>h;have b6:H6.get (H.n+4)=some (.rows [[.int .i64 n,.int .i64 k,.int .i64 q]]):=by rw [gk6 _ (by omega),b5]
 have m5:h.n<=H5.n:=by omega
 simp -dsimp [-qar];rw [qar];simp -dsimp [t57,t55,hie,qad,m5,-qar];rw [hH6,qar];have heq:eqoV false (eqv (.struct [.int,.int]) (.agg [.int .i64 f.1,.int .i64 f.2]) (.agg [.int .i64 e.1,.int .i64 f.2]))=some (.bool (decide (f.1=e.1))):=by
  have hok:okKs [.int,.int] [V.int .i64 f.1,V.int .i64 f.2]=true:=rfl;simp [eqv,eqL,eq1,hok]
 simp -dsimp [t3,g6,heq];have hiw:fw .i64 ((i:Int)+1)=((i+1:Nat):Int):=by rw [fw64 (by omega) (by omega)]; rfl
 by_cases hfe:f.1=e.1
 rotate_left
 ·simp -dsimp [hfe,t57,hiw];refine qah.intro (kk-1) (by omega) ⟨i+1,by omega,by simp,λj hj=>?_,hC6,by simp only; omega,b6,rfl⟩;rcases Nat.lt_or_eq_of_le (Nat.le_of_lt_succ hj) with c|c
  ·exact hne j c
  ·rw [c,hf]; exact hfe
 ·have hfee:f=e:=by
   have h1:=qwz hrise he;have h2:=qwz hrise (show f∈E by rw [<-hf]; exact qai f1);rw [hfe,h1] at h2;cases h2; rfl
  subst hfee;simp -dsimp [t13,t14,t3,b6,g6];have hsp:qvL (n,k,q,f.1)=.agg [.int .i64 n,.int .i64 k,.int .i64 q,.int .i64 f.1]:=rfl;rw [<-hsp];refine qBr (htree _ h.n H6 (H.n+3) H.n (H.n+1) (H.n+2) (λi=>i<h.n) hC6 (λi hi=>by omega) (by omega) (by omega) (by omega) (by omega)) ?_
  rintro v H7 ⟨hv,hC7,hF7⟩;simp only at hv hC7 hF7;have g7:H7.get H5.n=some (.rows [[.int .i64 f.1,.int .i64 f.2]]):=hC6.frk hF7 _ _ (by omega) g6;simp -dsimp [g7,b6,g6];exact hv
end
def qkz (w:List UInt8) (k:Int):Int:=if qaW w k=true then ((qaH (w.take k.toNat) 0).length:Int) else -1
structure LnI (u:Wd) (h0:Heap) (A:Nat) (lp:Obj) (ys:List Int) (H:Heap):Prop where
 a:H.get A=some (.rows [[.int .i64 ys.length]])
 b:H.get (A+1)=some (.rows [[u.v]])
 d:H.get (A+2)=some .dfr
 l:H.get (A+3)=some lp
 n:A+4<=H.n
 k:∀i,i<A->H.get i=h0.get i
section
variable {w:Wd}{mk:Nat}
theorem qo1 {h:Heap}(hW:WB h w) (hm:w.m<=h.n) (hw:w.l.length<1000000) {d:Bool}(k:Int):WF PR d mk (.fn 318 [] []) [w.v,.int .i64 k] h λr=>r=⟨.int .i64 (qkz w.l k),h⟩:=by
 refine qBt f318 b318 [.tm 4] rfl rfl rfl rfl rfl rfl ?_;unfold b318;simp -dsimp;refine qBr (qcb hW k) ?_
 intro v h' e;cases e;cases hp:qaW w.l k with
 | false=>simp -dsimp [qkz,hp]
 | true =>
  have k0:0<=k:=by simp [qaW] at hp; exact hp.1
  have k1:k<=w.l.length:=by simp [qaW] at hp; exact hp.2
  simp -dsimp;obtain⟨H2,hH2⟩:∃H2,(h.push (Obj.rows [[V.int IntKind.i64 0]])).set h.n (Obj.rows [[V.int IntKind.i64 0]])=H2:=⟨_,rfl⟩;have n2:H2.n=h.n+1:=by rw [<-hH2]; simp
  have q0:H2.get h.n=some (.rows [[.int .i64 0]]):=by rw [<-hH2]; simp
  have qk:∀i,i<h.n->H2.get i=h.get i:=λi hi=>by rw [<-hH2,qBp,Jaa (by omega),qBq,Jaa (by omega)]
  rw [hH2];have hW2:WB H2 w:=hW.keep λi hi=>qk i (by omega);refine ql5 hW2 k0 k1 (by simp) ?_;intro v hU;have hlen:(w.l.take k.toNat).length=k.toNat:=by rw [List.length_take]; omega
  simp -dsimp [n2];refine qBr (qlR hU.cells.1 (by omega)) ?_
  intro v3 h3 e;cases e;simp -dsimp;obtain⟨u,hu⟩:∃u:Wd,(⟨v,w.l.take k.toNat,w.m⟩:Wd)=u:=⟨_,rfl⟩;have huv:u.v=v:=by rw [<-hu]
  have hul:u.l=w.l.take k.toNat:=by rw [<-hu]
  have hum:u.m=w.m:=by rw [<-hu]
  rw [hu] at hU;obtain⟨H3,hH3⟩:∃H3,H2.push (Obj.rows [[v]])=H3:=⟨_,rfl⟩;have hn3:H3.n=h.n+2:=by rw [<-hH3]; simp [n2]
  have g0:H3.get h.n=some (.rows [[.int .i64 0]]):=by rw [<-hH3,qBq,Jaa (by omega),q0]
  have g1:H3.get (h.n+1)=some (.rows [[u.v]]):=by rw [<-hH3,qBq,Jab (by omega),huv]
  have gk:∀i,i<h.n->H3.get i=h.get i:=λi hi=>by rw [<-hH3,qBq,Jaa (by omega),qk i hi]
  rw [hH3];refine qgr (λst=>st.h=H3/\(gK 5).run st.tm=.ptr h.n 0 0/\(gK 13).run st.tm=.fn 338 [] [.ptr (h.n+1) 0 0]/\st.defs=[]/\st.round=false) (by simp [n2]) ?_;rintro⟨tm,H3',defs,round⟩ ⟨rfl,k5,k13,rfl,rfl⟩;simp only at k5 k13 hn3 g0 g1 gk;refine qeJ rfl ?_;intro H0 asg body hasg hbody z1 z2 z3 z4;simp only at z1 z2 z3 z4;simp only [ev_t,k13];have hb:∀{H:Heap},(∀i,i<h.n->H.get i=h.get i)->WB H u:=λ{H} hk=>hU.keep λi hi=>by rw [hum] at hi; rw [hk i (by omega),qk i (by omega)]
  refine W.mono (qjN (w:=u) (l:=H3'.n+1) (B:=h.n+1) (by rw [hul,hlen]; omega) (by omega) (λys H=>LnI u h h.n (.loop .ready none tm [14] asg body) ys H/\H0.n<=H.n) ?_ ?_ ?_) ?_
  ·exact⟨⟨by rw [z2 _ (by omega),g0]; rfl,by rw [z2 _ (by omega),g1],by rw [<-hn3,z3],by rw [show h.n+3=H3'.n+1 by omega,z4],by omega,λi hi=>by rw [z2 i (by omega),gk i hi]⟩,Jac _⟩
  ·rintro ys H ⟨hL,hn⟩;exact⟨hL.b,hb hL.k,hn⟩
  ·rintro ys y H ⟨hL,hn⟩ hyl y0 y1;have hLn:=hL.n;have hyl':ys.length<=1000000:=by rw [hul,hlen] at hyl; omega
   rw [show H3'.n+1=h.n+3 by omega];refine qBU hL.l hasg hbody (by omega) rfl ?_;simp -dsimp [hL.l];have e0:¬h.n=h.n+3:=by omega
   have m0:h.n<=h.n:=Jac _;simp -dsimp [k5,e0,hL.a,fw64 (n:=(ys.length:Int)+1) (by omega) (by omega)];refine⟨rfl,.busy,none,tm,[14],asg,body,by rw [qBp,Jaa (by omega),qBp,Jab rfl],rfl,?_,?_⟩
   ·have hfix:∀j,j≠h.n+3->j≠h.n->(((H.set (h.n+3) (.loop .busy none tm [14] asg body)).set h.n (.rows [[.int .i64 ((ys.length:Int)+1)]])).set (h.n+3) (.loop .ready none tm [14] asg body)).get j=H.get j:=λj h1 h2=>by
     rw [qBp,Jaa h1,qBp,Jaa h2,qBp,Jaa h1]
    refine⟨by rw [qBp,Jaa (by omega),qBp,Jab rfl]; simp,by rw [hfix _ (by omega) (by omega),hL.b],by rw [hfix _ (by omega) (by omega),hL.d],by rw [qBp,Jab rfl],by simpa using hLn,λi hi=>by rw [hfix i (by omega) (by omega),hL.k i hi]⟩
   ·show H0.n<=H.n;exact hn
  ·rintro⟨v,H7⟩ ⟨hL,hn⟩;simp only at hL hn ⊢;have hLn:=hL.n;refine⟨by rw [show H3'.n+1=h.n+3 by omega,hL.l],?_⟩;have c1:¬h.n=H3'.n+1:=by omega
   have c2:¬H3'.n=H3'.n+1:=by omega
   have c3:¬H3'.n=h.n:=by omega
   have c4:¬h.n=H3'.n:=by omega
   have d7:H7.get H3'.n=some .dfr:=by rw [show H3'.n=h.n+2 by omega,hL.d]
   have m3:h.n<=H3'.n:=by omega
   have hlv:qkz w.l k=((qaH u.l 0).length:Int):=by rw [qkz,Jab hp,hul]
   simp -dsimp [k5,hL.a,c1,c2,c3,c4,d7,m3,hlv]
end
section
variable {mk n:Nat}{h:Heap}
theorem qs9 {α : Type}{f : α->List V}{k:Nat}(hf:∀a,allM (freeze n h k) (f a)=some (f a)):∀l:List α,allM (allM (freeze n h k)) (l.map f)=some (l.map f)
 | []=>rfl
 | a::l=>by simp only [List.map_cons,allM,hf,qs9 hf l]
theorem qtm {α : Type}{f : α->List V}{k:Nat}(hf:∀a,allM (freeze n h k) (f a)=some (f a)) (s:Sl α):freeze n h (k+1) (s.enc f)=some (s.enc f):=by
 cases s with
 | nil=>rfl
 | of l=>simp only [Sl.enc,freeze,qs9 hf l]
 | full l=>simp only [Sl.enc,freeze,qs9 hf l]
end
abbrev Dg:=Int × Int × Int
def qyo (y:Dg):List V:=[.int .i64 y.1,.int .i64 y.2.1,.int .i64 y.2.2]
def dgOf (x:Ev) (k:Int):Dg:=(k,qkz x.w.l k,colV x.w.l x.tab k)
def qyr (x:Ev) (t:List Nd):List Dg:=(t.filter λy=>outN x.g y).map λy=>dgOf x y.2.2.1
section
variable {x:Ev}{d:Bool}{mk:Nat}{h:Heap}
theorem qy3 {B:Nat}(y:Nd) (hB:h.get B=some (.rows [x.cells])) (hl:B<h.n):WF PR d mk (.fn 440 [] [.ptr B 0 0]) [.agg (qui y)] h λr=>r.v=.bool (outN x.g y)/\h.n<=r.h.n/\∀i,i<h.n->r.h.get i=h.get i:=by
 refine WF.go f440 b440 [.tm 3] rfl rfl rfl rfl rfl rfl ?_;unfold b440;have b0:h.get B=some (.rows [[x.g.p.enc Pd.cells,x.g.keys.enc qac,x.w.v,.int .i64 x.tab,.bool x.heal]]):=hB;have hlen:∀H,lenV .sl (x.g.p.enc Pd.cells) H=some (.int .i64 x.g.p.l.length):=λH=>by simp
 have hne:¬B=h.n:=by omega
 have hk:∀i,i<h.n->(h.push (.rows [qui y])).get i=h.get i:=λi hi=>by simp; omega
 by_cases c1:0<=y.1
 rotate_left
 ·simp -dsimp [qui,c1,hne,b0,outN];exact λi hi=>by omega
 by_cases c2:y.1<x.g.p.l.length
 rotate_left
 ·simp -dsimp [qui,c1,c2,hne,b0,outN];exact λi hi=>by omega
 obtain⟨p,hp⟩:∃p,lat x.g.p.l y.1.toNat=p:=⟨_,rfl⟩;have hia:qaw 3 (x.g.p.enc Pd.cells) (.int .i64 y.1)=some (.ptrR p.cells 0):=by
  have:=qap (f:=Pd.cells) (s:=x.g.p) (esz:=3) (k:=.i64) (n:=y.1) c1 c2 (λ_=>rfl);rw [this,hp]
 simp -dsimp [qui,c1,c2,hne,b0,outN,hia,Pd.cells,hp];exact λi hi=>by omega
def TlOk (x:Ev) (T m:Nat) (ds:List Dg) (h:Heap):Prop:=∃v,h.get T=some (.rows [[x.g.p.enc Pd.cells,x.g.keys.enc qac,x.w.v,.int .i64 x.tab,.bool x.heal,v]])/\Own h m v 3 (ds.map qyo)
theorem qzp {T m:Nat}{ds:List Dg}(hT:TlOk x T m ds h) (lT:T<m) (lm:m<=h.n) (hmk:mk<=T) (hB:WB h x.w) (hwm:x.w.m<=T) (hw:x.w.l.length<1000000) (hds:ds.length<1000000) (k:Int) :
  WF PR false mk (.fn 436 [.ptr T 0 0] []) [.int .i64 k] h λr=>TlOk x T m (ds++[dgOf x k]) r.h/\h.n<=r.h.n/\∀i,i<m->i≠T->r.h.get i=h.get i:=by
 refine WF.go f436 b436 [] rfl rfl rfl rfl rfl rfl ?_;unfold b436;obtain⟨v,t0,hO⟩:=hT;have hone:x.w.v.one=true:=hB.cells.2;simp -dsimp [qcT,t0];refine qBr (qo1 hB (by omega) hw k) ?_
 intro v1 h1 e;cases e;simp -dsimp [qcT,t0];refine qBr (qq3 hB hw k x.tab) ?_
 intro v2 h2 e;cases e;simp -dsimp [qcT,t0];obtain⟨v3,H3,a1,a2,a3,a4,a5⟩:=qaC (mk:=mk) (bytes:=24) (xs:=[qyo (dgOf x k)]) hO (by omega) (λq hq=>by rw [Jah] at hq; subst hq; exact⟨rfl,by simp [qyo,ones]⟩) (by simp; omega) (by omega) lm;have hv3:v3.cells=[v3]/\v3.one=true:=(show Own H3 m v3 3 _ from a2).cells;have hv:=hO.cells;have t3:H3.get T=h.get T:=a4 T (by omega) (hO.slId lT);rw [qaE (xs:=[qyo (dgOf x k)]) (by simp [qal,qyo,dgOf])];simp -dsimp;refine OpS.intro a1 ?_;simp -dsimp [qcT,t3,t0,hv3.1,hv3.2,hmk,qbW,hone,hv.1,hv.2];have a2':Own H3 m v3 3 ((ds++[dgOf x k]).map qyo):=by simpa using a2
 refine⟨⟨v3,by rw [qBp,Jab rfl],a2'.ext1 (E:=T) lT ⟨by simp,λj hj hne=>by rw [qBp,Jaa hne]⟩⟩,a3,λi hi hne=>?_⟩;rw [Jaa hne,a4 i (by omega) (hO.slId hi)]
theorem TlOk.keep {T m:Nat}{ds:List Dg}{h h':Heap}(hT:TlOk x T m ds h) (lT:T<h.n) (hn:h.n<=h'.n) (hk:∀i,i<h.n->h'.get i=h.get i):TlOk x T m ds h':=by
 obtain⟨v,t0,hO⟩:=hT;exact⟨v,by rw [hk T lT,t0],hO.ext hk hn⟩
theorem qy4 {t:List Nd}{i:Nat}(h:i<t.length):qyr x (t.take (i+1))=qyr x (t.take i)++if outN x.g (lat t i)=true then [dgOf x (lat t i).2.2.1] else []:=by
 unfold qyr;rw [Jap,qaz h,List.filter_append,List.map_append];congr 1;simp only [Option.toList,List.filter_cons,List.filter_nil];split<;>simp
theorem qzq {T mt:Nat}{tv:V}{t:List Nd}(hT:h.get T=some (.rows [[x.g.p.enc Pd.cells,x.g.keys.enc qac,x.w.v,.int .i64 x.tab,.bool x.heal,.nils]])) (lT:T<h.n) (hmk:mk<=T) (hB:WB h x.w) (hwm:x.w.m<=T) (hw:x.w.l.length<1000000) (hN:NdB h ⟨tv,t,mt⟩) (hmt:mt<=T) (ht:t.length<1000000) :
  WF PR false mk (.fn 435 [] []) [.agg x.cells,tv,.fn 436 [.ptr T 0 0] []] h λr=>TlOk x T (h.n+1) (qyr x t) r.h/\h.n<=r.h.n:=by
 refine WF.go f435 b435 [] rfl rfl rfl rfl rfl rfl ?_;unfold b435;have e5:[Sl.enc Pd.cells x.g.p,Sl.enc qac x.g.keys,x.w.v,V.int IntKind.i64 x.tab,V.bool x.heal]=x.cells:=rfl;have hone:x.w.v.one=true:=hB.cells.2;have hlt:∀H,lenV .sl tv H=some (.int .i64 t.length):=λH=>hN.len;obtain⟨H0,hH0⟩:∃H0,h.push (.rows [x.cells])=H0:=⟨_,rfl⟩;have n0:H0.n=h.n+1:=by rw [<-hH0]; simp
 have k0:∀i,i<h.n->H0.get i=h.get i:=λi hi=>by rw [<-hH0]; simp [show ¬i=h.n by omega]
 have b0:H0.get h.n=some (.rows [x.cells]):=by rw [<-hH0]; simp
 simp -dsimp [Ev.cells,hone,-qar];rw [qar];simp -dsimp [Ev.cells,-qar];rw [e5,hH0,qar];simp -dsimp [hlt];refine qaf (λk st=>∃i:Nat,i+k=t.length/\(gK 12).run st.tm=.int .i64 i/\TlOk x T (h.n+1) (qyr x (t.take i)) st.h/\h.n+1<=st.h.n/\(∀i,i<h.n+1->i≠T->st.h.get i=H0.get i)/\st.defs=[]) t.length
  ⟨0,by omega,by simp,⟨.nils,by simp only; rw [k0 T lT,hT],.inl ⟨rfl,rfl⟩⟩,by simp only; omega,λi hi _=>rfl,rfl⟩ ?_
 rintro k ⟨tm,H,defs,round⟩ ⟨i,hi,t12,hTl,hn,hk,rfl⟩ hK;have u2:=hK 2 rfl;have u6:=hK 6 rfl;have u10:=hK 10 rfl;have u11:=hK 11 rfl;simp at u2 u6 u10 u11 t12;simp only at hTl hn hk;clear hK;simp -dsimp [t12,u11];rw [qaa];refine⟨λhc=>?_,λhc=>?_⟩
 ·have d1:i<t.length:=by simpa using hc
  obtain⟨y,hy⟩:∃y,lat t i=y:=⟨_,rfl⟩;have hkeep:∀j,j<T->H.get j=h.get j:=λj hj=>by rw [hk j (by omega) (by omega),k0 j (by omega)]
  have hN2:NdB H ⟨tv,t,mt⟩:=hN.keep λj hj=>hkeep j (by simp only at hj; omega);have hB2:WB H x.w:=hB.keep λj hj=>hkeep j (by omega);obtain⟨q,q1,q2,_⟩:=hN2.at (k:=(i:Int)) (by omega) (by simp only; omega);rw [Int.toNat_natCast] at q2;simp only [hy] at q2;have hdt:=qy4 (x:=x) d1;rw [hy] at hdt;obtain⟨H1,hH1⟩:∃H1,(H.push (.rows [[.int .i64 0,.int .i64 0,.int .i64 0,.int .i64 0]])).set H.n (.rows [qui y])=H1:=⟨_,rfl⟩;have n1:H1.n=H.n+1:=by rw [<-hH1]; simp
  have k1:∀j,j<H.n->H1.get j=H.get j:=λj hj=>by rw [<-hH1,qBp,Jaa (by omega),qBq,Jaa (by omega)]
  have g1:H1.get H.n=some (.rows [qui y]):=by rw [<-hH1,qBp,Jab rfl]
  have hmn:mk<=H.n:=by omega
  have bB:H1.get h.n=some (.rows [x.cells]):=by rw [k1 _ (by omega),hk _ (by omega) (by omega),b0]
  have l4:(qui y).length=4:=rfl;have o4:ones (qui y)=true:=rfl;have p4:qbW [.int .i64 0,.int .i64 0,.int .i64 0,.int .i64 0] 0 (qui y)=qui y:=rfl;have tk4:List.take 4 (qui y)=qui y:=rfl;simp -dsimp [-qar];rw [qar];simp -dsimp [u10,t12,q1,q2,l4,o4,hmn,-qar];rw [p4,hH1,qar];simp -dsimp [u6,g1,l4,tk4];refine qBr (qy3 y bB (by omega)) ?_
  rintro v2 H2 ⟨e2v,n2,k2⟩;simp only at e2v n2 k2;subst e2v;have hTl2:TlOk x T (h.n+1) (qyr x (t.take i)) H2:=(hTl.keep (by omega) (by omega) k1).keep (by omega) n2 k2;have hk2:∀j,j<h.n+1->j≠T->H2.get j=H0.get j:=λj hj hne=>by rw [k2 j (by omega),k1 j (by omega),hk j hj hne]
  have g2:H2.get H.n=some (.rows [qui y]):=by rw [k2 _ (by omega),g1]
  have hB3:WB H2 x.w:=hB.keep λj hj=>by rw [hk2 j (by omega) (by omega),k0 j (by omega)]
  simp -dsimp;rw [qaa];refine⟨λho=>?_,λho=>?_⟩
  ·rw [Jab ho] at hdt;have hnd:qui y=[.int .i64 y.1,.int .i64 y.2.1,.int .i64 y.2.2.1,.int .i64 y.2.2.2]:=rfl;have hdl:(qyr x (t.take i)).length<1000000:=by
    unfold qyr;rw [List.length_map];have:=List.length_filter_le (λy=>outN x.g y) (t.take i);rw [List.length_take] at this;omega
   simp -dsimp [u2,g2,hnd];refine qBr (qzp hTl2 (by omega) (by omega) hmk hB3 hwm hw hdl y.2.2.1) ?_
   rintro v3 H3 ⟨hTl3,n3,k3⟩;simp only at hTl3 n3 k3;simp -dsimp [t12,fw64 (n:=(i:Int)+1) (by omega) (by omega)];refine qah.intro (k-1) (by omega) ⟨i+1,by omega,by simp,by rw [hdt]; exact hTl3,by simp only; omega,λj hj hne=>by simp only; rw [k3 j hj hne,hk2 j hj hne],rfl⟩
  ·rw [Jaa (by rw [ho]; decide),List.append_nil] at hdt;simp -dsimp [t12,fw64 (n:=(i:Int)+1) (by omega) (by omega)];exact qah.intro (k-1) (by omega) ⟨i+1,by omega,by simp,by rw [hdt]; exact hTl2,by simp only; omega,hk2,rfl⟩
 ·have d1:i=t.length:=by simp at hc; omega
  subst d1;rw [List.take_length] at hTl;simp -dsimp;exact⟨hTl,by omega⟩
theorem qzo {mk k:Nat}{h:Heap}:∀l:List Dg,allM (allM (freeze mk h (k+1))) (l.map qyo)=some (l.map qyo)
 | []=>rfl
 | x::l=>by
  have:=qzo (mk:=mk) (k:=k) (h:=h) l;have e:∀y,freeze mk h (k+1) (.int .i64 y)=some (.int .i64 y):=λy=>rfl;simp only [List.map_cons,qyo,allM,e] at this ⊢;rw [this]
def slD (l:List Dg):Sl Dg:=if l.isEmpty then .nil else .of l
@[simp] theorem slD_l (l:List Dg):(slD l).l=l:=by unfold slD; cases l<;>rfl
theorem qzj {h:Heap}{n m:Nat}{v:V}{l:List Dg}(hO:Own h m v 3 (l.map qyo)) (hn:n<=m):freeze n h qat v=some ((slD l).enc qyo):=by
 rcases hO with ⟨rfl,e⟩|⟨id,rfl,h2,h3,_,h5⟩
 ·have:l=[]:=by simpa using e
  subst this; rfl
 ·have hr:qal h (.sl id 0 (l.map qyo).length 3 false)=some (l.map qyo):=by simp [qal,h2]; rw [List.take_of_length_le (by simp)]
  have hni:n<=id:=by omega
  have hne:l≠[]:=λe=>h5 (by simp [e]);rw [qc5,hr];simp only [qzo,qa3,hni,decide_true,cond];cases l with
  | nil=>exact absurd rfl hne
  | cons x l=>rfl
theorem qyZ (hx:EvS x) (hg:x.g.Fine) (hB:WB h x.w) (hwm:x.w.m<=h.n) (hm:mayE x=true) {mt:Nat}{tv:V}{t:List Nd}(hN:NdB h ⟨tv,t,mt⟩) (hmt:mt<=h.n) (ht:t.length<1000000) :
  WF PR d mk (.fn 431 [] []) [.agg x.cells,tv] h λr=>r=⟨(slD (qyr x t)).enc qyo,h⟩:=by
 refine qBt f431 b431 [.tm 4] rfl rfl rfl rfl rfl rfl ?_;unfold b431;have e5:[Sl.enc Pd.cells x.g.p,Sl.enc qac x.g.keys,x.w.v,V.int IntKind.i64 x.tab,V.bool x.heal]=x.cells:=rfl;have hone:x.w.v.one=true:=hB.cells.2;obtain⟨H0,hH0⟩:∃H0,h.push (.rows [x.cells])=H0:=⟨_,rfl⟩;have n0:H0.n=h.n+1:=by rw [<-hH0]; simp
 have k0:∀i,i<h.n->H0.get i=h.get i:=λi hi=>by rw [<-hH0]; simp [show ¬i=h.n by omega]
 have b0:H0.get h.n=some (.rows [[x.g.p.enc Pd.cells,x.g.keys.enc qac,x.w.v,.int .i64 x.tab,.bool x.heal]]):=by rw [<-hH0]; simp; rfl
 have hB0:WB H0 x.w:=hB.keep λi hi=>k0 i (by omega);simp -dsimp [Ev.cells,-qar];rw [qar];simp -dsimp [-qar];rw [e5,hH0,qar];simp -dsimp [b0,-qar];rw [e5];refine qBr (qbJ x hg hB0) ?_
 intro v' h' e';cases e';rw [hm];obtain⟨H1,hH1⟩:∃H1,H0.push (.rows [[x.g.p.enc Pd.cells,x.g.keys.enc qac,x.w.v,.int .i64 x.tab,.bool x.heal,.nils]])=H1:=⟨_,rfl⟩;have n1:H1.n=H0.n+1:=by rw [<-hH1]; simp
 have k1:∀i,i<H0.n->H1.get i=H0.get i:=λi hi=>by rw [<-hH1]; simp [show ¬i=H0.n by omega]
 have T1:H1.get H0.n=some (.rows [[x.g.p.enc Pd.cells,x.g.keys.enc qac,x.w.v,.int .i64 x.tab,.bool x.heal,.nils]]):=by rw [<-hH1]; simp
 have c1:H1.get h.n=some (.rows [[x.g.p.enc Pd.cells,x.g.keys.enc qac,x.w.v,.int .i64 x.tab,.bool x.heal]]):=by rw [k1 _ (by omega),b0]
 have hB1:WB H1 x.w:=hB0.keep λi hi=>k1 i (by omega);have hN1:NdB H1 ⟨tv,t,mt⟩:=hN.keep λi hi=>by rw [k1 i (by simp only at hi; omega),k0 i (by simp only at hi; omega)]
 simp -dsimp [b0,hone,-qar];rw [qar];simp -dsimp [b0,hone,-qar];rw [hH1,qar];simp -dsimp [c1];rw [e5];have hw6:=hx.w;refine qBr (qzq T1 (by omega) (by omega) hB1 (by omega) (by omega) hN1 (by omega) ht) ?_
 rintro v2 H2 ⟨⟨v,t2,hO⟩,n2⟩;simp only at t2 hO n2;simp -dsimp [qcT,t2];exact qzj hO (by omega)
theorem qyD (hx:EvS x) (hg:x.g.Fine) (hr:∀p∈x.g.p.l,∀a∈p.a.l,∀s∈a.l,s.r.l.length<1500000) (hB:WB h x.w) (hwm:x.w.m<=h.n) {y:Ev}(hy:y=⟨x.g,x.w,x.tab,true⟩) (hm:mayE y=true)
  (hq:∀n k:Int,0<=n->n<y.g.p.l.length->0<=k->k<=y.w.l.length->refV y n k (-1) = -1)
  (hsz:∀n k:Int,0<=n->n<y.g.p.l.length->0<=k->k<=y.w.l.length->∀e∈(qaL y n k (-1)).2,(lstN y n k e.1 (-1) e.2).length<1000000)
  {b:Int}(he:(((x.w.l.length:Int),b):En)∈(qaL y 0 0 (-1)).2) {t:List Nd}(ht:lstN y 0 0 x.w.l.length (-1) b=t) (htl:t.length<1000000) :
  WF PR d mk (.fn 428 [] []) [.agg x.cells] h λr=>r.h=h/\∃s:Sl Nd,s.l=t/\r.v=.tup [s.enc qui,(slD (qyr y t)).enc qyo,.bool true]:=by
 refine qBJ (F:=f428) (Q:=λv=>∃s:Sl Nd,s.l=t/\v=.tup [s.enc qui,(slD (qyr y t)).enc qyo,.bool true]) rfl rfl rfl (Nat.le_of_ble_eq_true rfl) ?_;refine qef b428 [.tm 2,.tm 3,.tm 4] rfl rfl ?_;unfold b428;have hyg:y.g=x.g:=by rw [hy]
 have hyw:y.w=x.w:=by rw [hy]
 have hmx:mayE x=true:=by rw [hy] at hm; exact hm
 have e5:[Sl.enc Pd.cells x.g.p,Sl.enc qac x.g.keys,x.w.v,V.int IntKind.i64 x.tab,V.bool x.heal]=x.cells:=rfl;have e6:[Sl.enc Pd.cells x.g.p,Sl.enc qac x.g.keys,x.w.v,V.int IntKind.i64 x.tab,V.bool true]=y.cells:=by rw [hy]; rfl
 have hone:x.w.v.one=true:=hB.cells.2;have hlw:∀H,lenV .sl x.w.v H=some (.int .i64 x.w.l.length):=λH=>hB.len;have hSy:EvS y:=by rw [hy]; exact⟨hx.g,hx.k,hx.w⟩
 obtain⟨H0,hH0⟩:∃H0,h.push (.rows [x.cells])=H0:=⟨_,rfl⟩;have n0:H0.n=h.n+1:=by rw [<-hH0]; simp
 have k0:∀i,i<h.n->H0.get i=h.get i:=λi hi=>by rw [<-hH0]; simp [show ¬i=h.n by omega]
 have b0:H0.get h.n=some (.rows [[x.g.p.enc Pd.cells,x.g.keys.enc qac,x.w.v,.int .i64 x.tab,.bool x.heal]]):=by rw [<-hH0]; simp; rfl
 have hB0:WB H0 x.w:=hB.keep λi hi=>k0 i (by omega);obtain⟨H1,hH1⟩:∃H1,H0.set h.n (.rows [y.cells])=H1:=⟨_,rfl⟩;have n1:H1.n=H0.n:=by rw [<-hH1]; simp
 have b1:H1.get h.n=some (.rows [[x.g.p.enc Pd.cells,x.g.keys.enc qac,x.w.v,.int .i64 x.tab,.bool true]]):=by rw [<-hH1,qBp,Jab rfl,e6]
 have hB1:WB H1 y.w:=by rw [hyw]; exact hB0.keep λi hi=>by rw [<-hH1,qBp,Jaa (by omega)]
 simp -dsimp [Ev.cells,-qar];rw [qar];simp -dsimp [-qar];rw [e5,hH0,qar];simp -dsimp [b0,-qar];rw [e5];refine qBr (qbJ x hg hB0) ?_
 intro v' h' e';cases e';rw [hmx];simp -dsimp [b0,qbW,-qar];rw [qar];simp -dsimp [b0,qbW,-qar];rw [e6,hH1,qar];simp -dsimp [b1,hlw];rw [e6];have hlT:=qwT (d:=d) (mk:=h.n) (h:=H1) hSy (by rw [hyg]; exact hg) (by rw [hyg]; exact hr) hB1 (by rw [hyw]; omega) hm hq hsz (n:=0) (k:=0) (Int.le_refl 0) (by have:=(qaF (qbq hm).m).p0; omega) (Int.le_refl 0) (by omega) he;simp only at hlT;refine qBr hlT ?_
 rintro v2 h2 ⟨f1,s,hs,f2⟩;simp only at f1 f2;subst f1 f2;rw [ht] at hs;simp -dsimp [b1];rw [e6];have hN:NdB h2 ⟨s.enc qui,t,0⟩:=.inl ⟨s,rfl,hs⟩;refine qBr (qyZ hSy (by rw [hyg]; exact hg) hB1 (by rw [hyw]; omega) hm hN (Nat.zero_le _) htl) ?_
 intro v3 h3 e3;cases e3;simp -dsimp;refine⟨_,?_,s,hs,rfl⟩;have f1:freeze h.n h2 15 (s.enc qui)=some (s.enc qui):=qtm (k:=14) (λ_=>rfl) s;have f2:freeze h.n h2 15 ((slD (qyr y t)).enc qyo)=some ((slD (qyr y t)).enc qyo):=qtm (k:=14) (λ_=>rfl) _;show (match allM (freeze h.n h2 15) [s.enc qui,(slD (qyr y t)).enc qyo,V.bool true] with|some r=>some (V.tup r)|none=>none)=_;simp only [allM,f1,f2];rfl
end
section
variable {x:Ev}{K M1 M2 M3 mk:Nat}{h:Heap}{d:Bool}
def Ev.calm (x:Ev):Ev:=⟨x.g,x.w,x.tab,false⟩
end
section
variable {x:Ev}(hx:EvW x)
include hx
theorem qv5 {n k:Int}(k0:0<=k) (k1:k<=x.w.l.length):muN x.g x.w.l n k<61 * (x.w.l.length+1):=by
 have hok:=qaF hx.m;have hp:=hok.p;have r1:=qlj (g:=x.g) n;unfold muN;have:(x.w.l.length-k.toNat) * 61<=x.w.l.length * 61:=Nat.mul_le_mul_right _ (by omega);omega
end
theorem qwf {x:Ev}{n mk:Nat}{h:Heap}(hg:x.g.Fine) (hB:WB h x.w) (e:evCall PR n mk (.fn 312 [] []) [.agg x.cells] h=some [⟨.bool true,h⟩]):mayE x=true:=by
 obtain⟨l,N,h0,_,h2,h3⟩:=qbJ (d:=false) (mk:=mk) x hg hB;have e1:=qdU qda n (max n N) mk mk (by omega) (Jac _) _ _ _ _ e;have h4:=h2 (max n N) (by omega);simp only at h4;rw [h4] at e1;cases e1;have:=h3 _ (Jah.2 rfl);simp only [VH.mk.injEq,V.bool.injEq,and_true] at this;exact this.symm
def qxb (x:Ev) (q:Int) (Lk:Int->Int->List En × List En) (n k u:Int):Bool:=qbp x n k u q&&(!bitB (lat x.g.p.l n.toNat).marks 1||decide (((Lk n k).1.getLast?.map (·.1))=some u))
def altK (x:Ev) (q:Int) (Lk:Int->Int->List En × List En) (n k u b:Int):Int:=if qxb x q Lk n k u=true then idxP (λa=>decide (badC (λn k=>(Lk n k).2) x.w.l u a.l k=b)) (lat x.g.p.l n.toNat).a.l 0 else -1
def qwV (x:Ev) (q:Int) (Lk:Int->Int->List En × List En):Nat->Int->Int->Int->Int->List Nd
 | 0,_,_,_,_=>[]
 | m+1,n,k,u,b =>
  if 0<=altK x q Lk n k u b then
   (n,altK x q Lk n k u b,k,u)::qwp x.g (λn k=>(Lk n k).2) (λn' k' u' b'=>qwV x q Lk m n' k' u' b') x.w.l u (lat (lat x.g.p.l n.toNat).a.l (altK x q Lk n k u b).toNat).l k b
  else [(n,(lat x.g.p.l n.toNat).a.l.length,k,u)]
theorem qwJ {f f':En->Int}:∀(l:List En) (o:Int),(∀e∈l,f e=f' e)->l.foldl (λo e=>min o (f e)) o=l.foldl (λo e=>min o (f' e)) o
 | [],_,_=>rfl
 | e::l,o,h=>by
  rw [List.foldl_cons,List.foldl_cons,h e (by simp)];exact qwJ l _ λe he=>h e (by simp [he])
theorem qwB {g:Gr}{w:List UInt8}{L L':Look}{k0 u:Int}(h0:0<=k0):∀(m l:List Sy) (k:Int),(∀s∈m,s.kind=2->0<=s.n)->(∀i,i<m.length->(lat m i).kind=2->∀j,NowP g w (l++m.take i) k0 (j,0)->L (lat m i).n j=L' (lat m i).n j/\∀f∈L (lat m i).n j,EndP g w (lat m i).n j f) ->
  NowP g w l k0 (k,0)->badC L w u m k=badC L' w u m k
 | [],_,_,_,_,_=>rfl
 | s::m,l,k,hs,hC,h=>by
  have h1:∀k',NowP g w (l++[s]) k0 (k',0)->badC L w u m k'=badC L' w u m k':=λk' hk' =>
   qwB h0 m (l++[s]) k' (λt ht=>hs t (by simp [ht])) (λi hi hk j hj=>hC (i+1) (by simp; omega) (by simpa [lat] using hk) j (by simpa using hj)) hk'
  rw [badC,badC];split
  ·rename_i hk;obtain⟨e0,e2⟩:=hC 0 (by simp) (by simpa [lat] using hk) k (by simpa using h);rw [show lat (s::m) 0=s from rfl] at e0 e2;rw [<-e0];exact qwJ _ _ λe he=>by rw [h1 e.1 (qvO h0 (hs s (by simp) hk) hk e2 h he)]
  ·split
   ·rename_i hk hm;exact h1 _ (qvA h0 hk h hm)
   ·rfl
theorem qwA {g:Gr}{f f':En->List Nd}{ok ok':En->Bool}:∀(l:List En) (b:Option (List Nd × En)),(∀e∈l,f e=f' e/\ok e=ok' e)->qwt g f ok l b=qwt g f' ok' l b
 | [],_,_=>rfl
 | e::l,b,h=>by
  simp only [qwt,(h e (by simp)).1,(h e (by simp)).2];exact qwA l _ λe he=>h e (by simp [he])
theorem qwy {g:Gr}{w:List UInt8}{L L':Look}{k0:Int}{T T':Int->Int->Int->Int->List Nd}{u:Int}(h0:0<=k0):∀(m l:List Sy) (k b:Int),(∀s∈m,s.kind=2->0<=s.n)->(∀i,i<m.length->(lat m i).kind=2->∀j,NowP g w (l++m.take i) k0 (j,0)->L (lat m i).n j=L' (lat m i).n j/\(∀u' b',T (lat m i).n j u' b'=T' (lat m i).n j u' b')/\∀f∈L (lat m i).n j,EndP g w (lat m i).n j f) ->
  NowP g w l k0 (k,0)->qwp g L T w u m k b=qwp g L' T' w u m k b
 | [],_,_,_,_,_,_=>rfl
 | s::m,l,k,b,hs,hC,h=>by
  have h1:∀k' b',NowP g w (l++[s]) k0 (k',0)->qwp g L T w u m k' b'=qwp g L' T' w u m k' b':=λk' b' hk' =>
   qwy h0 m (l++[s]) k' b' (λt ht=>hs t (by simp [ht])) (λi hi hk j hj=>hC (i+1) (by simp; omega) (by simpa [lat] using hk) j (by simpa using hj)) hk'
  have h2:∀k',NowP g w (l++[s]) k0 (k',0)->badC L w u m k'=badC L' w u m k':=λk' hk' =>
   qwB h0 m (l++[s]) k' (λt ht=>hs t (by simp [ht])) (λi hi hk j hj=>by
    have:=hC (i+1) (by simp; omega) (by simpa [lat] using hk) j (by simpa using hj);exact⟨by simpa [lat] using this.1,by simpa [lat] using this.2.2⟩) hk'
  rw [qwp,qwp];split
  ·rename_i hk;obtain⟨e0,e1,e2⟩:=hC 0 (by simp) (by simpa [lat] using hk) k (by simpa using h);rw [show lat (s::m) 0=s from rfl] at e0 e1 e2;rw [<-e0,qwA (f':=λe=>T' s.n k e.1 e.2) (ok':=λe=>decide (e.2+badC L' w u m e.1=b)) (L s.n k) none (λe he=>⟨e1 e.1 e.2,by
    rw [h2 e.1 (qvO h0 (hs s (by simp) hk) hk e2 h he)]⟩)]
   split
   ·rename_i c hc;rcases qwu _ _ _ hc with h3|⟨h3,_,_⟩
    ·cases h3
    ·rw [h1 _ _ (qvO h0 (hs s (by simp) hk) hk e2 h h3)]
   ·rfl
  ·split
   ·rename_i hk hm;exact h1 _ _ (qvA h0 hk h hm)
   ·rfl
theorem qwE {α : Type}{p p' : α->Bool}:∀(l:List α) (i:Int),(∀a∈l,p a=p' a)->idxP p l i=idxP p' l i
 | [],_,_=>rfl
 | a::l,i,h=>by
  rw [idxP,idxP,h a (by simp),qwE l (i+1) λa ha=>h a (by simp [ha])]
theorem qwD {α : Type} [Inhabited α] {p : α->Bool}:∀{l:List α}{i:Int},0<=i->0<=idxP p l i->p (lat l (idxP p l i-i).toNat)=true
 | [],i,_,h=>by simp [idxP] at h
 | a::l,i,h0,h=>by
  rw [idxP] at h ⊢;split
  ·rename_i hp;rw [show (i-i).toNat=0 by omega]; exact hp
  ·rename_i hp;rw [Jaa hp] at h;have h1:=qww (l:=l) (i:=i+1) (by omega) h;have h2:=qwD (l:=l) (i:=i+1) (by omega) h;rw [show (idxP p l (i+1)-i).toNat=(idxP p l (i+1)-(i+1)).toNat+1 by omega];exact h2
section
variable {x:Ev}(hx:EvW x) {q:Int}{Lk:Int->Int->List En × List En}
 (hq:∀n k:Int,0<=n->n<x.g.p.l.length->0<=k->k<=x.w.l.length->refV x n k q=q)
 (hL:∀n k:Int,0<=n->n<x.g.p.l.length->0<=k->k<=x.w.l.length->qaL x n k q=Lk n k)
include hx hq hL
theorem qxh {n k:Int}(u b:Int) (n0:0<=n) (n1:n<x.g.p.l.length) (k0:0<=k) (k1:k<=x.w.l.length):altL x n k u q b=altK x q Lk n k u b:=by
 unfold altL altK;have hlets:qwq x n k u q=qxb x q Lk n k u:=by
  unfold qwq qxb;rw [hL n k n0 n1 k0 k1]
 rw [hlets,hq n k n0 n1 k0 k1];cases qxb x q Lk n k u with
 | false=>rw [Jaa (by decide)]; exact qjI λa _=>by simp
 | true =>
  rw [Jab rfl];refine qwE _ _ λa ha=>?_;rw [Bool.true_and,qwB (g:=x.g) (L':=λn k=>(Lk n k).2) k0 a.l [] k (λs hs hk=>(qcD hx ha s hs hk).1) (λi hi hk j hj=>?_) ⟨Int.le_refl _,k1,by simp,λ_=>.nil⟩];obtain⟨q1,q2,q3,q4,q5⟩:=qvT hx n0 k0 k1 ha hi hk (by simpa using hj);simp only at q1 q4 q5;exact⟨by unfold qaN; rw [hL _ _ q2 q3 q4 q5],(qbf hx q2 q3 q4 q5).2⟩
theorem qw9:∀(m:Nat) (n k u b:Int),muN x.g x.w.l n k<m->0<=n->n<x.g.p.l.length->0<=k->k<=x.w.l.length->qwx x m n k u q b=qwV x q Lk m n k u b:=by
 intro m;induction m with
 | zero=>intro _ _ _ _ h; omega
 | succ m ih =>
  intro n k u b hmu n0 n1 k0 k1;rw [qwx,qwV,<-qxh hx hq hL u b n0 n1 k0 k1];show (if 0<=altL x n k u q b then _ else _)=_;split
  ·rename_i hi;show (n,altL x n k u q b,k,u)::_=_;congr 1;rw [hq n k n0 n1 k0 k1];have hlt:(altL x n k u q b).toNat<(lat x.g.p.l n.toNat).a.l.length:=qwH hi;have ha:=qai hlt;have e1:idxP (λa=>qwq x n k u q&&decide (badC (qaN x q) x.w.l u a.l k=b)) (lat x.g.p.l n.toNat).a.l 0=altL x n k u q b:=by
    unfold altL; rw [hq n k n0 n1 k0 k1]
   rw [e1];refine qwy (g:=x.g) k0 _ [] k b (λs hs hk=>(qcD hx ha s hs hk).1) (λi hi hk j hj=>?_) ⟨Int.le_refl _,k1,by simp,λ_=>.nil⟩;obtain⟨q1,q2,q3,q4,q5⟩:=qvT hx n0 k0 k1 ha hi hk (by rw [List.nil_append] at hj; exact hj);simp only at q1 q4 q5;exact⟨by unfold qaN; rw [hL _ _ q2 q3 q4 q5],λu' b'=>ih _ _ _ _ (by omega) q2 q3 q4 q5,(qbf hx q2 q3 q4 q5).2⟩
  ·rfl
theorem qyk {n k:Int}(u b:Int) (n0:0<=n) (n1:n<x.g.p.l.length) (k0:0<=k) (k1:k<=x.w.l.length):lstN x n k u q b=qwV x q Lk (61 * (x.w.l.length+1)) n k u b:=by
 unfold lstN;rw [<-qw9 hx hq hL _ n k u b (qv5 hx k0 k1) n0 n1 k0 k1,qwC hx _ n k u q b (Nat.lt_succ_self _) n0 n1 k0 k1 _ (qv5 hx k0 k1)]
end
def sumA (A:Int->Nat):List Sy->Nat
 | []=>0
 | s::l=>(if s.kind=2 then A s.n else 0)+sumA A l
def cntT:List Sy->Nat
 | []=>0
 | s::l=>(if s.kind=2 then 0 else 1)+cntT l
theorem qxe {f:En->Int}:∀(l:List En) (o:Int),l.foldl (λo e=>min o (f e)) o=o\/∃e∈l,l.foldl (λo e=>min o (f e)) o=f e
 | [],o=>.inl rfl
 | e::l,o=>by
  rw [List.foldl_cons];rcases qxe (f:=f) l (min o (f e)) with h|⟨e',he',h⟩
  ·rw [h]
   by_cases c:o<=f e
   ·exact .inl (by omega)
   ·exact .inr ⟨e,by simp,by omega⟩
  ·exact .inr ⟨e',by simp [he'],h⟩
theorem qwP {g:Gr}{f:En->List Nd}{ok:En->Bool}:∀(l:List En) (b:Option (List Nd × En)),qwt g f ok l b=none->b=none/\∀e∈l,ok e=false
 | [],b,h=>⟨h,by simp⟩
 | e::l,b,h=>by
  simp only [qwt] at h;obtain⟨h1,h2⟩:=qwP l _ h;split at h1
  ·cases b with
   | none=>cases h1
   | some c =>
    exfalso;simp only at h1;split at h1<;>cases h1
  ·rename_i hok;exact⟨h1,λe' he'=>by
    rcases Jag.1 he' with rfl|c
    ·simpa using hok
    ·exact h2 _ c⟩
section
variable {x:Ev}(hx:EvW x) (hw:x.w.l.length<1000000) {q:Int}
 (hq:∀n k:Int,0<=n->n<x.g.p.l.length->0<=k->k<=x.w.l.length->refV x n k q=q) {A:Int->Nat}{B:Nat}
 (hA:∀i:Nat,i<x.g.p.l.length->1<=A i/\∀a∈(lat x.g.p.l i).a.l,1+sumA A a.l<=A i+B * cntT a.l)
include hx hw hq hA
end
theorem qwW {x:Ev}(h:∀p∈x.g.p.l,bitB p.marks 8=false) (q:Int):∀n k:Int,0<=n->n<x.g.p.l.length->0<=k->k<=x.w.l.length->refV x n k q=q:=λn k n0 n1 _ _=>by
 unfold refV;rw [Jaa];rintro⟨_,h2⟩;rw [h _ (qai (by omega))] at h2;cases h2
def sumZ (A:Int->Int):List Sy->Int
 | []=>0
 | s::l=>(if s.kind=2 then A s.n else 0)+sumZ A l
theorem qyM {g:Gr}{w:List UInt8}{L:Look}{k0 u:Int}{T:Int->Int->Int->Int->List Nd}{A:Int->Int}{B:Nat}(h0:0<=k0):∀(m l:List Sy) (k b:Int),(∀s∈m,s.kind=2->0<=s.n)->(∀i,i<m.length->(lat m i).kind=2->∀j,NowP g w (l++m.take i) k0 (j,0)->(∀f∈L (lat m i).n j,((T (lat m i).n j f.1 f.2).length:Int)<=A (lat m i).n+B * (f.1-j))/\∀f∈L (lat m i).n j,EndP g w (lat m i).n j f) ->
  NowP g w l k0 (k,0)->badC L w u m k=b->b<qwn->((qwp g L T w u m k b).length:Int)+B * cntT m<=sumZ A m+B * (u-k)
 | [],_,k,b,_,_,_,e,hb=>by
  rw [badC] at e;split at e
  ·rename_i hk;simp [qwp,cntT,sumZ,hk]
  ·omega
 | s::m,l,k,b,hs,hC,h,e,hb=>by
  have h1:∀k' b',NowP g w (l++[s]) k0 (k',0)->badC L w u m k'=b'->b'<qwn->((qwp g L T w u m k' b').length:Int)+B * cntT m<=sumZ A m+B * (u-k'):=λk' b' hk' =>
   qyM h0 m (l++[s]) k' b' (λt ht=>hs t (by simp [ht])) (λi hi hk j hj=>hC (i+1) (by simp; omega) (by simpa [lat] using hk) j (by simpa using hj)) hk'
  rw [badC] at e;rw [qwp]
  by_cases hk:s.kind=2
  ·rw [Jab hk] at e ⊢;obtain⟨e1,e2⟩:=hC 0 (by simp) (by simpa [lat] using hk) k (by simpa using h);rw [show lat (s::m) 0=s from rfl] at e1 e2;simp only [cntT,sumZ,hk,if_true];cases hbst:qwt g (λe=>T s.n k e.1 e.2) (λe=>decide (e.2+badC L w u m e.1=b)) (L s.n k) none with
   | none =>
    exfalso;obtain⟨_,hn⟩:=qwP _ _ hbst;rcases qxe (f:=λe=>e.2+badC L w u m e.1) (L s.n k) qwn with c|⟨e',he',c⟩
    ·rw [c] at e; omega
    ·have:=hn e' he';simp only [Jaq] at this;exact this (by rw [<-c,e])
   | some c =>
    rcases qwu _ _ _ hbst with h3|⟨h3,h4,h5⟩
    ·cases h3
    ·simp only [Jai] at h4;have q1:=e1 _ h3;have q2:=(e2 _ h3);have q3:=h1 c.2.1 (b-c.2.2) (qvO h0 (hs s (by simp) hk) hk e2 h h3) (by omega) (by have:=q2.2.2.1.1; omega);rw [<-h5] at q1;rw [Jao];have d1:(B:Int) * (u-k)=B * (u-c.2.1)+B * (c.2.1-k):=by rw [<-Int.mul_add]; congr 1; omega
     rw [d1];simp only [Nat.zero_add];omega
  ·rw [Jaa hk] at e ⊢;split at e
   ·rename_i hm;rw [Jab hm];have q3:=h1 _ _ (qvA h0 hk h hm) e hb;simp only [cntT,sumZ,hk,if_false];have d1:(B:Int) * (u-k)=B * (u-(k+qbr s w k))+B * qbr s w k:=by rw [<-Int.mul_add]; congr 1; omega
    have d2:(B:Int) * 1<=B * qbr s w k:=Int.mul_le_mul_of_nonneg_left (by omega) (by omega);have d3:(B:Int) * ((1+cntT m:Nat):Int)=B * 1+B * cntT m:=by rw [<-Int.mul_add]; rfl
    rw [d1,d3];omega
   ·omega
section
variable {x:Ev}(hx:EvW x) (hw:x.w.l.length<1000000) {q:Int}
 (hq:∀n k:Int,0<=n->n<x.g.p.l.length->0<=k->k<=x.w.l.length->refV x n k q=q) {A:Int->Int}{B:Nat}
 (hA:∀i:Nat,i<x.g.p.l.length->∀a∈(lat x.g.p.l i).a.l,1+sumZ A a.l<=A i+B * cntT a.l)
 (hE:∀n k:Int,0<=n->n<x.g.p.l.length->0<=k->k<=x.w.l.length->∀e∈(qaL x n k q).2,1<=A n+B * (e.1-k))
include hx hw hq hA hE
theorem qy6:∀(m:Nat) (n k:Int),muN x.g x.w.l n k<m->0<=n->n<x.g.p.l.length->0<=k->k<=x.w.l.length->∀e∈(qaL x n k q).2,((qwx x m n k e.1 q e.2).length:Int)<=A n+B * (e.1-k):=by
 intro m;induction m with
 | zero=>intro _ _ h; omega
 | succ m ih =>
  intro n k hmu n0 n1 k0 k1 e he;obtain⟨p1,p2,p3,_⟩:=(qbf hx (ref:=q) n0 n1 k0 k1).2 _ he;have hA1:=hA n.toNat (by omega);rw [show ((n.toNat:Nat):Int)=n by omega] at hA1;rw [qwx];split
  ·rename_i hi;have hlt:=qwH hi;have ha:=qai hlt;rw [hq n k n0 n1 k0 k1] at hi hlt ha ⊢;have hbad:=qwD (Int.le_refl 0) hi;rw [Int.sub_zero] at hbad;simp only [Jad,Jai] at hbad;have h2:=hA1 _ ha;have h3:=qyM (g:=x.g) (L:=qaN x q) (T:=λn' k' u' b'=>qwx x m n' k' u' q b') (A:=A) (B:=B) k0 _ [] k e.2 (λs hs hk=>(qcD hx ha s hs hk).1) (λi hi hk j hj=>by
    obtain⟨q1,q2,q3,q4,q5⟩:=qvT hx n0 k0 k1 ha hi hk (by rw [List.nil_append] at hj; exact hj);simp only at q1 q4 q5;exact⟨λf hf=>ih _ _ (by omega) q2 q3 q4 q5 f hf,(qbf hx q2 q3 q4 q5).2⟩) ⟨Int.le_refl _,k1,by simp,λ_=>.nil⟩ hbad.2 (by unfold qwn; omega)
   rw [List.length_cons];omega
  ·have:=hE n k n0 n1 k0 k1 e he;simp only [List.length_singleton];omega
theorem qy1 (hb:∀i:Nat,i<x.g.p.l.length->A i+B * x.w.l.length<1000000) {n k:Int}(n0:0<=n) (n1:n<x.g.p.l.length) (k0:0<=k) (k1:k<=x.w.l.length):∀e∈(qaL x n k q).2,(lstN x n k e.1 q e.2).length<1000000:=λe he=>by
 have h:=qy6 hx hw hq hA hE (muN x.g x.w.l n k+1) n k (Nat.lt_succ_self _) n0 n1 k0 k1 e he;obtain⟨p1,p2,p3,_⟩:=(qbf hx (ref:=q) n0 n1 k0 k1).2 _ he;have h2:=hb n.toNat (by omega);rw [show ((n.toNat:Nat):Int)=n by omega] at h2;have d:(B:Int) * (e.1-k)<=B * x.w.l.length:=Int.mul_le_mul_of_nonneg_left (by omega) (by omega);unfold lstN;omega
end
set_option maxRecDepth 100000
def qyn:List Bool->List UInt8
 | []=>[]
 | b::l=>(if b then 120 else 63)::10::qyn l
def sy1 (c:Int):Sy:=⟨0,.of [⟨c,c⟩],0⟩
def syN (n:Int):Sy:=⟨2,.nil,n⟩
def hlG:Gr:=⟨.of [⟨.of [.of [syN 2]],0,.nil⟩,⟨.of [.of [sy1 120,sy1 10]],32,.nil⟩,⟨.full [.of [syN 1,syN 2],.nil],0,.nil⟩],.nil⟩
def hlE (v:V) (m:Nat) (l:List Bool):Ev:=⟨hlG,⟨v,qyn l,m⟩,8,true⟩
theorem qyq:∀l:List Bool,(qyn l).length=2 * l.length
 | []=>rfl
 | b::l=>by simp only [qyn,List.length_cons,qyq l]; omega
theorem qyz:∀{l:List Bool}{i:Nat},i<l.length->lat (qyn l) (2 * i)=(if lat l i then 120 else 63)/\lat (qyn l) (2 * i+1)=10
 | [],i,h=>by simp at h
 | b::l,0,_=>⟨rfl,rfl⟩
 | b::l,i+1,h=>by
  have:=qyz (l:=l) (i:=i) (by simpa using h);exact this
theorem qyB:∀(l:List Bool) (k y:Int),y∈qaH (qyn l) k↔∃j:Nat,j<l.length/\y=k+2 * (j+1)
 | [],k,y=>by simp [qyn,qaH]
 | b::l,k,y=>by
  have ih:=qyB l (k+1+1) y;have hb:¬(if b then (120:UInt8) else 63).toNat=10:=by cases b<;>decide
  simp only [qyn,qaH];rw [Jaa hb,Jab (by decide),Jag,ih];constructor
  ·rintro (h|⟨j,h1,h2⟩)
   ·exact⟨0,by simp,by omega⟩
   ·exact⟨j+1,by simpa using h1,by omega⟩
  ·rintro⟨j,h1,h2⟩;cases j with
   | zero=>left; omega
   | succ j=>right; exact⟨j,by simpa using h1,by omega⟩
theorem qyI (l:List Bool) {y:Int}(h0:0<y):y∈qaJ (qyn l)↔∃j:Nat,0<j/\j<=l.length/\y=2 * j:=by
 have hf:=qyB l 0 y;have hlen:=qyq l;have key:y∈qaH (qyn l) 0↔∃j:Nat,0<j/\j<=l.length/\y=2 * j:=by
  rw [hf];constructor
  ·rintro⟨j,h1,h2⟩; exact⟨j+1,by omega,by omega,by omega⟩
  ·rintro⟨j,h1,h2,h3⟩; exact⟨j-1,by omega,by omega⟩
 unfold qaJ;split
 ·exact key
 ·rw [Jaj,key,Jah,hlen];constructor
  ·rintro (h|h)
   ·exact h
   ·exact⟨l.length,by omega,Jac _,by omega⟩
  ·exact .inl
theorem qys {A:List En}{J:Nat->Prop}{v:Nat->Int}(h1:∀e∈A,∃j:Nat,J j/\e.1=2 * j/\v j<=e.2) (h2:∀j:Nat,J j->((2 * j:Int),v j)∈A) (e:En):e∈qbG A↔∃j:Nat,J j/\e=((2 * j:Int),v j):=by
 rw [qd5];constructor
 ·rintro⟨he,hm⟩;obtain⟨j,hj,e1,e2⟩:=h1 e he;have:=hm _ (h2 j hj) e1.symm;simp only at this;obtain⟨a,b⟩:=e;simp only at e1 e2 this;exact⟨j,hj,by rw [e1,show b=v j by omega]⟩
 ·rintro⟨j,hj,rfl⟩;refine⟨h2 j hj,λf hf hfe=>?_⟩;obtain⟨j',hj',e1,e2⟩:=h1 f hf;simp only at hfe;have:j'=j:=by omega
  subst this;exact e2
def qyp (l:List Bool) (i j:Nat):Int:=if ∀m,m<j->i<=m->lat l m=true then 0 else 1
theorem qyt (l:List Bool) (i j:Nat):qyp l i j=0\/qyp l i j=1:=by unfold qyp; split<;>simp
theorem qyw {l:List Bool}{i j:Nat}:qyp l i j=0↔∀m,m<j->i<=m->lat l m=true:=by
 unfold qyp;split
 ·rename_i h; exact⟨λ_=>h,λ_=>rfl⟩
 ·rename_i h; exact⟨λc=>by omega,λc=>absurd c h⟩
theorem qyv (l:List Bool) (i:Nat):qyp l i i=0:=qyw.2 λm h1 h2=>by omega
theorem qyE {l:List Bool}{i j:Nat}(h:i<j):qyp l i j=if lat l i=true then qyp l (i+1) j else 1:=by
 split
 ·rename_i hi;unfold qyp;congr 1;refine propext ⟨λh m h1 h2=>h m h1 (by omega),λh m h1 h2=>?_⟩;rcases Nat.lt_or_eq_of_le h2 with c|c
  ·exact h m h1 c
  ·rw [<-c]; exact hi
 ·rename_i hi;rcases qyt l i j with c|c
  ·exact absurd (qyw.1 c i h (Jac _)) hi
  ·exact c
section
variable {v:V}{mm:Nat}{l:List Bool}(hm:mayE (hlE v mm l)=true)
theorem qzc:(hlE v mm l).w.l.length=2 * l.length:=qyq l
theorem qyO (n k q:Int):refV (hlE v mm l) n k q=q:=by
 have h3:∀i,i<3->bitB (lat hlG.p.l i).marks 8=false:=by decide
 unfold refV;rw [Jaa];rintro⟨h1,h2⟩;simp only [qdt,Jad,Jai] at h1;have n3:n<3:=h1.2.2;have:=h3 n.toNat (by have:=h1.2.1; omega);have h2':bitB (lat hlG.p.l n.toNat).marks 8=true:=h2;rw [this] at h2';cases h2'
theorem qyX {i:Nat}(hi:i<=l.length):qbr (sy1 120) (qyn l) (2 * i)=(if i<l.length/\lat l i=true then 1 else 0)/\(i<l.length->qbr (sy1 10) (qyn l) (2 * i+1)=1):=by
 have hlen:=qyq l;have hk:∀c,(sy1 c).kind=0:=λ_=>rfl;constructor
 ·unfold qbr qcH;rw [Jab (hk 120),hlen]
  by_cases c:i<l.length
  ·obtain⟨h1,_⟩:=qyz c;rw [show ((2 * (i:Int))).toNat=2 * i by omega,h1];cases hb:lat l i with
   | true=>rw [Jab ⟨by omega,by omega,by decide⟩,Jab ⟨c,rfl⟩]
   | false=>rw [Jaa (by rintro⟨_,_,h⟩; revert h; decide),Jaa (by rintro⟨_,h⟩; cases h)]
  ·rw [Jaa (by rintro⟨_,h,_⟩; omega),Jaa (by rintro⟨h,_⟩; exact c h)]
 ·intro c;unfold qbr qcH;obtain⟨_,h2⟩:=qyz c;rw [Jab (hk 10),hlen,show ((2 * (i:Int)+1)).toNat=2 * i+1 by omega,h2,Jab ⟨by omega,by omega,by decide⟩]
theorem qyU {n:Int}(hn:n=0\/n=1) {i:Nat}(e:En):e∈qcr (hlE v mm l) n (2 * i)↔∃j:Nat,i<j/\j<=l.length/\e=((2 * j:Int),1):=by
 have hc:(hlE v mm l).heal=true/\(n=0\/bitB (lat (hlE v mm l).g.p.l n.toNat).marks 32=true):=by
  rcases hn with rfl|rfl
  ·exact⟨rfl,.inl rfl⟩
  ·exact⟨rfl,.inr (show bitB (lat hlG.p.l 1).marks 32=true by decide)⟩
 unfold qcr;rw [Jab hc];simp only [Jak,List.mem_filter,Jai];constructor
 ·rintro⟨y,⟨h1,h2⟩,rfl⟩;obtain⟨j,j0,j1,rfl⟩:=(qyI l (by omega)).1 h1;exact⟨j,by omega,j1,rfl⟩
 ·rintro⟨j,h1,h2,rfl⟩;exact⟨2 * j,⟨(qyI l (by omega)).2 ⟨j,by omega,h2,rfl⟩,by omega⟩,rfl⟩
include hm
theorem qy9 {n k u q:Int}(n0:0<=n) (n3:n<3) (k0:0<=k) (ku:k<=u) (u1:u<=2 * l.length):qbp (hlE v mm l) n k u q=true:=by
 have h3:∀i,i<3->(lat hlG.p.l i).no.l=[]/\bitB (lat hlG.p.l i).marks 2=false/\bitB (lat hlG.p.l i).marks 4=false/\bitB (lat hlG.p.l i).marks 16=false:=by decide
 obtain⟨a,b,c,d⟩:=h3 n.toNat (by omega);have hlen:=qyq l;unfold qbp;show (qdt hlG n&&(tMay (hlE v mm l) k u&&(qdR (lat hlG.p.l n.toNat).no.l _ u&&((!bitB (lat hlG.p.l n.toNat).marks 2||_)&&((!bitB (lat hlG.p.l n.toNat).marks 4||_)&&(!bitB (lat hlG.p.l n.toNat).marks 16||_))))))=true;rw [a,b,c,d];have h1:qdt hlG n=true:=by
  unfold qdt;rw [show mayB hlG=true from (qbq hm).m,decide_eq_true n0,decide_eq_true (show n<(hlG.p.l.length:Nat) from n3)]; rfl
 have h2:tMay (hlE v mm l) k u=true:=by
  unfold tMay;show (decide (0<=k)&&(decide (k<=u)&&(decide (u<=((qyn l).length:Nat))&&(decide ((1:Int)<=8)&&decide ((8:Int)<=16)))))=true;rw [decide_eq_true k0,decide_eq_true ku,decide_eq_true (show u<=((qyn l).length:Nat) by rw [hlen]; omega)];decide
 rw [h1,h2];simp [qdR,hasB]
end
section
variable {v:V}{mm:Nat}{l:List Bool}(hm:mayE (hlE v mm l)=true)
include hm
theorem qy8 {n:Int}{i:Nat}(n0:0<=n) (n3:n<3) (hi:i<=l.length) (q:Int):qaL (hlE v mm l) n (2 * i) q=(qcG (hlE v mm l) (qaN (hlE v mm l) q) n (2 * i),endE (hlE v mm l) n (2 * i) q (qcG (hlE v mm l) (qaN (hlE v mm l) q) n (2 * i))):=by
 have h:=qbD (qbq hm) (n:=n) (k:=2 * i) (ref:=q) n0 (show n<(hlG.p.l.length:Nat) from n3) (by omega) (by rw [qzc]; omega);rw [qyO] at h;exact h
theorem qza {n:Int}{i:Nat}{q:Int}(n0:0<=n) (n3:n<3) {c:List En}(hc:∀e∈c,(2 * i:Int)<=e.1/\e.1<=2 * l.length):endE (hlE v mm l) n (2 * i) q c=qbG (c++qcr (hlE v mm l) n (2 * i)):=by
 have h3:∀i,i<3->bitB (lat hlG.p.l i).marks 1=false:=by decide
 unfold endE qb4;rw [show bitB (lat (hlE v mm l).g.p.l n.toNat).marks 1=false from h3 n.toNat (by omega),Jaa (by decide)];congr 2;refine List.filter_eq_self.2 λe he=>?_;obtain⟨h1,h2⟩:=hc e he;exact qy9 hm n0 n3 (by omega) h1 h2
omit hm in
theorem qyA (e:En):qbG [e]=[e]:=qq8 (by simp)
def oneC (l:List Bool) (i j:Nat):Int:=if j=i+1/\lat l i=true then 0 else 1
theorem qyC {i:Nat}(hi:i<=l.length) (q:Int) (e:En):e∈(qaL (hlE v mm l) 1 (2 * i) q).2↔∃j:Nat,(i<j/\j<=l.length)/\e=((2 * j:Int),oneC l i j):=by
 obtain⟨m1,m2⟩:=qyX hi;have hk:∀c,¬(sy1 c).kind=2:=λ_=>by show ¬(0:Int)=2; decide
 have hcand:qcG (hlE v mm l) (qaN (hlE v mm l) q) 1 (2 * i)=if i<l.length/\lat l i=true then [((2 * i+2:Int),(0:Int))] else []:=by
  have hA:(lat (hlE v mm l).g.p.l (1:Int).toNat).a.l=[Sl.of [sy1 120,sy1 10]]:=rfl;have hW:(hlE v mm l).w.l=qyn l:=rfl;unfold qcG;rw [hA,hW,List.flatMap_cons,List.flatMap_nil,List.append_nil,l_of,qaA,qaA,qaA];have hst:([((2 * i:Int),(0:Int))]:List En).flatMap (qa2 (qaN (hlE v mm l) q) (qyn l) (sy1 120))=if i<l.length/\lat l i=true then [((2 * i+1:Int),(0:Int))] else []:=by
   rw [List.flatMap_cons,List.flatMap_nil,List.append_nil];unfold qa2;rw [Jaa (hk 120)];show (if 0<qbr (sy1 120) (qyn l) (2 * (i:Int)) then [((2 * (i:Int))+qbr (sy1 120) (qyn l) (2 * (i:Int)),(0:Int))] else [])=_;rw [m1]
   by_cases c:i<l.length/\lat l i=true
   ·rw [Jab c,Jab c]; rfl
   ·rw [Jaa c,Jaa c]; rfl
  rw [hst];split
  ·rename_i hc;have hst2:([((2 * i+1:Int),(0:Int))]:List En).flatMap (qa2 (qaN (hlE v mm l) q) (qyn l) (sy1 10))=[((2 * i+2:Int),(0:Int))]:=by
    rw [List.flatMap_cons,List.flatMap_nil,List.append_nil];unfold qa2;rw [Jaa (hk 10)];show (if 0<qbr (sy1 10) (qyn l) (2 * (i:Int)+1) then [((2 * (i:Int)+1)+qbr (sy1 10) (qyn l) (2 * (i:Int)+1),(0:Int))] else [])=_;rw [m2 hc.1,Jab (by decide)];rw [show (2 * (i:Int)+1+1)=2 * i+2 by omega]
   rw [qyA,hst2,qyA,qyA]
  ·rfl
 rw [qy8 hm (by omega) (by omega) hi q,qza hm (by omega) (by omega)]
 ·rw [hcand];refine qys (J:=λj=>i<j/\j<=l.length) (v:=oneC l i) (λe he=>?_) (λj hj=>?_) e
  ·rcases Jaj.1 he with h|h
   ·split at h
    ·rename_i hc;rw [Jah] at h;subst h;exact⟨i+1,⟨by omega,by omega⟩,by simp only; omega,by unfold oneC; rw [Jab ⟨rfl,hc.2⟩]; exact Int.le_refl _⟩
    ·cases h
   ·obtain⟨j,h1,h2,rfl⟩:=(qyU (.inr rfl) e).1 h;exact⟨j,⟨h1,h2⟩,rfl,by unfold oneC; split<;>simp⟩
  ·rw [Jaj];unfold oneC
   by_cases hc:j=i+1/\lat l i=true
   ·left;rw [Jab hc,Jab ⟨by omega,hc.2⟩,Jah,hc.1];congr 1
   ·right;rw [Jaa hc];exact (qyU (.inr rfl) _).2 ⟨j,hj.1,hj.2,rfl⟩
 ·rw [hcand];intro e he;split at he
  ·rw [Jah] at he; subst he;rename_i hc;simp only; omega
  ·cases he
omit hm in
theorem qyW {i j:Nat}(_:i<j) (k:Nat) (hk:j<=k):qyp l i k<=oneC l i j+qyp l j k:=by
 unfold oneC;split
 ·rename_i hc;rw [qyE (by omega:i<k),Jab hc.2,<-hc.1]; omega
 ·rcases qyt l i k with c|c<;>rcases qyt l j k with d|d<;>omega
omit hm in
theorem qyL {i k:Nat}(h:i<k):∃j,i<j/\j<=k/\oneC l i j+qyp l j k=qyp l i k:=by
 by_cases c:lat l i=true
 ·exact⟨i+1,by omega,by omega,by unfold oneC; rw [Jab ⟨rfl,c⟩,qyE h,Jab c]; omega⟩
 ·refine⟨k,h,Jac _,?_⟩;unfold oneC;rw [Jaa (λhc=>c hc.2),qyv,qyE h,Jaa c]; rfl
theorem qyS {i:Nat}(hi:i<=l.length) (q:Int) (e:En):e∈qbG (([((2 * i:Int),(0:Int))]:List En).flatMap (qa2 (qaN (hlE v mm l) q) (qyn l) (syN 1)))↔∃j:Nat,(i<j/\j<=l.length)/\e=((2 * j:Int),oneC l i j):=by
 have hst:([((2 * i:Int),(0:Int))]:List En).flatMap (qa2 (qaN (hlE v mm l) q) (qyn l) (syN 1))=(qaL (hlE v mm l) 1 (2 * i) q).2.map λf=>(f.1,0+f.2):=by
  rw [List.flatMap_cons,List.flatMap_nil,List.append_nil];unfold qa2;rw [Jab (show (syN 1).kind=2 from rfl)];rfl
 rw [hst];refine qys (J:=λj=>i<j/\j<=l.length) (v:=oneC l i) (λe he=>?_) (λj hj=>?_) e
 ·obtain⟨f,hf,rfl⟩:=Jak.1 he;obtain⟨j,hj,rfl⟩:=(qyC hm hi q f).1 hf;exact⟨j,hj,rfl,by simp⟩
 ·exact Jak.2 ⟨((2 * j:Int),oneC l i j),(qyC hm hi q _).2 ⟨j,hj,rfl⟩,by simp⟩
theorem hl_two (q:Int):∀(d i:Nat),i+d=l.length->∀e,e∈(qaL (hlE v mm l) 2 (2 * i) q).2↔∃j:Nat,(i<=j/\j<=l.length)/\e=((2 * j:Int),qyp l i j):=by
 intro d;induction d using Nat.strongRecOn with
 | ind d ih =>
  intro i hid e;have hi:i<=l.length:=by omega
  have hcand:∀e,e∈qcG (hlE v mm l) (qaN (hlE v mm l) q) 2 (2 * i)↔∃j:Nat,(i<=j/\j<=l.length)/\e=((2 * j:Int),qyp l i j):=by
   intro e;have hA:(lat (hlE v mm l).g.p.l (2:Int).toNat).a.l=[Sl.of [syN 1,syN 2],Sl.nil]:=rfl;have hW:(hlE v mm l).w.l=qyn l:=rfl;unfold qcG;rw [hA,hW,List.flatMap_cons,List.flatMap_cons,List.flatMap_nil,List.append_nil,l_of,show (Sl.nil:Sl Sy).l=[] from rfl,qaA,qaA,qaA,qaA];have hT:=qyS hm hi q;obtain⟨T,hTe⟩:∃T,qbG (([((2 * i:Int),(0:Int))]:List En).flatMap (qa2 (qaN (hlE v mm l) q) (qyn l) (syN 1)))=T:=⟨_,rfl⟩;rw [hTe] at hT ⊢;have h2:∀e,e∈qbG (T.flatMap (qa2 (qaN (hlE v mm l) q) (qyn l) (syN 2)))↔∃j:Nat,(i<j/\j<=l.length)/\e=((2 * j:Int),qyp l i j):=by
    refine qys (J:=λj=>i<j/\j<=l.length) (v:=qyp l i) (λe he=>?_) (λj hj=>?_)
    ·obtain⟨f,hf,hfe⟩:=List.mem_flatMap.1 he;obtain⟨j1,hj1,rfl⟩:=(hT f).1 hf;unfold qa2 at hfe;rw [Jab (show (syN 2).kind=2 from rfl)] at hfe;obtain⟨g,hg,rfl⟩:=Jak.1 hfe;obtain⟨j,hj,rfl⟩:=(ih (l.length-j1) (by omega) j1 (by omega) g).1 hg;exact⟨j,⟨by omega,hj.2⟩,rfl,qyW hj1.1 j hj.1⟩
    ·obtain⟨j1,a,b,c⟩:=qyL hj.1;refine List.mem_flatMap.2 ⟨_,(hT _).2 ⟨j1,⟨a,by omega⟩,rfl⟩,?_⟩;unfold qa2;rw [Jab (show (syN 2).kind=2 from rfl)];exact Jak.2 ⟨((2 * j:Int),qyp l j1 j),(ih (l.length-j1) (by omega) j1 (by omega) _).2 ⟨j,⟨b,hj.2⟩,rfl⟩,by simp only; rw [c]⟩
   refine qys (J:=λj=>i<=j/\j<=l.length) (v:=qyp l i) (λe he=>?_) (λj hj=>?_) e
   ·rcases Jaj.1 he with h|h
    ·obtain⟨j,hj,rfl⟩:=(h2 e).1 h;exact⟨j,⟨by omega,hj.2⟩,rfl,Int.le_refl _⟩
    ·rw [Jah] at h; subst h;exact⟨i,⟨Jac _,hi⟩,rfl,by rw [qyv]; exact Int.le_refl _⟩
   ·rw [Jaj];rcases Nat.lt_or_eq_of_le hj.1 with c|c
    ·exact .inl ((h2 _).2 ⟨j,⟨c,hj.2⟩,rfl⟩)
    ·right; rw [<-c,qyv]; simp
  have hleft:qcr (hlE v mm l) 2 (2 * i)=[]:=by
   unfold qcr;rw [Jaa];rintro⟨_,h|h⟩
   ·omega
   ·revert h; show ¬bitB (lat hlG.p.l 2).marks 32=true; decide
  rw [qy8 hm (by omega) (by omega) hi q,qza hm (by omega) (by omega) (λe he=>by
   obtain⟨j,hj,rfl⟩:=(hcand e).1 he;simp only; omega),hleft,List.append_nil]
  refine qys (J:=λj=>i<=j/\j<=l.length) (v:=qyp l i) (λe he=>?_) (λj hj=>(hcand _).2 ⟨j,hj,rfl⟩) e;obtain⟨j,hj,rfl⟩:=(hcand e).1 he;exact⟨j,hj,rfl,Int.le_refl _⟩
theorem qyx {i:Nat}(hi:i<=l.length) (q:Int) (e:En):e∈(qaL (hlE v mm l) 2 (2 * i) q).2↔∃j:Nat,(i<=j/\j<=l.length)/\e=((2 * j:Int),qyp l i j):=hl_two hm q (l.length-i) i (by omega) e
theorem hl_all (q:Int):(((2 * l.length:Int),qyp l 0 l.length):En)∈(qaL (hlE v mm l) 0 0 q).2:=by
 have hcand:∀e,e∈qcG (hlE v mm l) (qaN (hlE v mm l) q) 0 (2 * (0:Nat))↔∃j:Nat,(0<=j/\j<=l.length)/\e=((2 * j:Int),qyp l 0 j):=by
  intro e;have hA:(lat (hlE v mm l).g.p.l (0:Int).toNat).a.l=[Sl.of [syN 2]]:=rfl;have hW:(hlE v mm l).w.l=qyn l:=rfl;unfold qcG;rw [hA,hW,List.flatMap_cons,List.flatMap_nil,List.append_nil,l_of,qaA,qaA];have hst:([((2 * (0:Nat):Int),(0:Int))]:List En).flatMap (qa2 (qaN (hlE v mm l) q) (qyn l) (syN 2))=(qaL (hlE v mm l) 2 (2 * (0:Nat)) q).2.map λf=>(f.1,0+f.2):=by
   rw [List.flatMap_cons,List.flatMap_nil,List.append_nil];unfold qa2;rw [Jab (show (syN 2).kind=2 from rfl)];rfl
  rw [hst];have h2:∀e,e∈qbG ((qaL (hlE v mm l) 2 (2 * (0:Nat)) q).2.map λf=>(f.1,0+f.2))↔∃j:Nat,(0<=j/\j<=l.length)/\e=((2 * j:Int),qyp l 0 j):=by
   refine qys (J:=λj=>0<=j/\j<=l.length) (v:=qyp l 0) (λe he=>?_) (λj hj=>?_)
   ·obtain⟨f,hf,rfl⟩:=Jak.1 he;obtain⟨j,hj,rfl⟩:=(qyx hm (Nat.zero_le _) q f).1 hf;exact⟨j,hj,rfl,by simp⟩
   ·exact Jak.2 ⟨((2 * j:Int),qyp l 0 j),(qyx hm (Nat.zero_le _) q _).2 ⟨j,hj,rfl⟩,by simp⟩
  refine qys (J:=λj=>0<=j/\j<=l.length) (v:=qyp l 0) (λe he=>?_) (λj hj=>(h2 _).2 ⟨j,hj,rfl⟩) e;obtain⟨j,hj,rfl⟩:=(h2 e).1 he;exact⟨j,hj,rfl,Int.le_refl _⟩
 have key:(((2 * l.length:Int),qyp l 0 l.length):En)∈(qaL (hlE v mm l) 0 (2 * ((0:Nat):Int)) q).2:=by
  rw [qy8 hm (Int.le_refl 0) (by omega) (Nat.zero_le _) q,qza hm (Int.le_refl 0) (by omega) (λe he=>by
   obtain⟨j,hj,rfl⟩:=(hcand e).1 he;simp only; omega)]
  refine (qys (J:=λj=>0<=j/\j<=l.length) (v:=qyp l 0) (λe he=>?_) (λj hj=>?_) _).2 ⟨l.length,⟨Nat.zero_le _,Jac _⟩,rfl⟩
  ·rcases Jaj.1 he with h|h
   ·obtain⟨j,hj,rfl⟩:=(hcand e).1 h;exact⟨j,hj,rfl,Int.le_refl _⟩
   ·obtain⟨j,h1,h2,rfl⟩:=(qyU (.inl rfl) e).1 h;exact⟨j,⟨Nat.zero_le _,h2⟩,rfl,by rcases qyt l 0 j with c|c<;>simp only<;>omega⟩
  ·exact Jaj.2 (.inl ((hcand _).2 ⟨j,hj,rfl⟩))
 have hz:(2 * ((0:Nat):Int))=0:=rfl;rw [hz] at key;exact key
end
theorem qzl {f:En->Int}:∀(l:List En) (o:Int),l.foldl (λo e=>min o (f e)) o<=o/\∀e∈l,l.foldl (λo e=>min o (f e)) o<=f e
 | [],o=>by simp
 | a::l,o=>by
  obtain⟨h1,h2⟩:=qzl (f:=f) l (min o (f a));rw [List.foldl_cons];refine⟨by omega,λe he=>?_⟩;rcases Jag.1 he with rfl|h
  ·omega
  ·exact h2 e h
theorem qzm {f:En->Int}{l:List En}{o v:Int}(h1:v<=o) (h2:∀e∈l,v<=f e) (h3:∃e∈l,f e=v):l.foldl (λo e=>min o (f e)) o=v:=by
 obtain⟨e,he,h4⟩:=h3;have h5:=(qzl (f:=f) l o).2 e he;rcases qxe (f:=f) l o with c|⟨e',he',c⟩
 ·omega
 ·have:=h2 e' he'; omega
def qyy (g:Gr) (t:List Nd):List Int:=(t.filter λy=>outN g y).map λy=>y.2.2.1
theorem qyR (g:Gr) (s t:List Nd):qyy g (s++t)=qyy g s++qyy g t:=by simp [qyy]
theorem qyu (g:Gr) (y:Nd) (t:List Nd):qyy g (y::t)=(if outN g y=true then [y.2.2.1] else [])++qyy g t:=by
 simp only [qyy,List.filter_cons];split<;>simp
section
variable {v:V}{mm:Nat}{l:List Bool}(hm:mayE (hlE v mm l)=true)
theorem qyN (n a k u:Int):outN hlG (n,a,k,u)=(decide (0<=n)&&(decide (n<3)&&decide (a=(lat hlG.p.l n.toNat).a.l.length))):=rfl
include hm
theorem qyT {n k u q:Int}(n0:0<=n) (n3:n<3) (k0:0<=k) (ku:k<=u) (u1:u<=2 * l.length):qwq (hlE v mm l) n k u q=true:=by
 have h3:∀i,i<3->bitB (lat hlG.p.l i).marks 1=false:=by decide
 unfold qwq;rw [qy9 hm n0 n3 k0 ku u1,show bitB (lat (hlE v mm l).g.p.l n.toNat).marks 1=false from h3 n.toNat (by omega)];rfl
omit hm in
theorem qy0 {g:Gr}{L:Look}{T:Int->Int->Int->Int->List Nd}{w:List UInt8}{u a b k c:Int}:qwp g L T w u [sy1 a,sy1 b] k c=[]:=by
 have hk:∀c,¬(sy1 c).kind=2:=λ_=>by show ¬(0:Int)=2; decide
 rw [qwp,Jaa (hk a)];split
 ·rw [qwp,Jaa (hk b)];split
  ·rw [qwp]
  ·rfl
 ·rfl
omit hm in
theorem qzf {i:Nat}(hi:i<=l.length) (L:Look) (u:Int):badC L (qyn l) u [sy1 120,sy1 10] (2 * i)=if (i<l.length/\lat l i=true)/\(2 * i+2:Int)=u then 0 else qwn:=by
 have hk:∀c,¬(sy1 c).kind=2:=λ_=>by show ¬(0:Int)=2; decide
 obtain⟨m1,m2⟩:=qyX hi;rw [badC,Jaa (hk 120),m1]
 by_cases c:i<l.length/\lat l i=true
 ·rw [Jab c,Jab (by decide),badC,Jaa (hk 10),m2 c.1,Jab (by decide),badC,show (2 * (i:Int)+1+1)=2 * i+2 by omega]
  by_cases d:(2 * (i:Int)+2)=u
  ·rw [Jab d,Jab ⟨c,d⟩]
  ·rw [Jaa d,Jaa (λh=>d h.2)]
 ·rw [Jaa c,Jaa (by decide),Jaa (λh=>c h.1)]
theorem qzh {i j:Nat}(h:i<j) (hj:j<=l.length) (q:Int):qyy hlG (lstN (hlE v mm l) 1 (2 * i) (2 * j) q (oneC l i j))=if oneC l i j=0 then [] else [(2 * i:Int)]:=by
 have hA:(lat (hlE v mm l).g.p.l (1:Int).toNat).a.l=[Sl.of [sy1 120,sy1 10]]:=rfl;have hW:(hlE v mm l).w.l=qyn l:=rfl;have hb:=qzf (l:=l) (i:=i) (by omega) (qaN (hlE v mm l) q) (2 * j);have halt:altL (hlE v mm l) 1 (2 * i) (2 * j) q (oneC l i j)=if oneC l i j=0 then 0 else -1:=by
  unfold altL;rw [hA,hW,qyO,qyT hm (by omega) (by omega) (by omega) (by omega) (by omega),idxP,idxP,l_of,hb];unfold oneC
  by_cases c:j=i+1/\lat l i=true
  ·have e1:(if (i<l.length/\lat l i=true)/\(2 * i+2:Int)=2 * j then 0 else qwn)=0:=Jab ⟨⟨by omega,c.2⟩,by omega⟩;rw [e1,Jab c]; rfl
  ·have e1:(if (i<l.length/\lat l i=true)/\(2 * i+2:Int)=2 * j then 0 else qwn)=qwn:=Jaa (λh=>c ⟨by omega,h.1.2⟩);rw [e1,Jaa c]; rfl
 rw [qw2 (qbq hm) _ _ _ (by omega) (show (1:Int)<(hlG.p.l.length:Nat) by decide) (by omega) (by rw [qzc]; omega),halt]
 by_cases c:oneC l i j=0
 ·rw [Jab c,Jab (by decide),Jab c,hA,show lat [Sl.of [sy1 120,sy1 10]] (0:Int).toNat=Sl.of [sy1 120,sy1 10] from rfl,l_of,qy0,qyu,qyN];rfl
 ·rw [Jaa c,Jaa (by decide),Jaa c,hA,qyu,qyN];rfl
theorem qyF {j:Nat}(hj:j<=l.length) (q:Int):badC (qaN (hlE v mm l) q) (qyn l) (2 * l.length) [syN 2] (2 * j)=qyp l j l.length:=by
 rw [badC,Jab (show (syN 2).kind=2 from rfl)];have h01:=qyt l j l.length;refine qzm (by unfold qwn; omega) (λe he=>?_) ⟨((2 * l.length:Int),qyp l j l.length),(qyx hm hj q _).2 ⟨l.length,⟨hj,Jac _⟩,rfl⟩,by simp only; rw [badC,Jab rfl]; omega⟩;obtain⟨m,hm2,rfl⟩:=(qyx hm hj q e).1 he;have h02:=qyt l j m;simp only;rw [badC];split
 ·rename_i hc;have:m=l.length:=by omega
  subst this; omega
 ·unfold qwn; omega
theorem qzr {i:Nat}(hi:i<l.length) (q:Int):badC (qaN (hlE v mm l) q) (qyn l) (2 * l.length) [syN 1,syN 2] (2 * i)=qyp l i l.length:=by
 rw [badC,Jab (show (syN 1).kind=2 from rfl)];have h01:=qyt l i l.length;obtain⟨j1,a,b,c⟩:=qyL (l:=l) hi;refine qzm (by unfold qwn; omega) (λe he=>?_) ⟨((2 * j1:Int),oneC l i j1),(qyC hm (by omega) q _).2 ⟨j1,⟨a,b⟩,rfl⟩,by simp only; rw [qyF hm b]; exact c⟩;obtain⟨m,hm2,rfl⟩:=(qyC hm (by omega) q e).1 he;simp only;rw [qyF hm hm2.2];exact qyW hm2.1 _ hm2.2
theorem qyV {g:Gr}{j:Nat}(hj:j<=l.length) (q:Int):qwp g (qaN (hlE v mm l) q) (λn' k' u' b'=>lstN (hlE v mm l) n' k' u' q b') (qyn l) (2 * l.length) [syN 2] (2 * j) (qyp l j l.length)=lstN (hlE v mm l) 2 (2 * j) (2 * l.length) q (qyp l j l.length):=by
 rw [qwp,Jab (show (syN 2).kind=2 from rfl)];have h01:=qyt l j l.length;cases hb:qwt g (λe=>lstN (hlE v mm l) (syN 2).n (2 * j) e.1 q e.2) (λe=>decide (e.2+badC (qaN (hlE v mm l) q) (qyn l) (2 * l.length) [] e.1=qyp l j l.length)) (qaN (hlE v mm l) q (syN 2).n (2 * j)) none with
 | none =>
  obtain⟨_,h⟩:=qwP _ _ hb;have:=h ((2 * l.length:Int),qyp l j l.length) ((qyx hm hj q _).2 ⟨l.length,⟨hj,Jac _⟩,rfl⟩);simp only [Jaq] at this;rw [badC,Jab rfl] at this;omega
 | some c =>
  rcases qwu _ _ _ hb with h|⟨h1,h2,h3⟩
  ·cases h
  ·obtain⟨m,hm2,e⟩:=(qyx hm hj q c.2).1 h1;simp only [Jai] at h2;rw [badC] at h2;have h02:=qyt l j m;rw [e] at h2 h3;simp only at h2 h3;split at h2
   ·rename_i hc;have:m=l.length:=by omega
    subst this;simp only [qwp,List.append_nil];rw [h3]; rfl
   ·unfold qwn at h2; omega
def OutQ (l:List Bool) (i:Nat) (b:Int) (o:List Int):Prop:=(b=0/\o=[])\/(b=1/\∃k:Nat,i<=k/\k<l.length/\(∀m,i<=m->m<k->lat l m=true)/\o=[(2 * k:Int)])
theorem qzg (q:Int):∀(d i:Nat),i+d=l.length->OutQ l i (qyp l i l.length) (qyy hlG (lstN (hlE v mm l) 2 (2 * i) (2 * l.length) q (qyp l i l.length))):=by
 have hA:(lat (hlE v mm l).g.p.l (2:Int).toNat).a.l=[Sl.of [syN 1,syN 2],Sl.nil]:=rfl;have hW:(hlE v mm l).w.l=qyn l:=rfl;have hG:(hlE v mm l).g=hlG:=rfl;intro d;induction d using Nat.strongRecOn with
 | ind d ih =>
  intro i hid;have hi:i<=l.length:=by omega
  have halt:altL (hlE v mm l) 2 (2 * i) (2 * l.length) q (qyp l i l.length)=if i<l.length then 0 else 1:=by
   unfold altL;rw [hA,hW,qyO,qyT hm (by omega) (by omega) (by omega) (by omega) (by omega),idxP,idxP,l_of,show (Sl.nil:Sl Sy).l=[] from rfl]
   by_cases c:i<l.length
   ·rw [qzr hm c,Jab c,Jab (by simp)]
   ·have e:i=l.length:=by omega
    subst e;rw [Jaa c,qyv];have h1:badC (qaN (hlE v mm l) q) (qyn l) (2 * l.length) [syN 1,syN 2] (2 * l.length)=qwn:=by
     rw [badC,Jab (show (syN 1).kind=2 from rfl)];have:qaN (hlE v mm l) q (syN 1).n (2 * l.length)=[]:=by
      rw [List.eq_nil_iff_forall_not_mem];intro e he;obtain⟨j,hj,_⟩:=(qyC hm (Jac _) q e).1 he;omega
     rw [this]; rfl
    rw [h1,badC,Jab rfl];rfl
  rw [qw2 (qbq hm) _ _ _ (by omega) (show (2:Int)<(hlG.p.l.length:Nat) by decide) (by omega) (by rw [qzc]; omega),halt]
  by_cases c:i<l.length
  ·rw [Jab c,Jab (by decide),hA,qyO,hW,hG,show lat [Sl.of [syN 1,syN 2],Sl.nil] (0:Int).toNat=Sl.of [syN 1,syN 2] from rfl,l_of,qyu,qyN];have h0:(if (decide ((0:Int)<=2)&&(decide ((2:Int)<3)&&decide ((0:Int)=((lat hlG.p.l (2:Int).toNat).a.l.length:Nat))))=true then [(2 * i:Int)] else [])=[]:=rfl;rw [h0,List.nil_append,qwp,Jab (show (syN 1).kind=2 from rfl)];cases hb:qwt hlG (λe=>lstN (hlE v mm l) (syN 1).n (2 * i) e.1 q e.2) (λe=>decide (e.2+badC (qaN (hlE v mm l) q) (qyn l) (2 * l.length) [syN 2] e.1=qyp l i l.length)) (qaN (hlE v mm l) q (syN 1).n (2 * i)) none with
   | none =>
    obtain⟨_,h⟩:=qwP _ _ hb;obtain⟨j1,a,b,e⟩:=qyL (l:=l) c;have:=h ((2 * j1:Int),oneC l i j1) ((qyC hm hi q _).2 ⟨j1,⟨a,b⟩,rfl⟩);simp only [Jaq] at this;rw [qyF hm b] at this;exact absurd e this
   | some cc =>
    rcases qwu _ _ _ hb with h|⟨h1,h2,h3⟩
    ·cases h
    ·obtain⟨j,hj,e⟩:=(qyC hm hi q cc.2).1 h1;simp only [Jai] at h2;rw [e] at h2 h3;simp only at h2 h3;rw [qyF hm hj.2] at h2;simp only;rw [e,h3];simp only;rw [show qyp l i l.length-oneC l i j=qyp l j l.length by omega,qyV hm hj.2,qyR,show (syN 1).n=1 from rfl,qzh hm hj.1 hj.2];have hI:=ih (l.length-j) (by omega) j (by omega);have o01:oneC l i j=0\/oneC l i j=1:=by unfold oneC; split<;>simp
     rcases o01 with o|o
     ·have ho:j=i+1/\lat l i=true:=by
       unfold oneC at o;split at o
       ·assumption
       ·omega
      rw [Jab o,List.nil_append];rw [o] at h2;rw [<-h2,Int.zero_add];rcases hI with ⟨a,b⟩|⟨a,k,k1,k2,k3,k4⟩
      ·exact .inl ⟨a,b⟩
      ·refine .inr ⟨a,k,by omega,k2,λm m1 m2=>?_,k4⟩;rcases Nat.lt_or_eq_of_le m1 with c|c
       ·exact k3 m (by omega) m2
       ·rw [<-c]; exact ho.2
     ·rw [Jaa (by omega)];rcases hI with ⟨a,b⟩|⟨a,_⟩
      ·right;refine⟨by omega,i,Jac _,c,λm m1 m2=>by omega,?_⟩;rw [b,List.append_nil]
      ·have:=qyt l i l.length; omega
  ·have e:i=l.length:=by omega
   subst e;left;rw [qyv,Jaa c,Jab (by decide),hA,show lat [Sl.of [syN 1,syN 2],Sl.nil] (1:Int).toNat=Sl.nil from rfl,show (Sl.nil:Sl Sy).l=[] from rfl,qwp,qyu,qyN];exact⟨rfl,rfl⟩
theorem qzi (q:Int):OutQ l 0 (qyp l 0 l.length) (qyy hlG (lstN (hlE v mm l) 0 0 (2 * l.length) q (qyp l 0 l.length))):=by
 have hA:(lat (hlE v mm l).g.p.l (0:Int).toNat).a.l=[Sl.of [syN 2]]:=rfl;have hW:(hlE v mm l).w.l=qyn l:=rfl;have hG:(hlE v mm l).g=hlG:=rfl;have hz:(2 * ((0:Nat):Int))=0:=rfl;have hbad:=qyF hm (Nat.zero_le l.length) q;have hrest:=qyV hm (g:=hlG) (Nat.zero_le l.length) q;have h2:=qzg hm q l.length 0 (by omega);rw [hz] at hbad hrest h2;have halt:altL (hlE v mm l) 0 0 (2 * l.length) q (qyp l 0 l.length)=0:=by
  unfold altL;rw [hA,hW,qyO,qyT hm (by omega) (by omega) (by omega) (by omega) (by omega),idxP,idxP,l_of,hbad,Jab (by simp)]
 rw [qw2 (qbq hm) _ _ _ (by omega) (show (0:Int)<(hlG.p.l.length:Nat) by decide) (by omega) (by omega),halt,Jab (by decide),hA,qyO,hW,hG,show lat [Sl.of [syN 2]] (0:Int).toNat=Sl.of [syN 2] from rfl,l_of,qyu,qyN,hrest];exact h2
end
abbrev RowT:=List (List En × List En)
def qxj (x:Ev) (q:Int) (T:List RowT) (k:Int):Nat->Int->List En × List En
 | 0,_=>([],[])
 | d+1,n=>(qcG x (λn' k'=>if k'=k then (qxj x q T k d n').2 else (lat (lat T (k'-k-1).toNat) n'.toNat).2) n k,
   endE x n k q (qcG x (λn' k'=>if k'=k then (qxj x q T k d n').2 else (lat (lat T (k'-k-1).toNat) n'.toNat).2) n k))
def rowP (x:Ev) (q:Int) (T:List RowT) (k:Int):RowT:=(List.range x.g.p.l.length).map λn:Nat=>qxj x q T k 62 n
def tabF (x:Ev) (q:Int):Nat->List RowT
 | 0=>[rowP x q [] x.w.l.length]
 | j+1=>rowP x q (tabF x q j) (x.w.l.length-j-1)::tabF x q j
def qxu (x:Ev) (q:Int) (n k:Int):List En × List En:=lat (lat (tabF x q x.w.l.length) k.toNat) n.toNat
section
variable {x:Ev}(hx:EvW x) {q:Int}
 (hq:∀n k:Int,0<=n->n<x.g.p.l.length->0<=k->k<=x.w.l.length->refV x n k q=q)
include hx hq
theorem qxv {T:List RowT}{k:Int}(k0:0<=k) (k1:k<=x.w.l.length) (hT:∀n k':Int,0<=n->n<x.g.p.l.length->k<k'->k'<=x.w.l.length->lat (lat T (k'-k-1).toNat) n.toNat=qaL x n k' q) :
  ∀(d:Nat) (n:Int),qnR x.g n<d->0<=n->n<x.g.p.l.length->qxj x q T k d n=qaL x n k q:=by
 intro d;induction d with
 | zero=>intro _ h; omega
 | succ d ih =>
  intro n hr n0 n1;rw [qbD hx n0 n1 k0 k1,hq n k n0 n1 k0 k1,qxj];have hc:qcG x (λn' k'=>if k'=k then (qxj x q T k d n').2 else (lat (lat T (k'-k-1).toNat) n'.toNat).2) n k=qcG x (qaN x q) n k:=by
   unfold qcG;congr 1;have key:∀as:List (Sl Sy),(∀a∈as,a∈(lat x.g.p.l n.toNat).a.l)->(as.flatMap λa=>qaA (λn' k'=>if k'=k then (qxj x q T k d n').2 else (lat (lat T (k'-k-1).toNat) n'.toNat).2) x.w.l a.l [(k,0)])=as.flatMap λa=>qaA (qaN x q) x.w.l a.l [(k,0)]:=by
    intro as;induction as with
    | nil=>intro _; rw [List.flatMap_nil,List.flatMap_nil]
    | cons a as ihs =>
     intro h;rw [List.flatMap_cons,List.flatMap_cons,ihs λb hb=>h b (by simp [hb])];congr 1;refine (qdp (g:=x.g) k0 a.l [] [(k,0)] (λs hs hk=>(qcD hx (h a (by simp)) s hs hk).1) (λi hi hk e he=>?_) (by
      intro e he;rw [Jah] at he; subst he;exact⟨Int.le_refl _,k1,by simp only; omega,λ_=>.nil⟩)).symm
     obtain⟨q1,q2,q3,q4,q5⟩:=qvT hx n0 k0 k1 (h a (by simp)) hi hk (by simpa using he);have hin:=(qbf hx (ref:=q) q2 q3 q4 q5).2;refine⟨?_,hin⟩;show (qaL x _ _ q).2=_;have hle:=he.1
     by_cases c:e.1=k
     ·rw [Jab c,c,ih _ (by unfold muN at q1; rw [c] at q1; omega) q2 q3]
     ·rw [Jaa c,hT _ _ q2 q3 (by omega) q5]
   exact key _ λ_ h=>h
  rw [hc]
theorem qxq {T:List RowT}{k:Int}(k0:0<=k) (k1:k<=x.w.l.length) (hT:∀n k':Int,0<=n->n<x.g.p.l.length->k<k'->k'<=x.w.l.length->lat (lat T (k'-k-1).toNat) n.toNat=qaL x n k' q) {n:Int}(n0:0<=n) (n1:n<x.g.p.l.length):lat (rowP x q T k) n.toNat=qaL x n k q:=by
 have hok:=qaF hx.m;have hp:=hok.p;have r1:=qlj (g:=x.g) n;have h:=qxv hx hq k0 k1 hT 62 n (by omega) n0 n1;rw [<-h];have:(rowP x q T k)[n.toNat]?=some (qxj x q T k 62 n):=by
  unfold rowP;rw [List.getElem?_map,List.getElem?_range (by omega)];simp only [Option.map_some];rw [show ((n.toNat:Nat):Int)=n by omega]
 unfold lat;rw [List.getElem!_eq_getElem?_getD,this];rfl
theorem qxp:∀(j:Nat),j<=x.w.l.length->∀n k:Int,0<=n->n<x.g.p.l.length->x.w.l.length-j<=k->k<=x.w.l.length->lat (lat (tabF x q j) (k-(x.w.l.length-j)).toNat) n.toNat=qaL x n k q
 | 0,_,n,k,n0,n1,k0,k1=>by
  obtain rfl:k=x.w.l.length:=by omega
  rw [show ((x.w.l.length:Int)-(x.w.l.length-(0:Nat))).toNat=0 by omega];exact qxq hx hq (by omega) (by omega) (λ_ _ _ _ _ _=>by omega) n0 n1
 | j+1,hj,n,k,n0,n1,k0,k1=>by
  have ih:=qxp j (by omega)
  by_cases c:k=x.w.l.length-(j+1:Nat)
  ·subst c;rw [show ((x.w.l.length:Int)-(j+1:Nat)-(x.w.l.length-(j+1:Nat))).toNat=0 by omega];show lat (rowP x q (tabF x q j) (x.w.l.length-j-1)) n.toNat=_;rw [show (x.w.l.length:Int)-(j+1:Nat)=x.w.l.length-j-1 by omega];refine qxq hx hq (by omega) (by omega) (λn' k' a b c d=>?_) n0 n1;rw [<-ih n' k' a b (by omega) d];congr 2;omega
  ·rw [show (k-(x.w.l.length-(j+1:Nat))).toNat=(k-(x.w.l.length-j)).toNat+1 by omega];exact ih n k n0 n1 (by omega) k1
theorem qxt:∀n k:Int,0<=n->n<x.g.p.l.length->0<=k->k<=x.w.l.length->qaL x n k q=qxu x q n k:=λn k n0 n1 k0 k1=>by
 rw [<-qxp hx hq _ (Jac _) n k n0 n1 (by omega) k1];unfold qxu;congr 2;omega
end
theorem qzk {g:Gr}{w:List UInt8}{n k y:Int}(h:∀a∈(lat g.p.l n.toNat).a.l,∃s m,a.l=s::m/\s.kind≠2) (hd:Der g w n k y):k<y:=by
 obtain⟨a,ha,hd⟩:=hd;obtain⟨s,m,e,hk⟩:=h a ha;rw [e] at hd;cases hd with
 | term h1 h2 h3=>have:=h3.mono; omega
 | non h1 h2 h3 h4 h5=>exact absurd h1 hk
def hlA (n:Int):Int:=if n=0 then 2 else if n=1 then -2 else 1
theorem qyJ {x:Ev}(hx:EvW x) (hw:x.w.l.length<=200) (h3:x.g.p.l.length=3) (hq:∀n k:Int,0<=n->n<x.g.p.l.length->0<=k->k<=x.w.l.length->refV x n k (-1) = -1)
  (hA:∀i:Nat,i<x.g.p.l.length->∀a∈(lat x.g.p.l i).a.l,1+sumZ hlA a.l<=hlA i+(3:Nat) * cntT a.l) (ht:∀a∈(lat x.g.p.l 1).a.l,∃s m,a.l=s::m/\s.kind≠2) :
  ∀n k:Int,0<=n->n<x.g.p.l.length->0<=k->k<=x.w.l.length->∀e∈(qaL x n k (-1)).2,(lstN x n k e.1 (-1) e.2).length<1000000:=λn k n0 n1 k0 k1=>by
 refine qy1 hx (by omega) hq (A:=hlA) (B:=3) hA (λn k n0 n1 k0 k1 e he=>?_) (λi hi=>?_) n0 n1 k0 k1
 ·have hin:=(qbf hx (ref:=-1) n0 n1 k0 k1).2 e he;have hlt:n=1->k<e.1:=λhn=>by
   by_cases c:e.1=k
   ·subst hn;have:=qzk (n:=1) ht (hin.2.2.2 c); omega
   ·have:=hin.1; omega
  have:=hin.1;unfold hlA;split
  ·omega
  ·split
   ·have:=hlt (by assumption); omega
   ·omega
 ·unfold hlA;split
  ·omega
  ·split<;>omega
theorem qzn {v:V}{mm:Nat}{l:List Bool}(hm:mayE (hlE v mm l)=true) (hl:l.length<=8):∀n k:Int,0<=n->n<(hlE v mm l).g.p.l.length->0<=k->k<=(hlE v mm l).w.l.length->∀e∈(qaL (hlE v mm l) n k (-1)).2,(lstN (hlE v mm l) n k e.1 (-1) e.2).length<1000000 :=
 qyJ (qbq hm) (by rw [qzc]; omega) (show hlG.p.l.length=3 by decide) (λn k _ _ _ _=>qyO n k (-1))
  (show ∀i:Nat,i<hlG.p.l.length->∀a∈(lat hlG.p.l i).a.l,1+sumZ hlA a.l<=hlA i+(3:Nat) * cntT a.l by decide)
  (λa ha=>by
   have:a=Sl.of [sy1 120,sy1 10]:=by simpa using (show a∈[Sl.of [sy1 120,sy1 10]] from ha)
   subst this;exact⟨_,_,rfl,by show ¬(0:Int)=2; decide⟩)
def haG:Gr:=⟨.of [⟨.of [.of [syN 2]],0,.nil⟩,⟨.of [.of [sy1 120,sy1 59,sy1 10]],32,.nil⟩,⟨.full [.of [syN 1,syN 2],.nil],0,.nil⟩],.nil⟩
def haW:List UInt8:=[121,59,10,120,59,10]
def haE (id:Nat) (b:Bool):Ev:=⟨haG,⟨.sl id 0 6 1 true,haW,id+1⟩,8,b⟩
def haN:Ev:=⟨haG,⟨.nils,[],0⟩,8,true⟩
theorem qze (id:Nat) (b:Bool):∀n k:Int,0<=n->n<(haE id b).g.p.l.length->0<=k->k<=(haE id b).w.l.length->refV (haE id b) n k (-1) = -1 :=
 qwW (x:=haE id b) (show ∀p∈haG.p.l,bitB p.marks 8=false by decide) (-1)
def haT (id:Nat):List Nd:=qwV (haE id true) (-1) (qxu (haE id true) (-1)) (61 * 7) 0 0 6 1
def qyK:List Nd:=[(0,0,0,6),(2,0,0,6),(1,1,0,3),(2,0,3,6),(1,0,3,6),(2,1,6,6)]
theorem haRun:(λid=>(((qxu (haE id true) (-1) 0 0).2.any λe=>decide (e=((6:Int),(1:Int)))),haT id))=λ_=>(true,qyK):=by kernel_rfl
section
variable {x:Ev}(hx:EvW x) {q:Int}{Lk:Int->Int->List En}
 (hq:∀n k:Int,0<=n->n<x.g.p.l.length->0<=k->k<=x.w.l.length->refV x n k q=q)
 (hL:∀n k:Int,0<=n->n<x.g.p.l.length->0<=k->k<=x.w.l.length->(qaL x n k q).2=Lk n k)
include hx hq hL
end
theorem qxy {x y:Ev}(hm:mayE x=true) (hg:y.g=x.g) (ht:y.tab=x.tab) (hw:y.w.l.length<=200):mayE y=true:=by
 simp only [mayE,Jad,Jai] at hm ⊢;rw [hg,ht];exact⟨hm.1,hw,hm.2.2⟩
def Awake0 (f:Nat):Prop:=∀(d:Bool),WF PR d 0 (.fn f [] []) [] ⟨0,.e⟩ λr=>r=⟨.bool true,⟨0,.e⟩⟩
def haV:List V:=[.slR [[.slR [[.slR [[.int .i64 2,.nils,.int .i64 2]] false]] false,.int .i64 0,.nils],[.slR [[.slR [[.int .i64 0,.slR [[.int .i64 120,.int .i64 120]] false,.int .i64 0],[.int .i64 0,.slR [[.int .i64 59,.int .i64 59]] false,.int .i64 0],[.int .i64 0,.slR [[.int .i64 10,.int .i64 10]] false,.int .i64 0]] false]] false,.int .i64 32,.nils],[.slR [[.slR [[.int .i64 2,.nils,.int .i64 1],[.int .i64 2,.nils,.int .i64 2]] false],[.nils]] true,.int .i64 0,.nils]] false,.nils]
def hlV:List V:=[.slR [[.slR [[.slR [[.int .i64 2,.nils,.int .i64 2]] false]] false,.int .i64 0,.nils],[.slR [[.slR [[.int .i64 0,.slR [[.int .i64 120,.int .i64 120]] false,.int .i64 0],[.int .i64 0,.slR [[.int .i64 10,.int .i64 10]] false,.int .i64 0]] false]] false,.int .i64 32,.nils],[.slR [[.slR [[.int .i64 2,.nils,.int .i64 1],[.int .i64 2,.nils,.int .i64 2]] false],[.nils]] true,.int .i64 0,.nils]] false,.nils]
theorem qyY:haG.Fine:=⟨⟨by decide,by decide,by decide,by decide,by decide⟩,by decide⟩
theorem qzd:hlG.Fine:=⟨⟨by decide,by decide,by decide,by decide,by decide⟩,by decide⟩
theorem haRg:∀p∈haG.p.l,∀a∈p.a.l,∀s∈a.l,s.r.l.length<1500000:=by decide
theorem hlRg:∀p∈hlG.p.l,∀a∈p.a.l,∀s∈a.l,s.r.l.length<1500000:=by decide
def hlN:Ev:=⟨hlG,⟨.nils,[],0⟩,8,true⟩
theorem runHa:evCall PR 4000 0 (.fn 10 [] []) [.str [97,32,61,32,115,42,59,32,64,115,121,110,99,32,115,32,61,32,34,120,59,34,32,34,92,120,48,97,34,59]] ⟨0,.e⟩=some [⟨.tup [.agg haV,.int .i64 30,.int .i64 0],⟨0,.e⟩⟩]:=by kernel_rfl
theorem runMa:evCall PR 4000 1 (.fn 312 [] []) [.agg haN.cells] ⟨0,.e⟩=some [⟨.bool true,⟨0,.e⟩⟩]:=by kernel_rfl
theorem haMay:mayE haN=true:=qwf qyY (.inl ⟨.nil,rfl,rfl⟩) runMa
theorem runMl:evCall PR 4000 1 (.fn 312 [] []) [.agg hlN.cells] ⟨0,.e⟩=some [⟨.bool true,⟨0,.e⟩⟩]:=by kernel_rfl
theorem hlMay:mayE hlN=true:=qwf qzd (.inl ⟨.nil,rfl,rfl⟩) runMl
theorem hlMayE (v:V) (mm:Nat) {l:List Bool}(h:l.length<=8):mayE (hlE v mm l)=true:=qxy (x:=hlN) hlMay rfl rfl (by rw [qzc]; omega)
theorem qyQ:∀(l:List Bool) (i:Int),(qaH (qyn l) i).length=l.length
 | [],_=>rfl
 | b::l,i=>by
  have hb:¬(if b then (120:UInt8) else 63).toNat=10:=by cases b<;>decide
  simp only [qyn,qaH];rw [Jaa hb,Jab (by decide),List.length_cons,qyQ l,List.length_cons]
theorem qyG:∀(l:List Bool) (k:Nat),(qyn l).take (2 * k)=qyn (l.take k)
 | [],k=>by simp [qyn]
 | b::l,0=>by simp [qyn]
 | b::l,k+1=>by
  rw [show 2 * (k+1)=2 * k+1+1 by omega,List.take_succ_cons];simp only [qyn,List.take_succ_cons,qyG l k]
theorem qy2 {l:List Bool}{k:Nat}(hk:k<=l.length):qkz (qyn l) (2 * k)=k:=by
 have hp:qaW (qyn l) (2 * k)=true:=by
  unfold qaW;rw [qyq,decide_eq_true (by omega),decide_eq_true (by omega)]; rfl
 unfold qkz;rw [Jab hp,show ((2 * (k:Int))).toNat=2 * k by omega,qyG,qyQ,List.length_take];omega
theorem qy7 {l:List Bool}{k:Nat}(hk:k<=l.length):colV (qyn l) 8 (2 * k)=0:=by
 have hp:qaW (qyn l) (2 * k)=true:=by
  unfold qaW;rw [qyq,decide_eq_true (by omega),decide_eq_true (by omega)]; rfl
 have hb:qdw (qyn l) (2 * k)=2 * k:=by
  unfold qdw;rw [Jab hp,show ((2 * (k:Int))).toNat=2 * k by omega];cases k with
  | zero=>rfl
  | succ j =>
   obtain⟨_,h2⟩:=qyz (l:=l) (i:=j) (by omega);rw [show 2 * (j+1)=2 * j+1+1 by omega,qb0,h2,Jab (by decide)];omega
 unfold colV;rw [Jab ⟨hp,by omega,by omega⟩,hb,colF,Jaa (by omega)]
def DgQ (l:List Bool) (D:List Dg):Prop:=((∀m,m<l.length->lat l m=true)/\D=[])\/∃k:Nat,k<l.length/\(∀m,m<k->lat l m=true)/\(∃m,m<l.length/\lat l m=false)/\D=[((2 * k:Int),(k:Int),0)]
theorem qzb {v:V}{m:Nat}{l:List Bool}{d:Bool}{mk:Nat}{h:Heap}(hl:l.length<=8) (hW:WB h ⟨v,qyn l,m⟩) (hm:m<=h.n) :
  WF PR d mk (.fn 428 [] []) [.agg (hlV++[v,.int .i64 8,.bool false])] h λr=>r.h=h/\∃(s:Sl Nd) (D:List Dg),DgQ l D/\r.v=.tup [s.enc qui,(slD D).enc qyo,.bool true]:=by
 have hM:=hlMayE v m hl;have hS:EvS (⟨hlG,⟨v,qyn l,m⟩,8,false⟩:Ev):=⟨qzd.toSmall,show (0:Nat)<1000000000 by decide,show (qyn l).length<1000000 by rw [qyq]; omega⟩;have hz:((qyn l).length:Int)=2 * l.length:=by rw [qyq]; omega
 have hend:=hl_all hM (-1);have hout:=qzi hM (-1);have hsm:=qzn hM hl 0 0 (Int.le_refl 0) (show (0:Int)<(hlG.p.l.length:Nat) by decide) (Int.le_refl 0) (by omega) _ hend;simp only at hsm;obtain⟨t,ht⟩:∃t,lstN (hlE v m l) 0 0 (2 * l.length) (-1) (qyp l 0 l.length)=t:=⟨_,rfl⟩;rw [ht] at hout hsm;have hT:=qyD (x:=(⟨hlG,⟨v,qyn l,m⟩,8,false⟩:Ev)) (d:=d) (mk:=mk) (h:=h) hS qzd hlRg hW hm (y:=hlE v m l) rfl hM (λn k _ _ _ _=>qyO n k (-1)) (qzn hM hl) (b:=qyp l 0 l.length) (by rw [show (((⟨hlG,⟨v,qyn l,m⟩,8,false⟩:Ev).w.l.length:Nat):Int)=2 * l.length from hz]; exact hend) (t:=t) (by rw [show (((⟨hlG,⟨v,qyn l,m⟩,8,false⟩:Ev).w.l.length:Nat):Int)=2 * l.length from hz]; exact ht) hsm;refine hT.mono ?_;rintro r ⟨h1,s,_,h2⟩;refine⟨h1,s,_,?_,h2⟩;have hD:qyr (hlE v m l) t=(qyy hlG t).map (dgOf (hlE v m l)):=by
  unfold qyr qyy;rw [List.map_map]; rfl
 rw [hD];rcases hout with ⟨a,b⟩|⟨a,k,k1,k2,k3,k4⟩
 ·left;rw [b];exact⟨λm h=>qyw.1 a m h (Nat.zero_le _),rfl⟩
 ·right;refine⟨k,k2,λm hm=>k3 m (Nat.zero_le _) hm,?_,?_⟩
  ·apply Classical.byContradiction;intro hc;have:qyp l 0 l.length=0:=qyw.2 λm h1 _=>by
    cases hb:lat l m with
    | true=>rfl
    | false=>exact absurd ⟨m,h1,hb⟩ hc
   omega
  ·rw [k4,List.map_cons,List.map_nil];unfold dgOf;rw [show (hlE v m l).w.l=qyn l from rfl,show (hlE v m l).tab=8 from rfl,qy2 (by omega),qy7 (by omega)]
theorem runHl:evCall PR 4000 0 (.fn 10 [] []) [.str [97,32,61,32,115,42,59,32,64,115,121,110,99,32,115,32,61,32,34,120,92,120,48,97,34,59]] ⟨0,.e⟩=some [⟨.tup [.agg hlV,.int .i64 26,.int .i64 0],⟨0,.e⟩⟩]:=by kernel_rfl
def qAP (b:Bool):List V:=[.bool b]
end Go.Abs

