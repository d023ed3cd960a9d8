/- What the program's functions come to, by the evaluator's rules; the intermediate code. -/
import Derived.KernelRfl
import Derived.Test.YtaknodpgafomdabGreatDoorAc3
set_option linter.unusedSimpArgs false
set_option linter.unusedVariables false
namespace Go.Abs
open Go Pr
set_option maxRecDepth 10000
def qwo(g:Gr)(f:En->List Nd)(ok:En->Bool)(e:En)(b:Option (List Nd × En)):Option (List Nd × En) :=
 if ok e=true then(match b with
   | none=>some (f e,e)
   | some c=>if quw g (f e) c.1=true then some (f e,e)else b)else b
theorem qwG{g:Gr}{f:En->List Nd}{ok:En->Bool}(e:En):∀(l:List En) (b:Option (List Nd × En)),qwt g f ok (l++[e]) b=qwo g f ok e (qwt g f ok l b)
 | [],_=>rfl
 | _::l,_=>qwG e l _
def qwS(g:Gr)(f:En->List Nd)(ok:En->Bool)(l:List En)(i:Nat):Option (List Nd × En):=qwt g f ok (l.take i) none
theorem qwR{g:Gr}{f:En->List Nd}{ok:En->Bool}{l:List En}{i:Nat}(h:i<l.length):qwS g f ok l (i+1)=qwo g f ok (lat l i) (qwS g f ok l i):=by
 unfold qwS;rw[Jap,qaz h];exact qwG _ _ _
theorem qwZ(g:Gr)(f:En->List Nd)(ok:En->Bool)(l:List En):qwS g f ok l l.length=qwt g f ok l none:=by unfold qwS; rw[List.take_length]
def qw6(x:Ev)(q n k u b:Int):Prop:=∀(d:Bool) (mk:Nat) (h:Heap) (K M1 M2 M3:Nat) (X:Nat->Prop),CtL x K M1 M2 M3 X h->(∀i,X i->i<h.n)->mk<=M1->mk<=M2->mk<=M3->mk<=h.n ->
 WF PR d mk (.fn 397 [] []) [.ptr K 0 0,qvL (n,k,q,u),.int .i64 b] h λqq=>NdX X qq.h qq.v (lstN x n k u q b)/\CtL x K M1 M2 M3 X qq.h/\Fr3 M1 M2 M3 h qq.h
def OneB(Y:Nat->Prop)(h:Heap)(v:V)(e1 e2:Int):Option (List Nd × En)->Prop
 | none=>v=.nils
 | some c=>NdX Y h v c.1/\c.1≠[]/\c.1.length<1000000/\e1=c.2.1/\e2=c.2.2
theorem NdX.nonil{X:Nat->Prop}{h:Heap}{v:V}{l:List Nd}(hv:NdX X h v l)(hl:l≠[]):eqoV false (eqv .slice v .nils)=some (.bool false):=by
 rcases hv with ⟨s,rfl,rfl⟩|⟨id,lo,f,rs,rfl,_⟩
 ·cases s with
  | nil=>exact absurd rfl hl
  | of l=>rfl
  | full l=>rfl
 ·rfl
theorem qw0:eqoV false (eqv .slice .nils .nils)=some (.bool true):=rfl
structure TkS (x:Ev) (K M1 M2 M3:Nat) (Y:Nat->Prop) (B O:Nat) (n alt z j u q b:Int) (sym:Int) (s:Sy) (fr:Int) (c:Option (List Nd × En)) (h:Heap):Prop where
 ct:CtL x K M1 M2 M3 Y h
 f0:h.get B=some (.rows [[.ptr K 0 0]])
 p0:h.get (B+1)=some (.rows [[.int .i64 n,.int .i64 alt,.int .i64 sym,.int .i64 j,.int .i64 u,.int .i64 q]])
 d0:h.get (B+2)=some (.rows [[.int .i64 b]])
 s0:h.get O=some (.rows [s.cells])
 x0:h.get (O+1)=some (.rows [[.int .i64 n,.int .i64 alt,.int .i64 z,.int .i64 fr,.int .i64 u,.int .i64 q]])
 one:∃v e1 e2,h.get (O+2)=some (.rows [[v]])/\h.get (O+3)=some (.rows [[.int .i64 e1,.int .i64 e2]])/\OneB Y h v e1 e2 c
 lt:O+3<h.n
 bo:B+2<O
 y1:Y (O+1)
 y2:Y (O+2)
 y3:Y (O+3)
 yn:∀i,Y i->i<h.n
 kb:K<B/\M1<B/\M2<B/\M3<B
def FrT(M1 M2 M3 O:Nat)(h h':Heap):Prop:=h.n<=h'.n/\∀i,i<h.n->i≠M1->i≠M2->i≠M3->i≠O+1->i≠O+2->i≠O+3->h'.get i=h.get i
theorem OneB.fr{Y:Nat->Prop}{h h':Heap}{v:V}{e1 e2:Int}{c:Option (List Nd × En)}(hc:OneB Y h v e1 e2 c)(hn:h.n<=h'.n)(hk:∀i rs,i<h.n->¬Y i->h.get i=some (.rows rs)->h'.get i=some (.rows rs)):OneB Y h' v e1 e2 c:=by
 cases c with
 | none=>exact hc
 | some c=>exact⟨hc.1.fr hn hk (λ_ _ h=>h),hc.2⟩
theorem CtL.rows{x:Ev}{K M1 M2 M3:Nat}{X:Nat->Prop}{h:Heap}(hC:CtL x K M1 M2 M3 X h){i:Nat}{rs:List (List V)}(hi:h.get i=some (.rows rs)):i≠M1/\i≠M2/\i≠M3:=by
 obtain⟨_,_,_,g1,_⟩:=hC.m1;obtain⟨_,_,_,g2,_⟩:=hC.m2;obtain⟨_,_,_,g3,_⟩:=hC.m3;refine⟨λc=>?_,λc=>?_,λc=>?_⟩
 ·rw[c,g1]at hi; cases hi
 ·rw[c,g2]at hi; cases hi
 ·rw[c,g3]at hi; cases hi
theorem CtL.frk{x:Ev}{K M1 M2 M3:Nat}{X:Nat->Prop}{h h':Heap}(hC:CtL x K M1 M2 M3 X h)(hF:Fr3 M1 M2 M3 h h'):∀i rs,i<h.n->h.get i=some (.rows rs)->h'.get i=some (.rows rs):=λi rs hi e=>by
 obtain⟨a,b,c⟩:=hC.rows e;rw[hF.2 i hi a b c,e]
section
variable {x:Ev}{K M1 M2 M3 mk B O:Nat}{Y:Nat->Prop}{h:Heap}{d:Bool}{n alt z j u q b sym fr:Int}{s:Sy}{c:Option (List Nd × En)}
theorem TkS.mv(hT:TkS x K M1 M2 M3 Y B O n alt z j u q b sym s fr c h){h':Heap}(hC:CtL x K M1 M2 M3 Y h')(hF:Fr3 M1 M2 M3 h h'):TkS x K M1 M2 M3 Y B O n alt z j u q b sym s fr c h':=by
 obtain⟨c0,f0,p0,d0,s0,x0,⟨v,e1,e2,g1,g2,g3⟩,lt,bo,y1,y2,y3,yn,kb⟩:=hT;have hk:=c0.frk hF;have:=hF.1;exact⟨hC,hk _ _ (by omega) f0,hk _ _ (by omega) p0,hk _ _ (by omega) d0,hk _ _ (by omega) s0,hk _ _ (by omega) x0,⟨v,e1,e2,hk _ _ (by omega) g1,hk _ _ (by omega) g2,g3.fr hF.1 λi rs hi _ e=>hk i rs hi e⟩,by omega,bo,y1,y2,y3,λi hi=>by have:=yn i hi; omega,kb⟩
theorem qwU(hT:TkS x K M1 M2 M3 Y B O n alt z j u q b sym s fr c h)(hg:x.g.Fine){f:En->List Nd}(hf:∀e,f e=lstN x s.n j e.1 q e.2)(e:En)(he:0<=e.2/\e.2<=1000000)(hb:qwM x (n,alt,z,e.1,u,q))(ht:e.2+badP x (n,alt,z,e.1,u,q)=b->qw6 x q s.n j e.1 e.2/\(f e).length<1000000/\f e≠[])(m1:mk<=M1)(m2:mk<=M2)(m3:mk<=M3)(mh:mk<=O) :
  WF PR d mk (.fn 418 [] [.ptr (O+1) 0 0,.ptr B 0 0,.ptr (B+2) 0 0,.ptr O 0 0,.ptr (B+1) 0 0,.ptr (O+2) 0 0,.ptr (O+3) 0 0]) [.agg (qad e)] h λqq =>
   TkS x K M1 M2 M3 Y B O n alt z j u q b sym s e.1 (qwo x.g f (λe=>decide (e.2+badP x (n,alt,z,e.1,u,q)=b)) e c) qq.h/\FrT M1 M2 M3 O h qq.h:=by
 refine WF.go f418 b418 [] rfl rfl rfl rfl rfl rfl ?_;unfold b418;have lt:=hT.lt;have bo:=hT.bo;have kb:=hT.kb;have hx0:=hT.x0;have yn:=hT.yn;obtain⟨H,hH⟩:∃H,(h.push (.rows [[.int .i64 e.1,.int .i64 e.2]])).set (O+1) (.rows [[.int .i64 n,.int .i64 alt,.int .i64 z,.int .i64 e.1,.int .i64 u,.int .i64 q]])=H:=⟨_,rfl⟩;have hn:H.n=h.n+1:=by rw[<-hH]; simp
 have gk:∀i,i<h.n->i≠O+1->H.get i=h.get i:=λi hi hne=>by rw[<-hH,qBp,Jaa hne,qBq,Jaa (by omega)]
 have gE:H.get h.n=some (.rows [[.int .i64 e.1,.int .i64 e.2]]):=by rw[<-hH,qBp,Jaa (by omega)]; simp
 have gN:H.get (O+1)=some (.rows [[.int .i64 n,.int .i64 alt,.int .i64 z,.int .i64 e.1,.int .i64 u,.int .i64 q]]):=by rw[<-hH,qBp,Jab rfl]
 have hC1:=hT.ct.upd (N:=O+1) (h':=H) hT.y1 (by omega) (by omega) (by omega) (by omega) (by omega) (by have:=hT.ct.wk; omega) gk;have hT1:TkS x K M1 M2 M3 Y B O n alt z j u q b sym s e.1 c H:=by
  obtain⟨c0,f0,p0,d0,s0,x0,⟨v,e1,e2,g1,g2,g3⟩,lt,bo,y1,y2,y3,yn,kb⟩:=hT;exact⟨hC1,by rw[gk _ (by omega) (by omega),f0],by rw[gk _ (by omega) (by omega),p0],by rw[gk _ (by omega) (by omega),d0],by rw[gk _ (by omega) (by omega),s0],gN,⟨v,e1,e2,by rw[gk _ (by omega) (by omega),g1],by rw[gk _ (by omega) (by omega),g2],g3.fr (by omega) λi rs hi hy e=>by rw[gk i hi (λc=>hy (c ▸ y1)),e]⟩,by omega,bo,y1,y2,y3,λi hi=>by have:=yn i hi; omega,kb⟩
 simp -dsimp[qad,hx0,-qnc,show ¬O+1=h.n by omega,show mk<=O+1 by omega];rw[hH,qnc];have f0:=hT1.f0;have d0:=hT1.d0;simp -dsimp[gE,f0,gN];refine WFS.by (hb.2 _ mk H K M1 M2 M3 Y hC1 (λi hi=>by have:=yn i hi; omega) m1 m2 (by omega)) ?_
 rintro v H2 ⟨rfl,hC2,hF2⟩;simp only at hC2 hF2;have hT2:=hT1.mv hC2 hF2;have n2:=hF2.1;have gE2:H2.get h.n=some (.rows [[.int .i64 e.1,.int .i64 e.2]]):=hC1.frk hF2 _ _ (by omega) gE;have d2:=hT2.d0;have hbr:=hb.1;have hnv:qwn=1099511627776:=rfl;have hfr:∀i,i<h.n->i≠M1->i≠M2->i≠M3->i≠O+1->i≠O+2->i≠O+3->H2.get i=h.get i:=λi hi a1 a2 a3 a4 _ _=>by rw[hF2.2 i (by omega) a1 a2 a3,gk i hi a4]
 simp -dsimp[gE2,intI,fw64 (n:=e.2+badP x (n,alt,z,e.1,u,q)) (by omega) (by omega),d2,d0];rw[qaa];refine⟨λhc=>?_,λhc=>?_⟩
 ·have hne:¬e.2+badP x (n,alt,z,e.1,u,q)=b:=by
   intro c; rw[c]at hc; simp at hc
  simp -dsimp[qwo,hne];exact⟨hT2,by omega,hfr⟩
 ·have heq:e.2+badP x (n,alt,z,e.1,u,q)=b:=by
   simp at hc; omega
  obtain⟨hto,hlen,hne⟩:=ht heq;have s2:=hT2.s0;have p2:=hT2.p0;have f2:=hT2.f0;simp -dsimp[s2,p2,f2,gE2,Sy.cells];refine WFS.by (hto _ mk H2 K M1 M2 M3 Y hC2 (λi hi=>by have:=yn i hi; omega) m1 m2 m3 (by omega)) ?_
  rintro v H3 ⟨hv,hC3,hF3⟩;simp only at hv hC3 hF3;have hT3:=hT2.mv hC3 hF3;have n3:=hF3.1;rw[<-hf]at hv;have gE3:H3.get h.n=some (.rows [[.int .i64 e.1,.int .i64 e.2]]):=hC2.frk hF3 _ _ (by omega) gE2;have f3:=hT3.f0;have hfr3:∀i,i<h.n->i≠M1->i≠M2->i≠M3->i≠O+1->i≠O+2->i≠O+3->H3.get i=h.get i:=λi hi a1 a2 a3 a4 a5 a6=>by rw[hF3.2 i (by omega) a1 a2 a3,hfr i hi a1 a2 a3 a4 a5 a6]
  obtain⟨v1,e1,e2,o1,o2,o3⟩:=hT3.one;have hcl:=hv.ndb.cells;obtain⟨hc1,hc2⟩:=hcl;simp only at hc1 hc2;have fin:qwo x.g f (λe=>decide (e.2+badP x (n,alt,z,e.1,u,q)=b)) e c=some (f e,e)->∀H4,H4=(H3.set (O+2) (.rows [[v]])).set (O+3) (.rows [[.int .i64 e.1,.int .i64 e.2]]) ->
    TkS x K M1 M2 M3 Y B O n alt z j u q b sym s e.1 (qwo x.g f (λe=>decide (e.2+badP x (n,alt,z,e.1,u,q)=b)) e c) H4/\FrT M1 M2 M3 O h H4:=λhbs H4 hH4=>by
   have n4:H4.n=H3.n:=by rw[hH4]; simp
   have gk4:∀i,i≠O+2->i≠O+3->H4.get i=H3.get i:=λi q1 q2=>by rw[hH4,qBp,Jaa q2,qBp,Jaa q1]
   have hCa:=hC3.upd (N:=O+2) (h':=H3.set (O+2) (.rows [[v]])) hT.y2 (by simp) (by omega) (by omega) (by omega) (by omega) (by have:=hT.ct.wk; omega) λi _ hne=>by rw[qBp,Jaa hne]
   have hCb:=hCa.upd (N:=O+3) (h':=H4) hT.y3 (by rw[n4]; simp) (by omega) (by omega) (by omega) (by omega) (by have:=hT.ct.wk; omega) λi _ hne=>by rw[hH4,qBp,Jaa hne]
   rw[hbs];refine⟨⟨hCb,?_,?_,?_,?_,?_,⟨v,e.1,e.2,?_,?_,?_,hne,hlen,rfl,rfl⟩,by omega,bo,hT.y1,hT.y2,hT.y3,λi hi=>by have:=yn i hi; omega,kb⟩,by omega,λi hi a1 a2 a3 a4 a5 a6=>by rw[gk4 i a5 a6,hfr3 i hi a1 a2 a3 a4 a5 a6]⟩
   ·rw[gk4 _ (by omega) (by omega),hT3.f0]
   ·rw[gk4 _ (by omega) (by omega),hT3.p0]
   ·rw[gk4 _ (by omega) (by omega),hT3.d0]
   ·rw[gk4 _ (by omega) (by omega),hT3.s0]
   ·rw[gk4 _ (by omega) (by omega),hT3.x0]
   ·rw[hH4,qBp,Jaa (by omega),qBp,Jab rfl]
   ·rw[hH4,qBp,Jab rfl]
   ·exact hv.fr (by omega) (λi rs hi hy e=>by rw[gk4 i (λc=>hy (c ▸ hT.y2)) (λc=>hy (c ▸ hT.y3)),e]) λ_ _ h=>h
  have hmk2:mk<=O+2:=by omega
  have hmk3:mk<=O+3:=by omega
  have zE:¬h.n=O+2:=by omega
  have z23:¬O+3=O+2:=by omega
  cases c with
  | none =>
   have hv1:v1=.nils:=o3;subst hv1;have hbs:qwo x.g f (λe=>decide (e.2+badP x (n,alt,z,e.1,u,q)=b)) e none=some (f e,e):=by simp[qwo,heq]
   simp -dsimp[o1,o2,gE3,hc1,hc2,hmk2,hmk3,zE,z23,qw0];exact fin hbs _ rfl
  | some c =>
   obtain⟨g1,g2,g3,rfl,rfl⟩:=o3;have hq:=g1.nonil g2;have egc:[Sl.enc Pd.cells x.g.p,Sl.enc qac x.g.keys]=x.g.cells:=rfl;simp -dsimp[o1,o2,gE3,hc1,hc2,hmk2,hmk3,zE,z23,hq,f3,hC3.k,qcT];rw[egc];refine WFS.by (qu2 x.g hg.toSmall hv.ndb (Jac _) hlen g1.ndb (Jac _) g3) ?_
   intro v9 h9 e9;cases e9;cases hl:quw x.g (f e) c.1 with
   | true =>
    have hbs:qwo x.g f (λe=>decide (e.2+badP x (n,alt,z,e.1,u,q)=b)) e (some c)=some (f e,e):=by simp[qwo,heq,hl]
    simp -dsimp[o1,o2,gE3,hc1,hc2,hmk2,hmk3,zE,z23];exact fin hbs _ rfl
   | false =>
    have hbs:qwo x.g f (λe=>decide (e.2+badP x (n,alt,z,e.1,u,q)=b)) e (some c)=some c:=by simp[qwo,heq,hl]
    simp -dsimp;rw[hbs];exact⟨hT3,by omega,hfr3⟩
end
theorem Own.ndx{X:Nat->Prop}{h:Heap}{m:Nat}{v:V}{l:List Nd}(hO:Own h m v 4 (l.map qui))(hX:∀i,X i->i<m):NdX X h v l:=by
 rcases hO with ⟨rfl,e⟩|⟨id,rfl,h2,h3,h4,_⟩
 ·have:l=[]:=by simpa using e
  subst this;exact .inl ⟨.nil,rfl,rfl⟩
 ·refine .inr ⟨id,0,false,_,by simp,h2,by simp,by simp; rw[List.take_of_length_le (by simp)],h4,λhx=>?_⟩;have:=hX id hx; omega
theorem NdX.rows{X:Nat->Prop}{h:Heap}{v:V}{l:List Nd}(hv:NdX X h v l):qal h v=some (l.map qui):=by
 rcases hv with ⟨s,rfl,rfl⟩|⟨id,lo,f,rs,rfl,a,b,c,_⟩
 ·cases s<;>rfl
 ·simp only[qal,a];rw[Nat.ble_eq_true_of_le b,c]; rfl
theorem CtL.upd2{x:Ev}{K M1 M2 M3:Nat}{X:Nat->Prop}{h h':Heap}(hC:CtL x K M1 M2 M3 X h){P:Nat->Prop}(hP:∀i,P i->X i/\K<i/\M1<i/\M2<i/\M3<i)(hn:h.n<=h'.n)(hk:∀i,i<h.n->¬P i->h'.get i=h.get i):CtL x K M1 M2 M3 X h':=by
 obtain⟨k,m1,m2,m3,lk,l1,l2,l3,d1,d2,d3,d4,d5,d6,wb,wk,w1,w2,w3⟩:=hC;have hp:∀i,i<=K\/i<=M1\/i<=M2\/i<=M3->¬P i:=λi hi c=>by have:=hP i c; omega
 exact⟨by rw[hk _ lk (hp _ (by omega)),k],m1.keep (hk _ l1 (hp _ (by omega))),m2.keep (hk _ l2 (hp _ (by omega))),m3.fr (hk _ l3 (hp _ (by omega))) hn (λi rs hi hx e=>by rw[hk i hi (λc=>hx (hP i c).1),e]) (λ_ _ h=>h),by omega,by omega,by omega,by omega,d1,d2,d3,d4,d5,d6,wb.keep λi hi=>hk i (by omega) (hp _ (by omega)),wk,w1,w2,w3⟩
structure RsS (x:Ev) (K M1 M2 M3:Nat) (X:Nat->Prop) (h:Heap) (Y:Nat->Prop) (n alt u q sym j b:Int) (out:V) (done:List Nd) (H:Heap):Prop where
 ct:CtL x K M1 M2 M3 Y H
 fr:Fr3 M1 M2 M3 h H
 nn:h.n+3<=H.n
 f0:H.get h.n=some (.rows [[.ptr K 0 0]])
 p0:H.get (h.n+1)=some (.rows [[.int .i64 n,.int .i64 alt,.int .i64 sym,.int .i64 j,.int .i64 u,.int .i64 q]])
 d0:H.get (h.n+2)=some (.rows [[.int .i64 b]])
 own:Own H (h.n+3) out 4 (done.map qui)
 oy:∀i,slId out=some i->Y i
 y1:Y (h.n+1)
 y2:Y (h.n+2)
 yx:∀i,X i->Y i
 yn:∀i,Y i->i<H.n
section
variable {x:Ev}{K M1 M2 M3 mk:Nat}{X Y:Nat->Prop}{h H:Heap}{d:Bool}{n alt u q sym j b:Int}{out:V}{done:List Nd}
theorem RsS.setP(hS:RsS x K M1 M2 M3 X h Y n alt u q sym j b out done H)(hl:K<h.n/\M1<h.n/\M2<h.n/\M3<h.n)(sym' j':Int):RsS x K M1 M2 M3 X h Y n alt u q sym' j' b out done (H.set (h.n+1) (.rows [[.int .i64 n,.int .i64 alt,.int .i64 sym',.int .i64 j',.int .i64 u,.int .i64 q]])):=by
 obtain⟨ct,fr,nn,f0,p0,d0,own,oy,y1,y2,yx,yn⟩:=hS;have gk:∀i,i≠h.n+1->(H.set (h.n+1) (.rows [[.int .i64 n,.int .i64 alt,.int .i64 sym',.int .i64 j',.int .i64 u,.int .i64 q]])).get i=H.get i:=λi hne=>by rw[qBp,Jaa hne]
 refine⟨ct.upd y1 (by simp) (by omega) (by omega) (by omega) (by omega) (by have:=ct.wk; omega) λi _ hne=>gk i hne,fr.trans_lt (by simp) λi hi=>gk i (by omega),by simpa using nn,by rw[gk _ (by omega),f0],by rw[qBp,Jab rfl],by rw[gk _ (by omega),d0],own.setOff (own.slId (by omega)),oy,y1,y2,yx,by simpa using yn⟩
theorem RsS.setB(hS:RsS x K M1 M2 M3 X h Y n alt u q sym j b out done H)(hl:K<h.n/\M1<h.n/\M2<h.n/\M3<h.n)(b':Int):RsS x K M1 M2 M3 X h Y n alt u q sym j b' out done (H.set (h.n+2) (.rows [[.int .i64 b']])):=by
 obtain⟨ct,fr,nn,f0,p0,d0,own,oy,y1,y2,yx,yn⟩:=hS;have gk:∀i,i≠h.n+2->(H.set (h.n+2) (.rows [[.int .i64 b']])).get i=H.get i:=λi hne=>by rw[qBp,Jaa hne]
 refine⟨ct.upd y2 (by simp) (by omega) (by omega) (by omega) (by omega) (by have:=ct.wk; omega) λi _ hne=>gk i hne,fr.trans_lt (by simp) λi hi=>gk i (by omega),by simpa using nn,by rw[gk _ (by omega),f0],by rw[gk _ (by omega),p0],by rw[qBp,Jab rfl],own.setOff (own.slId (by omega)),oy,y1,y2,yx,by simpa using yn⟩
theorem RsS.more(hS:RsS x K M1 M2 M3 X h Y n alt u q sym j b out done H){H':Heap}(hn:H.n<=H'.n)(hk:∀i,i<H.n->H'.get i=H.get i)(m:Nat)(hm:m<=H'.n):RsS x K M1 M2 M3 X h (λi=>Y i\/(H.n<=i/\i<m)) n alt u q sym j b out done H':=by
 obtain⟨ct,fr,nn,f0,p0,d0,own,oy,y1,y2,yx,yn⟩:=hS;refine⟨ct.keep hn hk λi hi hy=>?_,fr.trans_lt hn λi hi=>hk i (by have:=fr.1; omega),by omega,by rw[hk _ (by omega),f0],by rw[hk _ (by omega),p0],by rw[hk _ (by omega),d0],own.ext hk hn,λi hi=>.inl (oy i hi),.inl y1,.inl y2,λi hi=>.inl (yx i hi),λi hi=>?_⟩
 ·rcases hy with c|c
  ·exact c
  ·omega
 ·rcases hi with c|c
  ·have:=yn i c; omega
  ·omega
theorem RsS.app(hS:RsS x K M1 M2 M3 X h Y n alt u q sym j b out done H)(hl:K<h.n/\M1<h.n/\M2<h.n/\M3<h.n)(hmk:mk<=h.n)(l:List Nd)(hlen:done.length+l.length<2000000) :
  ∃v' H',qaj mk H 4 32 out (l.map qui)=some ⟨v',H'⟩/\∃Y',RsS x K M1 M2 M3 X h Y' n alt u q sym j b v' (done++l) H'/\∀i,i<H.n->slId out≠some i->H'.get i=H.get i:=by
 obtain⟨ct,fr,nn,f0,p0,d0,own,oy,y1,y2,yx,yn⟩:=hS;obtain⟨v',H',a1,a2,a3,a4,a5⟩:=qaC (mk:=mk) (bytes:=32) (xs:=l.map qui) own (by omega) (by
  intro r hr;obtain⟨y,_,rfl⟩:=Jak.1 hr;exact⟨rfl,rfl⟩) (by simp; omega) (by omega) (by omega)
 have hlow:∀i,i<h.n+3->slId out≠some i:=λi hi=>own.slId hi;have hcu:=ct.upd2 (P:=λi=>slId out=some i) (h':=H') (λi hi=>⟨oy i hi,by
  have:¬i<h.n+3:=λc=>hlow i c hi;omega⟩) a3 λi hi hp=>a4 i hi hp
 refine⟨v',H',a1,λi=>Y i\/(H.n<=i/\i<H'.n),⟨?_,fr.trans_lt a3 λi hi=>a4 i (by have:=fr.1; omega) (hlow i (by omega)),by omega,by rw[a4 _ (by omega) (hlow _ (by omega)),f0],by rw[a4 _ (by omega) (hlow _ (by omega)),p0],by rw[a4 _ (by omega) (hlow _ (by omega)),d0],by rw[List.map_append]; exact a2,λi hi=>?_,.inl y1,.inl y2,λi hi=>.inl (yx i hi),λi hi=>?_⟩,a4⟩
 ·
  have hct:=ct.keep (h':=H) (X':=λi=>Y i\/(H.n<=i/\i<H'.n)) (Jac _) (λ_ _=>rfl) λi hi hy=>by
   rcases hy with c|c
   ·exact c
   ·omega
  exact hct.upd2 (P:=λi=>slId out=some i) (λi hi=>⟨.inl (oy i hi),by
   have:¬i<h.n+3:=λc=>hlow i c hi;omega⟩) a3 λi hi hp=>a4 i hi hp
 ·rcases a5 i hi with c|c
  ·refine .inr ⟨c,?_⟩;rcases a2 with ⟨rfl,_⟩|⟨id,rfl,_,_,g,_⟩
   ·simp[slId]at hi
   ·simp[slId]at hi; omega
  ·exact .inl (oy i c)
 ·rcases hi with c|c
  ·have:=yn i c; omega
  ·exact c.2
theorem RsS.mvT(hS:RsS x K M1 M2 M3 X h Y n alt u q sym j b out done H)(hl:K<h.n/\M1<h.n/\M2<h.n/\M3<h.n){O:Nat}(hO:h.n+3<=O)(ho:∀i,slId out=some i->i<O){H':Heap}(hC:CtL x K M1 M2 M3 Y H')(hF:FrT M1 M2 M3 O H H'):RsS x K M1 M2 M3 X h Y n alt u q sym j b out done H':=by
 obtain⟨ct,fr,nn,f0,p0,d0,own,oy,y1,y2,yx,yn⟩:=hS;obtain⟨hn,hk⟩:=hF;have hg:∀i,h.n<=i->i<=O->i<H.n->H'.get i=H.get i:=λi h1 h2 h3=>hk i h3 (by omega) (by omega) (by omega) (by omega) (by omega) (by omega);refine⟨hC,⟨by omega,λi hi a b c=>?_⟩,by omega,by rw[hg _ (by omega) (by omega) (by omega),f0],by rw[hg _ (by omega) (by omega) (by omega),p0],by rw[hg _ (by omega) (by omega) (by omega),d0],?_,oy,y1,y2,yx,λi hi=>by have:=yn i hi; omega⟩
 ·rw[hk i (by have:=fr.1; omega) a b c (by omega) (by omega) (by omega),fr.2 i hi a b c]
 ·rcases own with c|⟨id,rfl,g1,g2,g3,g4⟩
  ·exact .inl c
  ·have:=ho id rfl;exact .inr ⟨id,rfl,by rw[hg _ (by omega) (by omega) g3,g1],g2,by omega,g4⟩
theorem FrT.trans{O:Nat}{h h' h'':Heap}(a:FrT M1 M2 M3 O h h')(b:FrT M1 M2 M3 O h' h''):FrT M1 M2 M3 O h h'' :=
 ⟨Jaf a.1 b.1,λi hi x1 x2 x3 x4 x5 x6=>by rw[b.2 i (by have:=a.1; omega) x1 x2 x3 x4 x5 x6,a.2 i hi x1 x2 x3 x4 x5 x6]⟩
theorem FrT.refl{O:Nat}{h:Heap}:FrT M1 M2 M3 O h h:=⟨Jac _,λ_ _ _ _ _ _ _ _=>rfl⟩
theorem Own.idl{h:Heap}{m e:Nat}{v:V}{rows:List (List V)}(hO:Own h m v e rows):∀i,Go.Abs.slId v=some i->i<h.n:=λi hi=>by
 rcases hO with ⟨rfl,_⟩|⟨id,rfl,_,_,g,_⟩
 ·simp[Go.Abs.slId]at hi
 ·simp[Go.Abs.slId]at hi; omega
end
section
variable {x:Ev}{k0 q u n alt b0:Int}{A:Sl Sy}
theorem qxa(hx:EvS x)(hg:x.g.Fine)(hr:∀p∈x.g.p.l,∀a∈p.a.l,∀s∈a.l,s.r.l.length<1500000)(hm:mayE x=true)(n0:0<=n)(n1:n<x.g.p.l.length)(a0:0<=alt)(a1:alt<(lat x.g.p.l n.toNat).a.l.length)(hA:lat (lat x.g.p.l n.toNat).a.l alt.toNat=A)
  (h0:0<=k0) (hk1:k0<=x.w.l.length) (hask:∀i,i<A.l.length->(lat A.l i).kind=2->∀j,NowP x.g x.w.l (A.l.take i) k0 (j,0)->∀e∈(qaL x (lat A.l i).n j q).2,qw6 x q (lat A.l i).n j e.1 e.2/\(lstN x (lat A.l i).n j e.1 q e.2).length<1000000/\lstN x (lat A.l i).n j e.1 q e.2≠[])
  (hb0:badP x (n,alt,0,k0,u,q)=b0) (hb1:0<=b0/\b0<=1000000) {tot:List Nd}(htot:qwp x.g (qaN x q) (λn' k' u' b'=>lstN x n' k' u' q b') x.w.l u A.l k0 b0=tot) (hlen:tot.length<1000000)
  {d:Bool}{mk:Nat}{h:Heap}{K M1 M2 M3:Nat}{X:Nat->Prop}(hC:CtL x K M1 M2 M3 X h) (hX:∀i,X i->i<h.n) (m1:mk<=M1) (m2:mk<=M2) (m3:mk<=M3) (mh:mk<=h.n) :
  WF PR d mk (.fn 410 [] []) [.ptr K 0 0,qvz (n,alt,0,k0,u,q),.int .i64 b0] h λqq=>NdX X qq.h qq.v tot/\CtL x K M1 M2 M3 X qq.h/\Fr3 M1 M2 M3 h qq.h:=by
 have hw:=qbq hm;have hAm:A∈(lat x.g.p.l n.toNat).a.l:=by rw[<-hA]; exact qai (by omega)
 have hpm:lat x.g.p.l n.toNat∈x.g.p.l:=qai (by omega);have hAl:A.l.length<1000000000:=hx.g.s _ hpm A hAm;have hbad:∀(sym:Nat) (j:Int),sym<=A.l.length->NowP x.g x.w.l (A.l.take sym) k0 (j,0)->qwM x (n,alt,(sym:Int),j,u,q):=λsym j hs hj =>
  qw4 hx hg hr hm n0 n1 a0 a1 hA h0 (A.l.length-sym) sym j (by omega) hj
 have hbP:∀(sym:Nat) (j:Int),badP x (n,alt,(sym:Int),j,u,q)=badC (qaN x q) x.w.l u (A.l.drop sym) j:=λsym j=>by
  unfold badP;simp only[Int.toNat_natCast];rw[hA]
 obtain⟨P,hP⟩:∃P,lat x.g.p.l n.toNat=P:=⟨_,rfl⟩;refine WF.go f410 b410 [.tm 6] rfl rfl rfl rfl rfl rfl ?_;unfold b410;have lk:=hC.lk;have l1:=hC.l1;have l2:=hC.l2;have l3:=hC.l3;have hl:K<h.n/\M1<h.n/\M2<h.n/\M3<h.n:=⟨lk,l1,l2,l3⟩;obtain⟨H,hH⟩:∃H,((h.push (.rows [[.ptr K 0 0]])).push (.rows [[.int .i64 n,.int .i64 alt,.int .i64 0,.int .i64 k0,.int .i64 u,.int .i64 q]])).push (.rows [[.int .i64 b0]])=H:=⟨_,rfl⟩;have hn:H.n=h.n+3:=by rw[<-hH]; simp
 have gk:∀i,i<h.n->H.get i=h.get i:=λi hi=>by rw[<-hH]; simp[show ¬i=h.n by omega,show ¬i=h.n+1 by omega,show ¬i=h.n+2 by omega]
 have f0:H.get h.n=some (.rows [[.ptr K 0 0]]):=by rw[<-hH]; simp
 have p0:H.get (h.n+1)=some (.rows [[.int .i64 n,.int .i64 alt,.int .i64 0,.int .i64 k0,.int .i64 u,.int .i64 q]]):=by rw[<-hH]; simp
 have d0:H.get (h.n+2)=some (.rows [[.int .i64 b0]]):=by rw[<-hH]; simp
 have hS0:RsS x K M1 M2 M3 X h (λi=>X i\/(h.n<=i/\i<h.n+3)) n alt u q 0 k0 b0 .nils [] H :=
  ⟨hC.keep (by omega) gk λi hi hy=>by
   rcases hy with c|c
   ·exact c
   ·omega,.of (by omega) gk,by omega,f0,p0,d0,.inl ⟨rfl,rfl⟩,λi hi=>by simp[slId]at hi,.inr (by omega),.inr (by omega),λi hi=>.inl hi,λi hi=>by
   rcases hi with c|c
   ·have:=hX i c; omega
   ·omega⟩
 have hA':=hA;have a1':=a1;rw[hP]at hA' a1';have hC2:=hS0.ct;simp -dsimp[qvz,-qar,-qnc];rw[qar];simp -dsimp[-qar,-qnc];rw[hH,qar];simp -dsimp[-qar,-qnc];rw[qnc];simp -dsimp[-qar,f0,p0,hC2.k,qcT,n0,n1,hP,Pd.cells,a0,a1',hA',qaK];refine qvg (λo st=>o=.normal/\∃v,(gK 7).run st.tm=v/\v.cells=[v]/\v.one=true/\NdX X st.h v tot/\CtL x K M1 M2 M3 X st.h/\Fr3 M1 M2 M3 h st.h/\st.defs=[]) ?_ ?_;rotate_left
 ·rintro o ⟨tm,H5,defs,round⟩ ⟨rfl,v,t7,_,_,hv,hC5,hF5,rfl⟩;simp only at t7 hv hC5 hF5;simp -dsimp[t7];exact⟨hv,hC5,hF5⟩
 refine qaf (λkk st=>∃(sym:Nat) (j b:Int) (out:V) (done:List Nd) (Y:Nat->Prop),sym+kk=A.l.length/\(gK 7).run st.tm=out/\RsS x K M1 M2 M3 X h Y n alt u q sym j b out done st.h /\
  done++qwp x.g (qaN x q) (λn' k' u' b'=>lstN x n' k' u' q b') x.w.l u (A.l.drop sym) j b=tot/\badP x (n,alt,(sym:Int),j,u,q)=b/\0<=b/\b<=1000000/\NowP x.g x.w.l (A.l.take sym) k0 (j,0)/\st.defs=[]) A.l.length
  ⟨0,k0,b0,.nils,[],_,by omega,by simp,hS0,by simpa using htot,hb0,hb1.1,hb1.2,⟨Int.le_refl _,hk1,by simp,λ_=>.nil⟩,rfl⟩ ?_
 rintro kk ⟨tm,H4,defs,round⟩ ⟨sym,j,b,out,done,Y,hi,t7,hS,hdt,hbb,hb2,hb3,hnow,rfl⟩ hK';have t3:=hK' 3 rfl;have t4:=hK' 4 rfl;have t5:=hK' 5 rfl;have t8:=hK' 8 rfl;simp at t3 t4 t5 t8 t7;simp only at hS;clear hK';have p4:=hS.p0;have hend:∀H,lenV .sl (A.enc Sy.cells) H=some (.int .i64 A.l.length):=λH=>by simp
 have stop:tot=done->∃v,out=v/\v.cells=[v]/\v.one=true/\NdX X H4 v tot/\CtL x K M1 M2 M3 X H4/\Fr3 M1 M2 M3 h H4:=λe=>by
  subst e;exact⟨out,rfl,hS.own.cells.1,hS.own.cells.2,hS.own.ndx λi hi=>by have:=hX i hi; omega,hS.ct.less λi _=>hS.yx i,hS.fr⟩
 simp -dsimp[t4,t8,p4,hend,-qar];rw[qar];simp -dsimp[t4,t8,p4,hend,-qar];rw[qaa];refine⟨λhc=>?_,λhc=>?_⟩;rotate_left
 ·have e1:sym=A.l.length:=by simp at hc; omega
  rw[List.drop_of_length_le (by omega),qwp,List.append_nil]at hdt;simp -dsimp[t7];obtain⟨v,e,g⟩:=stop hdt.symm;subst e;exact g
 have hlt:sym<A.l.length:=by simpa using hc
 obtain⟨s,hs⟩:∃s,lat A.l sym=s:=⟨_,rfl⟩;have hsm:s∈A.l:=by rw[<-hs]; exact qai hlt
 have hdr:=qbu hlt;rw[hs]at hdr;have htk:A.l.take (sym+1)=A.l.take sym++[s]:=by rw[Jap,qaz hlt,hs]; rfl
 have j0:0<=j:=by have:=hnow.1; simp only at this; omega
 have j1:j<=x.w.l.length:=hnow.2.1;have hnv:qwn=1099511627776:=rfl;rw[hbP,hdr,badC]at hbb;rw[hdr,qwp]at hdt;have hia:qaw 3 (A.enc Sy.cells) (.int .i64 sym)=some (.ptrR s.cells 0):=by
  have:=qap (f:=Sy.cells) (s:=A) (esz:=3) (k:=.i64) (n:=(sym:Int)) (by omega) (by omega) (λ_=>rfl);rw[this];simp[hs]
 have nn:=hS.nn;have hfr1:=hS.fr.1;have m4:mk<=H4.n:=by omega
 have mp:mk<=h.n+1:=by omega
 have z1:¬h.n+1=H4.n:=by omega
 obtain⟨z,hz⟩:∃z:Int,(sym:Int)+1=z:=⟨_,rfl⟩;have hz2:((sym+1:Nat):Int)=z:=by omega
 obtain⟨HA,hHA⟩:∃HA,(H4.push (.rows [[.int .i64 0,.nils,.int .i64 0]])).set H4.n (.rows [[.int .i64 s.kind,s.r.enc Rg.cells,.int .i64 s.n]])=HA:=⟨_,rfl⟩;have nA:HA.n=H4.n+1:=by rw[<-hHA]; simp
 have gkA:∀i,i<H4.n->HA.get i=H4.get i:=λi hi=>by rw[<-hHA,qBp,Jaa (by omega),qBq,Jaa (by omega)]
 have sA:HA.get H4.n=some (.rows [[.int .i64 s.kind,s.r.enc Rg.cells,.int .i64 s.n]]):=by rw[<-hHA,qBp,Jab rfl]
 have hSA:=hS.more (H':=HA) (by omega) gkA HA.n (Jac _);have pA:=hSA.p0;have fA:=hSA.f0;have dA:=hSA.d0;simp -dsimp[-qar];rw[qar];simp -dsimp[-qar,t4,t8,p4,hia,Sy.cells,m4];rw[hHA,qar];simp -dsimp[-qar,-qnc,sA];rw[qaa];refine⟨λhk=>?_,λhk=>?_⟩
 ·have hk2:¬s.kind=2:=by simpa using hk
  rw[Jaa hk2]at hbb hdt;have hm0:0<qbr s x.w.l j:=by
   by_cases c:0<qbr s x.w.l j
   ·exact c
   ·rw[Jaa c]at hbb; omega
  rw[Jab hm0]at hbb hdt;have hmr:=qdJ hm0;have hww:=hx.w;have hsc:[V.int IntKind.i64 s.kind,s.r.enc Rg.cells,V.int IntKind.i64 s.n]=s.cells:=rfl;have hCA:=hSA.ct;simp -dsimp[-qar,t3,t4,sA,fA,pA,hCA.k,qcT];rw[hsc];refine WFS.by (qnn s hCA.wb (by have:=hCA.wk; have:=hCA.lk; omega) j (hr _ hpm A hAm s hsm) (by omega)) ?_
  intro v' h' e;cases e;have hSB:=(hSA.setP hl (sym:Int) (j+qbr s x.w.l j)).setP hl z (j+qbr s x.w.l j);have hiw:fw .i64 ((sym:Int)+1)=z:=by rw[fw64 (by omega) (by omega),hz]
  simp -dsimp[t4,pA,mp,fw64 (n:=j+qbr s x.w.l j) (by omega) (by omega),hiw];refine qah.intro (kk-1) (by omega) ⟨sym+1,j+qbr s x.w.l j,b,out,done,_,by omega,by simp[t7],by rw[hz2]; exact hSB,hdt,by rw[hbP]; exact hbb,hb2,hb3,by rw[htk]; exact qvA h0 hk2 hnow hm0,rfl⟩
 ·have hk2:s.kind=2:=by simpa using hk
  rw[Jab hk2]at hbb hdt;have zA:¬h.n+1=H4.n+1:=by omega
  have z14:¬H4.n=H4.n+1:=by omega
  have mA:mk<=H4.n+1:=by omega
  have hiw:fw .i64 ((sym:Int)+1)=z:=by rw[fw64 (by omega) (by omega),hz]
  simp -dsimp[-qar];rw[qar];simp -dsimp[-qar,t4,pA,nA,zA,mA];rw[qar];simp -dsimp[-qar,nA,mA,hiw];rw[qar];simp -dsimp[-qar,nA];rw[qar];simp -dsimp[-qar,nA];rw[qar];simp -dsimp[-qar,nA,t3,t4,t5];obtain⟨HT,hHT⟩:∃HT,((((HA.push (.rows [[.int .i64 0,.int .i64 0,.int .i64 0,.int .i64 0,.int .i64 0,.int .i64 0]])).set (H4.n+1) (.rows [[.int .i64 n,.int .i64 alt,.int .i64 sym,.int .i64 j,.int .i64 u,.int .i64 q]])).set (H4.n+1) (.rows [[.int .i64 n,.int .i64 alt,.int .i64 z,.int .i64 j,.int .i64 u,.int .i64 q]])).push (.rows [[.nils]])).push (.rows [[.int .i64 0,.int .i64 0]])=HT:=⟨_,rfl⟩;have nT:HT.n=H4.n+4:=by rw[<-hHT]; simp[nA]
  have gkT:∀i,i<HA.n->HT.get i=HA.get i:=λi hi=>by
   rw[nA]at hi;rw[<-hHT,qBq,Jaa (by simp[nA]; omega),qBq,Jaa (by simp[nA]; omega),qBp,Jaa (by omega),qBp,Jaa (by omega),qBq,Jaa (by omega)]
  have gT1:HT.get (H4.n+1)=some (.rows [[.int .i64 n,.int .i64 alt,.int .i64 z,.int .i64 j,.int .i64 u,.int .i64 q]]):=by rw[<-hHT,qBq,Jaa (by simp[nA]),qBq,Jaa (by simp[nA]),qBp,Jab rfl]
  have gT2:HT.get (H4.n+2)=some (.rows [[.nils]]):=by rw[<-hHT,qBq,Jaa (by simp[nA]),qBq,Jab (by simp[nA])]
  have gT3:HT.get (H4.n+3)=some (.rows [[.int .i64 0,.int .i64 0]]):=by rw[<-hHT,qBq,Jab (by simp[nA])]
  have hST:=hSA.more (H':=HT) (by omega) gkT HT.n (Jac _);obtain⟨YT,hYT⟩:∃YT:Nat->Prop,(λi=>(Y i\/H4.n<=i/\i<HA.n)\/HA.n<=i/\i<HT.n)=YT:=⟨_,rfl⟩;rw[hYT]at hST;have yT:∀i,H4.n<i->i<HT.n->YT i:=λi h1 h2=>by rw[<-hYT]; exact .inr ⟨by omega,h2⟩
  have hTk0:TkS x K M1 M2 M3 YT h.n H4.n n alt z j u q b sym s j none HT :=
   ⟨hST.ct,hST.f0,hST.p0,hST.d0,by rw[gkT _ (by omega),sA]; rfl,gT1,⟨_,_,_,gT2,gT3,rfl⟩,by omega,by omega,yT _ (by omega) (by omega),yT _ (by omega) (by omega),yT _ (by omega) (by omega),hST.yn,hl⟩
  rw[hHT,qar];obtain⟨s0,s1⟩:=qcD hw hAm s hsm hk2;have pT:=hST.p0;have fT:=hST.f0;have sT:=hTk0.s0;simp -dsimp[t3,t4,pT,fT,sT,Sy.cells];refine WFS.by (qw5 hx hg hr hST.ct hST.yn m1 s.n j q) ?_
  rintro v H5 ⟨rfl,hC5,hF5⟩;simp only at hC5 hF5;have hTk1:=hTk0.mv hC5 hF5;have n5:=hF5.1;rw[qqO hm s0 s1 j0 j1];have hEin:=(qbf hw (ref:=q) s0 s1 j0 j1).2;have hEl:=qly hm (r:=q) s0 s1 j0 j1;have hNE:qaN x q s.n j=(qaL x s.n j q).2:=rfl;have hask2:=λe he=>hask sym hlt (by rw[hs]; exact hk2) j hnow e he;rw[hs]at hask2;have hnow2:∀e∈(qaL x s.n j q).2,NowP x.g x.w.l (A.l.take (sym+1)) k0 (e.1,0):=λe he=>by
   rw[htk];exact qvO (L:=qaN x q) h0 s0 hk2 hEin hnow he
  rw[hNE]at hdt hbb;obtain⟨E,hE⟩:∃E,(qaL x s.n j q).2=E:=⟨_,rfl⟩;rw[hE]at hEin hEl hask2 hnow2 hdt hbb ⊢;have hbP2:∀j',badP x (n,alt,z,j',u,q)=badC (qaN x q) x.w.l u (A.l.drop (sym+1)) j':=λj'=>by rw[<-hz2,hbP]
  obtain⟨f,hf⟩:∃f:En->List Nd,(λe:En=>lstN x s.n j e.1 q e.2)=f:=⟨_,rfl⟩;have hfe:∀e,f e=lstN x s.n j e.1 q e.2:=λe=>by rw[<-hf]
  have hend5:∀H,lenV .sl (qvF E) H=some (.int .i64 E.length):=λH=>by unfold qvF; simp
  simp -dsimp[hend5];have hFT5:FrT M1 M2 M3 H4.n HT H5:=⟨hF5.1,λi hi a1 a2 a3 _ _ _=>hF5.2 i hi a1 a2 a3⟩;obtain⟨ok,hok⟩:∃ok:En->Bool,(λe:En=>decide (e.2+badP x (n,alt,z,e.1,u,q)=b))=ok:=⟨_,rfl⟩;have hok2:(λe:En=>decide (e.2+badC (qaN x q) x.w.l u (A.l.drop (sym+1)) e.1=b))=ok:=by
   rw[<-hok]; funext e; rw[hbP2]
  rw[hok2,hf]at hdt;obtain⟨best,hbest⟩:∃best,qwt x.g f ok E none=best:=⟨_,rfl⟩;rw[hbest]at hdt;refine qvg (λo st=>o=.normal/\(gK 3).run st.tm=.ptr h.n 0 0/\(gK 4).run st.tm=.ptr (h.n+1) 0 0/\(gK 5).run st.tm=.ptr (h.n+2) 0 0/\(gK 7).run st.tm=out/\(gK 13).run st.tm=.ptr (H4.n+2) 0 0/\(gK 14).run st.tm=.ptr (H4.n+3) 0 0 /\
   (∃fr,TkS x K M1 M2 M3 YT h.n H4.n n alt z j u q b sym s fr best st.h)/\FrT M1 M2 M3 H4.n HT st.h/\st.defs=[]) ?_ ?_
  ·refine qaf (λk st=>∃(i:Nat) (fr:Int),i+k=E.length/\(gK 83).run st.tm=.int .i64 i/\TkS x K M1 M2 M3 YT h.n H4.n n alt z j u q b sym s fr (qwS x.g f ok E i) st.h/\FrT M1 M2 M3 H4.n HT st.h/\st.defs=[]) E.length
    ⟨0,j,by omega,by simp,hTk1,hFT5,rfl⟩ ?_
   rintro k ⟨tm,H6,defs,round⟩ ⟨i,fr,hi6,t83,hTk,hF6,rfl⟩ hK';have t3:=hK' 3 rfl;have t4:=hK' 4 rfl;have t5:=hK' 5 rfl;have t7:=hK' 7 rfl;have t13:=hK' 13 rfl;have t14:=hK' 14 rfl;have t15:=hK' 15 rfl;have t81:=hK' 81 rfl;have t82:=hK' 82 rfl;simp[*]at t3 t4 t5 t7 t13 t14 t15 t81 t82 t83;simp only at hTk hF6;clear hK';simp -dsimp[t83,t82];rw[qaa];refine⟨λhc=>?_,λhc=>?_⟩;rotate_left
   ·have e1:i=E.length:=by simp at hc; omega
    subst e1;rw[qwZ,hbest]at hTk;simp -dsimp;exact⟨t3,t4,t5,t7,t13,t14,⟨fr,hTk⟩,hF6⟩
   have e1:i<E.length:=by simpa using hc
   obtain⟨e,he⟩:∃e,lat E i=e:=⟨_,rfl⟩;have hem:e∈E:=by rw[<-he]; exact qai e1
   have hie:qaw 2 (qvF E) (.int .i64 i)=some (.ptrR (qad e) 0):=by
    have:=qap (f:=qad) (s:=slE E) (esz:=2) (k:=.i64) (n:=(i:Int)) (by omega) (by simp; omega) (λ_=>rfl);unfold qvF;rw[this]; simp[he]
   have n6:=hF6.1;obtain⟨H7,hH7⟩:∃H7,(H6.push (.rows [[.int .i64 0,.int .i64 0]])).set H6.n (.rows [[.int .i64 e.1,.int .i64 e.2]])=H7:=⟨_,rfl⟩;have n7:H7.n=H6.n+1:=by rw[<-hH7]; simp
   have gk7:∀i,i<H6.n->H7.get i=H6.get i:=λi hi=>by rw[<-hH7,qBp,Jaa (by omega),qBq,Jaa (by omega)]
   have gE7:H7.get H6.n=some (.rows [[.int .i64 e.1,.int .i64 e.2]]):=by rw[<-hH7,qBp,Jab rfl]
   have hTk7:=hTk.mv (hTk.ct.keep (h':=H7) (X':=YT) (by omega) gk7 λ_ _ h=>h) (.of (by omega) gk7);have hFT7:FrT M1 M2 M3 H4.n HT H7:=hF6.trans ⟨by omega,λi hi _ _ _ _ _ _=>gk7 i hi⟩;have m6:mk<=H6.n:=by omega
   have hEe:=hEin e hem;have hww:=hx.w;have he2:0<=e.2/\e.2<=1000000:=⟨hEe.2.2.1.1,by have:=hEe.2.2.1.2; have:=hEe.2.1; omega⟩;have hbn:qwM x (n,alt,z,e.1,u,q):=by rw[<-hz2]; exact hbad (sym+1) e.1 (by omega) (hnow2 e hem)
   have hiw2:fw .i64 ((i:Int)+1)=((i+1:Nat):Int):=by rw[fw64 (by omega) (by omega)]; rfl
   simp -dsimp[-qar];rw[qar];simp -dsimp[-qar,t83,t81,hie,qad,m6];rw[hH7,qar];simp -dsimp[t15,gE7]
   refine WFS.by (qwU hTk7 hg hfe e he2 hbn (λheq=>by
    obtain⟨g1,g2,g3⟩:=hask2 e hem;exact⟨g1,by rw[hfe]; exact g2,by rw[hfe]; exact g3⟩) m1 m2 m3 (by omega)) ?_
   rintro v H8 ⟨hTk8,hF8⟩;simp only at hTk8 hF8;have hps:=qwR (g:=x.g) (f:=f) (ok:=ok) e1;rw[he]at hps;rw[hok,<-hps]at hTk8;simp -dsimp[t83,hiw2];exact qah.intro (k-1) (by omega) ⟨i+1,e.1,by omega,by simp,hTk8,hFT7.trans hF8,rfl⟩
  ·rintro o ⟨tm,H6,defs,round⟩ ⟨rfl,t3,t4,t5,t7,t13,t14,⟨fr,hTk⟩,hF6,rfl⟩;simp only at t3 t4 t5 t7 t13 t14 hTk hF6;have hS6:=hST.mvT hl (O:=H4.n) (by omega) hS.own.idl hTk.ct hF6;obtain⟨v1,e1,e2,o1,o2,o3⟩:=hTk.one;cases best with
   | none =>
    have hv1:v1=.nils:=o3;subst hv1;have hdt2:tot=done:=by rw[<-hdt]; exact List.append_nil _
    simp -dsimp[t13,o1,qw0,t7];subst hdt2;exact⟨hS6.own.cells.1,hS6.own.cells.2,hS6.own.ndx λi hi=>by have:=hX i hi; omega,hS6.ct.less λi _=>hS6.yx i,hS6.fr⟩
   | some c =>
    obtain⟨g1,g2,g3,rfl,rfl⟩:=o3;have hq:=g1.nonil g2;rcases qwu _ _ _ hbest with c0|⟨c1,c2,c3⟩
    ·cases c0
    rw[<-hok]at c2;have hcb:c.2.2+badP x (n,alt,z,c.2.1,u,q)=b:=by simpa using c2
    have hbn:qwM x (n,alt,z,c.2.1,u,q):=by rw[<-hz2]; exact hbad (sym+1) c.2.1 (by omega) (hnow2 _ c1)
    have hbr:=hbn.1;have h22:0<=c.2.2:=(hEin _ c1).2.2.1.1;simp only at hdt;have hlen2:done.length+c.1.length<2000000:=by
     have:(done++(c.1++qwp x.g (qaN x q) (λn' k' u' b'=>lstN x n' k' u' q b') x.w.l u (A.l.drop (sym+1)) c.2.1 (b-c.2.2))).length=tot.length:=congrArg List.length hdt;simp only[Jao]at this;omega
    obtain⟨v',H7,a1,Y7,hS7,a2⟩:=hS6.app (mk:=mk) hl mh c.1 hlen2;have hrw:=g1.rows;simp -dsimp[-qar];rw[qar];simp -dsimp[t13,o1,hq,-qar];rw[qar];simp -dsimp[t13,o1,t7,-qar,-qnc];rw[qaE (xs:=c.1.map qui) (by simp; exact hrw)];rw[show(Opd.t 93).ev ((sK 94).run v1 ((sK 93).run out ((sK 92).run (V.bool false) ((sK 91).run v1 tm))))=out by simp];refine OpS.intro a1 ?_;have lt6:=hTk.lt;have hnot:∀i,H4.n<=i->slId out≠some i:=λi hi c=>by have:=hS.own.idl i c; omega
    have o27:H7.get (H4.n+3)=some (.rows [[.int .i64 c.2.1,.int .i64 c.2.2]]):=by rw[a2 _ lt6 (hnot _ (by omega)),o2]
    have p7:=hS7.p0;have d7:=hS7.d0;have hSF:=((hS7.setP hl (sym:Int) c.2.1).setB hl (b-c.2.2)).setP hl z c.2.1;have mb:mk<=h.n+2:=by omega
    have zz1:¬h.n+2=h.n+1:=by omega
    have zz2:¬h.n+1=h.n+2:=by omega
    have zz3:¬H4.n+3=h.n+1:=by omega
    have zz4:¬H4.n+3=h.n+2:=by omega
    simp -dsimp[t3,t4,t5,t14,o27,p7,d7,mp,mb,zz1,zz2,zz3,zz4,fw64 (n:=b-c.2.2) (by omega) (by omega),hiw];refine qah.intro (kk-1) (by omega) ⟨sym+1,c.2.1,b-c.2.2,v',done++c.1,Y7,by omega,by simp,by rw[hz2]; exact hSF,?_,by rw[hz2]; omega,by omega,by omega,hnow2 _ c1,rfl⟩;rw[List.append_assoc];exact hdt
end
theorem qwz{E:List En}(hr:E.Pairwise (λa b=>a.1<b.1)){e:En}(he:e∈E):(E.find? λf=>decide (f.1=e.1))=some e:=by
 induction E with
 | nil=>cases he
 | cons a l ih =>
  rw[List.pairwise_cons]at hr;rw[List.find?_cons];rcases Jag.1 he with c|c
  ·subst c; simp
  ·have:=hr.1 e c;rw[show decide (a.1=e.1)=false by simp; omega];exact ih hr.2 c
theorem qxf{x:Ev}(hx:EvW x){n k:Int}(u r b:Int)(n0:0<=n)(n1:n<x.g.p.l.length)(k0:0<=k)(k1:k<=x.w.l.length):lstN x n k u r b≠[]:=by
 rw[qw2 hx u r b n0 n1 k0 k1];split<;>simp
theorem qwL.put{x:Ev}{M:Nat}{X:Nat->Prop}{h:Heap}{es es':List (Nat × V × V)}{c c':Nat}{S:List (Spn × V)}{p:Spn}{v:V}(hM:h.get M=some (.map es c))(hS:∀p v,qaS p S=some v->NdX X h v (lstS x p))(hR:MapR qvL (λv:V=>v) es' (aSet p v S))(hv:NdX X h v (lstS x p)):qwL x M X (h.set M (.map es' c')):=by
 have hk:∀i rs,i<h.n->¬X i->h.get i=some (.rows rs)->(h.set M (.map es' c')).get i=some (.rows rs):=λi rs _ _ e=>by
  rw[qBp,Jaa (λc=>by rw[c,hM]at e; cases e),e]
 refine⟨es',c',aSet p v S,by rw[qBp,Jab rfl],hR,λr w hw=>?_⟩;rw[qhs]at hw;split at hw
 ·rename_i e; cases hw; rw[e]; exact hv.fr (by simp) hk (λ_ _ h=>h)
 ·exact(hS r w hw).fr (by simp) hk (λ_ _ h=>h)
theorem qxd{X:Nat->Prop}{h:Heap}{mk:Nat}{y:Nd}(hX:∀i,X i->i<h.n)(l:List Nd)(hl:l.length<1000000) :
  ∃v' h',qaj mk h 4 32 (.slR [qui y] true) (l.map qui)=some ⟨v',h'⟩/\h.n<=h'.n/\(∀i,i<h.n->h'.get i=h.get i)/\NdX X h' v' (y::l):=by
 cases l with
 | nil=>exact⟨_,_,rfl,Jac _,λ_ _=>rfl,.inl ⟨.full [y],rfl,rfl⟩⟩
 | cons z l =>
  have h1:qdH ((z::l).map qui)=true:=qe0 λr hr=>by
   obtain⟨y,_,rfl⟩:=Jak.1 hr;rfl
  simp only[List.length_cons]at hl;refine⟨.sl h.n 0 (1+(l.length+1)) 4 false,h.push (.rows ((y::z::l).map qui)),?_,by simp,λi hi=>by simp; omega,.inr ⟨h.n,0,false,(y::z::l).map qui,by simp; omega,by simp,by simp,by rw[List.drop_zero,List.take_of_length_le (by simp)],by simp,λc=>by have:=hX _ c; omega⟩⟩;simp only[List.map_cons,qui]at h1;have h3:1+(l.length+1)<4294967296:=by omega
  simp[qaj,qal,qaI,qa9,h1,h3,qui]
section
variable {x:Ev}{q:Int}
theorem qw8(hx:EvS x)(hg:x.g.Fine)(hr:∀p∈x.g.p.l,∀a∈p.a.l,∀s∈a.l,s.r.l.length<1500000)(hm:mayE x=true)
  (hq:∀n k:Int,0<=n->n<x.g.p.l.length->0<=k->k<=x.w.l.length->refV x n k q=q)
  (hsz:∀n k:Int,0<=n->n<x.g.p.l.length->0<=k->k<=x.w.l.length->∀e∈(qaL x n k q).2,(lstN x n k e.1 q e.2).length<1000000) :
  ∀(m:Nat) (n k:Int),muN x.g x.w.l n k<m->0<=n->n<x.g.p.l.length->0<=k->k<=x.w.l.length->∀e∈(qaL x n k q).2,qw6 x q n k e.1 e.2:=by
 intro m;induction m with
 | zero=>intro _ _ h; omega
 | succ m ih =>
  intro n k hmu n0 n1 k0 k1 e he d mk h K M1 M2 M3 X hC hX m1 m2 m3 mh;have hw:=qbq hm;obtain⟨u,b⟩:=e;simp only;have hin:=(qbf hw (ref:=q) n0 n1 k0 k1).2 _ he;have hbd:bdS x (n,k,q,u)=b:=by
   unfold bdS;simp only;rw[qwz (qc3 hw (ref:=q) n0 n1 k0 k1).2 he];rfl
  obtain⟨tot,htot⟩:∃tot,lstN x n k u q b=tot:=⟨_,rfl⟩;have hlS:lstS x (n,k,q,u)=tot:=by
   unfold lstS;rw[hbd]; exact htot
  have hlen:=hsz n k n0 n1 k0 k1 _ he;simp only at hlen;rw[htot]at hlen;have hte:=qw2 hw u q b n0 n1 k0 k1;rw[htot,hq n k n0 n1 k0 k1]at hte;unfold altL at hte;rw[hq n k n0 n1 k0 k1]at hte;rw[htot];refine WF.go f397 b397 [.tm 6] rfl rfl rfl rfl rfl rfl ?_;unfold b397;have lk:=hC.lk;have l1:=hC.l1;have l2:=hC.l2;have l3:=hC.l3;have hl:K<h.n/\M1<h.n/\M2<h.n/\M3<h.n:=⟨lk,l1,l2,l3⟩;obtain⟨P,hP⟩:∃P,lat x.g.p.l n.toNat=P:=⟨_,rfl⟩;rw[hP]at hte;obtain⟨H,hH⟩:∃H,h.push (.rows [[.int .i64 n,.int .i64 k,.int .i64 q,.int .i64 u]])=H:=⟨_,rfl⟩;have hn:H.n=h.n+1:=by rw[<-hH]; simp
  have gk:∀i,i<h.n->H.get i=h.get i:=λi hi=>by rw[<-hH]; simp[show ¬i=h.n by omega]
  have b1:H.get h.n=some (.rows [[.int .i64 n,.int .i64 k,.int .i64 q,.int .i64 u]]):=by rw[<-hH]; simp
  have hC2:=hC.keep (h':=H) (X':=X) (by omega) gk λ_ _ h=>h;obtain⟨es,c,S,e1,e2,e3⟩:=hC2.m3;have hlook:=qlz (kn:=.agg [.int,.int,.int,.int]) (zero:=.nils) qv3 qwd e1 e2 (n,k,q,u);have hsp:qvL (n,k,q,u)=.agg [.int .i64 n,.int .i64 k,.int .i64 q,.int .i64 u]:=rfl;rw[hsp]at hlook;simp -dsimp[hsp,-qnc];rw[hH,qnc];simp -dsimp[b1,hC2.k,qcT,hlook];obtain⟨o,ho⟩:∃o,qaS (n,k,q,u) S=o:=⟨_,rfl⟩;rw[ho];cases o with
  | some v =>
   have:=e3 _ _ ho;rw[hlS]at this;simp -dsimp;exact⟨this,hC2,.of (by omega) gk⟩
  | none =>
  simp -dsimp[b1,hC2.k,qcT,n0,n1,hP,Pd.cells,-qar];have hpm:P∈x.g.p.l:=by rw[<-hP]; exact qai (by omega)
  have hal:=hx.g.a P hpm;have fin:∀H3 v,CtL x K M1 M2 M3 X H3->Fr3 M1 M2 M3 h H3->NdX X H3 v tot->∃gs c2,qmD mk (.agg [.int,.int,.int,.int]) (.map M3) (.agg [.int .i64 n,.int .i64 k,.int .i64 q,.int .i64 u]) v H3=some ⟨.any,H3.set M3 (.map gs c2)⟩/\NdX X (H3.set M3 (.map gs c2)) v tot/\CtL x K M1 M2 M3 X (H3.set M3 (.map gs c2))/\Fr3 M1 M2 M3 h (H3.set M3 (.map gs c2)):=λH3 v hC3 hF3 hv=>by
   obtain⟨es',c',S',g1,g2,g3⟩:=hC3.m3;obtain⟨gs,c2,q1,q2⟩:=qgM (kn:=.agg [.int,.int,.int,.int]) (mk:=mk) qv3 qwd g1 g2 m3 (n,k,q,u) v;refine⟨gs,c2,q1,hv.fr (by simp) (λi rs _ _ e=>by rw[qBp,Jaa (λc=>by rw[c,g1]at e; cases e),e]) (λ_ _ h=>h),hC3.set3 (qwL.put g1 g3 q2 (by rw[hlS]; exact hv)),?_⟩;have:=hF3.1;exact⟨by simp only[qBB]; omega,λi hi x1 x2 x3=>by rw[qBp,Jaa x3,hF3.2 i hi x1 x2 x3]⟩
  obtain⟨HN,hHN⟩:∃HN,(H.push (.rows [[.int .i64 0,.int .i64 0,.int .i64 0,.int .i64 0]])).set H.n (.rows [[.int .i64 n,.int .i64 P.a.l.length,.int .i64 k,.int .i64 u]])=HN:=⟨_,rfl⟩;have nN:HN.n=h.n+2:=by rw[<-hHN]; simp[hn]
  have mH:mk<=H.n:=by omega
  have zH:¬h.n=H.n:=by omega
  have zK:¬K=H.n:=by omega
  rw[qar];simp -dsimp[b1,hC2.k,qcT,n0,n1,hP,Pd.cells,mH,zH,zK,-qar];have eHN:(H.push (.rows [[.int .i64 0,.int .i64 0,.int .i64 0,.int .i64 0]])).set H.n (.rows [[.int .i64 n,.int .i64 P.a.l.length,.int .i64 k,.int .i64 u]])=HN:=hHN;have gkN:∀i,i<H.n->HN.get i=H.get i:=λi hi=>by rw[<-hHN,qBp,Jaa (by omega),qBq,Jaa (by omega)]
  have gN:HN.get H.n=some (.rows [[.int .i64 n,.int .i64 P.a.l.length,.int .i64 k,.int .i64 u]]):=by rw[<-hHN,qBp,Jab rfl]
  obtain⟨Y,hY⟩:∃Y:Nat->Prop,(λi=>X i\/i=H.n)=Y:=⟨_,rfl⟩;have yN:Y H.n:=by rw[<-hY]; exact .inr rfl
  have yx:∀i,X i->Y i:=λi hi=>by rw[<-hY]; exact .inl hi
  have yn:∀i,Y i->i<HN.n:=λi hi=>by
   rw[<-hY]at hi;rcases hi with c|c
   ·have:=hX i c; omega
   ·omega
  have hCN:=hC2.keep (h':=HN) (X':=Y) (by omega) gkN λi hi hy=>by
   rw[<-hY]at hy;rcases hy with c|c
   ·exact c
   ·omega
  have bN:HN.get h.n=some (.rows [[.int .i64 n,.int .i64 k,.int .i64 q,.int .i64 u]]):=by rw[gkN _ (by omega),b1]
  have hFN:Fr3 M1 M2 M3 h HN:=.of (by omega) λi hi=>by rw[gkN i (by omega),gk i hi]
  have e5:[Sl.enc Pd.cells x.g.p,Sl.enc qac x.g.keys,x.w.v,V.int IntKind.i64 x.tab,V.bool x.heal]=x.cells:=rfl;rw[eHN,qar];simp -dsimp[gN,bN,hCN.k,qcT];rw[e5];refine WFS.by (qtW x hx hCN.wb (by have:=hCN.wk; have:=hCN.lk; omega) n k q) ?_
  intro v h' e;cases e;rw[hq n k n0 n1 k0 k1];simp -dsimp[bN,hCN.k,qcT,n0,n1,hP,Pd.cells];obtain⟨p,hp⟩:∃p:Sl Sy->Bool,(λa:Sl Sy=>qwq x n k u q&&decide (badC (qaN x q) x.w.l u a.l k=b))=p:=⟨_,rfl⟩;rw[hp]at hte;have hbr:0<=b/\b<=1000000:=by
   have h1:=hin.2.2.1;have h2:=hin.2.1;have h3:=hx.w;simp only at h1 h2;omega
  refine qvg (λo st=>o=.normal/\(gK 0).run st.tm=.ptr K 0 0/\(gK 4).run st.tm=.ptr h.n 0 0/\(∃v,(gK 10).run st.tm=v/\NdX X st.h v tot)/\CtL x K M1 M2 M3 X st.h/\Fr3 M1 M2 M3 h st.h /\
   st.h.get h.n=some (.rows [[.int .i64 n,.int .i64 k,.int .i64 q,.int .i64 u]])/\st.defs=[]) ?_ ?_
  rotate_left
  ·rintro o ⟨tm,H5,defs,round⟩ ⟨rfl,t0,t4,⟨v,t10,hv⟩,hC5,hF5,b5,rfl⟩;simp only at t0 t4 t10 hv hC5 hF5 b5;obtain⟨gs,c2,q1,q2,q3,q4⟩:=fin H5 v hC5 hF5 hv;simp -dsimp[t0,t4,t10,b5,hC5.k,qcT];refine OpS.intro q1 ?_;simp -dsimp[t10];exact⟨q2,q3,q4⟩
  refine qaf (λkk st=>∃i:Nat,i+kk=P.a.l.length/\(gK 76).run st.tm=.int .i64 i/\(gK 10).run st.tm=.slR [[.int .i64 n,.int .i64 P.a.l.length,.int .i64 k,.int .i64 u]] true/\idxP p P.a.l 0=idxP p (P.a.l.drop i) i /\
   CtL x K M1 M2 M3 Y st.h/\Fr3 M1 M2 M3 h st.h/\HN.n<=st.h.n/\st.h.get h.n=some (.rows [[.int .i64 n,.int .i64 k,.int .i64 q,.int .i64 u]])/\st.h.get H.n=some (.rows [[.int .i64 n,.int .i64 P.a.l.length,.int .i64 k,.int .i64 u]])/\st.defs=[]) P.a.l.length
   ⟨0,by omega,by simp,by simp,by simp,hCN,hFN,Jac _,bN,gN,rfl⟩ ?_
  rintro kk ⟨tm,H4,defs,round⟩ ⟨i,hi,t76,t10,hidx,hC4,hF4,n4,b4,g4,rfl⟩ hK';have t0:=hK' 0 rfl;have t2:=hK' 2 rfl;have t4:=hK' 4 rfl;have t9:=hK' 9 rfl;have t11:=hK' 11 rfl;have t75:=hK' 75 rfl;simp[*]at t0 t2 t4 t9 t11 t75 t76 t10;simp only at hidx hC4 hF4 n4 b4 g4;clear hK';simp -dsimp[t76,t75];rw[qaa];refine⟨λhc=>?_,λhc=>?_⟩;rotate_left
  ·have f1:i=P.a.l.length:=by simp at hc; omega
   subst f1;rw[List.drop_length,idxP]at hidx;rw[hidx,Jaa (by omega)]at hte;simp -dsimp[t10];subst hte;exact⟨t0,t4,.inl ⟨.full [(n,(P.a.l.length:Int),k,u)],rfl,rfl⟩,hC4.less λi _=>yx i,hF4,b4⟩
  have f1:i<P.a.l.length:=by simpa using hc
  rw[<-hn]at t9;obtain⟨A,hA⟩:∃A,lat P.a.l i=A:=⟨_,rfl⟩;have hdr:=qbu f1;rw[hA]at hdr;rw[hdr,idxP]at hidx;have hA2:lat (lat x.g.p.l n.toNat).a.l ((i:Int)).toNat=A:=by rw[hP,Int.toNat_natCast,hA]
  have ha2:(i:Int)<(lat x.g.p.l n.toNat).a.l.length:=by rw[hP]; omega
  have hbO:qwM x (n,(i:Int),((0:Nat):Int),k,u,q):=qw4 hx hg hr hm n0 n1 (by omega) ha2 hA2 k0 A.l.length 0 k (by omega) ⟨Int.le_refl _,k1,by simp,λ_=>.nil⟩;have hbv:badP x (n,(i:Int),((0:Nat):Int),k,u,q)=badC (qaN x q) x.w.l u A.l k:=by
   unfold badP;simp only[Int.toNat_natCast];rw[hP,hA];rfl
  have hpA:p A=(qwq x n k u q&&decide (badC (qaN x q) x.w.l u A.l k=b)):=by rw[<-hp]
  obtain⟨H5,hH5⟩:∃H5,(H4.push (.rows [[.int .i64 0,.int .i64 0,.int .i64 0,.int .i64 0,.int .i64 0,.int .i64 0]])).set H4.n (.rows [[.int .i64 n,.int .i64 i,.int .i64 0,.int .i64 k,.int .i64 u,.int .i64 q]])=H5:=⟨_,rfl⟩;have n5:H5.n=H4.n+1:=by rw[<-hH5]; simp
  have gk5:∀i,i<H4.n->H5.get i=H4.get i:=λi hi=>by rw[<-hH5,qBp,Jaa (by omega),qBq,Jaa (by omega)]
  have g5:H5.get H4.n=some (.rows [[.int .i64 n,.int .i64 i,.int .i64 0,.int .i64 k,.int .i64 u,.int .i64 q]]):=by rw[<-hH5,qBp,Jab rfl]
  have hC5:=hC4.keep (h':=H5) (X':=Y) (by omega) gk5 λ_ _ h=>h;have hF5:Fr3 M1 M2 M3 h H5:=hF4.trans_lt (by omega) λi hi=>gk5 i (by have:=hF4.1; omega);have b5:H5.get h.n=some (.rows [[.int .i64 n,.int .i64 k,.int .i64 q,.int .i64 u]]):=by rw[gk5 _ (by omega),b4]
  have gN5:H5.get H.n=some (.rows [[.int .i64 n,.int .i64 P.a.l.length,.int .i64 k,.int .i64 u]]):=by rw[gk5 _ (by omega),g4]
  have mH4:mk<=H4.n:=by omega
  have z5:¬h.n=H4.n:=by omega
  have hiw:fw .i64 ((i:Int)+1)=((i+1:Nat):Int):=by rw[fw64 (by omega) (by omega)]; rfl
  simp -dsimp[t76,-qar];rw[qar];simp -dsimp[t76,-qar];rw[qar];simp -dsimp[t76,t4,t11,b4,mH4,z5,-qar];rw[hH5,qar];simp -dsimp[t0,t4,b5];rw[<-hsp];refine WFS.by (qxg hx hg hr hm u q n0 n1 k0 k1 hC5) ?_
  intro v' h' e;cases e;have next:p A=false->idxP p P.a.l 0=idxP p (P.a.l.drop (i+1)) ((i+1:Nat):Int):=λhf=>by
   rw[hidx,hf]; rfl
  cases hle:qwq x n k u q with
  | false =>
   have hf:p A=false:=by rw[hpA,hle]; rfl
   simp -dsimp[t76,hiw];exact qah.intro (kk-1) (by omega) ⟨i+1,by omega,by simp,by simp[t10],next hf,hC5,hF5,by simp only; omega,b5,gN5,rfl⟩
  | true =>
   have hpk:∀z':Int,qvz (n,(i:Int),z',k,u,q)=.agg [.int .i64 n,.int .i64 i,.int .i64 z',.int .i64 k,.int .i64 u,.int .i64 q]:=λ_=>rfl;have hb2:=hbO.2;rw[hpk]at hb2;simp -dsimp[t0,g5];refine WFS.by (hb2 _ mk H5 K M1 M2 M3 Y hC5 (λi hi=>by have:=yn i hi; omega) m1 m2 (by omega)) ?_
   rintro v H6 ⟨rfl,hC6,hF6⟩;simp only at hC6 hF6;rw[hbv];have n6:=hF6.1;have hF6':=hF5.trans hF6;have b6:H6.get h.n=some (.rows [[.int .i64 n,.int .i64 k,.int .i64 q,.int .i64 u]]):=hC5.frk hF6 _ _ (by omega) b5;have gN6:H6.get H.n=some (.rows [[.int .i64 n,.int .i64 P.a.l.length,.int .i64 k,.int .i64 u]]):=hC5.frk hF6 _ _ (by omega) gN5;have g6:H6.get H4.n=some (.rows [[.int .i64 n,.int .i64 i,.int .i64 0,.int .i64 k,.int .i64 u,.int .i64 q]]):=hC5.frk hF6 _ _ (by omega) g5
   by_cases hbb:badC (qaN x q) x.w.l u A.l k=b
   rotate_left
   ·have hf:p A=false:=by rw[hpA,hle]; simp[hbb]
    simp -dsimp[t2,intI,hbb,t76,hiw];exact qah.intro (kk-1) (by omega) ⟨i+1,by omega,by simp,by simp[t10],next hf,hC6,hF6',by simp only; omega,b6,gN6,rfl⟩
   ·have ht:p A=true:=by rw[hpA,hle]; simp[hbb]
    rw[ht,Jab rfl]at hidx;rw[hidx,Jab (by omega),Int.toNat_natCast,hA]at hte;obtain⟨tl,htl⟩:∃tl,qwp x.g (qaN x q) (λn' k' u' b'=>lstN x n' k' u' q b') x.w.l u A.l k b=tl:=⟨_,rfl⟩;rw[htl]at hte;have hltl:tl.length<1000000:=by rw[hte]at hlen; simp only[List.length_cons]at hlen; omega
    have hAm:A∈(lat x.g.p.l n.toNat).a.l:=by rw[<-hA2]; exact qai (by omega)
    obtain⟨H7,hH7⟩:∃H7,H6.set H.n (.rows [[.int .i64 n,.int .i64 i,.int .i64 k,.int .i64 u]])=H7:=⟨_,rfl⟩;have n7:H7.n=H6.n:=by rw[<-hH7]; simp
    have gk7:∀i,i≠H.n->H7.get i=H6.get i:=λi hne=>by rw[<-hH7,qBp,Jaa hne]
    have gN7:H7.get H.n=some (.rows [[.int .i64 n,.int .i64 i,.int .i64 k,.int .i64 u]]):=by rw[<-hH7,qBp,Jab rfl]
    have hC7:=hC6.upd (N:=H.n) (h':=H7) yN (by omega) (by omega) (by omega) (by omega) (by omega) (by have:=hC.wk; omega) λi _ hne=>gk7 i hne;have hF7:Fr3 M1 M2 M3 h H7:=hF6'.trans_lt (by omega) λi hi=>gk7 i (by omega);have g7:H7.get H4.n=some (.rows [[.int .i64 n,.int .i64 i,.int .i64 0,.int .i64 k,.int .i64 u,.int .i64 q]]):=by rw[gk7 _ (by omega),g6]
    have b7:H7.get h.n=some (.rows [[.int .i64 n,.int .i64 k,.int .i64 q,.int .i64 u]]):=by rw[gk7 _ (by omega),b6]
    have hrest:∀d,WF PR d mk (.fn 410 [] []) [.ptr K 0 0,qvz (n,(i:Int),0,k,u,q),.int .i64 b] H7 λqq=>NdX Y qq.h qq.v tl/\CtL x K M1 M2 M3 Y qq.h/\Fr3 M1 M2 M3 H7 qq.h:=λd =>
     qxa hx hg hr hm n0 n1 (by omega) ha2 hA2 k0 k1 (λi' hi' hki j' hj' e' he'=>by
      obtain⟨q1,q2,q3,q4,q5⟩:=qvT hw n0 k0 k1 hAm hi' hki hj';simp only at q1 q4 q5;exact⟨ih _ _ (by omega) q2 q3 q4 q5 _ he',hsz _ _ q2 q3 q4 q5 _ he',qxf hw _ _ _ q2 q3 q4 q5⟩) (by have:=hbv; rw[hbb]at this; exact this) hbr htl hltl hC7 (λi hi=>by have:=yn i hi; omega) m1 m2 m3 (by omega)
    rw[hpk]at hrest;simp -dsimp[t2,intI,hbb,-qar];rw[qar];simp -dsimp[t9,gN6,mH,-qar,-qnc];rw[hH7,qnc];simp -dsimp[t0,t2,t9,gN7,g7];refine WFS.by (hrest _) ?_
    rintro v H8 ⟨hv,hC8,hF8⟩;simp only at hv hC8 hF8;have n8:=hF8.1;have gN8:H8.get H.n=some (.rows [[.int .i64 n,.int .i64 i,.int .i64 k,.int .i64 u]]):=hC7.frk hF8 _ _ (by omega) gN7;have b8:H8.get h.n=some (.rows [[.int .i64 n,.int .i64 k,.int .i64 q,.int .i64 u]]):=hC7.frk hF8 _ _ (by omega) b7;obtain⟨v9,H9,a1,a2,a3,a4⟩:=qxd (mk:=mk) (y:=(n,(i:Int),k,u)) (X:=Y) (h:=H8) (λi hi=>by have:=yn i hi; omega) tl hltl;have hC9:=hC8.keep (h':=H9) (X':=X) a2 a3 λi _ hi=>yx i hi;have hF9:Fr3 M1 M2 M3 h H9:=(hF7.trans hF8).trans_lt a2 λi hi=>a3 i (by have:=(hF7.trans hF8).1; omega);have hrw:=hv.rows;simp -dsimp;rw[qaE (xs:=tl.map qui) (by simp; exact hrw)];refine OpS.intro (Eq.trans (congrArg (λs=>qaj mk H8 4 32 s (tl.map qui)) ?_) a1) ?_
    ·simp[qui]
    have gN9:H9.get H.n=some (.rows [[.int .i64 n,.int .i64 i,.int .i64 k,.int .i64 u]]):=by rw[a3 _ (by omega),gN8]
    have b9:H9.get h.n=some (.rows [[.int .i64 n,.int .i64 k,.int .i64 q,.int .i64 u]]):=by rw[a3 _ (by omega),b8]
    simp -dsimp[gN8,gN9,t0,t4,t9];subst hte;exact⟨a4.fr (Jac _) (λ_ _ _ _ e=>e) λi _ hi=>yx i hi,hC9,hF9,b9⟩
end
theorem qwr{mk k:Nat}{h:Heap}:∀l:List Nd,allM (allM (freeze mk h (k+1))) (l.map qui)=some (l.map qui)
 | []=>rfl
 | x::l=>by
  have:=qwr (mk:=mk) (k:=k) (h:=h) l;have e:∀y,freeze mk h (k+1) (.int .i64 y)=some (.int .i64 y):=λy=>rfl;simp only[List.map_cons,qui,allM,e]at this ⊢;rw[this]
theorem NdX.frz{X:Nat->Prop}{h:Heap}{v:V}{l:List Nd}(hv:NdX X h v l){m k:Nat}(hX:∀i,i<m->X i):∃s:Sl Nd,s.l=l/\freeze m h (k+2) v=some (s.enc qui):=by
 rcases hv with ⟨s,rfl,rfl⟩|⟨id,lo,f,rs,rfl,a,b,c,d,e⟩
 ·refine⟨s,rfl,?_⟩;cases s with
  | nil=>rfl
  | of l =>
   show(match allM (allM (freeze m h (k+1))) (l.map qui)with|some r=>some (V.slR r false)|none=>none)=_;rw[qwr]; rfl
  | full l =>
   show(match allM (allM (freeze m h (k+1))) (l.map qui)with|some r=>some (V.slR r true)|none=>none)=_;rw[qwr]; rfl
 ·have hm:m<=id:=by
   rcases Nat.lt_or_ge id m with q|q
   ·exact absurd (hX id q) e
   ·exact q
  have hr:qal h (.sl id lo l.length 4 f)=some (l.map qui):=by
   simp only[qal,a];rw[Nat.ble_eq_true_of_le b,c]; rfl
  refine⟨.of l,rfl,?_⟩;show cond (Nat.ble m id) (match qal h (.sl id lo l.length 4 f)with|some rows=>(match allM (allM (freeze m h (k+1))) rows with|some r=>some (V.slR r false)|none=>none)|none=>none) none=_;rw[hr,Nat.ble_eq_true_of_le hm];simp only[qwr,cond];rfl
section
variable {x:Ev}{q mk:Nat}{h:Heap}{d:Bool}
theorem qwT{q:Int}(hx:EvS x)(hg:x.g.Fine)(hr:∀p∈x.g.p.l,∀a∈p.a.l,∀s∈a.l,s.r.l.length<1500000)(hB:WB h x.w)(hwm:x.w.m<=h.n)(hm:mayE x=true)
  (hq:∀n k:Int,0<=n->n<x.g.p.l.length->0<=k->k<=x.w.l.length->refV x n k q=q)
  (hsz:∀n k:Int,0<=n->n<x.g.p.l.length->0<=k->k<=x.w.l.length->∀e∈(qaL x n k q).2,(lstN x n k e.1 q e.2).length<1000000)
  {n k:Int}(n0:0<=n) (n1:n<x.g.p.l.length) (k0:0<=k) (k1:k<=x.w.l.length) {e:En}(he:e∈(qaL x n k q).2) :
  WF PR d mk (.fn 393 [] []) [.agg x.cells,.int .i64 n,.int .i64 k,.int .i64 e.1,.int .i64 q] h λr=>r.h=h/\∃s:Sl Nd,s.l=lstN x n k e.1 q e.2/\r.v=.tup [s.enc qui,.int .i64 e.2,.bool true]:=by
 refine qBE (F:=f393) (Q:=λv=>∃s:Sl Nd,s.l=lstN x n k e.1 q e.2/\v=.tup [s.enc qui,.int .i64 e.2,.bool true]) rfl rfl rfl (Nat.le_of_ble_eq_true rfl) ?_;refine qef b393 [.tm 10,.tm 11,.tm 12] rfl rfl ?_;unfold b393;have e5:[Sl.enc Pd.cells x.g.p,Sl.enc qac x.g.keys,x.w.v,V.int IntKind.i64 x.tab,V.bool x.heal]=x.cells:=rfl;have hwl:∀H,lenV .sl x.w.v H=some (.int .i64 x.w.l.length):=λH=>hB.len;have hone:x.w.v.one=true:=hB.cells.2;obtain⟨H,hH⟩:∃H,(h.push (Obj.rows [[x.g.p.enc Pd.cells,x.g.keys.enc qac,x.w.v,.int .i64 x.tab,.bool x.heal]]))=H:=⟨_,rfl⟩;have g0:H.get h.n=some (.rows [[x.g.p.enc Pd.cells,x.g.keys.enc qac,x.w.v,.int .i64 x.tab,.bool x.heal]]):=by rw[<-hH]; simp
 have gn:H.n=h.n+1:=by rw[<-hH]; simp
 have gk:∀i,i<h.n->H.get i=h.get i:=λi hi=>by rw[<-hH]; simp[show ¬i=h.n by omega]
 have hB2:WB H x.w:=hB.keep λi hi=>gk i (by omega);simp -dsimp[Ev.cells,-qar];rw[qar];simp -dsimp[-qar];rw[hH,qar];simp -dsimp[g0];rw[e5];refine WFS.by (qbJ x hg hB2) ?_
 intro v' h' e';cases e';rw[hm];have hmk:h.n<=H.n+4:=by omega
 simp -dsimp[show ¬n<0 by omega,g0,show ¬(x.g.p.l.length:Int)<=n by omega,show ¬k<0 by omega,hwl,show ¬(x.w.l.length:Int)<k by omega,hone,qbW,hmk,-qar];rw[qar];simp -dsimp[g0,hone,-qar];obtain⟨H2,hH2⟩:∃H2,((((H.push (Obj.map [] 0)).push (Obj.map [] 0)).push (Obj.map [] 0)).push (.rows [[x.g.p.enc Pd.cells,x.g.keys.enc qac,x.w.v,.int .i64 x.tab,.bool x.heal,.map H.n,.map (H.n+1),.map (H.n+2)]]))=H2:=⟨_,rfl⟩;have gk2:∀i,i<H.n->H2.get i=H.get i:=λi hi=>by rw[<-hH2]; simp[show ¬i=H.n by omega,show ¬i=H.n+1 by omega,show ¬i=H.n+2 by omega,show ¬i=H.n+3 by omega]
 have n2:H2.n=H.n+4:=by rw[<-hH2]; simp
 have nil:∀{κ β : Type} [DecidableEq κ] (kf : κ->V) (vf : β->V) (f : κ->β) (M:Nat),H2.get M=some (.map [] 0)->Kept kf vf f M H2:=λkf vf f M hM=>⟨[],0,[],hM,MapR.nil,λp v hv=>by simp[qaS]at hv⟩;have hC:CtL x (H.n+3) H.n (H.n+1) (H.n+2) (λi=>i<h.n) H2:=by
  refine⟨?_,nil _ _ _ _ ?_,nil _ _ _ _ ?_,⟨[],0,[],?_,MapR.nil,λp v hv=>by simp[qaS]at hv⟩,by omega,by omega,by omega,by omega,by omega,by omega,by omega,by omega,by omega,by omega,hB2.keep λi hi=>gk2 i (by omega),by omega,by omega,by omega,by omega⟩
  ·rw[<-hH2]; simp
  ·rw[<-hH2]; simp
  ·rw[<-hH2]; simp
  ·rw[<-hH2]; simp
 obtain⟨H3,hH3⟩:∃H3,(H2.push (.rows [[.int .i64 0,.int .i64 0,.int .i64 0]])).set (H.n+4) (.rows [[.int .i64 n,.int .i64 k,.int .i64 q]])=H3:=⟨_,rfl⟩;have n3:H3.n=H2.n+1:=by rw[<-hH3]; simp
 have gk3:∀i,i<H2.n->H3.get i=H2.get i:=λi hi=>by rw[<-hH3,qBp,Jaa (by omega),qBq,Jaa (by omega)]
 have b3:H3.get (H.n+4)=some (.rows [[.int .i64 n,.int .i64 k,.int .i64 q]]):=by rw[<-hH3,qBp,Jab rfl]
 have hC3:=hC.keep (h':=H3) (X':=λi=>i<h.n) (by omega) gk3 λ_ _ h=>h;rw[hH2,qar];simp -dsimp[n2,hmk,-qar];rw[hH3,qar];simp -dsimp[b3];refine WFS.by (qw5 hx hg hr hC3 (λi hi=>by omega) (by omega) n k q) ?_
 rintro v H4 ⟨rfl,hC4,hF4⟩;simp only at hC4 hF4;rw[qqO hm n0 n1 k0 k1];have hw:=qbq hm;have hEl:=qly hm (r:=q) n0 n1 k0 k1;have hrise:=(qc3 hw (ref:=q) n0 n1 k0 k1).2;have htree:=qw8 hx hg hr hm hq hsz _ n k (Nat.lt_succ_self _) n0 n1 k0 k1 e he;obtain⟨E,hE⟩:∃E,(qaL x n k q).2=E:=⟨_,rfl⟩;rw[hE]at he hEl hrise ⊢;have hend:∀H,lenV .sl (qvF E) H=some (.int .i64 E.length):=λH=>by unfold qvF; simp
 have n4:=hF4.1;have b4:H4.get (H.n+4)=some (.rows [[.int .i64 n,.int .i64 k,.int .i64 q]]):=hC3.frk hF4 _ _ (by omega) b3;simp -dsimp[hend];refine qvg (λo st=>o=.ret/\(∃v,(gK 10).run st.tm=v/\NdX (λi=>i<h.n) st.h v (lstN x n k e.1 q e.2))/\(gK 11).run st.tm=.int .i64 e.2/\(gK 12).run st.tm=.bool true/\st.defs=[]) ?_ ?_;rotate_left
 ·rintro o ⟨tm,H5,defs,round⟩ ⟨rfl,⟨v,t10,hv⟩,t11,t12,rfl⟩;simp only at t10 t11 t12 hv;obtain⟨s,s1,s2⟩:=hv.frz (m:=h.n) (k:=13) λi hi=>hi;simp -dsimp[t10,t11,t12];refine⟨_,?_,s,s1,rfl⟩;show(match allM (freeze h.n H5 15) [v,V.int .i64 e.2,V.bool true]with|some r=>some (V.tup r)|none=>none)=_;simp only[allM,s2];rfl
 refine qaf (λkk st=>∃i:Nat,i+kk=E.length/\(gK 57).run st.tm=.int .i64 i/\(∀j,j<i->(lat E j).1≠e.1)/\CtL x (H.n+3) H.n (H.n+1) (H.n+2) (λi=>i<h.n) st.h/\H3.n<=st.h.n/\st.h.get (H.n+4)=some (.rows [[.int .i64 n,.int .i64 k,.int .i64 q]])/\st.defs=[]) E.length
  ⟨0,by omega,by simp,by simp,hC4,n4,b4,rfl⟩ ?_
 rintro kk ⟨tm,H5,defs,round⟩ ⟨i,hi,t57,hne,hC5,n5,b5,rfl⟩ hK';have t3:=hK' 3 rfl;have t13:=hK' 13 rfl;have t14:=hK' 14 rfl;have t55:=hK' 55 rfl;have t56:=hK' 56 rfl;simp[n2]at t3 t13 t14 t55 t56 t57;simp only at hne hC5 n5 b5;clear hK';simp -dsimp[t57,t56];rw[qaa];refine⟨λhc=>?_,λhc=>?_⟩;rotate_left
 ·have f1:i=E.length:=by simp at hc; omega
  obtain⟨j,hj,hje⟩:=List.mem_iff_getElem.1 he;exact absurd (by rw[lat_eq hj,hje]) (hne j (by omega))
 have f1:i<E.length:=by simpa using hc
 obtain⟨f,hf⟩:∃f,lat E i=f:=⟨_,rfl⟩;have hie:qaw 2 (qvF E) (.int .i64 i)=some (.ptrR (qad f) 0):=by
  have:=qap (f:=qad) (s:=slE E) (esz:=2) (k:=.i64) (n:=(i:Int)) (by omega) (by simp; omega) (λ_=>rfl);unfold qvF;rw[this]; simp[hf]
 obtain⟨H6,hH6⟩:∃H6,(H5.push (.rows [[.int .i64 0,.int .i64 0]])).set H5.n (.rows [[.int .i64 f.1,.int .i64 f.2]])=H6:=⟨_,rfl⟩;have n6:H6.n=H5.n+1:=by rw[<-hH6]; simp
 have gk6:∀i,i<H5.n->H6.get i=H5.get i:=λi hi=>by rw[<-hH6,qBp,Jaa (by omega),qBq,Jaa (by omega)]
 have g6:H6.get H5.n=some (.rows [[.int .i64 f.1,.int .i64 f.2]]):=by rw[<-hH6,qBp,Jab rfl]
 have hC6:=hC5.keep (h':=H6) (X':=λi=>i<h.n) (by omega) gk6 λ_ _ h=>h;have b6:H6.get (H.n+4)=some (.rows [[.int .i64 n,.int .i64 k,.int .i64 q]]):=by rw[gk6 _ (by omega),b5]
 have m5:h.n<=H5.n:=by omega
 simp -dsimp[-qar];rw[qar];simp -dsimp[t57,t55,hie,qad,m5,-qar];rw[hH6,qar];have heq:eqoV false (eqv (.struct [.int,.int]) (.agg [.int .i64 f.1,.int .i64 f.2]) (.agg [.int .i64 e.1,.int .i64 f.2]))=some (.bool (decide (f.1=e.1))):=by
  have hok:okKs [.int,.int] [V.int .i64 f.1,V.int .i64 f.2]=true:=rfl;simp[eqv,eqL,eq1,hok]
 simp -dsimp[t3,g6,heq];have hiw:fw .i64 ((i:Int)+1)=((i+1:Nat):Int):=by rw[fw64 (by omega) (by omega)]; rfl
 by_cases hfe:f.1=e.1
 rotate_left
 ·simp -dsimp[hfe,t57,hiw];refine qah.intro (kk-1) (by omega) ⟨i+1,by omega,by simp,λj hj=>?_,hC6,by simp only; omega,b6,rfl⟩;rcases Nat.lt_or_eq_of_le (Nat.le_of_lt_succ hj)with c|c
  ·exact hne j c
  ·rw[c,hf]; exact hfe
 ·have hfee:f=e:=by
   have h1:=qwz hrise he;have h2:=qwz hrise (show f∈E by rw[<-hf]; exact qai f1);rw[hfe,h1]at h2;cases h2; rfl
  subst hfee;simp -dsimp[t13,t14,t3,b6,g6];have hsp:qvL (n,k,q,f.1)=.agg [.int .i64 n,.int .i64 k,.int .i64 q,.int .i64 f.1]:=rfl;rw[<-hsp];refine WFS.by (htree _ h.n H6 (H.n+3) H.n (H.n+1) (H.n+2) (λi=>i<h.n) hC6 (λi hi=>by omega) (by omega) (by omega) (by omega) (by omega)) ?_
  rintro v H7 ⟨hv,hC7,hF7⟩;simp only at hv hC7 hF7;have g7:H7.get H5.n=some (.rows [[.int .i64 f.1,.int .i64 f.2]]):=hC6.frk hF7 _ _ (by omega) g6;simp -dsimp[g7,b6,g6];exact hv
end
section
variable {x:Ev}{K M1 M2 M3 mk:Nat}{h:Heap}{d:Bool}
theorem qwm(n k r u:Int)(e:En){B:Nat}(hB:h.get B=some (.rows [[.int .i64 n,.int .i64 k,.int .i64 r,.int .i64 u]]))(hb:B<h.n):WF PR d mk (.fn 402 [] [.ptr B 0 0]) [.agg (qad e)] h λq=>q=⟨.bool (decide (e.1=u)),h⟩:=by
 refine qBt f402 b402 [.tm 3] rfl rfl rfl rfl rfl rfl ?_;unfold b402;have z0:¬B=h.n:=by omega
 simp -dsimp[qad,z0,hB]
theorem of_ind(hx:EvS x)(hg:x.g.Fine)(hr:∀p∈x.g.p.l,∀a∈p.a.l,∀s∈a.l,s.r.l.length<1500000)(hm:mayE x=true):∀(m:Nat) (n k u r:Int),muN x.g x.w.l n k<m->0<=n->n<x.g.p.l.length->0<=k->k<=x.w.l.length->OfOK x n k u r:=by
 intro m;induction m with
 | zero=>intro _ _ _ _ h; omega
 | succ m ih =>
  intro n k u r hmu n0 n1 k0 k1 d mk h K M1 M2 M3 hC m1 m2 m3;have hw:=qbq hm;refine WF.go f394 b394 [.tm 4] rfl rfl rfl rfl rfl rfl ?_;unfold b394;have lk:=hC.lk;have z0:¬K=h.n:=by omega
  have z1:¬K=h.n+1:=by omega
  have z2:¬h.n=h.n+1:=by omega
  obtain⟨H,hH⟩:∃H,(h.push (.rows [[.ptr K 0 0]])).push (.rows [[.int .i64 n,.int .i64 k,.int .i64 r,.int .i64 u]])=H:=⟨_,rfl⟩;have hn:H.n=h.n+2:=by rw[<-hH]; simp
  have gk:∀i,i<h.n->H.get i=h.get i:=λi hi=>by rw[<-hH]; simp[show ¬i=h.n by omega,show ¬i=h.n+1 by omega]
  have b0:H.get h.n=some (.rows [[.ptr K 0 0]]):=by rw[<-hH]; simp
  have b1:H.get (h.n+1)=some (.rows [[.int .i64 n,.int .i64 k,.int .i64 r,.int .i64 u]]):=by rw[<-hH]; simp
  have hC2:=hC.keep (h':=H) (by omega) gk;have l1:=hC.l1;have l2:=hC.l2;have l3:=hC.l3;simp -dsimp[qvL,-qnc];rw[hH,qnc];simp -dsimp[b0,b1,hC2.k,qcT];obtain⟨es,c,S,e1,e2,e3⟩:=hC2.m2;refine WFS.by (qvV (f:=398) (sz:=4) (z:=.int .i64 0) (kf:=qvL) (vf:=intW) (n,k,r,u) rfl rfl qv3 qwd rfl rfl (by omega) e1 hC2.l2 e2 (Q:=λqq=>qq.v=intW (qvr x n k u r)/\CtC x K M1 M2 M3 qq.h/\Fr3 M1 M2 M3 H qq.h) ?_ ?_) ?_
  ·intro v h' hv hn' hk';exact⟨by rw[e3 _ _ hv],hC2.keep hn' hk',.of hn' hk'⟩
  rotate_left
  ·rintro v H3 ⟨rfl,hC4,hF4⟩;simp -dsimp;exact⟨hC4,(Fr3.of (by omega) gk).trans hF4⟩
  intro h' hn' hk';have hC3:=hC2.keep (h':=h') (by omega) hk';have c0:h'.get h.n=some (.rows [[.ptr K 0 0]]):=by rw[hk' _ (by omega),b0]
  have c1:h'.get (h.n+1)=some (.rows [[.int .i64 n,.int .i64 k,.int .i64 r,.int .i64 u]]):=by rw[hk' _ (by omega),b1]
  have key:WF PR true mk (.fn 399 [] [.ptr h.n 0 0,.ptr (h.n+1) 0 0]) [] h' λq=>q.v=intW (qvr x n k u r)/\CtC x K M1 M2 M3 q.h/\Fr3 M1 M2 M3 h' q.h:=by
   refine WF.go f399 b399 [.tm 2] rfl rfl rfl rfl rfl rfl ?_;unfold b399;simp -dsimp[c0,c1];refine WFS.by (qwj hx hg hr hC3 m1 n k r) ?_
   rintro v H3 ⟨rfl,hC4,hF4⟩;simp only at hC4 hF4;rw[qqO hm n0 n1 k0 k1];obtain⟨E,hE⟩:∃E,(qaL x n k r).2=E:=⟨_,rfl⟩;rw[hE];have hEl:E.length<=201:=by rw[<-hE]; exact qly hm n0 n1 k0 k1
   have hF4n:=hF4.1;have d0:H3.get h.n=some (.rows [[.ptr K 0 0]]):=by rw[hF4.2 _ (by omega) (by omega) (by omega) (by omega),c0]
   have d1:H3.get (h.n+1)=some (.rows [[.int .i64 n,.int .i64 k,.int .i64 r,.int .i64 u]]):=by rw[hF4.2 _ (by omega) (by omega) (by omega) (by omega),c1]
   have htr:=qvy hw u r n0 n1 k0 k1;rw[hE]at htr;simp -dsimp[qvF];refine WFS.by (qf5 (p:=λe=>decide (e.1=u)) (s:=slE E) (f:=411) (g:=400) (esz:=2) (ld:=some 2) (enc:=qad) (arg:=λe=>.agg (qad e)) rfl rfl rfl rfl (λ_=>rfl) (λ_=>rfl) (by rw[qjd]; omega) λe he=>qwm n k r u e d1 (by omega)) ?_
   intro v h'' e;cases e;rw[qjd];cases hend:E.any (λe=>decide (e.1=u))with
   | false =>
    rw[Jaa (by unfold endB; rw[hend]; simp)]at htr;simp -dsimp;rw[htr];exact⟨rfl,hC4,hF4⟩
   | true =>
   rw[Jab (by unfold endB; exact hend)]at htr;have e5:[Sl.enc Pd.cells x.g.p,Sl.enc qac x.g.keys,x.w.v,V.int IntKind.i64 x.tab,V.bool x.heal]=x.cells:=rfl;obtain⟨p,hp⟩:∃p,lat x.g.p.l n.toNat=p:=⟨_,rfl⟩;have hpm:p∈x.g.p.l:=by rw[<-hp]; exact qai (by omega)
   have hal:=hx.g.a p hpm;have ha8:=(qaF hw.m).a p hpm;simp -dsimp[d0,d1,hC4.k,qcT];rw[e5];refine WFS.by (qtW x hx hC4.wb (by have:=hC4.wk; have:=hC4.lk; omega) n k r) ?_
   intro v h'' e;cases e;obtain⟨q,hq⟩:∃q,refV x n k r=q:=⟨_,rfl⟩;rw[hq]at htr ⊢;obtain⟨f,hf⟩:∃f:Sl Sy->Nat,(λa:Sl Sy=>qvs (qaN x q) (λn' k' u'=>qvr x n' k' u' q) x.w.l u a.l k)=f:=⟨_,rfl⟩;rw[hf,hp]at htr;simp -dsimp[d0,d1,hC4.k,qcT,n0,n1,hp,Pd.cells];refine qvg (λo st=>o=.normal/\(gK 3).run st.tm=intW (qvr x n k u r)/\CtC x K M1 M2 M3 st.h/\Fr3 M1 M2 M3 h' st.h/\st.defs=[]) ?_ ?_;rotate_left
   ·rintro o ⟨tm,H5,defs,round⟩ ⟨rfl,t3,hC5,hF5,rfl⟩;simp only at t3 hC5 hF5;simp -dsimp[t3];exact⟨hC5,hF5⟩
   refine qaf (λkk st=>∃i:Nat,i+kk=p.a.l.length/\(gK 40).run st.tm=.int .i64 i/\(gK 3).run st.tm=.int .i64 (cap2 (pSum f p.a.l i))/\CtC x K M1 M2 M3 st.h/\Fr3 M1 M2 M3 h' st.h/\st.defs=[]) p.a.l.length
    ⟨0,by omega,by simp,by simp[qvQ]; rfl,hC4,hF4,rfl⟩ ?_
   rintro kk ⟨tm,H5,defs,round⟩ ⟨i,hi,t40,t3,hC5,hF5,rfl⟩ hK';have t0:=hK' 0 rfl;have t1:=hK' 1 rfl;have t4:=hK' 4 rfl;have t39:=hK' 39 rfl;simp at t0 t1 t4 t39 t40 t3;simp only at hC5 hF5;clear hK';have hF5n:=hF5.1;have g0:H5.get h.n=some (.rows [[.ptr K 0 0]]):=by rw[hF5.2 _ (by omega) (by omega) (by omega) (by omega),c0]
   have g1:H5.get (h.n+1)=some (.rows [[.int .i64 n,.int .i64 k,.int .i64 r,.int .i64 u]]):=by rw[hF5.2 _ (by omega) (by omega) (by omega) (by omega),c1]
   simp -dsimp[t40,t39];rw[qaa];refine⟨λhc=>?_,λhc=>?_⟩
   ·have f1:i<p.a.l.length:=by simpa using hc
    obtain⟨A,hA⟩:∃A,lat p.a.l i=A:=⟨_,rfl⟩;have hAm:A∈(lat x.g.p.l n.toNat).a.l:=by rw[hp,<-hA]; exact qai f1
    have hrest:qv9 x (n,(i:Int),((0:Nat):Int),k,u,q):=by
     refine qwe (k0:=k) (A:=A) hx hg hr hm n0 n1 (by omega) (by rw[hp]; omega) (by rw[hp,Int.toNat_natCast,hA]) k0 (λi' hi' hki j' hj' u'=>?_) A.l.length 0 k (by omega) ⟨Int.le_refl _,k1,by simp,λ_=>.nil⟩;obtain⟨q1,q2,q3,q4,q5⟩:=qvT hw n0 k0 k1 hAm hi' hki hj';simp only at q1 q4 q5;exact ih _ _ _ _ (by omega) q2 q3 q4 q5
    have hrp:qvv x (n,(i:Int),((0:Nat):Int),k,u,q)=f A:=by
     unfold qvv;simp only[Int.toNat_natCast];rw[hp,hA,<-hf];rfl
    simp -dsimp[t3,t0,t1,t4,t40,g0,g1];refine WFS.by (hrest _ mk H5 K M1 M2 M3 hC5 m1 m2 m3) ?_
    rintro v H6 ⟨rfl,hC6,hF6⟩;simp only at hC6 hF6;rw[hrp];have hcR:=qvu (f A);have hcO:=qvu (pSum f p.a.l i);simp -dsimp[intW];refine WFS.by (qwh (cap2 (pSum f p.a.l i)) (cap2 (f A)) (by omega) (by omega)) ?_
    intro v H7 e7;cases e7;have hnew:min (cap2 (pSum f p.a.l i)+cap2 (f A)) 2=cap2 (pSum f p.a.l (i+1)):=by rw[qvE f f1,hA,qvZ]
    simp -dsimp[hnew,t40,fw64 (n:=(i:Int)+1) (by omega) (by omega)];exact qah.intro (kk-1) (by omega) ⟨i+1,by omega,by simp,by simp,hC6,hF5.trans hF6,rfl⟩
   ·have f1:i=p.a.l.length:=by simp at hc; omega
    subst f1;rw[qvM,<-htr]at t3;simp -dsimp[t3];exact⟨rfl,hC5,hF5⟩
  refine W.mono key ?_;rintro⟨v,h5⟩ ⟨rfl,hC5,hF5⟩;simp only at hC5 hF5;obtain⟨es',c',S',f1,f2,f3⟩:=hC5.m2;refine⟨hF5.1,hF5.2 _ (by omega) (by omega) (by omega) (by omega),m2,qvr x n k u r,es',c',S',rfl,f1,f2,λgs c2 hg2=>⟨rfl,hC5.set2 (Kept.put hg2 f3 rfl),?_⟩⟩;have:=hF5.1;exact⟨by simp only[qBB]; omega,λi hi x1 x2 x3=>by rw[qBp,Jaa x2,hF5.2 i (by omega) x1 x2 x3,hk' i hi]⟩
def Ev.calm(x:Ev):Ev:=⟨x.g,x.w,x.tab,false⟩
theorem qwi(hx:EvS x):EvS x.calm:=⟨hx.g,hx.k,hx.w⟩
theorem qvx(hx:EvS x)(hg:x.g.Fine)(hr:∀p∈x.g.p.l,∀a∈p.a.l,∀s∈a.l,s.r.l.length<1500000)(hB:WB h x.w)(hwm:x.w.m<=h.n)(n k u r:Int) :
  WF PR d mk (.fn 389 [] []) [.agg x.cells,.int .i64 n,.int .i64 k,.int .i64 u,.int .i64 r] h λq=>q=⟨.int .i64 (qvt x.calm n k u r),h⟩:=by
 refine qBt f389 b389 [.tm 10] rfl rfl rfl rfl rfl rfl ?_;unfold b389;obtain⟨y,hy⟩:∃y,x.calm=y:=⟨_,rfl⟩;have hyg:y.g=x.g:=by rw[<-hy]; rfl
 have hyw:y.w=x.w:=by rw[<-hy]; rfl
 have hS:EvS y:=by rw[<-hy]; exact qwi hx
 have hgy:y.g.Fine:=by rw[hyg]; exact hg
 have hry:∀p∈y.g.p.l,∀a∈p.a.l,∀s∈a.l,s.r.l.length<1500000:=by rw[hyg]; exact hr
 have e5:[Sl.enc Pd.cells x.g.p,Sl.enc qac x.g.keys,x.w.v,V.int IntKind.i64 x.tab,V.bool false]=y.cells:=by rw[<-hy]; rfl
 rw[hy];obtain⟨H,hH⟩:∃H,(h.push (Obj.rows [x.cells])).set h.n (.rows [[x.g.p.enc Pd.cells,x.g.keys.enc qac,x.w.v,.int .i64 x.tab,.bool false]])=H:=⟨_,rfl⟩;have g0:H.get h.n=some (.rows [[x.g.p.enc Pd.cells,x.g.keys.enc qac,x.w.v,.int .i64 x.tab,.bool false]]):=by rw[<-hH]; simp
 have gn:H.n=h.n+1:=by rw[<-hH]; simp
 have gk:∀i,i<h.n->H.get i=h.get i:=λi hi=>by rw[<-hH]; simp[show ¬i=h.n by omega]
 have hB2:WB H y.w:=by rw[hyw]; exact hB.keep λi hi=>gk i (by omega)
 have hwl:∀H,lenV .sl x.w.v H=some (.int .i64 x.w.l.length):=λH=>hB.len;have hone:x.w.v.one=true:=hB.cells.2;simp -dsimp[Ev.cells,-qar];rw[qar];simp -dsimp[-qar];rw[qar];simp -dsimp[-qar];have ec:((h.push (Obj.rows [[Sl.enc Pd.cells x.g.p,Sl.enc qac x.g.keys,x.w.v,V.int IntKind.i64 x.tab,V.bool x.heal]])).set h.n (.rows [[x.g.p.enc Pd.cells,x.g.keys.enc qac,x.w.v,.int .i64 x.tab,.bool false]]))=H:=hH;rw[ec,qar];simp -dsimp[g0];rw[e5];refine WFS.by (qbJ y hgy hB2) ?_
 intro v' h' e;cases e;have hnone:¬(mayE y=true/\0<=n/\n<y.g.p.l.length/\0<=k/\k<=y.w.l.length)->qvt y n k u r=0:=λh=>Jaa h;rw[hyg,hyw]at hnone;cases hmay:mayE y with
 | false =>
  simp -dsimp;rw[hnone (by simp[hmay])]
 | true =>
 by_cases n0:0<=n
 rotate_left
 ·simp -dsimp[show n<0 by omega];rw[hnone λh=>n0 h.2.1]
 by_cases n1:n<x.g.p.l.length
 rotate_left
 ·simp -dsimp[show ¬n<0 by omega,g0,show(x.g.p.l.length:Int)<=n by omega];rw[hnone λh=>n1 h.2.2.1]
 by_cases k0:0<=k
 rotate_left
 ·simp -dsimp[show ¬n<0 by omega,g0,show ¬(x.g.p.l.length:Int)<=n by omega,show k<0 by omega];rw[hnone λh=>k0 h.2.2.2.1]
 by_cases k1:k<=x.w.l.length
 rotate_left
 ·simp -dsimp[show ¬n<0 by omega,g0,show ¬(x.g.p.l.length:Int)<=n by omega,show ¬k<0 by omega,hwl,show(x.w.l.length:Int)<k by omega];rw[hnone λh=>k1 h.2.2.2.2]
 have hp:qvt y n k u r=cap2 (qvr y n k u r):=Jab ⟨hmay,n0,by rw[hyg]; exact n1,k0,by rw[hyw]; exact k1⟩;simp -dsimp[show ¬n<0 by omega,g0,show ¬(x.g.p.l.length:Int)<=n by omega,show ¬k<0 by omega,hwl,show ¬(x.w.l.length:Int)<k by omega,hone,qbW];obtain⟨H2,hH2⟩:∃H2,((((H.push (Obj.map [] 0)).push (Obj.map [] 0)).push (Obj.map [] 0)).push (.rows [[x.g.p.enc Pd.cells,x.g.keys.enc qac,x.w.v,.int .i64 x.tab,.bool false,.map H.n,.map (H.n+1),.map (H.n+2)]]))=H2:=⟨_,rfl⟩;have gk2:∀i,i<H.n->H2.get i=H.get i:=λi hi=>by rw[<-hH2]; simp[show ¬i=H.n by omega,show ¬i=H.n+1 by omega,show ¬i=H.n+2 by omega,show ¬i=H.n+3 by omega]
 have n2:H2.n=H.n+4:=by rw[<-hH2]; simp
 have nil:∀{κ β : Type} [DecidableEq κ] (kf : κ->V) (vf : β->V) (f : κ->β) (M:Nat),H2.get M=some (.map [] 0)->Kept kf vf f M H2:=λkf vf f M hM=>⟨[],0,[],hM,MapR.nil,λp v hv=>by simp[qaS]at hv⟩;have hC:CtC y (H.n+3) H.n (H.n+1) (H.n+2) H2:=by
  refine⟨?_,nil _ _ _ _ ?_,nil _ _ _ _ ?_,nil _ _ _ _ ?_,by omega,by omega,by omega,by omega,by omega,by omega,by omega,by omega,by omega,by omega,hB2.keep λi hi=>gk2 i (by rw[hyw]at hi; omega),by rw[hyw]; omega,by rw[hyw]; omega,by rw[hyw]; omega,by rw[hyw]; omega⟩
  ·rw[<-hH2,<-hy]; simp; exact⟨rfl,rfl,rfl,rfl,rfl⟩
  ·rw[<-hH2]; simp
  ·rw[<-hH2]; simp
  ·rw[<-hH2]; simp
 rw[hH2];refine WFS.by (of_ind hS hgy hry hmay _ n k u r (Nat.lt_succ_self _) n0 (by rw[hyg]; exact n1) k0 (by rw[hyw]; exact k1) _ h.n H2 (H.n+3) H.n (H.n+1) (H.n+2) hC (by omega) (by omega) (by omega)) ?_
 rintro v H3 ⟨rfl,_,_⟩;simp -dsimp[intW];rw[hp]
theorem qwa(hx:EvS x)(hg:x.g.Fine)(hr:∀p∈x.g.p.l,∀a∈p.a.l,∀s∈a.l,s.r.l.length<1500000)(hB:WB h x.w)(hwm:x.w.m<=h.n) :
  WF PR d mk (.fn 388 [] []) [.agg x.cells] h λq=>q=⟨.int .i64 (qvt x.calm 0 0 x.w.l.length (-1)),h⟩:=by
 refine qBt f388 b388 [.tm 2] rfl rfl rfl rfl rfl rfl ?_;unfold b388;have e5:[Sl.enc Pd.cells x.g.p,Sl.enc qac x.g.keys,x.w.v,V.int IntKind.i64 x.tab,V.bool x.heal]=x.cells:=rfl;have hwl:∀H,lenV .sl x.w.v H=some (.int .i64 x.w.l.length):=λH=>hB.len;simp -dsimp[Ev.cells,hwl];rw[e5];refine WFS.by (qvx hx hg hr (h:=h.push (.rows [x.cells])) (hB.keep λi hi=>by rw[qBq,Jaa (by omega)]) (by simp; omega) 0 0 x.w.l.length (-1)) ?_
 intro v h' e;cases e;simp -dsimp
end
section
variable {x:Ev}(hx:EvW x)
include hx
end
theorem qwf{x:Ev}{n mk:Nat}{h:Heap}(hg:x.g.Fine)(hB:WB h x.w)(e:evCall PR n mk (.fn 312 [] []) [.agg x.cells] h=some [⟨.bool true,h⟩]):mayE x=true:=by
 obtain⟨l,N,h0,_,h2,h3⟩:=qbJ (d:=false) (mk:=mk) x hg hB;have e1:=qdU qda n (max n N) mk mk (by omega) (Jac _) _ _ _ _ e;have h4:=h2 (max n N) (by omega);simp only at h4;rw[h4]at e1;cases e1;have:=h3 _ (Jah.2 rfl);simp only[VH.mk.injEq,V.bool.injEq,and_true]at this;exact this.symm
theorem qwD{α : Type} [Inhabited α] {p : α->Bool}:∀{l:List α}{i:Int},0<=i->0<=idxP p l i->p (lat l (idxP p l i-i).toNat)=true
 | [],i,_,h=>by simp[idxP]at h
 | a::l,i,h0,h=>by
  rw[idxP]at h ⊢;split
  ·rename_i hp;rw[show(i-i).toNat=0 by omega]; exact hp
  ·rename_i hp;rw[Jaa hp]at h;have h1:=qww (l:=l) (i:=i+1) (by omega) h;have h2:=qwD (l:=l) (i:=i+1) (by omega) h;rw[show(idxP p l (i+1)-i).toNat=(idxP p l (i+1)-(i+1)).toNat+1 by omega];exact h2
section
variable {x:Ev}(hx:EvW x) {q:Int}{Lk:Int->Int->List En × List En}
 (hq:∀n k:Int,0<=n->n<x.g.p.l.length->0<=k->k<=x.w.l.length->refV x n k q=q)
 (hL:∀n k:Int,0<=n->n<x.g.p.l.length->0<=k->k<=x.w.l.length->qaL x n k q=Lk n k)
include hx hq hL
end
def sumA(A:Int->Nat):List Sy->Nat
 | []=>0
 | s::l=>(if s.kind=2 then A s.n else 0)+sumA A l
def cntT:List Sy->Nat
 | []=>0
 | s::l=>(if s.kind=2 then 0 else 1)+cntT l
theorem qxe{f:En->Int}:∀(l:List En) (o:Int),l.foldl (λo e=>min o (f e)) o=o\/∃e∈l,l.foldl (λo e=>min o (f e)) o=f e
 | [],o=>.inl rfl
 | e::l,o=>by
  rw[List.foldl_cons];rcases qxe (f:=f) l (min o (f e))with h|⟨e',he',h⟩
  ·rw[h]
   by_cases c:o<=f e
   ·exact .inl (by omega)
   ·exact .inr ⟨e,by simp,by omega⟩
  ·exact .inr ⟨e',by simp[he'],h⟩
theorem qwP{g:Gr}{f:En->List Nd}{ok:En->Bool}:∀(l:List En) (b:Option (List Nd × En)),qwt g f ok l b=none->b=none/\∀e∈l,ok e=false
 | [],b,h=>⟨h,by simp⟩
 | e::l,b,h=>by
  simp only[qwt]at h;obtain⟨h1,h2⟩:=qwP l _ h;split at h1
  ·cases b with
   | none=>cases h1
   | some c =>
    exfalso;simp only at h1;split at h1<;>cases h1
  ·rename_i hok;exact⟨h1,λe' he'=>by
    rcases Jag.1 he' with rfl|c
    ·simpa using hok
    ·exact h2 _ c⟩
theorem qwN{g:Gr}{w:List UInt8}{L:Look}{k0 u:Int}{T:Int->Int->Int->Int->List Nd}{A:Int->Nat}{B:Nat}(h0:0<=k0):∀(m l:List Sy) (k b:Int),(∀s∈m,s.kind=2->0<=s.n)->(∀i,i<m.length->(lat m i).kind=2->∀j,NowP g w (l++m.take i) k0 (j,0)->(∀f∈L (lat m i).n j,((T (lat m i).n j f.1 f.2).length:Int)<=A (lat m i).n+B * (f.1-j))/\∀f∈L (lat m i).n j,EndP g w (lat m i).n j f) ->
  NowP g w l k0 (k,0)->badC L w u m k=b->b<qwn->((qwp g L T w u m k b).length:Int)+B * cntT m<=sumA A m+B * (u-k)
 | [],_,k,b,_,_,_,e,hb=>by
  rw[badC]at e;split at e
  ·rename_i hk;simp[qwp,cntT,sumA,hk]
  ·omega
 | s::m,l,k,b,hs,hC,h,e,hb=>by
  have h1:∀k' b',NowP g w (l++[s]) k0 (k',0)->badC L w u m k'=b'->b'<qwn->((qwp g L T w u m k' b').length:Int)+B * cntT m<=sumA A m+B * (u-k'):=λk' b' hk' =>
   qwN h0 m (l++[s]) k' b' (λt ht=>hs t (by simp[ht])) (λi hi hk j hj=>hC (i+1) (by simp; omega) (by simpa[lat]using hk) j (by simpa using hj)) hk'
  rw[badC]at e;rw[qwp]
  by_cases hk:s.kind=2
  ·rw[Jab hk]at e ⊢;obtain⟨e1,e2⟩:=hC 0 (by simp) (by simpa[lat]using hk) k (by simpa using h);rw[show lat (s::m) 0=s from rfl]at e1 e2;simp only[cntT,sumA,hk,if_true];cases hbst:qwt g (λe=>T s.n k e.1 e.2) (λe=>decide (e.2+badC L w u m e.1=b)) (L s.n k) none with
   | none =>
    exfalso;obtain⟨_,hn⟩:=qwP _ _ hbst;rcases qxe (f:=λe=>e.2+badC L w u m e.1) (L s.n k) qwn with c|⟨e',he',c⟩
    ·rw[c]at e; omega
    ·have:=hn e' he';simp only[Jaq]at this;exact this (by rw[<-c,e])
   | some c =>
    rcases qwu _ _ _ hbst with h3|⟨h3,h4,h5⟩
    ·cases h3
    ·simp only[Jai]at h4;have q1:=e1 _ h3;have q2:=(e2 _ h3);have q3:=h1 c.2.1 (b-c.2.2) (qvO h0 (hs s (by simp) hk) hk e2 h h3) (by omega) (by have:=q2.2.2.1.1; omega);rw[<-h5]at q1;rw[Jao];have d1:(B:Int) * (u-k)=B * (u-c.2.1)+B * (c.2.1-k):=by rw[<-Int.mul_add]; congr 1; omega
     rw[d1];simp only[Nat.zero_add];omega
  ·rw[Jaa hk]at e ⊢;split at e
   ·rename_i hm;rw[Jab hm];have q3:=h1 _ _ (qvA h0 hk h hm) e hb;simp only[cntT,sumA,hk,if_false];have d1:(B:Int) * (u-k)=B * (u-(k+qbr s w k))+B * qbr s w k:=by rw[<-Int.mul_add]; congr 1; omega
    have d2:(B:Int) * 1<=B * qbr s w k:=Int.mul_le_mul_of_nonneg_left (by omega) (by omega);have d3:(B:Int) * ((1+cntT m:Nat):Int)=B * 1+B * cntT m:=by rw[<-Int.mul_add]; rfl
    rw[d1,d3];omega
   ·omega
section
variable {x:Ev}(hx:EvW x) (hw:x.w.l.length<1000000) {q:Int}
 (hq:∀n k:Int,0<=n->n<x.g.p.l.length->0<=k->k<=x.w.l.length->refV x n k q=q) {A:Int->Nat}{B:Nat}
 (hA:∀i:Nat,i<x.g.p.l.length->1<=A i/\∀a∈(lat x.g.p.l i).a.l,1+sumA A a.l<=A i+B * cntT a.l)
include hx hw hq hA
theorem qw7:∀(m:Nat) (n k:Int),muN x.g x.w.l n k<m->0<=n->n<x.g.p.l.length->0<=k->k<=x.w.l.length->∀e∈(qaL x n k q).2,((qwx x m n k e.1 q e.2).length:Int)<=A n+B * (e.1-k):=by
 intro m;induction m with
 | zero=>intro _ _ h; omega
 | succ m ih =>
  intro n k hmu n0 n1 k0 k1 e he;obtain⟨p1,p2,p3,_⟩:=(qbf hx (ref:=q) n0 n1 k0 k1).2 _ he;have hA1:=hA n.toNat (by omega);rw[show((n.toNat:Nat):Int)=n by omega]at hA1;rw[qwx];split
  ·rename_i hi;have hlt:=qwH hi;have ha:=qai hlt;rw[hq n k n0 n1 k0 k1]at hi hlt ha ⊢;have hbad:=qwD (Int.le_refl 0) hi;rw[Int.sub_zero]at hbad;simp only[Jad,Jai]at hbad;have h2:=hA1.2 _ ha;have h3:=qwN (g:=x.g) (L:=qaN x q) (T:=λn' k' u' b'=>qwx x m n' k' u' q b') (A:=A) (B:=B) k0 _ [] k e.2 (λs hs hk=>(qcD hx ha s hs hk).1) (λi hi hk j hj=>by
    obtain⟨q1,q2,q3,q4,q5⟩:=qvT hx n0 k0 k1 ha hi hk (by rw[List.nil_append]at hj; exact hj);simp only at q1 q4 q5;exact⟨λf hf=>ih _ _ (by omega) q2 q3 q4 q5 f hf,(qbf hx q2 q3 q4 q5).2⟩) ⟨Int.le_refl _,k1,by simp,λ_=>.nil⟩ hbad.2 (by unfold qwn; omega)
   rw[List.length_cons];have h4:((B * cntT (lat (lat x.g.p.l n.toNat).a.l (idxP (λa=>qwq x n k e.1 q&&decide (badC (qaN x q) x.w.l e.1 a.l k=e.2)) (lat x.g.p.l n.toNat).a.l 0).toNat).l:Nat):Int)=(B:Int) * (cntT (lat (lat x.g.p.l n.toNat).a.l (idxP (λa=>qwq x n k e.1 q&&decide (badC (qaN x q) x.w.l e.1 a.l k=e.2)) (lat x.g.p.l n.toNat).a.l 0).toNat).l:Int):=by rw[Int.natCast_mul]
   omega
  ·have d2:(0:Int)<=B * (e.1-k):=Int.mul_nonneg (by omega) (by omega);simp only[List.length_singleton];have:=hA1.1;omega
theorem qw1(hb:∀i:Nat,i<x.g.p.l.length->A i+B * x.w.l.length<1000000){n k:Int}(n0:0<=n)(n1:n<x.g.p.l.length)(k0:0<=k)(k1:k<=x.w.l.length):∀e∈(qaL x n k q).2,(lstN x n k e.1 q e.2).length<1000000:=λe he=>by
 have h:=qw7 hx hw hq hA (muN x.g x.w.l n k+1) n k (Nat.lt_succ_self _) n0 n1 k0 k1 e he;obtain⟨p1,p2,p3,_⟩:=(qbf hx (ref:=q) n0 n1 k0 k1).2 _ he;have h2:=hb n.toNat (by omega);rw[show((n.toNat:Nat):Int)=n by omega]at h2;have d:(B:Int) * (e.1-k)<=B * x.w.l.length:=Int.mul_le_mul_of_nonneg_left (by omega) (by omega);have d2:((B * x.w.l.length:Nat):Int)=(B:Int) * x.w.l.length:=by rw[Int.natCast_mul]
 unfold lstN;omega
end
theorem qwW{x:Ev}(h:∀p∈x.g.p.l,bitB p.marks 8=false)(q:Int):∀n k:Int,0<=n->n<x.g.p.l.length->0<=k->k<=x.w.l.length->refV x n k q=q:=λn k n0 n1 _ _=>by
 unfold refV;rw[Jaa];rintro⟨_,h2⟩;rw[h _ (qai (by omega))]at h2;cases h2
def sumZ(A:Int->Int):List Sy->Int
 | []=>0
 | s::l=>(if s.kind=2 then A s.n else 0)+sumZ A l
section
variable {x:Ev}(hx:EvW x) (hw:x.w.l.length<1000000) {q:Int}
 (hq:∀n k:Int,0<=n->n<x.g.p.l.length->0<=k->k<=x.w.l.length->refV x n k q=q) {A:Int->Int}{B:Nat}
 (hA:∀i:Nat,i<x.g.p.l.length->∀a∈(lat x.g.p.l i).a.l,1+sumZ A a.l<=A i+B * cntT a.l)
 (hE:∀n k:Int,0<=n->n<x.g.p.l.length->0<=k->k<=x.w.l.length->∀e∈(qaL x n k q).2,1<=A n+B * (e.1-k))
include hx hw hq hA hE
end
set_option maxRecDepth 100000
def qyn:List Bool->List UInt8
 | []=>[]
 | b::l=>(if b then 120 else 63)::10::qyn l
def sy1(c:Int):Sy:=⟨0,.of [⟨c,c⟩],0⟩
def syN(n:Int):Sy:=⟨2,.nil,n⟩
def hlG:Gr:=⟨.of [⟨.of [.of [syN 2]],0,.nil⟩,⟨.of [.of [sy1 120,sy1 10]],32,.nil⟩,⟨.full [.of [syN 1,syN 2],.nil],0,.nil⟩],.nil⟩
def hlE(v:V)(m:Nat)(l:List Bool):Ev:=⟨hlG,⟨v,qyn l,m⟩,8,true⟩
section
variable {v:V}{mm:Nat}{l:List Bool}(hm:mayE (hlE v mm l)=true)
include hm
end
theorem qx2:∀{l:List Nat},0<l.sum->∃a∈l,0<a
 | [],h=>by simp at h
 | a::l,h=>by
  rw[List.sum_cons]at h
  by_cases c:0<a
  ·exact⟨a,by simp,c⟩
  ·obtain⟨b,hb,h2⟩:=qx2 (l:=l) (by omega);exact⟨b,by simp[hb],h2⟩
theorem qxK{L:Look}{C:Int->Int->Int->Nat}{w:List UInt8}{u:Int}:∀(m:List Sy) (now:List En) (f:En),f∈now->0<qvs L C w u m f.1->∃e∈qaA L w m now,e.1=u
 | [],now,f,hf,h=>by
  rw[qvs]at h;split at h
  ·rename_i e; exact⟨f,hf,e⟩
  ·omega
 | s::m,now,f,hf,h=>by
  rw[qaA];have key:∀e,e∈qa2 L w s f->0<qvs L C w u m e.1->∃e∈qaA L w m (qbG (now.flatMap (qa2 L w s))),e.1=u:=λe he h2=>by
   obtain⟨g,hg,g1,_⟩:=qla (List.mem_flatMap.2 ⟨f,hf,he⟩);exact qxK m _ g hg (by rw[g1]; exact h2)
  rw[qvs]at h;split at h
  ·rename_i hk;obtain⟨a,ha,h2⟩:=qx2 h;obtain⟨e,he,rfl⟩:=Jak.1 ha;refine key (e.1,f.2+e.2) ?_ (Nat.pos_of_mul_pos_right h2);unfold qa2;rw[Jab hk];exact Jak.2 ⟨e,he,rfl⟩
  ·rename_i hk;split at h
   ·rename_i hm;refine key (f.1+qbr s w f.1,f.2) ?_ h;unfold qa2;rw[Jaa hk,Jab hm];simp
   ·omega
def AftP(N:Look)(w:List UInt8):List Sy->Int->Int->Prop
  | [],k,y=>y=k
  | s::l,k,y=>if s.kind=2 then ∃e∈N s.n k,AftP N w l e.1 y else 0<qbr s w k/\AftP N w l (k+qbr s w k) y
theorem qDR{A:List En}(h:∀e∈A,e.2=0){e:En}:e∈qbG A↔e∈A:=by
  rw[qd5];exact⟨λh=>h.1,λhe=>⟨he,λf hf _=>by rw[h e he,h f hf]; exact Int.le_refl _⟩⟩
theorem qEn{N:Look}{w:List UInt8}(hN:∀n k,∀e∈N n k,e.2=0){s:Sy}{now:List En}(h:∀e∈now,e.2=0):∀e∈now.flatMap (qa2 N w s),e.2=0:=λf hf=>by
  obtain⟨e,he,hfe⟩:=List.mem_flatMap.1 hf;unfold qa2 at hfe;split at hfe
  · obtain⟨f',hf',rfl⟩:=Jak.1 hfe
    have:=hN _ _ f' hf';have:=h e he;simp only; omega
  · split at hfe
    · rw[Jah]at hfe; subst hfe; exact h e he
    · cases hfe
theorem qDN{N:Look}{w:List UInt8}(hN:∀n k,∀e∈N n k,e.2=0):∀(l:List Sy) (now:List En),(∀e∈now,e.2=0)->∀y:Int,(∃e∈qaA N w l now,e.1=y)↔∃f∈now,AftP N w l f.1 y
  | [],now,_,y=>by
    simp only[qaA,AftP];exact⟨λ⟨e,h1,h2⟩=>⟨e,h1,h2.symm⟩,λ⟨e,h1,h2⟩=>⟨e,h1,h2.symm⟩⟩
  | s::l,now,h,y=>by
    have hz:=qEn (w:=w) hN (s:=s) h;rw[qaA,qDN hN l _ (qbN hz) y];constructor
    · rintro⟨f,hf,hp⟩
      rw[qDR hz]at hf;obtain⟨g,hg,hfg⟩:=List.mem_flatMap.1 hf;refine⟨g,hg,?_⟩;unfold qa2 at hfg;rw[AftP];split at hfg
      · rename_i hk
        rw[Jab hk];obtain⟨e,he,rfl⟩:=Jak.1 hfg;exact⟨e,he,hp⟩
      · rename_i hk
        rw[Jaa hk];split at hfg
        · rename_i hm
          rw[Jah]at hfg;subst hfg;exact⟨hm,hp⟩
        · cases hfg
    · rintro⟨g,hg,hp⟩
      rw[AftP]at hp;split at hp
      · rename_i hk
        obtain⟨e,he,hp⟩:=hp;refine⟨(e.1,g.2+e.2),(qDR hz).2 (List.mem_flatMap.2 ⟨g,hg,?_⟩),hp⟩;unfold qa2;rw[Jab hk];exact Jak.2 ⟨e,he,rfl⟩
      · rename_i hk
        refine⟨(g.1+qbr s w g.1,g.2),(qDR hz).2 (List.mem_flatMap.2 ⟨g,hg,?_⟩),hp.2⟩;unfold qa2;rw[Jaa hk,Jab hp.1];simp
section
variable {x:Ev}(hx:EvW x) (hh:x.heal=false) {n k ref:Int}(n0:0<=n) (n1:n<x.g.p.l.length) (k0:0<=k) (k1:k<=x.w.l.length)
include hx hh n0 n1 k0 k1
theorem qEw(y:Int):(y,0)∈(qaL x n k ref).1↔∃a∈(lat x.g.p.l n.toNat).a.l,AftP (qaN x (refV x n k ref)) x.w.l a.l k y:=by
  have hN:∀n' k',∀e∈qaN x (refV x n k ref) n' k',e.2=0:=λn' k'=>(qd6 hh n' k' _).2;have hz:∀e∈(lat x.g.p.l n.toNat).a.l.flatMap λa=>qaA (qaN x (refV x n k ref)) x.w.l a.l [(k,0)],e.2=0:=λe he=>by
    obtain⟨a,_,hea⟩:=List.mem_flatMap.1 he;exact qif hN _ _ (by simp) e hea
  rw[qbD hx n0 n1 k0 k1];simp only[qcG];rw[qDR hz,List.mem_flatMap];constructor
  · rintro⟨a,ha,h⟩
    obtain⟨f,hf,hp⟩:=(qDN hN a.l [(k,0)] (by simp) y).1 ⟨_,h,rfl⟩;rw[Jah]at hf; subst hf;exact⟨a,ha,hp⟩
  · rintro⟨a,ha,hp⟩
    obtain⟨e,he,e1⟩:=(qDN hN a.l [(k,0)] (by simp) y).2 ⟨_,Jah.2 rfl,hp⟩;have e2:=qif hN _ _ (by simp) e he;refine⟨a,ha,?_⟩;have:e=(y,0):=by obtain⟨a,b⟩:=e; simp only at e1 e2; rw[e1,e2]
    rw[<-this]; exact he
theorem qEv(hl:bitB (lat x.g.p.l n.toNat).marks 1=false)(hp:∀u,k<=u->u<=x.w.l.length->qbp x n k u ref=true):(qaL x n k ref).2=(qaL x n k ref).1:=by
  rw[qcI hx n0 n1 k0 k1 hh];unfold qb4;rw[hl,Jaa (by decide)];refine List.filter_eq_self.2 λe he=>?_;have:=(qbf hx (ref:=ref) n0 n1 k0 k1).1 e he;exact hp _ this.1 this.2.1
end
theorem qEq{c:List En}(hc:c.Pairwise λa b=>a.1<b.1){e:En}:e∈c.drop (c.length-1)↔e∈c/\∀f∈c,f.1<=e.1:=by
  rcases List.eq_nil_or_concat c with rfl|⟨l,a,rfl⟩
  · simp
  · simp only[List.concat_eq_append]at hc ⊢
    rw[show(l++[a]).length-1=l.length by simp,List.drop_left,Jah];rw[List.pairwise_append]at hc;constructor
    · rintro rfl
      refine⟨by simp,λf hf=>?_⟩;rcases Jaj.1 hf with h|h
      · have:=hc.2.2 f h e (by simp); omega
      · rw[Jah]at h; subst h; exact Int.le_refl _
    · rintro⟨h1,h2⟩
      rcases Jaj.1 h1 with h|h
      · have:=hc.2.2 e h a (by simp)
        have:=h2 a (by simp); omega
      · simpa using h
theorem qEo{L:Look}{C:Int->Int->Int->Nat}{w:List UInt8}{u k:Int}{s:Sy}(hs:s.kind=2)(hL:(L s.n k).Pairwise λa b=>a.1<b.1):qvs L C w u [s] k=if endB (L s.n k) u=true then C s.n k u else 0:=by
  rw[qvs,Jab hs];generalize L s.n k=l at hL;induction l with
  | nil=>rfl
  | cons e l ih =>
    rw[List.pairwise_cons]at hL;rw[List.map_cons,List.sum_cons,ih hL.2];have he:endB (e::l) u=(decide (e.1=u)||endB l u):=rfl;rw[he]
    by_cases c:e.1=u
    · have hn : endB l u = false := by
        rw[Bool.eq_false_iff];intro h;unfold endB at h;rw[List.any_eq_true]at h;obtain⟨f,hf,h⟩:=h;have:=hL.1 f hf;rw[Jai]at h; omega
      rw[hn,qvs,Jab c,decide_eq_true c,c]; simp
    · rw[qvs,Jaa c,decide_eq_false c,Bool.false_or,Nat.zero_mul,Nat.zero_add]
theorem qEm{x:Ev}(hx:EvW x){n k u r:Int}(n0:0<=n)(n1:n<x.g.p.l.length)(k0:0<=k)(k1:k<=x.w.l.length):(if endB (qaN x r n k) u=true then qvr x n k u r else 0)=qvr x n k u r:=by
  split
  · rfl
  · rename_i h
    have h':¬endB (qaL x n k r).2 u=true:=h;rw[qvy hx u r n0 n1 k0 k1,Jaa h']
def syL:Sy:=⟨1,.of [⟨97,122⟩],0⟩
def wdG:Gr:=⟨.of [⟨.of [.of [syN 1,syN 2]],0,.nil⟩,⟨.of [.of [syN 3]],3,.nil⟩,⟨.full [.of [sy1 32,syN 1,syN 2],.nil],0,.nil⟩,⟨.full [.of [syL,syN 3],.of [syL]],0,.nil⟩],.of [[105,102],[100,111]]⟩
def wdE(v:V)(m:Nat)(l:List UInt8):Ev:=⟨wdG,⟨v,l,m⟩,8,false⟩
def letB(c:UInt8):Bool:=decide (97<=c.toNat)&&decide (c.toNat<=122)
def letN:List UInt8->Nat
  | []=>0
  | c::u=>if letB c=true then letN u+1 else 0
theorem qEz:ofL [⟨97,122⟩]=[.of [⟨97,122⟩]]:=by rfl
section
variable {l:List UInt8}
theorem qEg{p:Nat}(hp:p<=l.length):qbr syL l p=if 0<letN (l.drop p)then 1 else 0:=by
  unfold qbr qml;rw[Jaa (show ¬syL.kind=0 by decide),Jab (show syL.kind=1 from rfl),show syL.r.l=[⟨97,122⟩] from rfl,qEz];unfold qb5;rw[Jaa (by omega),show((p:Int)).toNat=p by omega];cases l.drop p with
  | nil=>rfl
  | cons c u =>
    have e:inB ⟨97,122⟩ c=letB c:=by
      unfold inB letB;rw[Bool.eq_iff_iff]; simp only[Jad,Jai]; omega
    simp only[qax,l_of,qbE,letN]
    by_cases hb:letB c=true
    · simp[e,hb]
    · simp[e,hb]
theorem wd_sp{p:Nat}(hp:p<=l.length):qbr (sy1 32) l p=if(l.drop p).head?=some 32 then 1 else 0:=by
  unfold qbr qcH;rw[Jab (show(sy1 32).kind=0 from rfl),show((p:Int)).toNat=p by omega]
  by_cases c:p<l.length
  · rw[qbu c]
    obtain⟨b,hb⟩:∃b,lat l p=b:=⟨_,rfl⟩;rw[hb];simp only[List.head?_cons,Jae];have e:hasB (sy1 32).r.l ((b.toNat:Nat):Int)=decide (b=32):=by
      simp only[hasB,sy1,l_of,List.any_cons,List.any_nil,Bool.or_false,inR];rw[Bool.eq_iff_iff];simp only[Jad,Jai];constructor
      · rintro⟨h1,h2⟩
        apply UInt8.toNat_inj.1;show b.toNat=32;omega
      · rintro rfl; decide
    rw[e]
    by_cases c2:b=32
    · rw[Jab ⟨by omega,by omega,by simpa using c2⟩,Jab c2]
    · rw[Jaa (by rintro⟨_,_,h⟩; simp at h; exact c2 h),Jaa c2]
  · rw[Jaa (by rintro⟨_,h,_⟩; omega),List.drop_eq_nil_of_le (by omega)]
    rfl
end
section
variable {v:V}{mm:Nat}{l:List UInt8}(hm:mayE (wdE v mm l)=true)
theorem qEu(n k q:Int)(n0:0<=n)(n1:n<4)(k0:0<=k)(k1:k<=l.length):refV (wdE v mm l) n k q=q :=
  qwW (x:=wdE v mm l) (show ∀p∈wdG.p.l,bitB p.marks 8=false by decide) q n k n0 (show n<(wdG.p.l.length:Nat) from n1) k0 k1
include hm
theorem qEf{n k u q:Int}(n0:0<=n)(n4:n<4)(k0:0<=k)(ku:k<=u)(u1:u<=l.length):qbp (wdE v mm l) n k u q=(decide (n≠1)||qhy (wdE v mm l) k u):=by
  have h3:∀i,i<4->(lat wdG.p.l i).no.l=[]/\bitB (lat wdG.p.l i).marks 2=decide (i=1)/\bitB (lat wdG.p.l i).marks 4=false/\bitB (lat wdG.p.l i).marks 16=false:=by decide
  obtain⟨a,b,c,d⟩:=h3 n.toNat (by omega);unfold qbp;show(qdt wdG n&&(tMay (wdE v mm l) k u&&(qdR (lat wdG.p.l n.toNat).no.l _ u&&((!bitB (lat wdG.p.l n.toNat).marks 2||_)&&((!bitB (lat wdG.p.l n.toNat).marks 4||_)&&(!bitB (lat wdG.p.l n.toNat).marks 16||_))))))=_;rw[a,b,c,d];have h1:qdt wdG n=true:=by
    unfold qdt;rw[show mayB wdG=true from (qbq hm).m,decide_eq_true n0,decide_eq_true (show n<(wdG.p.l.length:Nat) from n4)]; rfl
  have h2:tMay (wdE v mm l) k u=true:=by
    unfold tMay;show(decide (0<=k)&&(decide (k<=u)&&(decide (u<=(l.length:Nat))&&(decide ((1:Int)<=8)&&decide ((8:Int)<=16)))))=true;rw[decide_eq_true k0,decide_eq_true ku,decide_eq_true u1];decide
  rw[h1,h2];have h4:decide (n.toNat=1)=decide (n=1):=by rw[decide_eq_decide]; omega
  rw[h4]
  by_cases e:n=1
  · simp[qdR,hasB,e]
  · simp[qdR,hasB,e]
theorem qD0{n:Int}{p:Nat}(n0:0<=n)(n4:n<4)(n1:n≠1)(hp:p<=l.length)(q:Int):(qaL (wdE v mm l) n p q).2=(qaL (wdE v mm l) n p q).1:=by
  refine qEv (qbq hm) rfl n0 (show n<(wdG.p.l.length:Nat) from n4) (by omega) (show(p:Int)<=(l.length:Nat) by omega) ?_ λu h1 h2=>?_
  · have h3:∀i,i<4->i≠1->bitB (lat wdG.p.l i).marks 1=false:=by decide
    exact h3 n.toNat (by omega) (by omega)
  · rw[qEf hm n0 n4 (by omega) h1 h2,decide_eq_true n1]; rfl
theorem qDU{n:Int}{p:Nat}(n0:0<=n)(n4:n<4)(hp:p<=l.length)(q y:Int):(y,0)∈(qaL (wdE v mm l) n p q).1↔∃a∈(lat wdG.p.l n.toNat).a.l,AftP (qaN (wdE v mm l) q) l a.l p y:=by
  have:=qEw (qbq hm) rfl (ref:=q) n0 (show n<(wdG.p.l.length:Nat) from n4) (show(0:Int)<=p by omega) (show(p:Int)<=(l.length:Nat) by omega) y
  rwa [qEu n p q n0 n4 (by omega) (by omega)]at this
theorem qDW(q:Int):∀(d p:Nat),p+d=l.length->∀y:Int,(y,0)∈(qaL (wdE v mm l) 3 p q).2↔∃j:Nat,1<=j/\j<=letN (l.drop p)/\y=p+j:=by
  intro d;induction d with
  | zero =>
    intro p hp y;rw[qD0 hm (by omega) (by omega) (by omega) (by omega),qDU hm (by omega) (by omega) (by omega)];have e0:l.drop p=[]:=List.drop_eq_nil_of_le (by omega);have hA:(lat wdG.p.l (3:Int).toNat).a.l=[.of [syL,syN 3],.of [syL]]:=rfl;have hno:∀m y,¬AftP (qaN (wdE v mm l) q) l (syL::m) p y:=λm y h=>by
      rw[AftP,Jaa (show ¬syL.kind=2 by decide),qEg (by omega),e0]at h;exact absurd h.1 (by decide)
    constructor
    · rintro⟨a,ha,h⟩
      rw[hA]at ha;simp only[Jag,List.not_mem_nil,or_false]at ha;rcases ha with rfl|rfl<;>exact absurd h (hno _ _)
    · rintro⟨j,h1,h2,_⟩
      rw[e0]at h2; simp[letN]at h2; omega
  | succ d ih =>
    intro p hp y;have ih:=ih (p+1) (by omega);rw[qD0 hm (by omega) (by omega) (by omega) (by omega),qDU hm (by omega) (by omega) (by omega)];have hA:(lat wdG.p.l (3:Int).toNat).a.l=[.of [syL,syN 3],.of [syL]]:=rfl;have hd:=qbu (l:=l) (i:=p) (by omega);obtain⟨c,hc⟩:∃c,lat l p=c:=⟨_,rfl⟩;rw[hc]at hd;have hl:letN (l.drop p)=if letB c=true then letN (l.drop (p+1))+1 else 0:=by rw[hd,letN]
    have hmt:=qEg (l:=l) (p:=p) (by omega);cases hb:letB c with
    | false =>
      rw[hb,Jaa (by decide)]at hl;rw[hl]at hmt;have hno:∀m y,¬AftP (qaN (wdE v mm l) q) l (syL::m) p y:=λm y h=>by
        rw[AftP,Jaa (show ¬syL.kind=2 by decide),hmt]at h;exact absurd h.1 (by decide)
      constructor
      · rintro⟨a,ha,h⟩
        rw[hA]at ha;simp only[Jag,List.not_mem_nil,or_false]at ha;rcases ha with rfl|rfl<;>exact absurd h (hno _ _)
      · rintro⟨j,h1,h2,_⟩; omega
    | true =>
      rw[hb,Jab rfl]at hl;rw[hl,Jab (by omega)]at hmt;have hyes:∀m y,AftP (qaN (wdE v mm l) q) l (syL::m) p y↔AftP (qaN (wdE v mm l) q) l m ((p+1:Nat):Int) y:=λm y=>by
        rw[AftP,Jaa (show ¬syL.kind=2 by decide),hmt];exact⟨λh=>h.2,λh=>⟨by decide,h⟩⟩
      have hz:∀e∈qaN (wdE v mm l) q (syN 3).n ((p+1:Nat):Int),e.2=0:=(qd6 rfl _ _ _).2;constructor
      · rintro⟨a,ha,h⟩
        rw[hA]at ha;simp only[Jag,List.not_mem_nil,or_false]at ha;rcases ha with rfl|rfl
        · rw[l_of,hyes,AftP,Jab (show(syN 3).kind=2 from rfl)]at h
          obtain⟨e,he,h⟩:=h;rw[AftP]at h;have e2:=hz e he
          obtain ⟨j, j1, j2, j3⟩ := (ih e.1).1 (by have : e = (e.1, 0) := by rw [← e2]
                                                   rw[<-this]; exact he)
          exact⟨j+1,by omega,by omega,by omega⟩
        · rw[l_of,hyes,AftP]at h
          exact⟨1,by omega,by omega,by omega⟩
      · rintro⟨j,j1,j2,j3⟩
        by_cases c1:j=1
        · refine⟨.of [syL],by rw[hA]; simp,?_⟩
          rw[l_of,hyes,AftP]; omega
        · refine⟨.of [syL,syN 3],by rw[hA]; simp,?_⟩
          rw[l_of,hyes,AftP,Jab (show(syN 3).kind=2 from rfl)];exact⟨(y,0),(ih y).2 ⟨j-1,by omega,by omega,by omega⟩,rfl⟩
theorem wd_one(q:Int){p:Nat}(hp:p<=l.length):(qaL (wdE v mm l) 1 p q).2=if 0<letN (l.drop p)/\qhy (wdE v mm l) p (p+letN (l.drop p))=true then [((p:Int)+letN (l.drop p),(0:Int))]else []:=by
  have hx:=qbq hm;have hA:(lat wdG.p.l (1:Int).toNat).a.l=[.of [syN 3]]:=rfl;have n1:(1:Int)<(wdG.p.l.length:Nat):=by decide
  have k1:(p:Int)<=(l.length:Nat):=by omega
  have hc:∀e,e∈(qaL (wdE v mm l) 1 p q).1↔∃j:Nat,1<=j/\j<=letN (l.drop p)/\e=((p:Int)+j,(0:Int)):=λe=>by
    have key:∀y:Int,(y,0)∈(qaL (wdE v mm l) 1 p q).1↔∃j:Nat,1<=j/\j<=letN (l.drop p)/\y=p+j:=λy=>by
      rw[qDU hm (by omega) (by omega) hp,hA];simp only[Jah,exists_eq_left,l_of];rw[AftP,Jab (show(syN 3).kind=2 from rfl),<-qDW hm q (l.length-p) p (by omega)];constructor
      · rintro⟨e,he,h⟩
        rw[AftP]at h;have e2:e.2=0:=(qd6 rfl _ _ _).2 e he;have:e=(y,0):=by rw[h,<-e2]
        rw[<-this]; exact he
      · intro h
        exact⟨(y,0),h,rfl⟩
    constructor
    · intro he
      have e2:e.2=0:=(qd6 rfl _ _ _).1 e he;obtain⟨a,b⟩:=e;simp only at e2;subst e2;obtain⟨j,j1,j2,j3⟩:=(key a).1 he;exact⟨j,j1,j2,by rw[j3]⟩
    · rintro⟨j,j1,j2,rfl⟩
      exact(key _).2 ⟨j,j1,j2,rfl⟩
  have hpw:=(qc3 hx (ref:=q) (show(0:Int)<=1 by omega) n1 (show(0:Int)<=p by omega) k1).1;have hle:letN (l.drop p)<=l.length-p:=by
    have:∀u:List UInt8,letN u<=u.length:=λu=>by
      induction u with
      | nil=>simp[letN]
      | cons c u ih=>simp only[letN,List.length_cons]; split<;>omega
    have:=this (l.drop p);simpa using this
  rw[qcI hx (by omega) n1 (by omega) k1 rfl];unfold qb4;rw[Jab (show bitB (lat (wdE v mm l).g.p.l (1:Int).toNat).marks 1=true from (by decide:bitB (lat wdG.p.l (1:Int).toNat).marks 1=true))];have hmem:∀e,e∈(qaL (wdE v mm l) 1 p q).1.drop ((qaL (wdE v mm l) 1 p q).1.length-1)↔0<letN (l.drop p)/\e=((p:Int)+letN (l.drop p),(0:Int)):=λe=>by
    rw[qEq hpw,hc];constructor
    · rintro⟨⟨j,j1,j2,rfl⟩,h⟩
      have:=h _ ((hc _).2 ⟨letN (l.drop p),by omega,Jac _,rfl⟩);simp only at this;have e:j=letN (l.drop p):=by omega
      exact⟨by omega,by rw[e]⟩
    · rintro⟨h0,rfl⟩
      refine⟨⟨_,by omega,Jac _,rfl⟩,λf hf=>?_⟩;obtain⟨j,j1,j2,rfl⟩:=(hc f).1 hf;simp only; omega
  have hdl:(qaL (wdE v mm l) 1 p q).1.drop ((qaL (wdE v mm l) 1 p q).1.length-1)=if 0<letN (l.drop p)then [((p:Int)+letN (l.drop p),(0:Int))]else []:=by
    have hlen:((qaL (wdE v mm l) 1 p q).1.drop ((qaL (wdE v mm l) 1 p q).1.length-1)).length<=1:=by rw[List.length_drop]; omega
    generalize (qaL (wdE v mm l) 1 p q).1.drop ((qaL (wdE v mm l) 1 p q).1.length-1)=D at hmem hlen;split
    · rename_i h0
      have h1:=(hmem _).2 ⟨h0,rfl⟩
      match D,hlen,h1 with
      | [a],_,h1=>rw[Jah]at h1; rw[h1]
    · rename_i h0
      rw[List.eq_nil_iff_forall_not_mem];intro e he;exact h0 ((hmem e).1 he).1
  rw[hdl];have hps:qbp (wdE v mm l) 1 p ((p:Int)+letN (l.drop p)) q=qhy (wdE v mm l) p ((p:Int)+letN (l.drop p)):=by
    rw[qEf hm (by omega) (by omega) (by omega) (by omega) (by omega)]; rfl
  by_cases h0:0<letN (l.drop p)
  · rw[Jab h0]
    cases hf:qhy (wdE v mm l) p ((p:Int)+letN (l.drop p))with
    | true=>rw[Jab ⟨h0,rfl⟩,List.filter_cons_of_pos (by rw[hps,hf])]; rfl
    | false=>rw[Jaa (by rintro⟨_,h⟩; cases h),List.filter_cons_of_neg (by rw[hps,hf]; decide)]; rfl
  · rw[Jaa h0,Jaa (λh=>h0 h.1)]; rfl
theorem qDP{n:Int}{p:Nat}(n0:0<=n)(n4:n<4)(hp:p<=l.length)(u q:Int):qvr (wdE v mm l) n p u q=if endB (qaN (wdE v mm l) q n p) u=true then((lat wdG.p.l n.toNat).a.l.map λa=>qvs (qaN (wdE v mm l) q) (λn' k' u'=>qvr (wdE v mm l) n' k' u' q) l u a.l p).sum else 0:=by
  have:=qvy (qbq hm) u q n0 (show n<(wdG.p.l.length:Nat) from n4) (show(0:Int)<=p by omega) (show(p:Int)<=(l.length:Nat) by omega)
  rwa [qEu n p q n0 n4 (by omega) (by omega)]at this
theorem wd_pw{n:Int}{p:Nat}(n0:0<=n)(n4:n<4)(hp:p<=l.length)(q:Int):(qaN (wdE v mm l) q n p).Pairwise λa b=>a.1<b.1 :=
  (qc3 (qbq hm) (ref:=q) n0 (show n<(wdG.p.l.length:Nat) from n4) (show(0:Int)<=p by omega) (show(p:Int)<=(l.length:Nat) by omega)).2
theorem qDX{n:Int}{p:Nat}(n0:0<=n)(n4:n<4)(hp:p<=l.length)(u q:Int):qvs (qaN (wdE v mm l) q) (λn' k' u'=>qvr (wdE v mm l) n' k' u' q) l u [syN n] p=qvr (wdE v mm l) n p u q:=by
  rw[qEo (show(syN n).kind=2 from rfl) (wd_pw hm (n:=(syN n).n) n0 n4 hp q)];exact qEm (qbq hm) n0 (show n<(wdG.p.l.length:Nat) from n4) (by omega) (show(p:Int)<=(l.length:Nat) by omega)
theorem qEi(q:Int){p j:Nat}(hp:p<=l.length):endB (qaN (wdE v mm l) q 3 p) ((p:Int)+j)=decide (1<=j/\j<=letN (l.drop p)):=by
  rw[Bool.eq_iff_iff,Jai];unfold endB;rw[List.any_eq_true];constructor
  · rintro⟨e,he,h⟩
    rw[Jai]at h;have e2:e.2=0:=(qd6 rfl _ _ _).2 e he;have:e=((p:Int)+j,0):=by rw[<-h,<-e2]
    rw[this]at he;obtain⟨i,i1,i2,i3⟩:=(qDW hm q (l.length-p) p (by omega) _).1 he;omega
  · rintro⟨h1,h2⟩
    exact⟨_,(qDW hm q (l.length-p) p (by omega) _).2 ⟨j,h1,h2,rfl⟩,by simp⟩
theorem qDZ(q:Int):∀(j p:Nat),p<=l.length->1<=j->j<=letN (l.drop p)->qvr (wdE v mm l) 3 p ((p:Int)+j) q=1
  | 0,_,_,h,_=>by omega
  | j+1,p,hp,_,hj=>by
    have hA:(lat wdG.p.l (3:Int).toNat).a.l=[.of [syL,syN 3],.of [syL]]:=rfl;have hpl:p<l.length:=by
      apply Classical.byContradiction;intro c;rw[List.drop_eq_nil_of_le (by omega)]at hj; simp[letN]at hj
    have hd:=qbu (l:=l) (i:=p) hpl;have hl1:letN (l.drop p)=letN (l.drop (p+1))+1:=by
      rw[hd,letN]at hj ⊢;split
      · rfl
      · rename_i hc; rw[Jaa hc]at hj; omega
    have hmt:=qEg (l:=l) (p:=p) hp;rw[Jab (by omega)]at hmt;rw[qDP hm (by omega) (by omega) hp,qEi hm q hp,decide_eq_true ⟨by omega,hj⟩,Jab rfl,hA];simp only[List.map_cons,List.map_nil,List.sum_cons,List.sum_nil,l_of];have e1:(p:Int)+1=((p+1:Nat):Int):=rfl;have hr:∀m u,qvs (qaN (wdE v mm l) q) (λn' k' u'=>qvr (wdE v mm l) n' k' u' q) l u (syL::m) p=qvs (qaN (wdE v mm l) q) (λn' k' u'=>qvr (wdE v mm l) n' k' u' q) l u m ((p+1:Nat):Int):=λm u=>by
      rw[qvs,Jaa (show ¬syL.kind=2 by decide),hmt,Jab (by decide),e1]
    rw[hr,hr,qDX hm (by omega) (by omega) (by omega),qvs]
    by_cases c:j=0
    · subst c
      rw[Jab (by omega),show(p:Int)+((0+1:Nat):Int)=((p+1:Nat):Int)+((0:Nat):Int) by omega,qDP hm (by omega) (by omega) (by omega),qEi hm q (by omega),Jaa (by simp)];rfl
    · rw[Jaa (by omega),show(p:Int)+((j+1:Nat):Int)=((p+1:Nat):Int)+(j:Int) by omega,qDZ q j (p+1) (by omega) (by omega) (by omega)]
      rfl
theorem qEe(q u:Int){p:Nat}(hp:p<=l.length):qvs (qaN (wdE v mm l) q) (λn' k' u'=>qvr (wdE v mm l) n' k' u' q) l u [syN 1,syN 2] p=if 0<letN (l.drop p)/\qhy (wdE v mm l) p (p+letN (l.drop p))=true then qvr (wdE v mm l) 2 ((p:Int)+letN (l.drop p)) u q else 0:=by
  have hle:letN (l.drop p)<=l.length-p:=by
    have:∀u:List UInt8,letN u<=u.length:=λu=>by
      induction u with
      | nil=>simp[letN]
      | cons c u ih=>simp only[letN,List.length_cons]; split<;>omega
    have:=this (l.drop p);simpa using this
  have h1:=wd_one hm q hp;rw[qvs,Jab (show(syN 1).kind=2 from rfl),show qaN (wdE v mm l) q (syN 1).n p=(qaL (wdE v mm l) 1 p q).2 from rfl,h1];split
  · rename_i hc
    have e1:(p:Int)+letN (l.drop p)=((p+letN (l.drop p):Nat):Int):=by omega
    have h2:qvr (wdE v mm l) 1 p ((p:Int)+letN (l.drop p)) q=1:=by
      have hA:(lat wdG.p.l (1:Int).toNat).a.l=[.of [syN 3]]:=rfl;rw[qDP hm (by omega) (by omega) hp,Jab,hA]
      · simp only[List.map_cons,List.map_nil,List.sum_cons,List.sum_nil,l_of]
        rw[qDX hm (by omega) (by omega) hp,qDZ hm q _ p hp hc.1 (Jac _)];rfl
      · rw[show qaN (wdE v mm l) q 1 p=(qaL (wdE v mm l) 1 p q).2 from rfl,h1,Jab hc]
        simp[endB]
    simp only[List.map_cons,List.map_nil,List.sum_cons,List.sum_nil];rw[show(syN 1).n=1 from rfl,h2,e1,qDX hm (by omega) (by omega) (by omega)];omega
  · rfl
omit hm in
def qDL:List (List UInt8)->List UInt8
  | []=>[]
  | w::ws=>32::(w++qDL ws)
end
def IsW(w:List UInt8):Prop:=w≠[]/\∀c∈w,letB c=true
theorem qD1{w t:List UInt8}(hw:∀c∈w,letB c=true)(ht:letN t=0):letN (w++t)=w.length:=by
  induction w with
  | nil=>exact ht
  | cons c w ih =>
    rw[List.cons_append,letN,Jab (hw c (by simp)),ih λd hd=>hw d (by simp[hd]),List.length_cons]
theorem qD2(ws:List (List UInt8)):letN (qDL ws)=0:=by
  cases ws with
  | nil=>rfl
  | cons w ws=>rw[qDL,letN,Jaa (by decide)]
def keyB(w:List UInt8):Bool:=decide (w=[105,102])||decide (w=[100,111])
section
variable {v:V}{mm:Nat}{l:List UInt8}
theorem qEh{p m:Nat}:qhy (wdE v mm l) p ((p:Int)+m) = !keyB ((l.drop p).take m):=by
  unfold qhy;rw[show((p:Int)).toNat=p by omega,show(((p:Int)+m-p)).toNat=m by omega];have:(wdE v mm l).g.keys.l=[[105,102],[100,111]]:=rfl;rw[this,show(wdE v mm l).w.l=l from rfl];congr 1;rw[Bool.eq_iff_iff];simp[keyB]
variable (hm:mayE (wdE v mm l)=true)
include hm
theorem qEy(q:Int):∀(ws:List (List UInt8)) (p:Nat),l.drop p=qDL ws->p+(qDL ws).length=l.length->(∀w∈ws,IsW w)->qvr (wdE v mm l) 2 p l.length q=if ws.all (λw=>!keyB w)=true then 1 else 0
  | [],p,h,hl,_=>by
    have hp:p=l.length:=by simpa[qDL]using hl
    have hA:(lat wdG.p.l (2:Int).toNat).a.l=[.of [sy1 32,syN 1,syN 2],.nil]:=rfl;have hsp:=wd_sp (l:=l) (p:=p) (by omega);rw[h,show(qDL []).head?=none from rfl,Jaa (by simp)]at hsp;rw[qDP hm (by omega) (by omega) (by omega),Jab,hA]
    · simp only[List.map_cons,List.map_nil,List.sum_cons,List.sum_nil,l_of,qEp]
      have h0:∀m u,qvs (qaN (wdE v mm l) q) (λn' k' u'=>qvr (wdE v mm l) n' k' u' q) l u (sy1 32::m) p=0:=λm u=>by
        rw[qvs,Jaa (show ¬(sy1 32).kind=2 by decide),hsp,Jaa (by decide)]
      rw[h0,qvs,Jab (by omega)];rfl
    · rw[show qaN (wdE v mm l) q 2 p=(qaL (wdE v mm l) 2 p q).2 from rfl,qD0 hm (by omega) (by omega) (by omega) (by omega)]
      unfold endB;rw[List.any_eq_true];refine⟨((p:Int),0),(qDU hm (by omega) (by omega) (by omega) q _).2 ⟨.nil,by rw[hA]; simp,?_⟩,by simp[hp]⟩;rw[qEp,AftP]
  | w::ws,p,h,hl,hw=>by
    have hw1:=hw w (by simp);rw[qDL]at h hl;simp only[List.length_cons,Jao]at hl;have hp:p<l.length:=by omega
    have hd:=qbu (l:=l) (i:=p) hp;rw[h]at hd;have hd1:l.drop (p+1)=w++qDL ws:=by
      have:=(List.cons.inj hd).2;exact this.symm
    have hln:letN (l.drop (p+1))=w.length:=by rw[hd1]; exact qD1 hw1.2 (qD2 ws)
    have hw0:0<w.length:=List.length_pos_iff.2 hw1.1;have hd2:l.drop (p+1+w.length)=qDL ws:=by
      rw[<-List.drop_drop,hd1,List.drop_left]
    have ih:=qEy q ws (p+1+w.length) hd2 (by omega) λw' h'=>hw w' (by simp[h']);have hA:(lat wdG.p.l (2:Int).toNat).a.l=[.of [sy1 32,syN 1,syN 2],.nil]:=rfl;have hsp:=wd_sp (l:=l) (p:=p) (by omega);rw[h,List.head?_cons,Jab rfl]at hsp;have hsum:((lat wdG.p.l (2:Int).toNat).a.l.map λa=>qvs (qaN (wdE v mm l) q) (λn' k' u'=>qvr (wdE v mm l) n' k' u' q) l l.length a.l p).sum=if(w::ws).all (λw=>!keyB w)=true then 1 else 0:=by
      rw[hA];simp only[List.map_cons,List.map_nil,List.sum_cons,List.sum_nil,l_of,qEp];have e1:(p:Int)+1=((p+1:Nat):Int):=rfl;have h0:∀m u,qvs (qaN (wdE v mm l) q) (λn' k' u'=>qvr (wdE v mm l) n' k' u' q) l u (sy1 32::m) p=qvs (qaN (wdE v mm l) q) (λn' k' u'=>qvr (wdE v mm l) n' k' u' q) l u m ((p+1:Nat):Int):=λm u=>by
        rw[qvs,Jaa (show ¬(sy1 32).kind=2 by decide),hsp,Jab (by decide),e1]
      rw[h0,qvs,Jaa (by omega),qEe hm q _ (by omega),hln,qEh,hd1,List.take_left];rw[show((p+1:Nat):Int)+(w.length:Nat)=((p+1+w.length:Nat):Int) by omega,ih,List.all_cons];cases keyB w with
      | true=>simp
      | false=>simp[hw0]
    rw[qDP hm (by omega) (by omega) (by omega),hsum]
    by_cases ha:(w::ws).all (λw=>!keyB w)=true
    · rw[Jab ha]at hsum ⊢
      rw[Jab];have hpos:0<((lat wdG.p.l (2:Int).toNat).a.l.map λa=>qvs (qaN (wdE v mm l) q) (λn' k' u'=>qvr (wdE v mm l) n' k' u' q) l l.length a.l p).sum:=by omega
      obtain⟨c,hc,hc0⟩:=qx2 hpos;obtain⟨a,ha2,rfl⟩:=Jak.1 hc;obtain⟨e,he,e1⟩:=qxK a.l [((p:Int),(0:Int))] _ (Jah.2 rfl) hc0;obtain⟨f,hf,hp2⟩:=(qDN (λn' k'=>(qd6 rfl n' k' q).2) a.l [((p:Int),(0:Int))] (by simp) _).1 ⟨e,he,rfl⟩;rw[Jah]at hf; subst hf;rw[show qaN (wdE v mm l) q 2 p=(qaL (wdE v mm l) 2 p q).2 from rfl,qD0 hm (by omega) (by omega) (by omega) (by omega)];unfold endB;rw[List.any_eq_true];exact⟨(e.1,0),(qDU hm (by omega) (by omega) (by omega) q _).2 ⟨a,ha2,hp2⟩,by simp[e1]⟩
    · rw[Jaa ha,ite_self]
theorem qEt{w:List UInt8}{ws:List (List UInt8)}(hl:l=w++qDL ws)(hw:∀u∈w::ws,IsW u)(q:Int):qvr (wdE v mm l) 0 0 l.length q=if(w::ws).all (λw=>!keyB w)=true then 1 else 0:=by
  have hw1:=hw w (by simp);have hw0:0<w.length:=List.length_pos_iff.2 hw1.1;have hll:l.length=w.length+(qDL ws).length:=by rw[hl,Jao]
  have hln:letN (l.drop 0)=w.length:=by rw[List.drop_zero,hl]; exact qD1 hw1.2 (qD2 ws)
  have hA:(lat wdG.p.l (0:Int).toNat).a.l=[.of [syN 1,syN 2]]:=rfl;have h2:=qEy hm q ws w.length (by rw[hl,List.drop_left]) (by omega) λu hu=>hw u (by simp[hu]);have hsum:((lat wdG.p.l (0:Int).toNat).a.l.map λa=>qvs (qaN (wdE v mm l) q) (λn' k' u'=>qvr (wdE v mm l) n' k' u' q) l l.length a.l ((0:Nat):Int)).sum=if(w::ws).all (λw=>!keyB w)=true then 1 else 0:=by
    rw[hA];simp only[List.map_cons,List.map_nil,List.sum_cons,List.sum_nil,l_of];rw[qEe hm q _ (by omega),hln,qEh,List.drop_zero,hl,List.take_left,<-hl];rw[show((0:Nat):Int)+(w.length:Nat)=((w.length:Nat):Int) by omega,h2,List.all_cons];cases keyB w with
    | true=>simp
    | false=>simp[hw0]
  have ht:=qDP hm (n:=0) (p:=0) (by omega) (by omega) (by omega) l.length q;rw[hsum]at ht;have hgoal:qvr (wdE v mm l) 0 0 l.length q=qvr (wdE v mm l) 0 ((0:Nat):Int) l.length q:=rfl;rw[hgoal,ht]
  by_cases ha:(w::ws).all (λw=>!keyB w)=true
  · rw[Jab ha]at hsum ⊢
    rw[Jab];have hpos:0<((lat wdG.p.l (0:Int).toNat).a.l.map λa=>qvs (qaN (wdE v mm l) q) (λn' k' u'=>qvr (wdE v mm l) n' k' u' q) l l.length a.l ((0:Nat):Int)).sum:=by omega
    obtain⟨c,hc,hc0⟩:=qx2 hpos;obtain⟨a,ha2,rfl⟩:=Jak.1 hc;obtain⟨e,he,e1⟩:=qxK a.l [(((0:Nat):Int),(0:Int))] _ (Jah.2 rfl) hc0;obtain⟨f,hf,hp2⟩:=(qDN (λn' k'=>(qd6 rfl n' k' q).2) a.l [(((0:Nat):Int),(0:Int))] (by simp) _).1 ⟨e,he,rfl⟩;rw[Jah]at hf; subst hf;rw[show qaN (wdE v mm l) q 0 ((0:Nat):Int)=(qaL (wdE v mm l) 0 ((0:Nat):Int) q).2 from rfl,qD0 hm (by omega) (by omega) (by omega) (by omega)];unfold endB;rw[List.any_eq_true];exact⟨(e.1,0),(qDU hm (by omega) (by omega) (by omega) q _).2 ⟨a,ha2,hp2⟩,by simp[e1]⟩
  · rw[Jaa ha,ite_self]
end
section
variable {x:Ev}(hx:EvW x) {q:Int}{Lk:Int->Int->List En}
 (hq:∀n k:Int,0<=n->n<x.g.p.l.length->0<=k->k<=x.w.l.length->refV x n k q=q)
 (hL:∀n k:Int,0<=n->n<x.g.p.l.length->0<=k->k<=x.w.l.length->(qaL x n k q).2=Lk n k)
include hx hq hL
end
theorem qxy{x y:Ev}(hm:mayE x=true)(hg:y.g=x.g)(ht:y.tab=x.tab)(hw:y.w.l.length<=200):mayE y=true:=by
 simp only[mayE,Jad,Jai]at hm ⊢;rw[hg,ht];exact⟨hm.1,hw,hm.2.2⟩
section
variable {mk n:Nat}{h:Heap}
theorem qs9{α : Type}{f : α->List V}{k:Nat}(hf:∀a,allM (freeze n h k) (f a)=some (f a)):∀l:List α,allM (allM (freeze n h k)) (l.map f)=some (l.map f)
 | []=>rfl
 | a::l=>by simp only[List.map_cons,allM,hf,qs9 hf l]
theorem qtm{α : Type}{f : α->List V}{k:Nat}(hf:∀a,allM (freeze n h k) (f a)=some (f a))(s:Sl α):freeze n h (k+1) (s.enc f)=some (s.enc f):=by
 cases s with
 | nil=>rfl
 | of l=>simp only[Sl.enc,freeze,qs9 hf l]
 | full l=>simp only[Sl.enc,freeze,qs9 hf l]
end
def Awake0(f:Nat):Prop:=∀(d:Bool),WF PR d 0 (.fn f [] []) [] ⟨0,.e⟩ λr=>r=⟨.bool true,⟨0,.e⟩⟩
def wdC:List V:=[.slR [[.slR [[.slR [[.int .i64 2,.nils,.int .i64 1],[.int .i64 2,.nils,.int .i64 2]] false]] false,.int .i64 0,.nils],[.slR [[.slR [[.int .i64 2,.nils,.int .i64 3]] false]] false,.int .i64 3,.nils],[.slR [[.slR [[.int .i64 0,.slR [[.int .i64 32,.int .i64 32]] false,.int .i64 0],[.int .i64 2,.nils,.int .i64 1],[.int .i64 2,.nils,.int .i64 2]] false],[.nils]] true,.int .i64 0,.nils],[.slR [[.slR [[.int .i64 1,.slR [[.int .i64 97,.int .i64 122]] false,.int .i64 0],[.int .i64 2,.nils,.int .i64 3]] false],[.slR [[.int .i64 1,.slR [[.int .i64 97,.int .i64 122]] false,.int .i64 0]] false]] true,.int .i64 0,.nils]] false,.slR [[.str [105,102]],[.str [100,111]]] false]
theorem qEk:wdG.Fine:=⟨⟨by decide,by decide,by decide,by decide,by decide⟩,by decide⟩
theorem wdRg:∀p∈wdG.p.l,∀a∈p.a.l,∀s∈a.l,s.r.l.length<1500000:=by decide
def wdN:Ev:=⟨wdG,⟨.nils,[],0⟩,8,false⟩
def exT:List UInt8:=[97,32,61,32,34,120,34,59]
def exA:List V:=[.int .i64 1,.slR [[.int .i64 0,.int .i64 0,.int .i64 0,.int .i64 1]] true,.int .i64 1]
def exB:List V:=[.int .i64 0,.nils,.int .i64 1]
def exC:List V:=[.int .i64 3,.nils,.int .i64 0]
def exH1:Heap:=(⟨0,.e⟩:Heap).push (.rows [[.int .u8 120]])
def exH2:Heap:=((exH1.push (.rows [[.int .i64 0,.nils,.int .i64 0]])).set 1 (.rows [exA])).push (.rows [[.int .u8 121]])
def exH3:Heap:=((exH2.push (.rows [[.int .i64 0,.nils,.int .i64 0]])).set 3 (.rows [exB])).push (.rows [[.int .u8 120]])
def exH4:Heap:=(exH3.push (.rows [[.int .i64 0,.nils,.int .i64 0]])).set 5 (.rows [exC])
theorem runMw:evCall PR 4000 1 (.fn 312 [] []) [.agg wdN.cells] ⟨0,.e⟩=some [⟨.bool true,⟨0,.e⟩⟩]:=by kernel_rfl
theorem wdMay:mayE wdN=true:=qwf qEk (.inl ⟨.nil,rfl,rfl⟩) runMw
theorem wdMayE(v:V)(mm:Nat){l:List UInt8}(h:l.length<=200):mayE (wdE v mm l)=true:=qxy (x:=wdN) wdMay rfl rfl h
theorem qe2{α : Type} [DecidableEq α]:∀{l m:List α},l.Nodup->(∀x∈l,x∈m)->l.length<=m.length
 | [],_,_,_=>by simp
 | x::l,m,hn,h=>by
  rw[List.nodup_cons]at hn;have hx:=h x (by simp);have:=qe2 (m:=m.erase x) hn.2 λy hy=>(List.mem_erase_of_ne (by rintro rfl; exact hn.1 hy)).2 (h y (by simp[hy]));rw[List.length_erase_of_mem hx]at this;have:0<m.length:=List.length_pos_of_mem hx;simp only[List.length_cons]; omega
theorem qeA{α β : Type}{f : α->List β}{c:Nat}:∀{l:List α},(∀x∈l,(f x).length=c)->(l.flatMap f).length=l.length * c
 | [],_=>by simp
 | x::l,h=>by
  rw[List.flatMap_cons,Jao,qeA λy hy=>h y (by simp[hy]),h x (by simp),List.length_cons,Nat.succ_mul]; omega
def refsL(x:Ev)(r0:Int):List Int:=r0::(List.range (x.w.l.length+1)).map λj=>colV x.w.l x.tab (j:Nat)
def qnt(x:Ev)(r0:Int):List Spt:=(List.range x.g.p.l.length).flatMap λn:Nat=>(List.range (x.w.l.length+1)).flatMap λk:Nat=>(refsL x r0).map λr=>((n:Int),(k:Int),r)
theorem qmd(x:Ev)(r0:Int):(qnt x r0).length=x.g.p.l.length * ((x.w.l.length+1) * (x.w.l.length+2)):=by
 unfold qnt;rw[qeA (c:=(x.w.l.length+1) * (x.w.l.length+2)),List.length_range];intro n _;rw[qeA (c:=x.w.l.length+2),List.length_range];intro k _;simp[refsL]
theorem qpe{x:Ev}{r0:Int}{p:Spt}(h:SptOk x r0 p):p∈qnt x r0:=by
 obtain⟨n,k,r⟩:=p;obtain⟨n0,n1,k0,k1,hr⟩:=h;simp only at n0 n1 k0 k1 hr;refine List.mem_flatMap.2 ⟨n.toNat,List.mem_range.2 (by omega),List.mem_flatMap.2 ⟨k.toNat,List.mem_range.2 (by omega),Jak.2 ⟨r,?_,?_⟩⟩⟩
 ·rcases hr with rfl|⟨j,j0,j1,rfl⟩
  ·exact List.mem_cons_self
  ·exact List.mem_cons_of_mem _ (Jak.2 ⟨j.toNat,List.mem_range.2 (by omega),by rw[Int.toNat_of_nonneg j0]⟩)
 ·rw[Int.toNat_of_nonneg n0,Int.toNat_of_nonneg k0]
theorem qkc{κ β : Type} [DecidableEq κ] {k : κ}:∀{l:List (κ × β)},k∈l.map (·.1)->∃v,qaS k l=some v
 | [],h=>by simp at h
 | e::l,h=>by
  simp only[qaS]
  by_cases c:k=e.1
  ·exact⟨e.2,Jab c⟩
  ·rw[Jaa c];simp only[List.map_cons,Jag]at h;exact qkc (h.resolve_left c)
theorem LkE.size{x:Ev}{r0:Int}{K M:Nat}{h:Heap}(hL:LkE x r0 K M h){es:List (Nat × V × V)}{c:Nat}(he:h.get M=some (.map es c)):es.length<=x.g.p.l.length * ((x.w.l.length+1) * (x.w.l.length+2)):=by
 obtain⟨es',c',S,e1,e2,e3,e4⟩:=hL.m;rw[he]at e1;cases e1;have hl:es.length=(S.map (·.1)).length:=by have:=congrArg List.length e2; simpa using this
 rw[hl,<-qmd x r0];refine qe2 e3 λp hp=>?_;obtain⟨v,hv⟩:=qkc hp;exact qpe (e4 p v hv).1
def qnr(x:Ev)(n:Int):Prop:=(mayE x=false->n=0)/\(mayE x=true->1<=n/\n<=(x.g.p.l.length * ((x.w.l.length+1) * (x.w.l.length+2)):Nat))
theorem qqu{mk:Nat}{h:Heap}(x:Ev)(hx:EvS x)(hg:x.g.Fine)(hr:∀p∈x.g.p.l,∀a∈p.a.l,∀s∈a.l,s.r.l.length<1500000)(hB:WB h x.w)(hm:x.w.m<=h.n) :
  WF PR false mk (.fn 316 [] []) [.agg x.cells] h λv=>v.h=h/\∃n,v.v=.int .i64 n/\qnr x n:=by
 refine qBE (F:=f316) rfl rfl rfl (Nat.le_of_ble_eq_true rfl) (Q:=λv=>∃n,v=.int .i64 n/\qnr x n) ?_;refine qef b316 [.tm 2] rfl rfl ?_;unfold b316;have e5:[Sl.enc Pd.cells x.g.p,Sl.enc qac x.g.keys,x.w.v,V.int IntKind.i64 x.tab,V.bool x.heal]=x.cells:=rfl;simp -dsimp[Ev.cells];rw[e5];obtain⟨H,hH⟩:∃H,h.push (Obj.rows [x.cells])=H:=⟨_,rfl⟩;have g0:H.get h.n=some (.rows [x.cells]):=by rw[<-hH]; simp
 have gn:H.n=h.n+1:=by rw[<-hH]; simp
 have gk:∀i,i<h.n->H.get i=h.get i:=λi hi=>by rw[<-hH]; simp[show ¬i=h.n by omega]
 have hB2:WB H x.w:=hB.keep λi hi=>gk i (by omega);rw[hH];refine WFS.by (qbJ x hg hB2) ?_
 intro v h' e;cases e;simp -dsimp;cases hmay:mayE x with
 | false =>
  simp -dsimp;exact⟨λ_=>rfl,λh=>by rw[hmay]at h; cases h⟩
 | true =>
  have hw:=qbq hmay;have hn0:0<x.g.p.l.length:=(qaF hw.m).p0;simp -dsimp[g0,Ev.cells];have hL:LkE x (-1) (H.n+1) H.n ((H.push (Obj.map [] 0)).push (Obj.rows [qba x H.n])):=by
   refine⟨by simp,⟨[],0,[],by simp,MapR.nil,List.nodup_nil,λp v hv=>by simp[qaS]at hv⟩,by simp,by simp<;>omega,by omega,hB2.keep λi hi=>?_,by omega,by omega⟩;rw[qBq,Jaa (by simp; omega),qBq,Jaa (by omega)]
  refine WFS.by (qgS hx hw hr _ 0 0 (-1) (Nat.lt_succ_self _) (by omega) (by omega) (by omega) (by omega) (.inl rfl) h.n _ (H.n+1) H.n hL (by omega) (by omega)) ?_
  rintro v H5 ⟨rfl,hL5,hF5,es,c,hM,hne⟩;simp only at hL5 hF5 hM;have hlen:lenV .map (.map H.n) H5=some (.int .i64 es.length):=by simp[lenV,hM]
  have hsz:=hL5.size hM;have hne':0<es.length:=List.length_pos_iff.2 hne;simp -dsimp[hL5.k,qba,qcT,hlen];exact⟨λh=>(by rw[hmay]at h; cases h),λ_=>⟨by omega,by exact_mod_cast hsz⟩⟩
set_option linter.unusedSimpArgs false
def waysV:V:=.agg [.int .i64 0,.fn 438 [] [],.int .i64 1,.fn 439 [] [],.int .i64 2,.fn 439 [] []]
theorem qEl{d:Bool}{mk:Nat}{h:Heap}:WF PR d mk (.fn 434 [] []) [] h λr=>r=⟨waysV,h⟩:=by
 refine qBt f434 b434 [.cell (some 6) 0] rfl rfl rfl rfl rfl rfl ?_;unfold b434;simp -dsimp[qbW];rfl
theorem frz_nd(k:Nat){n:Nat}{h:Heap}(a:Nd):allM (freeze n h (k+1)) (qui a)=some (qui a):=rfl
theorem qEb{d:Bool}{mk:Nat}{h:Heap}(x:Ev):WF PR d mk (.fn 438 [] []) [.agg x.cells] h λr=>r.v=.nils/\h.n<=r.h.n/\∀i,i<h.n->r.h.get i=h.get i:=by
 refine WF.go f438 b438 [.tm 2] rfl rfl rfl rfl rfl rfl ?_;unfold b438;simp -dsimp[Ev.cells];exact λi hi e=>absurd e (by omega)
section
variable {x:Ev}{mk:Nat}{h:Heap}(hx:EvS x) (hg:x.g.Fine) (hr:∀p∈x.g.p.l,∀a∈p.a.l,∀s∈a.l,s.r.l.length<1500000) (hB:WB h x.w) (hwm:x.w.m<=h.n) (hm:mayE x=true)
  (hq:∀n k:Int,0<=n->n<x.g.p.l.length->0<=k->k<=x.w.l.length->refV x n k (-1) = -1)
  (hsz:∀n k:Int,0<=n->n<x.g.p.l.length->0<=k->k<=x.w.l.length->∀e∈(qaL x n k (-1)).2,(lstN x n k e.1 (-1) e.2).length<1000000)
include hx hg hr hB hwm hm hq hsz
theorem qD5{d:Bool}(he:∃e∈(qaL x 0 0 (-1)).2,e.1=x.w.l.length):WF PR d mk (.fn 439 [] []) [.agg x.cells] h λr=>(∃s:Sl Nd,r.v=s.enc qui)/\h.n<=r.h.n/\∀i,i<h.n->r.h.get i=h.get i:=by
 refine WF.go f439 b439 [.tm 2] rfl rfl rfl rfl rfl rfl ?_;unfold b439;have e5:[Sl.enc Pd.cells x.g.p,Sl.enc qac x.g.keys,x.w.v,V.int IntKind.i64 x.tab,V.bool x.heal]=x.cells:=rfl;have hwl:∀H,lenV .sl x.w.v H=some (.int .i64 x.w.l.length):=λH=>hB.len;have hp0:=(qaF (qbq hm).m).p0;obtain⟨e,he,e1⟩:=he;simp -dsimp[Ev.cells,hwl];rw[e5,<-e1];refine WFS.by (qwT hx hg hr (h:=h.push (.rows [x.cells])) (hB.keep λi hi=>by rw[qBq,Jaa (by omega)]) (by simp; omega) hm hq hsz (Int.le_refl 0) (by omega) (Int.le_refl 0) (by omega) he) ?_
 rintro v h' ⟨e2,s,_,e3⟩;simp only at e2 e3;subst e2 e3;simp -dsimp;exact⟨⟨s,rfl⟩,λi hi e=>absurd e (by omega)⟩
theorem qD4(hh:x.heal=false){b:Int}(hb:((x.g.p.l.length * ((x.w.l.length+1) * (x.w.l.length+2)):Nat):Int)<=b) :
  WF PR false mk (.fn 430 [] []) [.agg x.cells,.int .i64 b] h λr=>r.h=h/\∃(s:Sl Nd) (n:Int),r.v=.tup [.agg [.int .i64 (qvt x 0 0 x.w.l.length (-1)),s.enc qui,.int .i64 n],.int .i64 0]:=by
 refine qBE (F:=f430) (Q:=λv=>∃(s:Sl Nd) (n:Int),v=.tup [.agg [.int .i64 (qvt x 0 0 x.w.l.length (-1)),s.enc qui,.int .i64 n],.int .i64 0]) rfl rfl rfl (Nat.le_of_ble_eq_true rfl) ?_;refine qef b430 [.cell (some 3) 4,.tm 5] rfl rfl ?_;unfold b430;have e5:[Sl.enc Pd.cells x.g.p,Sl.enc qac x.g.keys,x.w.v,V.int IntKind.i64 x.tab,V.bool x.heal]=x.cells:=rfl;have hwl:∀H,lenV .sl x.w.v H=some (.int .i64 x.w.l.length):=λH=>hB.len;have hW:=(qbq hm).w;have hone:x.w.v.one=true:=hB.cells.2;have hwc:=hB.cells.1;have c200:¬(200:Int)<x.w.l.length:=by omega
 have cb:¬b<0:=by omega
 have hc:=qvG x 0 0 x.w.l.length (-1);have hcalm:x.calm=x:=by unfold Ev.calm; rw[<-hh]
 obtain⟨H,hH⟩:∃H,((h.push (Obj.rows [x.cells])).push (.rows [[.int .i64 0,.nils,.int .i64 0]])).set h.n (.rows [x.cells])=H:=⟨_,rfl⟩;have g0:H.get h.n=some (.rows [[x.g.p.enc Pd.cells,x.g.keys.enc qac,x.w.v,.int .i64 x.tab,.bool x.heal]]):=by rw[<-hH,qBp,Jab rfl]; rfl
 have g1:H.get (h.n+1)=some (.rows [[.int .i64 0,.nils,.int .i64 0]]):=by rw[<-hH,qBp,Jaa (by omega)]; simp
 have gn:H.n=h.n+2:=by rw[<-hH]; simp
 have gk:∀i,i<h.n->H.get i=h.get i:=λi hi=>by rw[<-hH,qBp,Jaa (by omega),qBq,Jaa (by simp; omega),qBq,Jaa (by omega)]
 have hB2:WB H x.w:=hB.keep λi hi=>gk i (by omega);have p1:((h.push (Obj.rows [x.cells])).push (.rows [[.int .i64 0,.nils,.int .i64 0]])).get h.n=some (.rows [[x.g.p.enc Pd.cells,x.g.keys.enc qac,x.w.v,.int .i64 x.tab,.bool x.heal]]):=by simp; rfl
 simp -dsimp[Ev.cells,-qar];rw[qar];simp -dsimp[Ev.cells,-qar];rw[e5,qar];have hxf:[Sl.enc Pd.cells x.g.p,Sl.enc qac x.g.keys,x.w.v,V.int IntKind.i64 x.tab,V.bool false]=x.cells:=by rw[<-hh]; rfl
 simp -dsimp[p1,-qar];rw[hxf,hH];simp -dsimp[g0,hwl,c200,cb];rw[e5];refine WFS.by (qbJ x hg hB2) ?_
 intro v h' e;cases e;rw[hm];simp -dsimp[g0];rw[e5];refine WFS.by (qqu x hx hg hr hB2 (by omega)) ?_
 rintro v h' ⟨e0,n,e1,_,hn⟩;simp only at e0 e1;subst e0 e1;obtain⟨hn1,hn2⟩:=hn hm;have cn:¬b<n:=by omega
 obtain⟨c,hcc⟩:∃c,qvt x 0 0 x.w.l.length (-1)=c:=⟨_,rfl⟩;have hAll:∀{d:Bool}{mk:Nat},WF PR d mk (.fn 388 [] []) [.agg x.cells] h' λq=>q=⟨.int .i64 c,h'⟩:=λ{d mk}=>by
  have:=qwa (d:=d) (mk:=mk) hx hg hr hB2 (by omega)
  rwa [hcalm,hcc]at this
 rw[hcc]at hc ⊢;simp -dsimp[cn];refine OneS.by (One.of (h':=h') rfl qEl) ?_
 simp -dsimp[g0];rw[e5];refine OneS.by (One.of (h':=h') rfl hAll) ?_
 have hF:∃f,qfF 3 2 true waysV (.int .i64 c)=some (.agg [.int .i64 c,.fn f [] []])/\∀(d:Bool) (mk:Nat) (H':Heap),h.n<=H'.n->(∀i,i<h.n->H'.get i=h.get i)->WF PR d mk (.fn f [] []) [.agg x.cells] H' λr=>(∃s:Sl Nd,r.v=s.enc qui)/\H'.n<=r.h.n/\∀i,i<H'.n->r.h.get i=H'.get i:=by
  by_cases z:c=0
  ·refine⟨438,by rw[z]; rfl,λd mk H' _ _=>(qEb x).mono ?_⟩;rintro r ⟨a,b,e⟩;exact⟨⟨.nil,a⟩,b,e⟩
  ·have hpos:0<qvt x 0 0 x.w.l.length (-1):=by omega
   rw[qvI hh]at hpos;unfold endB ofE at hpos;split at hpos
   ·obtain⟨e,he,h2⟩:=List.any_eq_true.1 hpos;refine⟨439,?_,λd mk H' a b=>qD5 hx hg hr (hB.keep λi hi=>b i (by omega)) (by omega) hm hq hsz ⟨e,he,of_decide_eq_true h2⟩⟩;have:c=1\/c=2:=by omega
    rcases this with rfl|rfl<;>rfl
   ·cases hpos
 obtain⟨f,hi,hF⟩:=hF;have nle:h.n<=h'.n:=by omega
 have hn0:¬h.n=h'.n:=by omega
 have hn01:¬h.n+1=h'.n:=by omega
 have hAll2:∀{d:Bool}{mk:Nat},WF PR d mk (.fn 388 [] []) [.agg x.cells] (h'.push (Obj.rows [[V.int IntKind.i64 0,V.nilf]])) λq=>q=⟨.int .i64 c,h'.push (Obj.rows [[V.int IntKind.i64 0,V.nilf]])⟩:=λ{d mk}=>by
  have:=qwa (d:=d) (mk:=mk) hx hg hr (h:=h'.push (Obj.rows [[V.int IntKind.i64 0,V.nilf]])) (hB2.keep λi hi=>by rw[qBq,Jaa (by omega)]) (by simp; omega)
  rwa [hcalm,hcc]at this
 obtain⟨H2,hH2⟩:∃H2,(h'.push (Obj.rows [[V.int IntKind.i64 0,V.nilf]])).set h'.n (Obj.rows [[V.int IntKind.i64 c,V.fn f [] []]])=H2:=⟨_,rfl⟩;have k0:H2.get h.n=some (.rows [[x.g.p.enc Pd.cells,x.g.keys.enc qac,x.w.v,.int .i64 x.tab,.bool x.heal]]):=by rw[<-hH2,qBp,Jaa hn0,qBq,Jaa hn0,g0]
 have k1:H2.get (h.n+1)=some (.rows [[.int .i64 0,.nils,.int .i64 0]]):=by rw[<-hH2,qBp,Jaa hn01,qBq,Jaa hn01,g1]
 have k2:H2.get h'.n=some (.rows [[.int .i64 c,.fn f [] []]]):=by rw[<-hH2,qBp,Jab rfl]
 have kn:H2.n=h'.n+1:=by rw[<-hH2]; simp
 have kk:∀i,i<h.n->H2.get i=h.get i:=λi hi=>by rw[<-hH2,qBp,Jaa (by omega),qBq,Jaa (by omega),gk i hi]
 simp -dsimp[hi,qbW,nle,hn0,g0];rw[hH2];refine⟨⟨qBj rfl rfl ?_,qA6 rfl rfl (v:=.agg x.cells) ?_ ?_,qBj rfl rfl ?_⟩,?_⟩
 ·simp -dsimp;exact One.of rfl qEl
 ·simp -dsimp[hn0,g0]; rfl
 ·simp -dsimp
 ·simp -dsimp;exact One.of rfl hAll2
 rw[e5];refine WFS.by (hF true h.n H2 (by omega) kk) ?_
 rintro v H3 ⟨⟨s,e⟩,m1,m2⟩;simp only at e m1 m2;subst e;have q1:H3.get (h.n+1)=some (.rows [[.int .i64 0,.nils,.int .i64 0]]):=by rw[m2 _ (by omega),k1]
 have q2:H3.get h'.n=some (.rows [[.int .i64 c,.fn f [] []]]):=by rw[m2 _ (by omega),k2]
 have nle1:h.n<=h.n+1:=by omega
 have hn2:¬h'.n=h.n+1:=by omega
 have hse:(s.enc qui).cells=[s.enc qui]:=by simp
 simp -dsimp[qbW,hse,q1,q2,nle1,hn2];rw[qgB];simp -dsimp;obtain⟨H4,hH4⟩:∃H4,H3.set (h.n+1) (Obj.rows [[V.int IntKind.i64 c,Sl.enc qui s,V.int IntKind.i64 n]])=H4:=⟨_,rfl⟩;rw[hH4];have hfs:=qtm (n:=h.n) (h:=H4) (frz_nd 12) s;refine⟨_,?_,s,n,rfl⟩;have fi:∀m z,freeze h.n H4 (m+1) (.int .i64 z)=some (.int .i64 z):=λ_ _=>rfl;have fa:freeze h.n H4 15 (.agg [V.int IntKind.i64 c,Sl.enc qui s,V.int IntKind.i64 n])=some (.agg [V.int IntKind.i64 c,Sl.enc qui s,V.int IntKind.i64 n]):=by
  show(match allM (freeze h.n H4 14) [V.int IntKind.i64 c,Sl.enc qui s,V.int IntKind.i64 n]with|some r=>some (V.agg r)|none=>none)=_;simp only[allM,fi 13,hfs]
 show(match allM (freeze h.n H4 15) [V.agg [V.int IntKind.i64 c,Sl.enc qui s,V.int IntKind.i64 n],V.int IntKind.i64 0]with|some r=>some (V.tup r)|none=>none)=_;simp only[allM,fa,fi 14]
end
end Go.Abs

