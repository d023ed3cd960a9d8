/- The evaluator is sound: what it comes to the machine comes to. -/
import Derived.Orders
import Derived.Defers
import Derived.Test.YtaknodpgafomdabGreatDoorAs1
set_option linter.unusedSimpArgs false
set_option linter.unusedVariables false
namespace Go.Abs
open Go
variable {e:Env}{base:Nat}
structure qaZ (e:Env) (base:Nat) (l:List Ins) (T:Nat->St):Prop where
 step:∀(i:Nat) (li:Ins),l[i]?=some li->∃f,effI li e base (T i).tm (T i).h (T i).round=some [f]/\T (i+1)=putE li.dst f (T i)
section
variable {l:List Ins}{T:Nat->St}{bs:Nat->List Nat}{na:Nat}{chk:List (Nat × Nat)}
theorem qaZ.round(t:qaZ e base l T):∀i,i<=l.length->(T i).round=(T 0).round
 | 0,_=>rfl
 | i+1,hi=>by
  obtain⟨f,_,h⟩:=t.step i l[i] (Jal (by omega));rw[h,qhK,t.round i (by omega)]
theorem qaZ.stay(t:qaZ e base l T){s:Nat}:∀(d j:Nat),j+d=l.length->(∀(k:Nat) (lk:Ins),j<=k->l[k]?=some lk->lk.dst≠some s)->(gK s).run (T l.length).tm=(gK s).run (T j).tm
 | 0,j,hj,_=>by simp at hj; rw[hj]
 | d+1,j,hj,hw=>by
  have hlt:j<l.length:=by omega
  obtain⟨f,_,h⟩:=t.step j l[j] (Jal hlt);rw[t.stay d (j+1) (by omega) λk lk hk=>hw k lk (by omega),h,qgD,Jaa (hw j _ (Jac _) (Jal hlt))]
theorem qaZ.pre(t:qaZ e base l T){s:Nat}:∀(j:Nat),j<=l.length->(∀(k:Nat) (lk:Ins),k<j->l[k]?=some lk->lk.dst≠some s)->(gK s).run (T j).tm=(gK s).run (T 0).tm
 | 0,_,_=>rfl
 | j+1,hj,hw=>by
  have hlt:j<l.length:=by omega
  obtain⟨f,_,h⟩:=t.step j l[j] (Jal hlt);rw[h,qgD,Jaa (hw j _ (Nat.lt_succ_self _) (Jal hlt)),t.pre j (by omega) λk lk hk=>hw k lk (by omega)]
theorem qaZ.final(t:qaZ e base l T)(ok:qfp l bs na chk){i:Nat}{li:Ins}(hi:l[i]?=some li){s:Nat}(hs:li.dst=some s){f:Eff}(he:T (i+1)=putE li.dst f (T i)):(gK s).run (T l.length).tm=f.v:=by
 have hlt:i<l.length:=(Jam.1 hi).1;rw[t.stay (l.length-(i+1)) (i+1) (by omega) λk lk hk hlk hd=>ok.dst i k li lk s (by omega) hi hlk hs hd,he,qgD,Jab hs]
def isW(l:List Ins)(k:Nat):Prop:=∃lk,l[k]?=some lk/\lk.op.cls=.w
open Classical in
theorem qoD(p:Nat->Prop):∀(d a:Nat),(∀k,a<=k->k<a+d->¬p k)\/∃k,a<=k/\k<a+d/\p k/\∀k',a<=k'->k'<k->¬p k'
 | 0,a=>.inl λk h1 h2=>by omega
 | d+1,a=>by
  by_cases h:p a
  ·exact .inr ⟨a,Jac _,by omega,h,λk' h1 h2=>by omega⟩
  ·rcases qoD p d (a+1)with h1|⟨k,h1,h2,h3,h4⟩
   ·left; intro k hk1 hk2
    by_cases e:k=a
    ·subst e; exact h
    ·exact h1 k (by omega) (by omega)
   ·right; refine⟨k,by omega,by omega,h3,λk' hk1 hk2=>?_⟩
    by_cases e:k'=a
    ·subst e; exact h
    ·exact h4 k' (by omega) hk2
open Classical in
theorem qqQ(p:Nat->Prop)(a:Nat):∀(d:Nat),(∀k,a<=k->k<a+d->¬p k)\/∃k,a<=k/\k<a+d/\p k/\∀k',k<k'->k'<a+d->¬p k'
 | 0=>.inl λk h1 h2=>by omega
 | d+1=>by
  by_cases h:p (a+d)
  ·exact .inr ⟨a+d,by omega,by omega,h,λk' h1 h2=>by omega⟩
  ·rcases qqQ p a d with h1|⟨k,h1,h2,h3,h4⟩
   ·left; intro k hk1 hk2
    by_cases e:k=a+d
    ·subst e; exact h
    ·exact h1 k hk1 (by omega)
   ·right; refine⟨k,h1,by omega,h3,λk' hk1 hk2=>?_⟩
    by_cases e:k'=a+d
    ·subst e; exact h
    ·exact h4 k' hk1 (by omega)
theorem qaZ.quiet(t:qaZ e base l T)(ok:qfp l bs na chk)(h0:na=0){a:Nat}:∀(d:Nat),a+d<=l.length->(∀k,a<=k->k<a+d->¬isW l k)->(T (a+d)).h=(T a).h/\(T (a+d)).defs=(T a).defs
 | 0,_,_=>⟨rfl,rfl⟩
 | d+1,hd,hq=>by
  obtain⟨h1,h2⟩:=t.quiet ok h0 d (by omega) λk hk1 hk2=>hq k hk1 (by omega);have hlt:a+d<l.length:=by omega
  have hget:=Jal hlt;obtain⟨f,he,h⟩:=t.step (a+d) _ hget;have hnw:=hq (a+d) (by omega) (by omega);have hf:f.h=(T (a+d)).h/\f.d=[]:=by
   cases hc:l[a+d].op.cls with
   | n=>exact⟨(qmV hc he).1,(qmV hc he).2.1⟩
   | r=>exact qoK hc he
   | a p=>have:=ok.ap _ _ p hget hc; omega
   | w=>exact absurd ⟨_,hget,hc⟩ hnw
  rw[show a+(d+1)=a+d+1 by omega,h];simp only[qjj,qgE,hf.1,hf.2,List.nil_append,h1,h2,and_self]
structure Sim (l:List Ins) (T:Nat->St) (base na:Nat) (S:Nat->Prop) (g:St):Prop where
 i1:∀(i:Nat) (li:Ins) (s:Nat),S i->l[i]?=some li->li.dst=some s->(gK s).run g.tm=(gK s).run (T l.length).tm
 i2:∀s,(∀(i:Nat) (li:Ins),S i->l[i]?=some li->li.dst≠some s)->(gK s).run g.tm=(gK s).run (T 0).tm
 i3:g.round=(T 0).round
 hw:na=0->∃m,m<=l.length/\(∀k,isW l k->(S k↔k<m))/\g.h=(T m).h/\g.defs=(T m).defs
 ha:na≠0->g.defs=(T 0).defs/\g.h.n=(T 0).h.n/\(∀id,(∀(i:Nat) (li:Ins) (p:Nat),S i->l[i]?=some li->li.op.cls=.a p->id≠base+p)->g.h.get id=(T 0).h.get id) /\
  ∀(i:Nat) (li:Ins) (p:Nat),S i->l[i]?=some li->li.op.cls=.a p->g.h.get (base+p)=(T l.length).h.get (base+p)
theorem qC7:Sim l T base na (λ_=>False) (T 0) where
 i1:=λi li s h=>h.elim
 i2:=λs _=>rfl
 i3:=rfl
 hw:=λ_=>⟨0,Nat.zero_le _,λk _=>⟨λh=>h.elim,λh=>by omega⟩,rfl,rfl⟩
 ha:=λ_=>⟨rfl,rfl,λid _=>rfl,λi li p h=>h.elim⟩
variable {S:Nat->Prop}{g:St}
theorem Sim.agree(t:qaZ e base l T)(ok:qfp l bs na chk)(sm:Sim l T base na S g){i:Nat}{li:Ins}(hi:l[i]?=some li)(hS:¬S i)(hb:∀j∈bs i,S j)(hdc:∀j,S j->∀i∈bs j,S i):qbF li.looks g.tm (T i).tm:=by
 intro s hs;have hlt:i<l.length:=(Jam.1 hi).1
 by_cases hw:∃j lj,j≠i/\l[j]?=some lj/\lj.dst=some s
 ·obtain⟨j,lj,hji,hj,hd⟩:=hw;rcases ok.look i j li lj s (λe=>hji e.symm) hi hj hd hs with ⟨k1,k2⟩|⟨_,k1,k2⟩
  ·rw[sm.i1 j lj s (hb j k1) hj hd];exact t.stay (l.length-i) i (by omega) λk lk hk hlk hdk=>ok.dst j k lj lk s (by omega) hj hlk hd hdk
  ·have hSj:¬S j:=λh=>hS (hdc j h i k1);rw[sm.i2 s λq lq hSq hq hdq=>ok.dst j q lj lq s (λe=>hSj (e ▸ hSq)) hj hq hd hdq,t.pre i (by omega) λk lk hk hlk hdk=>ok.dst j k lj lk s (by omega) hj hlk hd hdk]
 ·rw[sm.i2 s λj lj hSj hj hd=>hw ⟨j,lj,λe=>hS (e ▸ hSj),hj,hd⟩,t.pre i (by omega) λk lk hk hlk hd=>hw ⟨k,lk,by omega,hlk,hd⟩]
theorem qaZ.agree_end(t:qaZ e base l T)(ok:qfp l bs na chk){i:Nat}{li:Ins}(hi:l[i]?=some li)(hc:li.op.cls=.r):qbF li.looks (T l.length).tm (T i).tm:=by
 intro s hs;have hlt:i<l.length:=(Jam.1 hi).1;refine t.stay (l.length-i) i (by omega) λk lk hk hlk hd=>?_
 by_cases e:k=i
 ·subst e; rw[hi]at hlk; cases hlk;exact ok.own k li s hi hc hd hs
 ·rcases ok.look i k li lk s (λh=>e h.symm) hi hlk hd hs with h|⟨h,_⟩
  ·omega
  ·exact h hc
end
variable {e:Env}{base:Nat}{l:List Ins}{T:Nat->St}{bs:Nat->List Nat}{na:Nat}{chk:List (Nat × Nat)}{S:Nat->Prop}{g:St}
theorem qaZ.holes(t:qaZ e base l T)(ok:qfp l bs na chk)(h0:na≠0){a:Nat}:∀(d:Nat),a+d<=l.length->(T (a+d)).h.n=(T a).h.n/\(T (a+d)).defs=(T a).defs /\
  ∀id,(∀(i:Nat) (li:Ins) (p:Nat),a<=i->i<a+d->l[i]?=some li->li.op.cls=.a p->id≠base+p)->(T (a+d)).h.get id=(T a).h.get id
 | 0,_=>⟨rfl,rfl,λ_ _=>rfl⟩
 | d+1,hd=>by
  obtain⟨h1,h2,h3⟩:=t.holes ok h0 (a:=a) d (by omega);have z0:a+d<l.length:=by omega
  have I:=Jal z0;obtain⟨f,he,h⟩:=t.step (a+d) _ I;have hf:f.h.n=(T (a+d)).h.n/\f.d=[]/\∀id,(∀p,l[a+d].op.cls=.a p->id≠base+p)->f.h.get id=(T (a+d)).h.get id:=by
   cases U:l[a+d].op.cls with
   | n=>exact⟨by rw[(qmV U he).1],(qmV U he).2.1,λid _=>by rw[(qmV U he).1]⟩
   | r=>exact⟨by rw[(qoK U he).1],(qoK U he).2,λid _=>by rw[(qoK U he).1]⟩
   | a p =>
    obtain⟨upd,hu,h4,h5,_⟩:=eff_a U he;rcases hu with rfl|⟨ob,rfl⟩
    ·exact⟨by rw[h4]; rfl,h5,λid _=>by rw[h4]; rfl⟩
    ·exact⟨by rw[h4]; rfl,h5,λid J=>by rw[h4]; simp only[]; rw[qBp,Jaa (J p rfl)]⟩
   | w=>exact absurd U (ok.aw h0 _ _ I)
  rw[show a+(d+1)=a+d+1 by omega,h];refine⟨by rw[qjj,hf.1,h1],by rw[qgE,hf.2.1,h2]; rfl,λid J=>?_⟩;rw[qjj,hf.2.2 id λp hp=>J (a+d) _ p (by omega) (by omega) I hp,h3 id λi li p h5 h6=>J i li p h5 (by omega)]
theorem qaZ.hole_end(t:qaZ e base l T)(ok:qfp l bs na chk)(h0:na≠0){i:Nat}{li:Ins}(hi:l[i]?=some li){p:Nat}(J:li.op.cls=.a p):(T l.length).h.get (base+p)=(T (i+1)).h.get (base+p)/\(T i).h.get (base+p)=(T 0).h.get (base+p):=by
 have U:i<l.length:=(Jam.1 hi).1;constructor
 ·have:=(t.holes ok h0 (a:=i+1) (l.length-(i+1)) (by omega)).2.2 (base+p) λk lk q h1 h2 hk I e=>by
   have:p=q:=by omega
   subst this;exact ok.aa i k li lk p (by omega) hi hk J I
  rw[<-this]; congr 2; congr 1; omega
 ·have:=(t.holes ok h0 (a:=0) i (by omega)).2.2 (base+p) λk lk q h1 h2 hk I e=>by
   have:p=q:=by omega
   subst this;exact ok.aa i k li lk p (by omega) hi hk J I
  simpa using this
theorem Sim.step(t:qaZ e base l T)(ok:qfp l bs na chk){hs:List Heap}(zi:∀c∈chk,qAU e l (T l.length).tm hs c=true)(zk:∀k,k<=l.length->hs[k]?=some (T k).h)(zg:∀p,(T 0).h.get (base+p)=none)
  (sm:Sim l T base na S g) (zj:∀j,S j->∀i∈bs j,S i) {i:Nat}{li:Ins}(hi:l[i]?=some li) (hS:¬S i) (hb:∀j∈bs i,S j) :
  ∃f,effI li e base g.tm g.h g.round=some [f]/\Sim l T base na (λj=>S j\/j=i) (putE li.dst f g):=by
 have zt:i<l.length:=(Jam.1 hi).1;obtain⟨f,he,hT⟩:=t.step i li hi;have zm:=sm.agree t ok hi hS hb zj;have zd:g.round=(T i).round:=by rw[sm.i3,t.round i (by omega)]
 have z9:∀H,effI li e base g.tm H g.round=effI li e base (T i).tm H (T i).round:=λH=>by rw[qfJ zm,zd]
 have za:∀f',f'.v=f.v->(∀(j:Nat) (lj:Ins) (s:Nat),(S j\/j=i)->l[j]?=some lj->lj.dst=some s->(gK s).run (putE li.dst f' g).tm=(gK s).run (T l.length).tm) /\
   ∀s,(∀(j:Nat) (lj:Ins),(S j\/j=i)->l[j]?=some lj->lj.dst≠some s)->(gK s).run (putE li.dst f' g).tm=(gK s).run (T 0).tm:=by
  intro f' hv;refine⟨λj lj s hj I hd=>?_,λs hs=>?_⟩
  ·rw[qgD];rcases hj with hj|rfl
   ·have zh:i≠j:=λh=>hS (h ▸ hj);rw[Jaa (λh=>ok.dst i j li lj s zh hi I h hd)];exact sm.i1 j lj s hj I hd
   ·rw[hi]at I; cases I;rw[Jab hd,hv,t.final ok hi hd hT]
  ·rw[qgD,Jaa (hs i li (.inr rfl) hi)];exact sm.i2 s λj lj hj=>hs j lj (.inl hj)
 have build:∀f',f'.v=f.v->effI li e base g.tm g.h g.round=some [f']->(na=0->∃m,m<=l.length/\(∀k,isW l k->((S k\/k=i)↔k<m))/\f'.h=(T m).h/\f'.d++g.defs=(T m).defs) ->
   (na≠0->f'.d++g.defs=(T 0).defs/\f'.h.n=(T 0).h.n/\(∀id,(∀(j:Nat) (lj:Ins) (p:Nat),(S j\/j=i)->l[j]?=some lj->lj.op.cls=.a p->id≠base+p)->f'.h.get id=(T 0).h.get id) /\
    ∀(j:Nat) (lj:Ins) (p:Nat),(S j\/j=i)->l[j]?=some lj->lj.op.cls=.a p->f'.h.get (base+p)=(T l.length).h.get (base+p)) ->
   ∃f,effI li e base g.tm g.h g.round=some [f]/\Sim l T base na (λj=>S j\/j=i) (putE li.dst f g):=by
  intro f' hv hf h1 h2;exact⟨f',hf,(za f' hv).1,(za f' hv).2,by rw[qhK,sm.i3],λh0=>by simpa using h1 h0,λh0=>by simpa using h2 h0⟩
 have calm:(∀p,li.op.cls≠.a p)->li.op.cls≠.w->effI li e base g.tm g.h g.round=some [⟨f.v,g.h,[]⟩]->∃f,effI li e base g.tm g.h g.round=some [f]/\Sim l T base na (λj=>S j\/j=i) (putE li.dst f g):=by
  intro zq zr hf;refine build ⟨f.v,g.h,[]⟩ rfl hf (λh0=>?_) (λh0=>?_)
  ·obtain⟨m,h1,h2,h3,h4⟩:=sm.hw h0;refine⟨m,h1,λk hk=>?_,h3,by simpa using h4⟩;rw[<-h2 k hk];refine⟨λh=>?_,.inl⟩;rcases h with h|rfl
   ·exact h
   ·obtain⟨lk,U,J⟩:=hk;rw[hi]at U; cases U; exact absurd J zr
  ·obtain⟨h1,h2,h3,h4⟩:=sm.ha h0;refine⟨by simpa using h1,h2,λid z2=>h3 id λj lj p hj=>z2 j lj p (.inl hj),λj lj p hj I J=>?_⟩;rcases hj with hj|rfl
   ·exact h4 j lj p hj I J
   ·rw[hi]at I; cases I; exact absurd J (zq p)
 cases J:li.op.cls with
 | n =>
  refine calm (λp h=>by rw[J]at h; cases h) (λh=>by rw[J]at h; cases h) ?_;rw[z9]; exact(qmV J he).2.2 _
 | r =>
  refine calm (λp h=>by rw[J]at h; cases h) (λh=>by rw[J]at h; cases h) ?_;have z7:∀k,k<=l.length->(i,k)∈chk->effI li e base g.tm (T k).h g.round=some [⟨f.v,(T k).h,[]⟩]:=by
   intro k hk z3;have zl:=zi _ z3;have ze:=t.agree_end ok hi J;have zn:effI li e base (T l.length).tm (T i).h (T i).round=some [f]:=by rw[qfJ ze]; exact he
   cases hd:li.dst with
   | none =>
    rcases qqj J with ⟨o,ho⟩|⟨o,q,ho⟩<;>simp[qAU,recheck,hi,zk k hk,ho,hd]at zl
   | some d =>
    have hv:=(t.final ok hi hd hT).symm;have:=qkn hi (zk k hk) hd J zl zn hv;rw[z9,<-qfJ ze]; exact this
  by_cases h0:na=0
  ·obtain⟨m,h1,h2,h3,h4⟩:=sm.hw h0;rw[h3];have same:(T m).h=(T i).h->effI li e base g.tm (T m).h g.round=some [⟨f.v,(T m).h,[]⟩]:=λh=>by
    rw[h,z9,he];obtain⟨q1,q2⟩:=qoK J he;rw[<-q1,<-q2]
   by_cases zp:m<=i
   ·rcases qoD (isW l) (i-m) m with hq|⟨k,k1,k2,k3,k4⟩
    ·have:=(t.quiet ok h0 (i-m) (by omega) λk z6 zc=>hq k z6 (by omega)).1;rw[show m+(i-m)=i by omega]at this;exact same this.symm
    ·have hq:=(t.quiet ok h0 (a:=m) (k-m) (by omega) λk' z6 zc=>k4 k' z6 (by omega)).1;rw[show m+(k-m)=k by omega]at hq;rw[<-hq];obtain⟨lk,U,z0⟩:=k3;rcases ok.rwB i k li lk (by omega) hi U J z0 with zf|z3
     ·have:=(h2 k ⟨lk,U,z0⟩).1 (hb k zf); omega
     ·exact z7 k (by omega) z3
   ·rcases qqQ (isW l) (i+1) (m-(i+1))with hq|⟨k,k1,k2,k3,k4⟩
    ·have z8:=(t.quiet ok h0 (a:=i) (m-i) (by omega) λk z6 zc=>by
      by_cases ek:k=i
      ·subst ek; rintro⟨lk,U,z0⟩;rw[hi]at U; cases U; rw[J]at z0; cases z0
      ·exact hq k (by omega) (by omega)).1
     rw[show i+(m-i)=m by omega]at z8;exact same z8
    ·have z8:=(t.quiet ok h0 (a:=k+1) (m-(k+1)) (by omega) λk' z6 zc=>k4 k' (by omega) (by omega)).1;rw[show k+1+(m-(k+1))=m by omega]at z8;rw[z8];obtain⟨lk,U,z0⟩:=k3;rcases ok.rwA i k li lk (by omega) hi U J z0 with zf|z3
     ·exact absurd (zj k ((h2 k ⟨lk,U,z0⟩).2 (by omega)) i zf) hS
     ·exact z7 (k+1) (by omega) z3
  ·obtain⟨h1,h2,h3,h4⟩:=sm.ha h0;have:=z7 0 (by omega) (ok.ar h0 i li hi J);have:=qoJ J (λf args ho=>h0 (ok.cn i li hi f args ho)) this (h':=g.h) λid o z2=>by
    rw[h3 id λj lj p hj I z5 e=>by rw[e,zg p]at z2; cases z2]; exact z2
   exact this
 | a p =>
  have h0:na≠0:=by have:=ok.ap i li p hi J; omega
  obtain⟨upd,hu,u1,u2,u3⟩:=eff_a J he;obtain⟨h1,h2,h3,h4⟩:=sm.ha h0;have zb:g.h.get (base+p)=(T 0).h.get (base+p):=h3 _ λj lj q hj I z5 e=>by
   have:p=q:=by omega
   subst this;exact ok.aa i j li lj p (λh=>hS (h ▸ hj)) hi I J z5
  obtain⟨e1,e2⟩:=t.hole_end ok h0 hi J;rw[hT,qjj,u1]at e1;refine build ⟨f.v,upd g.h,[]⟩ rfl (by rw[z9]; exact u3 _) (λh=>absurd h h0) λ_=>⟨by simpa using h1,?_,λid z2=>?_,λj lj q hj I z5=>?_⟩
  ·rcases hu with rfl|⟨ob,rfl⟩
   ·exact h2
   ·exact h2
  ·have zh:=z2 i li p (.inr rfl) hi J;have z4:=h3 id λj lj q hj=>z2 j lj q (.inl hj);rcases hu with rfl|⟨ob,rfl⟩
   ·exact z4
   ·simp only[]; rw[qBp,Jaa zh]; exact z4
  ·rcases hj with hj|rfl
   ·have zu:p≠q:=λh=>by subst h; exact ok.aa i j li lj p (λh=>hS (h ▸ hj)) hi I J z5
    have z4:=h4 j lj q hj I z5;rcases hu with rfl|⟨ob,rfl⟩
    ·exact z4
    ·simp only[]; rw[qBp,Jaa (by omega)]; exact z4
   ·rw[hi]at I; cases I;rw[J]at z5; cases z5;rw[e1];rcases hu with rfl|⟨ob,rfl⟩
    ·show g.h.get _=(T j).h.get _;rw[zb,e2]
    ·simp only[]; rw[qBp,qBp,Jab rfl,Jab rfl]
 | w =>
  have h0:na=0:=Classical.byContradiction λh=>ok.aw h i li hi J;obtain⟨m,h1,h2,h3,h4⟩:=sm.hw h0;have zo:isW l i:=⟨li,hi,J⟩;have zp:m<=i:=Nat.le_of_not_lt λh=>hS ((h2 i zo).2 h);have z1:∀k,k<i->isW l k->S k:=λk hk hw=>by
   obtain⟨lk,U,z0⟩:=hw;exact hb k (ok.ww k i lk li hk U hi z0 J)
  have hq:=t.quiet ok h0 (a:=m) (i-m) (by omega) λk z6 zc hw=>by
   have:=(h2 k hw).1 (z1 k (by omega) hw); omega
  rw[show m+(i-m)=i by omega]at hq;refine build f rfl ?_ (λ_=>⟨i+1,by omega,λk hk=>⟨λh=>?_,λh=>?_⟩,by rw[hT,qjj],by rw[hT,qgE,h4,hq.2]⟩) (λh=>absurd h0 h)
  ·rw[h3,<-hq.1,z9]; exact he
  ·rcases h with h|rfl
   ·have:=(h2 k hk).1 h; omega
   ·omega
  ·by_cases ek:k=i
   ·exact .inr ek
   ·exact .inl (z1 k (by omega) hk)
theorem Sim.finish(t:qaZ e base l T)(ok:qfp l bs na chk)(sm:Sim l T base na S g)(I:∀i,i<l.length->S i) :
  (∀s,(gK s).run g.tm=(gK s).run (T l.length).tm)/\g.h.n=(T l.length).h.n/\(∀id,g.h.get id=(T l.length).h.get id)/\g.defs=(T l.length).defs/\g.round=(T l.length).round:=by
 refine⟨λs=>?_,?_⟩
 ·by_cases hw:∃(i:Nat) (li:Ins),l[i]?=some li/\li.dst=some s
  ·obtain⟨i,li,hi,hd⟩:=hw;exact sm.i1 i li s (I i (Jam.1 hi).1) hi hd
  ·rw[sm.i2 s λi li _ hi hd=>hw ⟨i,li,hi,hd⟩];exact(t.stay l.length 0 (by omega) λk lk _ hk hd=>hw ⟨k,lk,hk,hd⟩).symm
 ·have hr:g.round=(T l.length).round:=by rw[sm.i3,t.round _ (Jac _)]
  by_cases h0:na=0
  ·obtain⟨m,h1,h2,h3,h4⟩:=sm.hw h0;have hq:=t.quiet ok h0 (a:=m) (l.length-m) (by omega) λk z0 z1 hw=>by
    have:=(h2 k hw).1 (I k (by omega)); omega
   rw[show m+(l.length-m)=l.length by omega]at hq;rw[hq.1,hq.2,h3,h4];exact⟨rfl,λ_=>rfl,rfl,hr⟩
  ·obtain⟨h1,h2,h3,h4⟩:=sm.ha h0;have hh:=t.holes ok h0 (a:=0) l.length (by omega);rw[Nat.zero_add]at hh;refine⟨by rw[h2,hh.1],λid=>?_,by rw[h1,hh.2.1],hr⟩
   by_cases J:∃(i:Nat) (li:Ins) (p:Nat),l[i]?=some li/\li.op.cls=.a p/\id=base+p
   ·obtain⟨i,li,p,hi,U,rfl⟩:=J;exact h4 i li p (I i (Jam.1 hi).1) hi U
   ·rw[h3 id λi li p _ hi U e=>J ⟨i,li,p,hi,U,e⟩,hh.2.2 id λi li p _ _ hi U e=>J ⟨i,li,p,hi,U,e⟩]
def qcN(o:Oper):List Nat:=(o.after.toList.filter (Region.binds .any)).map (·.on)
def memN(x:Nat):List Nat->Bool
 | []=>false
 | y::l=>cond (Nat.beq x y) true (memN x l)
def uni(a:List Nat):List Nat->List Nat
 | []=>a
 | x::l=>uni (cond (memN x a) a (x::a)) l
def qk9(acc:List (List Nat))(a:List Nat):List Nat->List Nat
 | []=>a
 | d::l=>qk9 acc (uni a (acc.getD d [])) l
def qhA(acc:List (List Nat)):List (List Nat)->List (List Nat)
 | []=>acc
 | d::r=>qhA (acc++[qk9 acc d d]) r
inductive Bef (deps:Nat->List Nat):Nat->Nat->Prop
 | one {d j:Nat}(h:d∈deps j):Bef deps d j
 | step {d m j:Nat}(h:Bef deps d m) (k:m∈deps j):Bef deps d j
theorem qes{x:Nat}:∀{l:List Nat},memN x l=true->x∈l
 | y::l,h=>by
  simp only[memN]at h;cases e:Nat.beq x y
  ·simp only[e,cond]at h; exact List.mem_cons_of_mem _ (qes h)
  ·rw[Jas]at e; subst e; simp
theorem qnk{x:Nat}:∀{l a:List Nat},x∈uni a l->x∈a\/x∈l
 | [],a,h=>.inl h
 | y::l,a,h=>by
  simp only[uni]at h;rcases qnk h with h|h
  ·cases e:memN y a
   ·simp only[e,cond]at h;rcases Jag.1 h with rfl|h
    ·simp
    ·exact .inl h
   ·simp only[e,cond]at h; exact .inl h
  ·exact .inr (List.mem_cons_of_mem _ h)
theorem qhC{x:Nat}{I:List (List Nat)}:∀{l a:List Nat},x∈qk9 I a l->x∈a\/∃d∈l,x∈I.getD d []
 | [],a,h=>.inl h
 | d::l,a,h=>by
  simp only[qk9]at h;rcases qhC h with h|⟨J,h1,h2⟩
  ·rcases qnk h with h|h
   ·exact .inl h
   ·exact .inr ⟨d,by simp,h⟩
  ·exact .inr ⟨J,by simp[h1],h2⟩
theorem qj6{deps:Nat->List Nat}:∀(r I:List (List Nat)),(∀j,j<I.length->∀x∈I.getD j [],Bef deps x j)->(∀i d,r[i]?=some d->deps (I.length+i)=d)->∀j x,x∈(qhA I r).getD j []->Bef deps x j
 | [],I,h,_,j,x,hx=>by
  by_cases U:j<I.length
  ·exact h j U x hx
  ·simp only[qhA]at hx;rw[List.getD_eq_getElem?_getD,List.getElem?_eq_none (by omega)]at hx; simp at hx
 | d::r,I,h,hd,j,x,hx=>by
  simp only[qhA]at hx;have h0:deps I.length=d:=by simpa using hd 0 d rfl
  refine qj6 r _ (λj U x hx=>?_) (λi J hi=>?_) j x hx
  ·simp only[Jao,List.length_singleton]at U
   by_cases e:j<I.length
   ·rw[List.getD_eq_getElem?_getD,List.getElem?_append_left e,<-List.getD_eq_getElem?_getD]at hx;exact h j e x hx
   ·have:j=I.length:=by omega
    subst this;rw[List.getD_eq_getElem?_getD,List.getElem?_append_right (Jac _)]at hx;simp at hx;rcases qhC hx with hx|⟨J,h1,h2⟩
    ·exact .one (by rw[h0]; exact hx)
    ·have z0:J<I.length:=by
      apply Classical.byContradiction; intro hn;rw[List.getD_eq_getElem?_getD,List.getElem?_eq_none (by omega)]at h2; simp at h2
     exact .step (h J z0 x h2) (by rw[h0]; exact h1)
  ·have:=hd (i+1) J (by simpa using hi);rw[<-this]; congr 1; simp; omega
theorem qib{deps:Nat->List Nat}{S:Nat->Prop}(J:∀j,S j->∀d∈deps j,S d){x j:Nat}(h:Bef deps x j):(∀d∈deps j,S d)->S x:=by
 induction h with
 | one h=>intro I; exact I _ h
 | step h k U=>intro I; exact U (J _ (I _ k))
def qie{α : Type}(f:Nat->α->Bool):Nat->List α->Bool
 | _,[]=>true
 | k,a::l=>f k a&&qie f (k+1) l
theorem qc9{α : Type}{f:Nat->α->Bool}:∀{l:List α}{k:Nat},qie f k l=true->∀{i:Nat}{a : α},l[i]?=some a->f (k+i) a=true
 | [],k,h,i,a,hi=>by simp at hi
 | b::l,k,h,i,a,hi=>by
  simp only[qie,Jad]at h;cases i with
  | zero=>simp at hi; subst hi; exact h.1
  | succ i =>
   have:=qc9 h.2 (i:=i) (by simpa using hi);rw[show k+(i+1)=k+1+i by omega]; exact this
def qfG(p q:Nat):List (Nat × Nat)->Bool
 | []=>false
 | c::l=>cond (Nat.beq c.1 p&&Nat.beq c.2 q) true (qfG p q l)
theorem qdh{p q:Nat}:∀{l:List (Nat × Nat)},qfG p q l=true->(p,q)∈l
 | c::l,h=>by
  simp only[qfG]at h;cases e:(Nat.beq c.1 p&&Nat.beq c.2 q)
  ·simp only[e,cond]at h; exact List.mem_cons_of_mem _ (qdh h)
  ·simp only[Jad,Jas]at e;obtain⟨I,J⟩:=c;simp only at e;rw[e.1,e.2]; simp
def optIs(d:Option Nat)(s:Nat):Bool :=
 match d with
 | some x=>Nat.beq x s
 | none=>false
def qfS(tab:List (List Nat))(chk:List (Nat × Nat))(p q:Nat)(a b:Ins):Bool :=
 (match b.dst with
 | some s=>!(optIs a.dst s)&&cond (memN s a.looks) ((memN q (tab.getD p [])&&Nat.blt q p)||((match a.op.cls with|.r=>false|_=>true)&&memN p (tab.getD q [])&&Nat.blt p q)) true
 | none=>true) &&
 (match a.op.cls,b.op.cls with
 | .w,.w=>cond (Nat.blt p q) (memN p (tab.getD q [])) true
 | .r,.w=>cond (Nat.blt q p) (memN q (tab.getD p [])||qfG p q chk) (memN p (tab.getD q [])||qfG p (q+1) chk)
 | .a x,.a y=>!(Nat.beq x y)
 | _,_=>true)
def qgH(na:Nat)(chk:List (Nat × Nat))(p:Nat)(a:Ins):Bool :=
 (match a.op.cls with
 | .r=>(match a.dst with
  | some s=>!(memN s a.looks)
  | none=>true)&&(Nat.beq na 0||qfG p 0 chk)
 | .a x=>Nat.blt x na
 | .w=>Nat.beq na 0
 | .n=>true) &&
 (match a.op with
 | .a _ (some _)=>(match a.op.cls with
  | .a _=>true
  | _=>false)
 | .callP _ _=>Nat.beq na 0
 | _=>true)
def qjr(na:Nat)(chk:List (Nat × Nat))(l:List Ins)(ops:Array Oper):Bool :=
 let deps:=ops.toList.map qcN
 let tab:=qhA [] deps
 qie (λj ds=>ds.all (λd=>Nat.blt d j)) 0 deps&&qie (λp a=>qgH na chk p a&&qie (λq b=>Nat.beq p q||qfS tab chk p q a b) 0 l) 0 l
theorem qlu{x:Nat}{l:List Nat}:memN x l=true↔x∈l:=by
 refine⟨qes,λh=>?_⟩;induction l with
 | nil=>cases h
 | cons y l I =>
  simp only[memN];cases e:Nat.beq x y
  ·simp only[cond];rcases Jag.1 h with rfl|h
   ·simp at e
   ·exact I h
  ·rfl
theorem qmx{na:Nat}{chk:List (Nat × Nat)}{l:List Ins}{ops:Array Oper}(h:qjr na chk l ops=true) :
  qfp l (λj=>(qhA [] (ops.toList.map qcN)).getD j []) na chk/\(∀(j:Nat) (o:Oper),ops[j]?=some o->∀d∈qcN o,d<j) /\
   ∀(i:Nat) (li:Ins) x q,l[i]?=some li->li.op=.a x (some q)->li.op.cls=.a q:=by
 simp only[qjr,Jad]at h;obtain⟨h1,h2⟩:=h;have I:∀(i:Nat) (li:Ins),l[i]?=some li->qgH na chk i li=true:=λi li hi=>by
  have:=qc9 h2 hi;simp only[Jad,Nat.zero_add]at this; exact this.1
 have pair:∀(i j:Nat) (li lj:Ins),i≠j->l[i]?=some li->l[j]?=some lj->qfS (qhA [] (ops.toList.map qcN)) chk i j li lj=true:=λi j li lj z0 hi hj=>by
  have:=qc9 h2 hi;simp only[Jad,Nat.zero_add]at this;have:=qc9 this.2 hj;simp only[Nat.zero_add,Bool.or_eq_true,Jas]at this;exact this.resolve_left z0
 refine⟨⟨?_,?_,?_,?_,?_,?_,?_,?_,?_,?_,?_⟩,λj o ho d hd=>?_,λi li x q hi z2=>?_⟩
 ·intro i j li lj d z0 hi hj hd z3;have:=pair i j li lj z0 hi hj;simp only[qfS,z3,hd,Jad,optIs]at this;simp at this
 ·intro i j li lj s z0 hi hj hd hs;have:=pair i j li lj z0 hi hj;simp only[qfS,hd,Jad]at this;have:=this.1.2;rw[qlu.2 hs]at this;simp only[cond,Bool.or_eq_true,Jad,Nat.blt_eq]at this;rcases this with this|this
  ·exact .inl ⟨qes this.1,this.2⟩
  ·refine .inr ⟨λhr=>?_,qes this.1.2,this.2⟩;have:=this.1.1;rw[hr]at this; cases this
 ·intro i j li lj z1 hi hj J U;have:=pair i j li lj (by omega) hi hj;simp only[qfS,J,U,Jad]at this;have:=this.2;rw[show Nat.blt _ _=true by rw[Nat.blt_eq]; exact z1]at this;exact qes this
 ·intro i j li lj z1 hi hj J U;have:=pair i j li lj (by omega) hi hj;simp only[qfS,J,U,Jad]at this;have:=this.2;rw[show Nat.blt _ _=true by rw[Nat.blt_eq]; exact z1]at this;simp only[cond,Bool.or_eq_true]at this;exact this.imp qes qdh
 ·intro i j li lj z1 hi hj J U;have:=pair i j li lj (by omega) hi hj;simp only[qfS,J,U,Jad]at this;have:=this.2;have hb:Nat.blt j i=false:=by cases hb:Nat.blt j i<;>simp[Nat.blt_eq]at hb ⊢; omega
  rw[hb]at this;simp only[cond,Bool.or_eq_true]at this;exact this.imp qes qdh
 ·intro i li s hi J hd hs;have:=I i li hi;simp only[qgH,J,hd,Jad]at this;have:=this.1.1;rw[qlu.2 hs]at this; simp at this
 ·intro i j li lj p z0 hi hj J U;have:=pair i j li lj z0 hi hj;simp only[qfS,J,U,Jad]at this;simp at this
 ·intro i li p hi J;have:=I i li hi;simp only[qgH,J,Jad,Nat.blt_eq]at this;exact this.1
 ·intro h0 i li hi J;have:=I i li hi;simp only[qgH,J,Jad,Jas]at this;exact h0 this.1
 ·intro i li hi f args ho;have:=I i li hi;simp only[qgH,ho,Jad,Jas]at this;exact this.2
 ·intro h0 i li hi J;have:=I i li hi;simp only[qgH,J,Jad,Bool.or_eq_true,Jas]at this;exact qdh (this.1.2.resolve_left h0)
 ·have hj:(ops.toList.map qcN)[j]?=some (qcN o):=by rw[List.getElem?_map,Array.getElem?_toList,ho]; rfl
  have:=qc9 h1 hj;simp only[Nat.zero_add,List.all_eq_true,Nat.blt_eq]at this;exact this d hd
 ·have:=I i li hi;simp only[qgH,Jad]at this;have:=this.2;rw[z2]at this;dsimp only at this;cases J:(IOp.a x (some q)).cls with
  | a p =>
   obtain⟨o,ho⟩:=cls_a J;cases ho;rw[z2]; exact J
  | _=>rw[J]at this; simp at this
variable {N:Num}{CR:Nat->IC->Code->Prop}{ι ι' ι'':Inj}{ro ro' ro'':RO}{P:Program}{h h' h'':Heap}{w w' w'':World}{nt:Nat}{st st' g:St}{b:Frame}{a:Act}{k:List Item}{cs:List Frame}{ops:Array Oper}
theorem HR.ext(hh:HR N CR ι ro h w)(hn:h'.n=h.n)(hg:∀i,h'.get i=h.get i):HR N CR ι ro h' w :=
 ⟨λi o hi=>by rw[hn]; exact hh.live i o (by rw[<-hg]; exact hi),λi j oi oj wi wj hi I=>hh.dist i j oi oj wi wj (by rw[<-hg]; exact hi) (by rw[<-hg]; exact I),
  λb c hb=>⟨(hh.rd b c hb).1,λi o wn hi=>(hh.rd b c hb).2 i o wn (by rw[<-hg]; exact hi)⟩,by rw[hn]; exact hh.fresh,
  λb o hb=>⟨(hh.kb b o hb).1,λi oi wn hi=>(hh.kb b o hb).2 i oi wn (by rw[<-hg]; exact hi)⟩⟩
theorem SR.ext(I:SR P N CR nt ι ro g b a w)(h1:∀s,(gK s).run g.tm=(gK s).run st.tm)(h2:g.h.n=st.h.n)(J:∀id,g.h.get id=st.h.get id)(U:g.defs=st.defs)(h5:g.round=st.round):SR P N CR nt ι ro st b a w :=
 ⟨I.hr.ext h2.symm λi=>(J i).symm,λi=>by rw[<-h1]; exact I.tm i,I.sz,by rw[<-h5]; exact I.round,by rw[<-U]; exact I.defs⟩
theorem qh0{α : Type}{p q : α->Bool}:∀{l:List α},(∀x∈l,q x=true->p x=true)->(∃x∈l,p x=true/\q x=false)->(l.filter q).length<(l.filter p).length
 | [],_,h=>by obtain⟨x,hx,_⟩:=h; cases hx
 | y::l,hm,h=>by
  have U:∀{l:List α},(∀x∈l,q x=true->p x=true)->(l.filter q).length<=(l.filter p).length:=by
   intro l hm;induction l with
   | nil=>simp
   | cons y l ih =>
    have:=ih λx hx=>hm x (by simp[hx]);simp only[List.filter_cons];cases J:q y
    ·cases hp:p y<;>simp<;>omega
    ·rw[hm y (by simp) J]; simp; omega
  simp only[List.filter_cons];obtain⟨x,hx,hp,J⟩:=h;have I:∀x∈l,q x=true->p x=true:=λx hx=>hm x (by simp[hx]);rcases Jag.1 hx with rfl|hx
  ·rw[hp,J];have:=U I;simp; omega
  ·have:=qh0 I ⟨x,hx,hp,J⟩;cases z0:q y
   ·cases z1:p y<;>simp<;>omega
   ·rw[hm y (by simp) z0]; simp; omega
theorem qix:∀{l:List Ins}{m:List Oper},okL P N nt ops l m=true->l.length=m.length/\∀(i:Nat) (li:Ins),l[i]?=some li->∃o,m[i]?=some o/\qpJ P N nt ops li o=true
 | [],[],_=>⟨rfl,λi li hi=>by simp at hi⟩
 | [],_::_,h=>by simp[okL]at h
 | _::_,[],h=>by simp[okL]at h
 | x::l,o::m,h=>by
  simp only[okL,Jad]at h;obtain⟨h1,h2⟩:=qix h.2;refine⟨by simp[h1],λi li hi=>?_⟩;cases i with
  | zero=>simp at hi; subst hi; exact⟨o,rfl,h.1⟩
  | succ i=>simpa using h2 i li (by simpa using hi)
theorem qsk(hN:∀t u,N.t t=N.t u->t=u){e:Env}(zb:qfq P N CR e.callF e.lim)(zi:MethOK P N e.meth)(zk:qAX e)(zc:calm b.kind cs){base:Nat}(zv:e.lim<=base){l:List Ins}{T:Nat->St}{na:Nat}{chk:List (Nat × Nat)}
  (yd:okL P N nt ops l ops.toList=true) (hd:qjr na chk l ops=true) (t:qaZ e base l T) {hs:List Heap}(zm:∀c∈chk,qAU e l (T l.length).tm hs c=true) (yb:∀k,k<=l.length->hs[k]?=some (T k).h)
  (ze:∀p,(T 0).h.get (base+p)=none) (yh:base+na<=(T 0).h.n) :
  ∀(fuel tt:Nat) (I:Array Bool) (ι:Inj) (ro:RO) (g:St) (a:Act) (w:World),I.size=l.length->Sim l T base na (λi=>I.getD i false=true) g ->
   (∀j,I.getD j false=true->∀o,ops[j]?=some o->∀d∈qcN o,I.getD d false=true) ->
   SR P N CR nt ι ro g b a w->base<=g.h.n->((List.range l.length).filter λi=>!I.getD i true).length<=fuel->(∀(i:Nat) (li:Ins) (p:Nat),I.getD i false=false->l[i]?=some li->li.op.cls=.a p->ι (base+p)=none) ->
   qbL P N CR nt base e.lim ι ro g b w [T l.length] (λ_=>True) (lone (b.atR a (.inRegion ops (Region.linearise.go .any ops fuel tt I [])::k)) cs w) (λa' w'=>lone (b.atR a' (.inRegion ops []::k)) cs w'):=by
 obtain⟨z1,zo,z3⟩:=qmx hd;obtain⟨zu,zq⟩:=qix yd;have ye:ops.size=l.length:=by rw[zu]; simp
 let deps:Nat->List Nat:=λj=>match ops[j]? with|some o=>qcN o|none=>[]
 have z8:∀j x,x∈(qhA [] (ops.toList.map qcN)).getD j []->Bef deps x j:=qj6 (ops.toList.map qcN) [] (λj U=>by simp at U) λi d hi=>by
  rw[List.getElem?_map,Array.getElem?_toList]at hi;simp only[List.length_nil,Nat.zero_add,deps];cases ho:ops[i]? with
  | none=>simp[ho]at hi
  | some o=>simp[ho]at hi; exact hi
 have done:∀(I:Array Bool) (ι:Inj) (ro:RO) (g:St) (a:Act) (w:World),Sim l T base na (λi=>I.getD i false=true) g->SR P N CR nt ι ro g b a w->(∀i,i<l.length->I.getD i false=true) ->
   qbL P N CR nt base e.lim ι ro g b w [T l.length] (λ_=>True) (lone (b.atR a (.inRegion ops []::k)) cs w) (λa' w'=>lone (b.atR a' (.inRegion ops []::k)) cs w'):=by
  intro I ι ro g a w sm sr zl;obtain⟨h1,h2,h3,h4,h5⟩:=sm.finish t z1 zl;exact⟨_,Jah.2 rfl,ι,ro,a,w,⟨Ext.refl _ _ _,qbM.refl w,by omega,λi _=>(h3 i).symm⟩,λ_ _ _=>rfl,sr.ext h1 h2 h3 h4 h5,Steps.refl P _⟩
 intro fuel;induction fuel with
 | zero =>
  intro tt I ι ro g a w z7 sm zd sr za zn zf;refine done I ι ro g a w sm sr λi hi=>?_;cases hl:I.getD i false with
  | true=>rfl
  | false =>
   have zw:i∈(List.range l.length).filter λi=>!I.getD i true:=by
    rw[List.mem_filter,List.mem_range];refine⟨hi,?_⟩;have:I.getD i true=I.getD i false:=by simp[Array.getElem?_eq_getElem (show i<I.size by omega)]
    rw[this,hl]; rfl
   have:=List.length_pos_of_mem zw;omega
 | succ fuel ih =>
  intro tt I ι ro g a w z7 sm zd sr za zn zf;have z6:∀i,i<l.length->I.getD i true=I.getD i false:=λi hi=>by simp[Array.getElem?_eq_getElem (show i<I.size by omega)]
  simp only[Region.linearise.go];change qbL P N CR nt base e.lim ι ro g b w [T l.length] (λ_=>True) (lone (b.atR a (.inRegion ops (match (Region.ready .any ops I)[tt % (Region.ready .any ops I).length]? with
   | some i=>Region.linearise.go .any ops fuel (tt / (Region.ready .any ops I).length) (I.setIfInBounds i true) [i]
   | none=>[].reverse)::k)) cs w) _
  cases hi:(Region.ready .any ops I)[tt % (Region.ready .any ops I).length]? with
  | none =>
   have zx:Region.ready .any ops I=[]:=by
    cases hr:Region.ready .any ops I with
    | nil=>rfl
    | cons x xs =>
     rw[hr]at hi;have zh:tt % (x::xs).length<(x::xs).length:=Nat.mod_lt _ (by simp);rw[Jal zh]at hi; cases hi
   refine done I ι ro g a w sm sr λi=>?_;induction i using Nat.strongRecOn with
   | ind i zr =>
    intro yc;cases hl:I.getD i false with
    | true=>rfl
    | false =>
     have ho:=Array.getElem?_eq_getElem (show i<ops.size by omega)
     have:i∈Region.ready .any ops I:=mem_ready.2 ⟨by rw[z6 i yc,hl],_,ho,λed y9 y4=>by
      have y8:ed.on∈qcN ops[i]:=Jak.2 ⟨ed,List.mem_filter.2 ⟨by simpa using y9,y4⟩,rfl⟩;have zh:=zo i _ ho _ y8;exact zr _ zh (by omega)⟩
     rw[zx]at this; cases this
  | some i =>
   dsimp only;rw[linearise_go_acc,List.reverse_singleton,List.singleton_append];obtain⟨r1,o,ho,r2⟩:=mem_ready.1 (Jar hi);have z4:i<l.length:=by rw[<-ye]; exact(Array.getElem?_eq_some_iff.1 ho).1
   have z0:=Jal z4;have z9:I.getD i false=false:=by rw[<-z6 i z4]; exact r1
   have zp:∀d∈qcN o,I.getD d false=true:=λd hd=>by
    obtain⟨ed,h1,h2⟩:=Jak.1 hd;obtain⟨h3,h4⟩:=List.mem_filter.1 h1;rw[<-h2]; exact r2 ed (by simpa using h3) h4
   have z2:∀j,I.getD j false=true->∀d∈deps j,I.getD d false=true:=λj U d hd=>by
    simp only[deps]at hd;split at hd
    ·rename_i oj z5; exact zd j U oj z5 d hd
    ·cases hd
   have y5:∀j∈(qhA [] (ops.toList.map qcN)).getD i [],I.getD j false=true:=λj U=>qib z2 (z8 i j U) λd hd=>by
    simp only[deps,ho]at hd; exact zp d hd
   have y6:∀j,I.getD j false=true->∀x∈(qhA [] (ops.toList.map qcN)).getD j [],I.getD x false=true:=λj U x hx=>qib z2 (z8 j x hx) (z2 j U);obtain⟨f,hf,yf⟩:=sm.step t z1 zm yb ze y6 z0 (by rw[z9]; simp) y5;obtain⟨o',zy,zz⟩:=zq i _ z0;rw[Array.getElem?_toList,ho]at zy; cases zy;have ya:(qdm l[i]).run e base g=some [putE l[i].dst f g]:=by rw[qjV,hf]; rfl
   have y0:=qjH (k:=k) (cs:=cs) (rest:=Region.linearise.go .any ops fuel (tt / (Region.ready .any ops I).length) (I.setIfInBounds i true) []) hN zb zi zk ho zz sr zv za zc ya λx q zj=>by
    have hc:=z3 i _ x q z0 zj;have hq:=z1.ap i _ q z0 hc;refine⟨by omega,?_,zf i _ q z9 z0 hc⟩;rw[(sm.ha (by omega)).2.1]; omega
   have J:∀j,(I.setIfInBounds i true).getD j false=true↔(I.getD j false=true\/j=i):=λj=>by
    by_cases e:i=j
    ·subst e; simp[show i<I.size by omega]
    ·rw[getD_set_ne false e]; exact⟨.inl,λh=>h.resolve_right λh=>e h.symm⟩
   refine y0.trans (λ_ _=>trivial) λr hr ι' ro' a' w' hG hX yg=>?_;rw[Jah]at hr;subst hr;refine ih _ _ ι' ro' _ a' w' (by simpa using z7) ?_ (λj U oj z5 d hd=>?_) yg (Jaf za hG.n) ?_ (λj lj p U zg hc=>?_)
   ·have:(λj=>(I.setIfInBounds i true).getD j false=true)=λj=>I.getD j false=true\/j=i:=funext λj=>propext (J j);rw[this]; exact yf
   ·refine(J d).2 (.inl ?_);rcases (J j).1 U with U|rfl
    ·exact zd j U oj z5 d hd
    ·rw[ho]at z5; cases z5; exact zp d hd
   ·have:=qh0 (l:=List.range l.length) (p:=λi=>!I.getD i true) (q:=λj=>!(I.setIfInBounds i true).getD j true) (λx hx hq=>by
     by_cases e:i=x
     ·subst e; simp[show i<I.size by omega]at hq
     ·rwa [getD_set_ne true e]at hq) ⟨i,by simpa using z4,by rw[r1]; rfl,by simp[show i<I.size by omega]⟩
    omega
   ·have zt:I.getD j false=false/\j≠i:=by
     constructor
     ·cases hx:I.getD j false with
      | false=>rfl
      | true=>rw[(J j).2 (.inl hx)]at U; cases U
     ·intro e; rw[(J j).2 (.inr e)]at U; cases U
    have hp:=z1.ap j lj p zg hc;rw[hX _ ?_ ?_]
    ·exact zf j lj p zt.1 zg hc
    ·rw[(sm.ha (by omega)).2.1]; omega
    ·rintro⟨x,q,zj,yi⟩;have y7:=z3 i _ x q z0 zj;have:p=q:=by omega
     subst this;exact z1.aa i j _ lj p (λh=>zt.2 h.symm) z0 zg y7 hc
def qvq:IC->Bool
 | .skip=>true
 | _=>false
def okC(P:Program)(N:Num)(nt:Nat):IC->Code->Bool
 | .skip,.skip=>true
 | .skip,.label _=>true
 | .ops l,.region _ ops false=>okL P N nt ops l ops.toList&&l.all qjv
 | .dops na chk l,.region _ ops true=>okL P N nt ops l ops.toList&&qjr na chk l ops
 | .dopc chk l,.region _ ops true=>okL P N nt ops l ops.toList&&qjr 0 chk l ops
 | .seq a b,.seq x y=>okC P N nt a x&&okC P N nt b y
 | .seq a b,.scope x=>qvq a&&okC P N nt b x
 | .cond c a b,.cond d x y=>okO N c d&&okC P N nt a x&&okC P N nt b y
 | .block i a,.block j x=>Nat.beq i j&&okC P N nt a x
 | .loop a,.loop x=>okC P N nt a x
 | .rangeF f ps asg body,.rangeFunc g qs x y=>okO N f g&&qs.toList == ps&&okC P N nt asg x&&okC P N nt body y&&ps.all (λp=>Nat.blt p nt)
 | .exit i,.exit j=>Nat.beq i j
 | .ret,.ret=>true
 | .bad,_=>true
 | _,_=>false
def CRel(P:Program)(N:Num)(nt:Nat)(c:IC)(x:Code):Prop:=okC P N nt c x=true
variable {N:Num}{ι ι' ι'':Inj}{ro ro' ro'':RO}{P:Program}{h h' h'':Heap}{w w' w'':World}{nt:Nat}{st st' g:St}{b:Frame}{a:Act}{k:List Item}{cs:List Frame}{ops:Array Oper}
def Arr(P:Program)(m:Machine)(b:Frame)(k:List Item)(cs:List Frame)(o:Out)(a:Act)(w:World):Prop :=
 match o with
 | .normal=>Steps P m (lone (b.atR a k) cs w)
 | .exit id=>∃k',exitTo id k'=exitTo id k/\Steps P m (lone (b.atR a (.code (.exit id)::k')) cs w)
 | .ret=>∃k',Steps P m (lone (b.atR a (.code .ret::k')) cs w)
theorem Arr.of_steps{m J:Machine}{o:Out}(h:Steps P m J)(I:Arr P J b k cs o a w):Arr P m b k cs o a w:=by
 cases o with
 | normal=>exact h.trans I
 | exit id=>obtain⟨q,h1,h2⟩:=I; exact⟨q,h1,h.trans h2⟩
 | ret=>obtain⟨q,h2⟩:=I; exact⟨q,h.trans h2⟩
def qdy(P:Program)(N:Num)(nt n0 lim:Nat)(ι:Inj)(ro:RO)(st:St)(b:Frame)(w:World)(outs:List OS)(m:Machine)(k:List Item)(cs:List Frame):Prop :=
 ∃r∈outs,∃ι' ro' a' w',Grow n0 lim ι ro st.h w ι' ro' r.s.h w'/\SR P N (CRel P N) nt ι' ro' r.s b a' w'/\Arr P m b k cs r.o a' w'
theorem qdy.sub{n0 lim:Nat}{J I:List OS}{m:Machine}(h:qdy P N nt n0 lim ι ro st b w J m k cs)(hs:∀x∈J,x∈I):qdy P N nt n0 lim ι ro st b w I m k cs :=
 let ⟨r,h1,h2⟩:=h; ⟨r,hs r h1,h2⟩
theorem qdy.head{n0 lim:Nat}{I:List OS}{m J:Machine}(hm:Steps P m J)(h:qdy P N nt n0 lim ι ro st b w I J k cs):qdy P N nt n0 lim ι ro st b w I m k cs :=
 let ⟨r,h1,ι',ro',U,w',h2,h3,h4⟩:=h; ⟨r,h1,ι',ro',U,w',h2,h3,h4.of_steps hm⟩
structure qfP (P:Program) (N:Num) (e:Env) (b:Frame) (cs:List Frame) (n0:Nat):Prop where
 hN:∀t u,N.t t=N.t u->t=u
 call:qfq P N (CRel P N) e.callF e.lim
 meth:MethOK P N e.meth
 pure:qAX e
 mixed:P.follows .mixedOrders=true
 calm:calm b.kind cs
 lim:e.lim<=n0
theorem qpD{e:Env}{n0:Nat}(ce:qfP P N e b cs n0){l:List Ins}{id:Nat}(U:okL P N nt ops l ops.toList=true)(hh:l.all qjv=true)(sr:SR P N (CRel P N) nt ι ro st b a w)(hn:n0<=st.h.n){I:List St}(z0:(qhj l).run e st.h.n st=some I) :
  qdy P N nt n0 e.lim ι ro st b w (I.map λs=>⟨.normal,s⟩) (lone (b.atR a (.code (.region id ops false)::k)) cs w) k cs:=by
 have J:=(qix U).1;obtain⟨r,h1,ι',ro',a',w',h2,_,h3,h4⟩:=qjo (k:=k) (cs:=cs) ce.hN ce.call ce.meth ce.pure ce.lim ce.calm l 0 ι ro st a w I (by simpa using U) hh sr hn z0;refine⟨⟨.normal,r⟩,List.mem_map_of_mem h1,ι',ro',a',w',h2,h3,?_⟩;have:List.range' 0 l.length=List.range ops.size:=by rw[List.range_eq_range',J]; simp
 rw[this]at h4;exact .head stepR_region (h4.trans (.one stepR_region_end))
theorem qBd{e:Env}{l:List Ins}{tm:Tm}{hs:List Heap}{c:Nat × Nat}(h:recheck l tm hs c=true):qAU e l tm hs c=true:=by
 unfold qAU;split
 ·rename_i i h1 I hk;split
  ·rename_i f args J;simp[recheck,I,hk,J]at h
  ·exact h
 ·rename_i hx;unfold recheck at h;split at h
  ·rename_i i h1 I hk;exact absurd hk (hx i h1 I)
  ·cases h
theorem qA7{e:Env}{n0:Nat}(ce:qfP P N e b cs n0){na:Nat}{chk:List (Nat × Nat)}{l:List Ins}{id:Nat}(z0:okL P N nt ops l ops.toList=true)(hd:qjr na chk l ops=true)(U:SR P N (CRel P N) nt ι ro st b a w)(hn:n0<=st.h.n)
  {st':St}{hs:List Heap}(z1:opsH e st.h.n l ⟨st.tm,⟨st.h.n+na,st.h.os⟩,st.defs,st.round⟩ []=some (st',hs)) (hc:∀c∈chk,qAU e l st'.tm hs.reverse c=true) :
  qdy P N nt n0 e.lim ι ro st b w [⟨.normal,st'⟩] (lone (b.atR a (.code (.region id ops true)::k)) cs w) k cs:=by
 obtain⟨T,t0,t1,t2,t3⟩:=qjp l _ _ _ _ z1;have J:=(qix z0).1;have z5:∀q,q<=l.length->hs.reverse[q]?=some (T q).h:=λq hq=>by
  rw[t3];simp only[List.reverse_nil,List.nil_append,List.getElem?_map];rw[List.getElem?_range (by omega)]; rfl
 have I:∀q,(T 0).h.get q=st.h.get q:=λq=>by rw[t0]; rfl
 have z6:HR N (CRel P N) ι ro (T 0).h { w with drawn:=w.drawn+1 }:=by
  have h1:HR N (CRel P N) ι ro st.h { w with drawn:=w.drawn+1 }:=U.hr.heap rfl;rw[t0];exact⟨λi o hi=>⟨Nat.lt_of_lt_of_le (h1.live i o hi).1 (Nat.le_add_right _ _),(h1.live i o hi).2⟩,h1.dist,h1.rd,λi hi=>h1.fresh i (Jaf (Nat.le_add_right _ _) hi),h1.kb⟩
 have z7:SR P N (CRel P N) nt ι ro (T 0) b a { w with drawn:=w.drawn+1 }:=⟨z6,by rw[t0]; exact U.tm,U.sz,by rw[t0]; exact U.round,by rw[t0]; exact U.defs⟩;have z8:(T 0).h.n=st.h.n+na:=by rw[t0]
 obtain⟨r,h1,ι',ro',a',w',h2,_,h3,h4⟩:=qsk (k:=k) (cs:=cs) ce.hN ce.call ce.meth ce.pure ce.calm (base:=st.h.n) (Jaf ce.lim hn) z0 hd ⟨t2⟩ (hs:=hs.reverse)
  (λc z4=>by rw[t1]; exact hc c z4) z5 (λp=>by
   rw[I];cases hg:st.h.get (st.h.n+p)with
   | none=>rfl
   | some o=>have:=(U.hr.live _ _ hg).1; omega) (by omega)
  ops.size (w.tape w.drawn (.order b.fn id)) (Array.replicate ops.size false) ι ro (T 0) a { w with drawn:=w.drawn+1 } (by rw[J]; simp) (by
   have:(λi=>(Array.replicate ops.size false).getD i false=true)=λ_=>False:=funext λi=>by
    simp only[Array.getD_eq_getD_getElem?,Array.getElem?_replicate];split<;>simp
   rw[this]; exact qC7) (λj hj=>by
    simp only[Array.getD_eq_getD_getElem?,Array.getElem?_replicate]at hj;split at hj<;>simp at hj) z7 (by omega) (by
    have:((List.range l.length).filter λi=>!(Array.replicate ops.size false).getD i true).length<=(List.range l.length).length:=List.length_filter_le _ _;rw[List.length_range]at this;have z9:l.length=ops.size:=by rw[J]; simp
    omega) (λi li p _ _ _=>U.hr.fresh _ (by omega))
 rw[Jah]at h1;subst h1;refine⟨⟨.normal,st'⟩,Jah.2 rfl,ι',ro',a',w',?_,by rw[<-t1]; exact h3,?_⟩
 ·rw[<-t1];exact⟨⟨λi hi=>h2.ext.inj i (Nat.lt_of_lt_of_le hi hn),h2.ext.old,h2.ext.ro⟩,⟨h2.env.os,h2.env.output,h2.env.tape,(by have:=h2.env.drawn; simp only at this; omega),h2.env.size⟩,by have:=h2.n; show st.h.n<=(T l.length).h.n; omega,λi hi=>by rw[h2.low i hi,I]⟩
 ·have z2:Region.schedule (P.follows .mixedOrders) ops (w.tape w.drawn (.order b.fn id))=Region.linearise.go .any ops ops.size (w.tape w.drawn (.order b.fn id)) (Array.replicate ops.size false) []:=by
   simp only[Region.schedule,ce.mixed,Bool.true_or,if_true,Region.linearise]
  have z3:=stepR_region_draw (P:=P) (b:=b) (a:=a) (k:=k) (cs:=cs) (w:=w) (ops:=ops) (id:=id);rw[z2]at z3;exact .head z3 (h4.trans (.one stepR_region_end))
theorem qoL{e:Env}{n0:Nat}(ce:qfP P N e b cs n0){na:Nat}{chk:List (Nat × Nat)}{l:List Ins}{id:Nat}(z1:okL P N nt ops l ops.toList=true)(hd:qjr na chk l ops=true)(sr:SR P N (CRel P N) nt ι ro st b a w)(hn:n0<=st.h.n)
  {J:List OS}(I:qhd e na chk l st=some J) :
  qdy P N nt n0 e.lim ι ro st b w J (lone (b.atR a (.code (.region id ops true)::k)) cs w) k cs:=by
 unfold qhd at I;split at I
 ·rename_i st' hs U;cases hc:chk.all (recheck l st'.tm hs.reverse)<;>simp only[hc,cond,reduceCtorEq,Jae]at I
  subst I;exact qA7 ce z1 hd sr hn U λc z0=>qBd (List.all_eq_true.1 hc c z0)
 ·cases I
theorem qBg{e:Env}{n0:Nat}(ce:qfP P N e b cs n0){chk:List (Nat × Nat)}{l:List Ins}{id:Nat}(z1:okL P N nt ops l ops.toList=true)(hd:qjr 0 chk l ops=true)(sr:SR P N (CRel P N) nt ι ro st b a w)(hn:n0<=st.h.n)
  {J:List OS}(I:qAZ e chk l st=some J) :
  qdy P N nt n0 e.lim ι ro st b w J (lone (b.atR a (.code (.region id ops true)::k)) cs w) k cs:=by
 unfold qAZ at I;split at I
 ·rename_i st' hs U;cases hc:chk.all (qAU e l st'.tm hs.reverse)<;>simp only[hc,cond,reduceCtorEq,Jae]at I
  subst I;exact qA7 ce z1 hd sr hn (na:=0) U λc z0=>List.all_eq_true.1 hc c z0
 ·cases I
def qoX(P:Program)(N:Num)(e:Env)(b:Frame)(cs:List Frame)(n0 nt:Nat):Prop :=
 ∀(f:Opd) (ps:List Nat) (asg body:IC) (g:Operand) (qs:Array Tmp) (x y:Code) (ι:Inj) (ro:RO) (st:St) (a:Act) (w:World) (k:List Item) (outs:List OS),
  okC P N nt (.rangeF f ps asg body) (.rangeFunc g qs x y)=true->SR P N (CRel P N) nt ι ro st b a w->n0<=st.h.n->qcA e (f.ev st.tm) ps asg body st=some outs ->
   qdy P N nt n0 e.lim ι ro st b w outs (lone (b.atR a (.code (.rangeFunc g qs x y)::k)) cs w) k cs
theorem qvo{x:Code}:step P (lone (b.atR a (.code (.scope x)::k)) cs w)=.next (lone (b.atR a (.code x::.inScope x::k)) cs w) :=
 step_lone_go (by simp[stepG,stepG.exec,Frame.atR])
theorem qvp{x:Code}:step P (lone (b.atR a (.inScope x::k)) cs w)=.next (lone (b.atR a k) cs w) :=
 step_lone_go (by simp[stepG,stepG.exec,Frame.atR])
theorem qbh{e:Env}{n0:Nat}(ce:qfP P N e b cs n0)(z1:qoX P N e b cs n0 nt):∀(c:IC) (x:Code),okC P N nt c x=true->∀(ι:Inj) (ro:RO) (st:St) (a:Act) (w:World) (k:List Item) (U:List OS),
  SR P N (CRel P N) nt ι ro st b a w->n0<=st.h.n->(qaR c).run e st=some U->qdy P N nt n0 e.lim ι ro st b w U (lone (b.atR a (.code x::k)) cs w) k cs
 | .skip,x,I,ι,ro,st,a,w,k,U,sr,hn,J=>by
  simp only[qaR,Jae]at J; subst J;cases x<;>simp only[okC,Jan]at I
  ·exact⟨_,Jah.2 rfl,ι,ro,a,w,Grow.refl,sr,.one stepR_skip⟩
  ·exact⟨_,Jah.2 rfl,ι,ro,a,w,Grow.refl,sr,.one stepR_label⟩
 | .ops l,x,I,ι,ro,st,a,w,k,U,sr,hn,J=>by
  cases x<;>try (simp[okC]at I; done)
  rename_i id ops d;cases d<;>simp only[okC,Jan,Jad]at I
  simp only[qaR]at J;obtain⟨ms,hm,z3⟩:=qBw J;refine(qpD ce I.1 I.2 sr hn hm).sub λr hr=>?_;obtain⟨s,hs,rfl⟩:=Jak.1 hr;obtain⟨rs,h1,h2⟩:=z3 s hs;cases h1;exact h2 _ (Jah.2 rfl)
 | .dops na chk l,x,I,ι,ro,st,a,w,k,U,sr,hn,J=>by
  cases x<;>try (simp[okC]at I; done)
  rename_i id ops d;cases d<;>simp only[okC,Jan,Jad]at I
  simp only[qaR]at J;exact qoL ce I.1 I.2 sr hn J
 | .dopc chk l,x,I,ι,ro,st,a,w,k,U,sr,hn,J=>by
  cases x<;>try (simp[okC]at I; done)
  rename_i id ops d;cases d<;>simp only[okC,Jan,Jad]at I
  simp only[qaR]at J;exact qBg ce I.1 I.2 sr hn J
 | .seq c d,x,I,ι,ro,st,a,w,k,U,sr,hn,J=>by
  cases x<;>simp only[okC,Jan,Jad]at I
  rotate_left
  ·rename_i y;obtain⟨hc,I⟩:=I;cases c<;>simp only[qvq,Jan]at hc
   simp only[qaR]at J;have J:(qaR d).run e st=some U:=J;obtain⟨r,hr,ι',ro',a',w',hG,z2,z0⟩:=qbh ce z1 d y I ι ro st a w (.inScope y::k) U sr hn J;obtain⟨o,s⟩:=r;refine⟨_,hr,ι',ro',a',w',hG,z2,?_⟩;cases o with
   | normal=>exact .head qvo (Steps.trans z0 (.one qvp))
   | exit id =>
    obtain⟨k',e1,e2⟩:=z0;exact⟨k',by rw[e1]; rfl,.head qvo e2⟩
   | ret =>
    obtain⟨k',e2⟩:=z0;exact⟨k',.head qvo e2⟩
  rename_i y z;simp only[qaR]at J;obtain⟨ms,hm,z3⟩:=qBw J;obtain⟨r,hr,ι',ro',a',w',hG,z2,z0⟩:=qbh ce z1 c y I.1 ι ro st a w (.code z::k) ms sr hn hm;obtain⟨rs,h1,h2⟩:=z3 r hr;obtain⟨o,s⟩:=r;cases o with
  | normal =>
   dsimp only at h1;obtain⟨r2,k1,ι2,z4,a2,w2,k2,k3,k4⟩:=qbh ce z1 d z I.2 ι' ro' s a' w' k rs z2 (Jaf hn hG.n) h1;exact⟨r2,h2 _ k1,ι2,z4,a2,w2,hG.trans k2,k3,k4.of_steps (.head stepR_seq z0)⟩
  | exit id =>
   cases h1;obtain⟨k',e1,e2⟩:=z0;exact⟨_,h2 _ (Jah.2 rfl),ι',ro',a',w',hG,z2,k',by rw[e1]; rfl,.head stepR_seq e2⟩
  | ret =>
   cases h1;obtain⟨k',e2⟩:=z0;exact⟨_,h2 _ (Jah.2 rfl),ι',ro',a',w',hG,z2,k',.head stepR_seq e2⟩
 | .cond c d1 d2,x,I,ι,ro,st,a,w,k,U,sr,hn,J=>by
  cases x<;>simp only[okC,Jan,Jad]at I
  rename_i c' y z;simp only[qaR]at J;have hc:=qan sr.tm I.1.1;split at J
  ·rename_i t ht;rw[ht]at hc;simp only[VR]at hc;have z5:=stepR_cond (P:=P) (b:=b) (a:=a) (k:=k) (cs:=cs) (w:=w) (x:=y) (y:=z) hc;cases t with
   | true=>exact(qbh ce z1 d1 y I.1.2 ι ro st a w k U sr hn J).head (.one z5)
   | false=>exact(qbh ce z1 d2 z I.2 ι ro st a w k U sr hn J).head (.one z5)
  ·cases J
 | .block id c,x,I,ι,ro,st,a,w,k,U,sr,hn,J=>by
  cases x<;>simp only[okC,Jan,Jad,Jas]at I
  rename_i z7 y;obtain⟨rfl,I⟩:=I;simp only[qaR]at J;obtain⟨ms,hm,z3⟩:=qBw J;obtain⟨r,hr,ι',ro',a',w',hG,z2,z0⟩:=qbh ce z1 c y I ι ro st a w (.inBlock id::k) ms sr hn hm;obtain⟨rs,h1,h2⟩:=z3 r hr;obtain⟨o,s⟩:=r;cases o with
  | normal =>
   cases h1;exact⟨_,h2 _ (Jah.2 rfl),ι',ro',a',w',hG,z2,.head stepR_block (z0.trans (.one stepR_inBlock))⟩
  | exit j =>
   obtain⟨k',e1,e2⟩:=z0;dsimp only at h1;cases hj:Nat.beq j id<;>simp only[hj,cond]at h1<;>cases h1
   ·have z6:(id == j)=false:=by
     rw[beq_eq_false_iff_ne]; intro e; subst e; simp at hj
    exact⟨_,h2 _ (Jah.2 rfl),ι',ro',a',w',hG,z2,k',by rw[e1]; simp[exitTo,z6],.head stepR_block e2⟩
   ·rw[Jas]at hj; subst hj;have he:exitTo j k'=some k:=by rw[e1]; simp[exitTo]
    exact⟨_,h2 _ (Jah.2 rfl),ι',ro',a',w',hG,z2,.head stepR_block (e2.trans (.one (stepR_exit he)))⟩
  | ret =>
   cases h1;obtain⟨k',e2⟩:=z0;exact⟨_,h2 _ (Jah.2 rfl),ι',ro',a',w',hG,z2,k',.head stepR_block e2⟩
 | .loop c,x,I,ι,ro,st,a,w,k,U,sr,hn,J=>by
  cases x<;>simp only[okC,Jan]at I
  rename_i y;simp only[qaR]at J;have key:∀(n:Nat) (ι:Inj) (ro:RO) (st:St) (a:Act) (w:World) (U:List OS),SR P N (CRel P N) nt ι ro st b a w->n0<=st.h.n->qga ((qaR c).run e) n st=some U ->
    qdy P N nt n0 e.lim ι ro st b w U (lone (b.atR a (.code y::.inLoop y::k)) cs w) k cs:=by
   intro n;induction n with
   | zero=>intro ι ro st a w U _ _ h; cases h
   | succ n ih =>
    intro ι ro st a w U sr hn J;simp only[qga]at J;obtain⟨ms,hm,z3⟩:=qBw J;obtain⟨r,hr,ι',ro',a',w',hG,z2,z0⟩:=qbh ce z1 c y I ι ro st a w (.inLoop y::k) ms sr hn hm;obtain⟨rs,h1,h2⟩:=z3 r hr;obtain⟨o,s⟩:=r;cases o with
    | normal =>
     dsimp only at h1;obtain⟨r2,k1,ι2,z4,a2,w2,k2,k3,k4⟩:=ih ι' ro' s a' w' rs z2 (Jaf hn hG.n) h1;exact⟨r2,h2 _ k1,ι2,z4,a2,w2,hG.trans k2,k3,k4.of_steps (Steps.trans z0 (.one stepR_inLoop))⟩
    | exit id =>
     cases h1;obtain⟨k',e1,e2⟩:=z0;exact⟨_,h2 _ (Jah.2 rfl),ι',ro',a',w',hG,z2,k',by rw[e1]; rfl,e2⟩
    | ret =>
     cases h1;exact⟨_,h2 _ (Jah.2 rfl),ι',ro',a',w',hG,z2,z0⟩
  exact(key e.fu ι ro st a w U sr hn J).head (.one stepR_loop)
 | .rangeF f ps asg body,x,I,ι,ro,st,a,w,k,U,sr,hn,J=>by
  cases x<;>try (simp[okC]at I; done)
  rename_i g qs x y;simp only[qaR]at J;exact z1 f ps asg body g qs x y ι ro st a w k U I sr hn J
 | .exit id,x,I,ι,ro,st,a,w,k,U,sr,hn,J=>by
  cases x<;>simp only[okC,Jan,Jas]at I
  subst I;simp only[qaR,Jae]at J; subst J;exact⟨_,Jah.2 rfl,ι,ro,a,w,Grow.refl,sr,k,rfl,Steps.refl P _⟩
 | .ret,x,I,ι,ro,st,a,w,k,U,sr,hn,J=>by
  cases x<;>simp only[okC,Jan]at I
  simp only[qaR,Jae]at J; subst J;exact⟨_,Jah.2 rfl,ι,ro,a,w,Grow.refl,sr,k,Steps.refl P _⟩
 | .bad,x,I,ι,ro,st,a,w,k,U,sr,hn,J=>by simp[qaR]at J
variable {N:Num}{ι ι' ι'':Inj}{ro ro' ro'':RO}{P:Program}{h h' h'':Heap}{w w' w'':World}{nt:Nat}{st st' g:St}{b:Frame}{a:Act}{k:List Item}{cs:List Frame}{ops:Array Oper}
def qhe(b:Frame)(a:Act)(qs:Array Tmp)(x y:Code)(w:World):World :=
 { w with heap:=(w.heap.push (.deferred (some []))).push (.loop { state:=.ready,pending:=none,fn:=b.fn,tmps:=a.tmps,params:=qs,assign:=x,body:=y,defers:=w.heap.size }) }
def qcM(a:Act)(w:World):Act:={ a with defers:={ target:=.collected w.heap.size,args:=#[] }::a.defers }
theorem qiO(I:Array Tmp)(x y:Code):(Instr.enterLoop b.fn a.tmps I x y none).run P w=.ok (w.heap.size+1,[{ target:=.collected w.heap.size,args:=#[] }]) (qhe b a I x y w):=by
 simp[Instr.enterLoop,newObj,Sem.run,qhe];rfl
theorem qnL(hb:b.roundOf=none){f:Operand}{qs:Array Tmp}{x y:Code}{R:Value->World->Prop}(h:qeI P (a.eval f) #[.func (.yield (w.heap.size+1)) #[] #[]] (qhe b a qs x y w) R) :
  ∃v w',R v w'/\Steps P (lone (b.atR a (.code (.rangeFunc f qs x y)::k)) cs w) (lone (b.atR (qcM a w) (.endRangeFunc (w.heap.size+1)::k)) cs w'):=by
 obtain⟨nx,w1,h1,h2⟩:=h;have I:∀v,(b.atR (qcM a w) (.inRangeFunc (w.heap.size+1)::k)).finish v=b.atR (qcM a w) (.endRangeFunc (w.heap.size+1)::k):=λv=>rfl;have z1:∀(z:Operand),(b.atR (qcM a w) (.inRangeFunc (w.heap.size+1)::k)).eval z=a.eval z:=λz=>by cases z<;>rfl
 have z0:=qiO (P:=P) (b:=b) (a:=a) (w:=w) qs x y;have J:(stepG P true { frame:=b.atR a (.code (.rangeFunc f qs x y)::k),callers:=cs,status:=.running,dying:=none } w).bare =
   (stepG.apply P true (b.atR (qcM a w) (.inRangeFunc (w.heap.size+1)::k)) cs none (qaU (a.eval f) #[.func (.yield (w.heap.size+1)) #[] #[]]) (qhe b a qs x y w)).bare:=by
  have hr:∀ty,(resolve (b.atR (qcM a w) (.inRangeFunc (w.heap.size+1)::k)).eval { callee:=.value f,args:=#[.const (.func (.yield (w.heap.size+1)) #[] #[])],argTypes:=#[] } ty:Sem Deferred)=Deferred.ofValue (a.eval f) #[.func (.yield (w.heap.size+1)) #[] #[]]:=λty=>by
   simp[resolve,z1,Act.eval]
  have U:=hr 0;simp only[stepG,stepG.exec,Frame.atR,hb,Sem.runT_eq,z0,GStep.bare_after];simp only[Frame.atR,hb,qcM]at U;simp only[qcM,qaU,List.cons_append,List.nil_append];rw[U]
 cases nx<;>simp only[qih]at h2
 ·rename_i v;refine⟨v,w1,h2,.one (step_lone_go ?_)⟩;rw[J,<-I v]; simp[stepG.apply,h1]
 ·rename_i f' args;obtain⟨v,w',g1,g2⟩:=h2.of_calls (b.atR (qcM a w) (.inRangeFunc (w.heap.size+1)::k)) cs;refine⟨v,w',g1,.head (step_lone_go (fr':=Frame.enter P f' args .normal) (cs':=b.atR (qcM a w) (.inRangeFunc (w.heap.size+1)::k)::cs) (w':=w1) ?_) (by rw[<-I]; exact g2)⟩;rw[J]; simp[stepG.apply,h1,Frame.atR]
 ·rename_i l f' tmps asg body;obtain⟨v,w',g1,g2⟩:=h2 (b.atR (qcM a w) (.inRangeFunc (w.heap.size+1)::k)) cs;refine⟨v,w',g1,.head (step_lone_go (fr':=Frame.round l f' tmps asg body .normal) (cs':=b.atR (qcM a w) (.inRangeFunc (w.heap.size+1)::k)::cs) (w':=w1) ?_) (by rw[<-I]; exact g2)⟩;rw[J]; simp[stepG.apply,h1,Frame.atR]
theorem qrD{L:Nat}{r:Loop}(J:w.heap[L]?=some (.loop r))(hs:r.state≠.busy) :
  step P (lone (b.atR a (.endRangeFunc L::k)) cs w)=.next (lone (b.atR a ((r.pending.map Item.code).toList++k)) cs { w with heap:=w.heap.setIfInBounds L (.loop { r with state:=.exhausted }) }):=by
 have I:(Instr.endLoop L).run P w=.ok r.pending { w with heap:=w.heap.setIfInBounds L (.loop { r with state:=.exhausted }) }:=by
  simp[Instr.endLoop,Instr.getLoop,getObj,setObj,Sem.run,J,hs]
 exact step_lone_go (by simp[stepG,stepG.exec,Frame.atR,Sem.runT_eq,I])
def outOf:Option IC->Option Out
 | none=>some .normal
 | some .ret=>some .ret
 | some (.exit i)=>some (.exit i)
 | _=>none
theorem qnT{s:LoopState}{pend:Option IC}{st':St}{rs:List OS}(h:(match s with
  | .busy=>none
  | _=>match pend with
   | none=>some [⟨.normal,st'⟩]
   | some .ret=>some [⟨.ret,st'⟩]
   | some (.exit i)=>some [⟨.exit i,st'⟩]
   | _=>(none:ND OS))=some rs):s≠.busy/\∃o,outOf pend=some o/\rs=[⟨o,st'⟩]:=by
 cases s with
 | busy=>cases h
 | _ =>
  dsimp only at h;refine⟨by simp,?_⟩;split at h
  ·exact⟨_,rfl,(Option.some.inj h).symm⟩
  ·exact⟨_,rfl,(Option.some.inj h).symm⟩
  ·exact⟨_,rfl,(Option.some.inj h).symm⟩
  ·cases h
theorem qp1{pend:Option IC}{q:Option Code}{o:Out}(J:outOf pend=some o)(I:qk2 pend q){m:Machine}(hm:Steps P m (lone (b.atR a ((q.map Item.code).toList++k)) cs w)):Arr P m b k cs o a w:=by
 cases pend with
 | none =>
  cases q with
  | none=>cases J; exact hm
  | some c=>exact I.elim
 | some p =>
  cases q with
  | none=>cases p<;>exact I.elim
  | some c =>
   cases p<;>try (cases J; done)
   ·cases c<;>try exact I.elim
    have e:_=_:=I;subst e;cases J;exact⟨k,rfl,hm⟩
   ·cases c<;>try exact I.elim
    cases J;exact⟨k,hm⟩
theorem qep{e:Env}{n0:Nat}(ce:qfP P N e b cs n0):qoX P N e b cs n0 nt:=by
 intro f ps asg body g qs x y ι ro st a w k za z7 J hn U;simp only[okC,Jad,beq_iff_eq,List.all_eq_true,Nat.blt_eq]at z7;obtain⟨⟨⟨⟨o1,o2⟩,o3⟩,o4⟩,o5⟩:=z7;unfold qcA at U;cases hr:st.round with
 | true=>simp[hr]at U
 | false =>
  simp only[hr,cond]at U;have hb:b.roundOf=none:=by have:=J.round; rw[hr]at this; cases zc:b.roundOf<;>simp[zc]at this ⊢
  obtain⟨ms,hm,z3⟩:=qBw U
  let wd:Plc:=⟨w.heap.size,0,0,0⟩
  let wl:Plc:=⟨w.heap.size+1,0,0,0⟩
  let w1:World:={ w with heap:=w.heap.push (.deferred (some [])) }
  have e1:=qeD J.hr wd;have z1:HR N (CRel P N) (λj=>if j=st.h.n then some wd else ι j) ro (st.h.push .dfr) w1 :=
   J.hr.put_new (wn:=wd) (o:=.dfr) (c:=.deferred (some [])) (J.hr.fresh _ (Jac _)) (by simp) (by simp) (λj=>by rw[qBq]) rfl (qdA.alloc w _).old (qdA.alloc w _).new rfl
  have e2:=qeD z1 wl
  let lo:Loop:={ state:=.ready,pending:=none,fn:=b.fn,tmps:=a.tmps,params:=qs,assign:=x,body:=y,defers:=w.heap.size }
  have zd:=z1.put_new (wn:=wl) (o:=.loop .ready none st.tm ps asg body) (c:=.loop lo) (h':=(st.h.push .dfr).push (.loop .ready none st.tm ps asg body)) (w':=qhe b a qs x y w) (z1.fresh _ (Jac _)) (by simp) (by simp) (λj=>by rw[qBq]) (by simp[wl,w1]) (by
    intro b' zb; simp only[qhe,w1]at zb ⊢; rw[Array.getElem?_push,Jaa (by omega)]) (by show((w.heap.push _).push _)[w.heap.size+1]?=_; rw[Array.getElem?_push,Jab (by simp)]) ⟨lo,rfl,rfl,trivial,(J.tm.mono e1.old e1.ro).mono e2.old e2.ro,o2,nt,J.sz,o3,o4,o5⟩
  have hf:=(VR.mono e2.old e2.ro _ _ (VR.mono e1.old e1.ro _ _ (qan J.tm o1)));have z0:VRs N (λj=>if j=(st.h.push .dfr).n then some wl else if j=st.h.n then some wd else ι j) ro [.yld (st.h.push .dfr).n] (#[Value.func (.yield (w.heap.size+1)) #[] #[]]:Array Value).toList :=
   VRs.cons (by simp only[VR]; exact⟨wl,by simp,rfl⟩) VRs.nil
  have z6:=ce.call _ _ _ _ _ _ _ #[Value.func (.yield (w.heap.size+1)) #[] #[]] ms (by have:=ce.lim; simp; omega) zd hf z0 hm;obtain⟨v,w',⟨r,ze,ι',ro',hG,hh',_⟩,zf⟩:=qnL (k:=k) (cs:=cs) hb z6;obtain⟨rs,I,z9⟩:=z3 r ze;split at I
  ·rename_i s pend tm' ps' asg' body' hgl;have hl' : ι' (st.h.push .dfr).n = some wl := hG.ext.old _ _ (by simp);have hd' : ι' st.h.n = some wd := hG.ext.old _ _ (by simp);obtain ⟨_, wn, hwn, c, hc, hO⟩ := hh'.live _ _ hgl;rw [hl'] at hwn; cases hwn;obtain ⟨lo', rfl, hs1, hj, ht1, hp1, hx1⟩ := hO;have hold : ∀ j u, ι j = some u → ι' j = some u := fun j u hj => hG.ext.old _ _ (e2.old _ _ (e1.old _ _ hj));have hroo : ∀ b c, ro b = some c → ro' b = some c := hG.ext.ro;have fin : ∀ (o : Out), s ≠ .busy → rs = [⟨o, ⟨st.tm, r.h.set (st.h.push .dfr).n (.loop .exhausted pend tm' ps' asg' body'), .mark st.h.n :: st.defs, false⟩⟩] →
     (∀(m:Machine) a w,Steps P m (lone (b.atR a ((lo'.pending.map Item.code).toList++k)) cs w)->Arr P m b k cs o a w) ->
     qdy P N nt n0 e.lim ι ro st b w za (lone (b.atR a (.code (.rangeFunc g qs x y)::k)) cs w) k cs:=by
    intro o z2 I z4;subst I;have z5:=qrD (P:=P) (b:=b) (a:=qcM a w) (k:=k) (cs:=cs) hc (by rw[hs1]; exact z2);refine⟨_,z9 _ (Jah.2 rfl),ι',ro',qcM a w,_,?_,?_,z4 _ _ _ (zf.trans (.one z5))⟩
    ·refine⟨⟨λj hj=>?_,hold,hroo⟩,⟨hG.env.os,hG.env.output,hG.env.tape,hG.env.drawn,?_⟩,?_,λj hj=>?_⟩
     ·rw[hG.ext.inj j (by simp; omega)];exact(Jaa (by simp; omega)).trans (Jaa (by omega))
     ·have:=hG.env.size;simp only[qhe,Array.size_push]at this;simp only[Array.size_setIfInBounds]; omega
     ·have:=hG.n;simp only[qBF,qBB]at this ⊢; omega
     ·have:=ce.lim;show(r.h.set _ _).get j=_;rw[qBp,Jaa (by simp; omega),hG.low j hj,qBq,Jaa (by simp; omega),qBq,Jaa (by omega)]
    ·refine⟨?_,J.tm.mono hold hroo,J.sz,by rw[hb]; rfl,.cons ⟨wd,hd',rfl⟩ (J.defs.mono λ_ _ h=>h.mono hold hroo)⟩;exact hh'.set_obj hgl hl' ⟨_,rfl,rfl,hj,ht1,hp1,hx1⟩
   obtain⟨z2,o,ho,z8⟩:=qnT I;exact fin o z2 z8 λm a w hm=>qp1 ho hj hm
  ·cases I
variable {N:Num}{ι ι' ι'':Inj}{ro ro' ro'':RO}{P:Program}{h h' h'':Heap}{w w' w'':World}{nt:Nat}{st st' g:St}{b:Frame}{a:Act}{k:List Item}{cs:List Frame}{ops:Array Oper}
theorem qiW:∀(ps:List Nat) (args:List V) (xs:List Value) (tm:Tm) (t:Array Value),VRtm N ι ro tm t->VRs N ι ro args xs->(∀p∈ps,p<t.size) ->
  VRtm N ι ro (qdr tm ps args) ((ps.zip xs).foldl (λt (q:Nat × Value)=>t.setIfInBounds q.1 q.2) t)/\((ps.zip xs).foldl (λt (q:Nat × Value)=>t.setIfInBounds q.1 q.2) t).size=t.size
 | [],args,xs,tm,t,h,_,_=>⟨h,rfl⟩
 | p::ps,[],xs,tm,t,h,hx,_=>by rw[VRs.nil_inv hx]; exact⟨h,rfl⟩
 | p::ps,v::args,xs,tm,t,h,hx,I=>by
  obtain⟨x,r,rfl,h1,h2⟩:=VRs.cons_inv hx;simp only[qdr,List.zip_cons_cons,List.foldl_cons];obtain⟨k1,U⟩:=qiW ps args r _ (t.setIfInBounds p x) (h.set (I p (by simp)) h1) h2 (λq J=>by simpa using I q (by simp[J]));exact⟨k1,by simpa using U⟩
theorem qm9{L:Nat}{r:Loop}(I:w.heap[L]?=some (.loop r)){xs:Array Value}(hn:xs.size=r.params.size) :
  (qaU (.func (.yield L) #[] #[]) xs).run P w=.ok (.round L r.fn ((r.params.zip xs).foldl (λt (q:Nat × Value)=>t.setIfInBounds q.1 q.2) r.tmps) r.assign r.body) w:=by
 simp[qaU,Deferred.ofValue,invoke,Instr.yield,Instr.getLoop,getObj,Sem.run,I,hn]
theorem qoT{L:Nat}{r:Loop}(I:w.heap[L]?=some (.loop r))(hs:r.state=.ready):(Instr.beginRound L).run P w=.ok () { w with heap:=w.heap.setIfInBounds L (.loop { r with state:=.busy }) }:=by
 simp[Instr.beginRound,Instr.getLoop,getObj,setObj,Sem.run,I,hs]
theorem qsh{L:Nat}{r:Loop}(J:w.heap[L]?=some (.loop r))(I:Option Code):(Instr.endRound L I).run P w=.ok (.bool I.isNone) { w with heap:=w.heap.setIfInBounds L (.loop { r with state:=if I.isNone then .ready else .done,pending:=I }) }:=by
 simp[Instr.endRound,Instr.getLoop,getObj,setObj,Sem.run,J]
theorem qkm(hN:∀t u,N.t t=N.t u->t=u){AP:Prog}{callF:V->List V->Heap->ND VH}{mk fu:Nat}(zo:qfq P N (CRel P N) callF mk)(zr:MethOK P N AP.meth)(zt:qAX ⟨callF,AP.meth,fu,mk,AP.pureF⟩)(zc:P.follows .mixedOrders=true)
  {l:Nat}{args:List V}{xs:Array Value}{z8:List VH}(y6:mk<=h.n) (hh:HR N (CRel P N) ι ro h w) {wn:Plc}(hw:ι l=some wn) (z5:VRs N ι ro args xs.toList) (z3:qb6 AP callF fu mk l args h=some z8) :
  qeI P (.func (.yield wn.blk) #[] #[]) xs w λv w'=>∃r∈z8,∃ι' ro',Grow h.n mk ι ro h w ι' ro' r.h w'/\HR N (CRel P N) ι' ro' r.h w'/\VR N ι' ro' r.v v:=by
 unfold qb6 at z3;split at z3
 ·rename_i s pend tm ps asg body hg;obtain⟨hb,z3⟩:=qaG z3;simp only[Jad,Jat,Jas]at hb;obtain⟨xg,xc⟩:=hb;obtain⟨xf,xl,yc,c,hc,lo,rfl,hs,hj,x1,y9,nt,y7,zy,zn,yr⟩:=hh.live _ _ hg;rw[hw]at yc; cases yc;have x3:xs.size=lo.params.size:=by
   have h1:=z5.length;have h2:lo.params.toList.length=ps.length:=by rw[y9]
   simp at h1 h2; omega
  refine⟨_,w,qm9 hc x3,?_⟩;intro cf cs
  let b:Frame:={ (default:Frame)with fn:=lo.fn,kind:=.normal,roundOf:=some wn.blk }
  obtain⟨yw,yy⟩:=qiW ps args xs.toList tm lo.tmps x1 z5 λp hp=>Nat.lt_of_lt_of_le (yr p hp) y7;have z7:(lo.params.zip xs).foldl (λt (q:Nat × Value)=>t.setIfInBounds q.1 q.2) lo.tmps=(ps.zip xs.toList).foldl (λt (q:Nat × Value)=>t.setIfInBounds q.1 q.2) lo.tmps:=by
   rw[<-Array.foldl_toList,Array.toList_zip,y9]
  let a:Act:=⟨(lo.params.zip xs).foldl (λt (q:Nat × Value)=>t.setIfInBounds q.1 q.2) lo.tmps,[]⟩
  have yl:Frame.round wn.blk lo.fn a.tmps lo.assign lo.body .normal=b.atR a [.code lo.assign,.beginRound,.code lo.body]:=by
   simp[Frame.round,Frame.atR,b,a]
  have ce:qfP P N ⟨callF,AP.meth,fu,mk,AP.pureF⟩ b (cf::cs) h.n:=⟨hN,zo,zr,zt,zc,qeF _,y6⟩;have sr:SR P N (CRel P N) nt ι ro ⟨qdr tm ps args,h,[],true⟩ b a w:=⟨hh,by show VRtm N ι ro _ ((lo.params.zip xs).foldl _ lo.tmps); rw[z7]; exact yw,by show nt<=((lo.params.zip xs).foldl _ lo.tmps).size; rw[z7,yy]; exact y7,rfl,.nil⟩;obtain⟨ms,hm,zx⟩:=qBw z3;obtain⟨r,hr,ι1,zg,a1,w1,zk,z9,z6⟩:=qbh ce (qep ce) asg lo.assign zy ι ro _ a w [.beginRound,.code lo.body] ms sr (Jac _) hm;obtain⟨rs,zd,ya⟩:=zx r hr;rw[yl];obtain⟨xd,x7⟩:=r;obtain⟨xa,h1,defs1,yf⟩:=x7;dsimp only at zd;split at zd
  ·rename_i o1 d1 g1 z1 tm' zw z4 z0 y5;dsimp only at z6;have zv:ι1 l=some wn:=zk.ext.old _ _ hw;obtain⟨_,xm,zh,c1,yj,zf,rfl,yt,yo,yb,y8,ye⟩:=z9.hr.live _ _ y5;rw[zv]at zh; cases zh
   have y0:a1.defers=[]:=by have:=z9.defs; cases hq:a1.defers with
    | nil=>rfl
    | cons x y=>rw[hq]at this; cases this
   have zb:=stepR_beginRound (P:=P) (b:=b) (a:=a1) (k:=[.code lo.body]) (cs:=cf::cs) (w:=w1) rfl (qoT yj yt);have ym:=z9.hr.set_obj (o':=.loop .busy z1 tm' zw z4 z0) (c:=.loop { zf with state:=.busy }) y5 zv ⟨_,rfl,rfl,yo,yb,y8,ye⟩;have x9:SR P N (CRel P N) nt ι1 zg ⟨xa,h1.set l (.loop .busy z1 tm' zw z4 z0),[],true⟩ b a1 _:=⟨ym,z9.tm,z9.sz,rfl,by rw[y0]; exact .nil⟩;obtain⟨x5,yp,zm⟩:=qBw zd;obtain⟨s2,yu,ι2,x6,a2,w2,zl,za,U⟩:=qbh ce (qep ce) body lo.body zn ι1 zg _ a1 _ [] x5 x9 (by have:=zk.n; exact this) yp;obtain⟨x8,I,zu⟩:=zm s2 yu;have yd:ι2 l=some wn:=zl.ext.old _ _ zv;have ze:Steps P (lone (b.atR a [.code lo.assign,.beginRound,.code lo.body]) (cf::cs) w) (lone (b.atR a1 [.code lo.body]) (cf::cs) { w1 with heap:=w1.heap.setIfInBounds wn.blk (.loop { zf with state:=.busy }) }):=Steps.trans z6 (.one zb);obtain⟨o2,s2⟩:=s2;obtain⟨xj,h2,yi,yg⟩:=s2;dsimp only at I U za zl;have zj:∀(J:Option IC) (cj:Option Code) (m:Machine),qk2 J cj->endRound l J h2=some x8->Steps P (lone (b.atR a1 [.code lo.body]) (cf::cs) { w1 with heap:=w1.heap.setIfInBounds wn.blk (.loop { zf with state:=.busy }) }) m ->
     (∀v w',(Instr.endRound wn.blk cj).run P w2=.ok v w'->step P m=.next (lone (cf.finish v) cs w')) ->
     ∃v w',(∃r∈z8,∃ι' ro',Grow h.n mk ι ro h w ι' ro' r.h w'/\HR N (CRel P N) ι' ro' r.h w'/\VR N ι' ro' r.v v)/\Steps P (lone (b.atR a [.code lo.assign,.beginRound,.code lo.body]) (cf::cs) w) (lone (cf.finish v) cs w'):=by
    intro J cj m zp z2 hm yv;unfold endRound at z2;split at z2
    ·rename_i s3 p3 xk xi xb yh y4;cases z2;obtain⟨_,xn,zi,c3,yk,x4,rfl,xh,xe,yz,yq,x2⟩:=za.hr.live _ _ y4;rw[yd]at zi; cases zi;have zz:cj.isNone=J.isNone:=by cases J<;>cases cj<;>first|rfl|exact zp.elim|(rename_i q; cases q<;>exact zp.elim)
     refine⟨_,_,⟨_,ya _ (zu _ (Jah.2 rfl)),ι2,x6,?_,za.hr.set_obj (c:=.loop { x4 with state:=if cj.isNone then .ready else .done,pending:=cj }) y4 yd ⟨_,rfl,?_,zp,yz,yq,x2⟩,?_⟩,(ze.trans hm).trans (.one (yv _ _ (qsh yk cj)))⟩
     ·have hG:=zk.trans (⟨Ext.refl _ _ _,⟨rfl,rfl,rfl,(by first|exact Jac _|exact Nat.le_succ _|simp),by simp⟩,by simp,λi hi=>by rw[qBp,Jaa (by omega)]⟩:Grow h.n mk ι1 zg h1 w1 ι1 zg (h1.set l (.loop .busy z1 tm' zw z4 z0)) { w1 with heap:=w1.heap.setIfInBounds wn.blk (.loop { zf with state:=.busy }) });have hG:=hG.trans zl;exact⟨hG.ext,⟨hG.env.os,hG.env.output,hG.env.tape,hG.env.drawn,by simpa using hG.env.size⟩,by simpa using hG.n,λi hi=>by rw[qBp,Jaa (by omega)]; exact hG.low i hi⟩
     ·rw[zz]; cases J<;>rfl
     ·rw[zz]; simp only[VR]
    ·cases z2
   split at I
   ·cases o2 with
    | normal=>exact zj none none _ trivial I U λv w' hr=>stepR_round_end rfl rfl hr
    | ret =>
     obtain⟨k',zq⟩:=U;exact zj (some .ret) (some .ret) _ trivial I zq λv w' hr=>stepR_round_ret rfl rfl hr
    | exit i =>
     obtain⟨k',e1,zq⟩:=U;exact zj (some (.exit i)) (some (.exit i)) _ rfl I zq λv w' hr=>stepR_round_exit rfl rfl (by rw[e1]; rfl) hr
   ·cases I
  ·cases zd
 ·cases z3
variable {N:Num}{ι ι' ι'':Inj}{ro ro' ro'':RO}{P:Program}{h h' h'':Heap}{w w' w'':World}{nt:Nat}{st st' g:St}{b:Frame}{a:Act}{k:List Item}{cs:List Frame}{ops:Array Oper}
variable {CR:Nat->IC->Code->Prop}
theorem HR.kill_set(hh:HR N CR ι ro h w){i:Nat}{o:Obj}{wn:Plc}(hi:h.get i=some o)(hw:ι i=some wn)(c:Go.Obj):HR N CR ι ro (h.kill i) { w with heap:=w.heap.setIfInBounds wn.blk c }:=by
 have hk:=hh.kill i;refine⟨λj oj U=>?_,hk.dist,λJ c' hb=>?_,hk.fresh,λJ o' hb=>?_⟩
 ·obtain⟨h1,u,h2,c2,h3,h4⟩:=hk.live j oj U;refine⟨h1,u,h2,c2,?_,h4⟩;have I:u.blk≠wn.blk:=λe=>by
   rw[qBr]at U
   by_cases ej:j=i
   ·rw[Jab ej]at U; cases U
   ·rw[Jaa ej]at U; exact ej (hh.dist j i oj o u wn U hi h2 hw e)
  simp only[Array.getElem?_setIfInBounds];rw[Jaa (λe=>I e.symm)]; exact h3
 ·obtain⟨⟨e,fz,h1⟩,h2⟩:=hk.rd J c' hb;refine⟨⟨e,fz,?_⟩,h2⟩;have I:wn.blk≠J:=(hh.rd J c' hb).2 i o wn hi hw;simp only[Array.getElem?_setIfInBounds];rw[Jaa I]; exact h1
 ·refine⟨?_,(hk.kb J o' hb).2⟩;have I:wn.blk≠J:=(hh.kb J o' hb).2 i o wn hi hw;simp only[Array.getElem?_setIfInBounds];rw[Jaa I]; exact(hk.kb J o' hb).1
theorem qns{fr:Frame}{J:List Deferred}{blk:Nat}(hm:fr.mode=.returning)(hd:fr.defers={ target:=.collected blk,args:=#[] }::J)(hb:w.heap[blk]?=some (.deferred (some []))) :
  step P (lone fr cs w)=.next (lone { fr with defers:=J } cs { w with heap:=w.heap.setIfInBounds blk (.deferred none) }):=by
 have I:(Instr.takeDeferred blk).run P w=.ok [] { w with heap:=w.heap.setIfInBounds blk (.deferred none) }:=by
  simp[Instr.takeDeferred,getObj,setObj,Sem.run,hb]
 exact step_lone_go (by simp[stepG,unwind,hm,hd,Sem.runT_eq,I])
theorem qf9{fr:Frame}{d:Deferred}{I:List Deferred}{fv:Fn}{cap:Array Value}{v:Value}(hm:fr.mode=.returning)(hd:fr.defers=d::I)(ht:d.target=.fn fv cap)(hi:(invoke d.target d.args).run P w=.ok (.value v) w') :
  step P (lone fr cs w)=.next (lone { fr with defers:=I } cs w'):=by
 obtain⟨t,a⟩:=d;simp only at ht hi;subst ht;exact step_lone_go (by simp[stepG,unwind,callDeferred,hm,hd,hi])
theorem qdB{callF:V->List V->Heap->ND VH}{mk:Nat}(z0:qqA P N CR callF mk):∀(defs:List DefI) (ds:List Deferred) (ι:Inj) (ro:RO) (h:Heap) (w:World) (J:List Heap),All2 (DefR N ι ro) defs ds->HR N CR ι ro h w->mk<=h.n->qa1 callF mk defs h=some J ->
  ∀(fr:Frame) (cs:List Frame),fr.mode=.returning->fr.defers=ds->∃h'∈J,∃ι' ro' w',Grow h.n mk ι ro h w ι' ro' h' w'/\HR N CR ι' ro' h' w'/\Steps P (lone fr cs w) (lone { fr with defers:=[] } cs w')
 | [],ds,ι,ro,h,w,J,U,hh,z1,I,fr,cs,hm,hd=>by
  cases U;simp only[qa1,Jae]at I; subst I;refine⟨h,Jah.2 rfl,ι,ro,w,Grow.refl,hh,?_⟩;have:({ fr with defers:=[] }:Frame)=fr:=by cases fr; simp at hd; subst hd; rfl
  rw[this]; exact Steps.refl P _
 | .mark i::defs,ds,ι,ro,h,w,J,U,hh,z1,I,fr,cs,hm,hd=>by
  cases U with
  | cons hr U =>
   rename_i d ds;obtain⟨wn,hw,rfl⟩:=hr;simp only[qa1]at I;split at I
   ·rename_i hg;obtain⟨zf,I⟩:=qaG I;rw[Jat]at zf;obtain⟨_,zk,z9,c,hc,hO⟩:=hh.live _ _ hg;rw[hw]at z9; cases z9;have zc:c=.deferred (some []):=hO;subst zc;have z2:=qns (P:=P) (cs:=cs) hm hd hc;obtain⟨h',h1,ι',ro',w',hG,z5,hs⟩:=qdB z0 defs ds ι ro (h.kill i) _ J U (hh.kill_set hg hw (.deferred none)) z1 I { fr with defers:=ds } cs hm rfl;refine⟨h',h1,ι',ro',w',⟨hG.ext,⟨hG.env.os,hG.env.output,hG.env.tape,hG.env.drawn,by simpa using hG.env.size⟩,hG.n,λj hj=>?_⟩,z5,.head z2 hs⟩;rw[hG.low j hj,qBr,Jaa (by omega)]
   ·cases I
 | .call v::defs,ds,ι,ro,h,w,J,U,hh,z1,I,fr,cs,hm,hd=>by
  cases U with
  | cons hr U =>
   rename_i d ds;obtain⟨⟨f,fa,fc,rfl⟩,fn,first,cap,hv,rfl⟩:=hr;simp only[qa1]at I;obtain⟨ms,zg,z6⟩:=qBw I;have zd:=z0 ι ro h w f fa fc _ [] #[] ms z1 hh hv VRs.nil zg;have key:∀(fr':Frame) v w',Steps P (lone fr cs w) (lone { fr with defers:=ds } cs w')->(∃r∈ms,∃ι' ro',Grow h.n mk ι ro h w ι' ro' r.h w'/\HR N CR ι' ro' r.h w'/\VR N ι' ro' r.v v) ->
     ∃h'∈J,∃ι' ro' w',Grow h.n mk ι ro h w ι' ro' h' w'/\HR N CR ι' ro' h' w'/\Steps P (lone fr cs w) (lone { fr with defers:=[] } cs w'):=by
    intro _ v w' z2 hR;obtain⟨r,hr,ι',ro',hG,z5,_⟩:=hR;obtain⟨rs,zh,z8⟩:=z6 r hr;obtain⟨h',h1,ι2,zj,w2,zb,ze,zi⟩:=qdB z0 defs ds ι' ro' r.h w' rs (U.mono λ_ _ h=>h.mono hG.ext.old hG.ext.ro) z5 (Jaf z1 hG.n) zh { fr with defers:=ds } cs hm rfl;exact⟨h',z8 _ h1,ι2,zj,w2,hG.trans (zb.less hG.n (Jac _)),ze,z2.trans zi⟩
   rcases zd with ⟨f',z4,h1,h2⟩|⟨v,w1,h1,h2⟩
   ·have hi:(invoke (.fn fn cap) (first++#[])).run P w=.ok (.enter f' z4) w:=by simpa[qaU,Deferred.ofValue]using h1
    have z2:=step_defer (P:=P) (cs:=cs) (fr:=fr) (by rw[hm]; simp) hd rfl hi;obtain⟨v,w',fr',g1,g2,g3,g4,g5,g6,za,g7,g8⟩:=h2 .deferred ({ fr with defers:=ds }::cs) (λq hq=>by unfold tryRecover; rw[hq]; simp[hm]);have z3:=step_going_returned (P:=P) (c:={ fr with defers:=ds }) (cs:=cs) (w:=w') (v:=v) g6 ⟨g4,g5,za,by rw[g3]; exact g7,g8⟩;have z7:({ { fr with defers:=ds }with mode:=settle ({ fr with defers:=ds }:Frame).mode }:Frame)={ fr with defers:=ds }:=by
     simp only[hm,settle]
    rw[z7]at z3;exact key fr v w' (.head z2 (g2.trans (.one z3))) g1
   ·have hi:(invoke (.fn fn cap) (first++#[])).run P w=.ok (.value v) w1:=by simpa[qaU,Deferred.ofValue]using h1
    exact key fr v w1 (.one (qf9 hm hd rfl hi)) h2
variable {N:Num}{ι ι' ι'':Inj}{ro ro' ro'':RO}{P:Program}{h h' h'':Heap}{w w' w'':World}{nt:Nat}{st st' g:St}{b:Frame}{a:Act}{k:List Item}{cs:List Frame}{ops:Array Oper}
variable {CR:Nat->IC->Code->Prop}
def qlp(P:Program)(r:Res)(v:ResultVar):Bool :=
 match r,v with
 | .tm t,.tmp u=>Nat.beq t u
 | .cell n t,.cell u ty=>Nat.beq t u&&okN P n ty
 | _,_=>false
def okRes(P:Program):List Res->List ResultVar->Bool
 | [],[]=>true
 | r::l,v::m=>qlp P r v&&okRes P l m
 | _,_=>false
def qhJ(tmps:Array Value):ResultVar->Sem Value
 | .tmp t=>pure (tmps.getD t undef)
 | .cell a t=>do loadVar t (<- asAddr (tmps.getD a undef))
theorem qrH{tm:Tm}{tmps:Array Value}(z1:VRtm N ι ro tm tmps)(hh:HR N CR ι ro h w){r:Res}{v:ResultVar}(U:qlp P r v=true){u:V}(I:resV tm h r=some u):∃x,(qhJ tmps v).run P w=.ok x w/\VR N ι ro u x:=by
 cases r with
 | tm t =>
  cases v<;>simp only[qlp,Jan,Jas]at U
  subst U;simp only[resV,Jae]at I;subst I;exact⟨_,rfl,z1 t⟩
 | cell n t =>
  cases v<;>simp only[qlp,Jan,Jad,Jas]at U
  obtain⟨rfl,hn⟩:=U;simp only[resV,qbc]at I;have hx:=z1 t;have z0:(Opd.t t).ev tm=(gK t).run tm:=rfl;rw[z0]at I;cases z2:(gK t).run tm<;>simp only[z2,reduceCtorEq]at I<;>rw[z2]at hx
  ·rename_i i r o;simp only[VR]at hx;obtain⟨wn,hw,e1⟩:=hx;split at I
   ·rename_i rs hg;split at I
    ·rename_i row hr;rw[qcS]at hr;obtain⟨z4,c,e,fz,g1,g2,g3,g4,g5,g6⟩:=hh.rows hg;rw[hw]at g1; cases g1;obtain⟨z,hz,J⟩:=qgj (ad:=wn.base+r * wn.esz) g2 (λj u hu=>g6.2 r row hr j u hu) I hn;exact⟨z,by simp only[qhJ,e1,asAddr,Plc.at]; simp[J],hz⟩
    ·cases I
   ·cases I
  ·rename_i row o;rw[qBA]at hx;obtain⟨b,ad,c,e1,z3,hc⟩:=hx;obtain⟨⟨e,fz,hb⟩,_⟩:=hh.rd b c z3;obtain⟨z,hz,J⟩:=qgj hb hc I hn;exact⟨z,by simp only[qhJ,e1,asAddr]; simp[J],hz⟩
theorem qnN{tm:Tm}{tmps:Array Value}(U:VRtm N ι ro tm tmps)(hh:HR N CR ι ro h w):∀{rs:List Res}{vs:List ResultVar}{us:List V},okRes P rs vs=true->allM (resV tm h) rs=some us->∃xs,(vs.mapM (qhJ tmps)).run P w=.ok xs w/\VRs N ι ro us xs
 | [],[],us,_,I=>by simp[allM]at I; subst I; exact⟨[],by simp,VRs.nil⟩
 | [],_::_,_,h,_=>by simp[okRes]at h
 | _::_,[],_,h,_=>by simp[okRes]at h
 | r::rs,v::vs,us,J,I=>by
  simp only[okRes,Jad]at J;simp only[allM]at I;split at I
  ·rename_i u hu;split at I
   ·rename_i m hm;cases I;obtain⟨x,h1,h2⟩:=qrH U hh J.1 hu;obtain⟨xs,h3,h4⟩:=qnN U hh J.2 hm;exact⟨x::xs,by simp[List.mapM_cons,h1,h3],VRs.cons h2 h4⟩
   ·cases I
  ·cases I
theorem qir{tm:Tm}{tmps:Array Value}(z2:VRtm N ι ro tm tmps)(hh:HR N CR ι ro h w){fn:Func}{rs:List Res}(z1:okRes P rs fn.results.toList=true){u:V}(I:results tm h rs=some u):∃x,(Go.results fn tmps).run P w=.ok x w/\VR N ι ro u x:=by
 unfold results at I;cases hm:allM (resV tm h) rs with
 | none=>simp[hm]at I
 | some us =>
  obtain⟨xs,h1,h2⟩:=qnN z2 hh z1 hm;have z0:(fn.results.mapM (qhJ tmps)).run P w=.ok xs.toArray w:=by
   rw[Array.mapM_eq_mapM_toList]; simp[h1]
  have U:(Go.results fn tmps).run P w=.ok (if h:xs.toArray.size=1 then xs.toArray[0]else .tuple xs.toArray) w:=by
   have:Go.results fn tmps=(do let vs <- fn.results.mapM (qhJ tmps); pure (if h:vs.size=1 then vs[0]else .tuple vs)):=rfl;rw[this,Sem.run_bind,z0]; rfl
  refine⟨_,U,?_⟩;rw[hm]at I;have J:=h2.length;cases us with
  | nil =>
   simp at I; subst I;rw[dif_neg (by simp at J ⊢; omega)];simp only[VR]; exact⟨_,rfl,h2⟩
  | cons u1 us =>
   cases us with
   | nil =>
    simp at I; subst I;obtain⟨x,r,rfl,k1,k2⟩:=VRs.cons_inv h2;rw[VRs.nil_inv k2]at J ⊢;simpa using k1
   | cons u2 us =>
    simp at I; subst I;rw[dif_neg (by simp at J ⊢; omega)];simp only[VR]; exact⟨_,rfl,h2⟩
theorem qlN(hN:∀t u,N.t t=N.t u->t=u){AP:Prog}{callF:V->List V->Heap->ND VH}{mk fu:Nat}(z7:qfq P N (CRel P N) callF mk)(zg:qqA P N (CRel P N) (qbx AP callF) mk)(z9:MethOK P N AP.meth)(za:qAX ⟨callF,AP.meth,fu,mk,AP.pureF⟩)(z2:P.follows .mixedOrders=true)
  {id:FuncId}{F:IFn}{fn:Func}{c:Code}(hf:P.funcs[id]?=some fn) (hb:fn.body=some c) (zq:fn.ntmps=F.nt) (hc:okC P N F.nt F.body c=true) (zi:okRes P F.res fn.results.toList=true)
  {args:List V}{xs:Array Value}{z0:List VH}(z3:mk<=h.n) (hh:HR N (CRel P N) ι ro h w) (I:VRs N ι ro args xs.toList) (z1:qeS AP callF fu mk F args h=some z0) :
  qfo P id xs w λv w'=>∃r∈z0,∃ι' ro',Grow h.n mk ι ro h w ι' ro' r.h w'/\HR N (CRel P N) ι' ro' r.h w'/\VR N ι' ro' r.v v:=by
 unfold qeS at z1;obtain⟨zp,z1⟩:=qaG z1;rw[Jat]at zp;intro kind cs z8
 let b:Frame:={ fn:=id,tmps:=#[],todo:=[],defers:=[],mode:=.run,kind:=kind }
 let a:Act:=⟨xs++Array.replicate (F.nt-xs.size) undef,[]⟩
 have zz:xs.size=args.length:=by have:=I.length; simp at this; omega
 have zm:Frame.enter P id xs kind=b.atR a [.code c]:=by simp[Frame.enter,Frame.atR,hf,hb,zq,b,a]
 have ce:qfP P N ⟨callF,AP.meth,fu,mk,AP.pureF⟩ b cs h.n:=⟨hN,z7,z9,za,z2,z8,z3⟩;have sr:SR P N (CRel P N) F.nt ι ro ⟨Tm.ofL 0 args .e,h,[],false⟩ b a w:=⟨hh,by
  have:=qC4 I (F.nt-xs.size);simpa[a]using this,by simp[a]; omega,rfl,.nil⟩
 obtain⟨ms,hm,zf⟩:=qBw z1;obtain⟨r,hr,ι1,zw,a1,w1,z4,zd,J⟩:=qbh ce (qep ce) F.body c hc ι ro _ a w [] ms sr (Jac _) hm;obtain⟨rs,zb,zk⟩:=zf r hr;obtain⟨o1,s1⟩:=r;obtain⟨zy,h1,defs1,zl⟩:=s1;have ze:∀todo,Steps P (lone (b.atR a [.code c]) cs w) (lone { b.atR a1 todo with mode:=.returning } cs w1)->ND.bind (qa1 (qbx AP callF) mk defs1 h1) (λh'=>match results zy h' F.res with|some v=>some [⟨v,h'⟩]|none=>none)=some rs ->
   ∃v w' fr,(∃r∈z0,∃ι' ro',Grow h.n mk ι ro h w ι' ro' r.h w'/\HR N (CRel P N) ι' ro' r.h w'/\VR N ι' ro' r.v v)/\Steps P (lone (Frame.enter P id xs kind) cs w) (lone fr cs w')/\fr.fn=id/\fr.mode=.returning/\fr.defers=[]/\fr.kind=kind /\
    ∃fn,P.funcs[id]?=some fn/\(Go.results fn fr.tmps).run P w'=.ok v w':=by
  intro todo zr zt;obtain⟨hs,hu,z6⟩:=qBw zt;obtain⟨h',zn,ι2,zx,w2,z5,zh,zj⟩:=qdB zg defs1 a1.defers ι1 zw h1 w1 hs zd.defs zd.hr (Jaf z3 z4.n) hu { b.atR a1 todo with mode:=.returning } cs rfl rfl;obtain⟨y0,U,zc⟩:=z6 h' zn;split at U
  ·rename_i v hv;cases U;obtain⟨x,zu,zv⟩:=qir (P:=P) (zd.tm.mono z5.ext.old z5.ext.ro) zh zi hv;refine⟨x,w2,_,⟨_,zk _ (zc _ (Jah.2 rfl)),ι2,zx,z4.trans (z5.less z4.n (Jac _)),zh,zv⟩,by rw[zm]; exact zr.trans zj,rfl,rfl,rfl,rfl,fn,hf,zu⟩
  ·cases U
 cases o1 with
 | normal=>exact ze [] (Steps.trans J (.one (stepR_end rfl))) zb
 | ret =>
  obtain⟨k',zo⟩:=J;exact ze _ (zo.trans (.one (stepR_ret rfl))) zb
 | exit i=>cases zb
variable {N:Num}{ι ι' ι'':Inj}{ro ro' ro'':RO}{P:Program}{h h' h'':Heap}{w w' w'':World}
mutual
theorem VR.back(hi:∀i w,ι i=some w->ι' i=some w):∀(v:V) (x0 x:Value),VR N ι ro v x0->VR N ι' ro' v x->VR N ι ro' v x
 | .any,_,_,_,_=>by simp[VR]
 | .bool _,_,_,_,h=>by simpa only[VR]using h
 | .int _ _,_,_,_,h=>by simpa only[VR]using h
 | .str _,_,_,_,h=>by simpa only[VR]using h
 | .nilp,_,_,_,h=>by simpa only[VR]using h
 | .ptr _ _ _,_,_,h0,h=>by
  simp only[VR]at h0 h ⊢;obtain⟨w0,k0,_⟩:=h0;obtain⟨w1,k1,k2⟩:=h;rw[hi _ _ k0]at k1; cases k1;exact⟨w0,k0,k2⟩
 | .ptrR row _,_,_,h0,h=>by
  simp only[VR]at h0 h ⊢;obtain⟨_,_,_,_,_,cr0,g0,_⟩:=h0;obtain⟨b,a,c,h1,h2,cr,h3,h4⟩:=h;exact⟨b,a,c,h1,h2,cr,VRs.back hi row cr0 cr g0 h3,h4⟩
 | .nils,_,_,_,h=>by simpa only[VR]using h
 | .sl _ _ _ _ _,_,_,h0,h=>by
  simp only[VR]at h0 h ⊢;obtain⟨w0,k0,_⟩:=h0;obtain⟨w1,k1,k2⟩:=h;rw[hi _ _ k0]at k1; cases k1;exact⟨w0,k0,k2⟩
 | .slR rows _,_,_,h0,h=>by
  simp only[VR]at h0 h ⊢;obtain⟨_,_,_,_,_,g4⟩:=h0;obtain⟨a,cap,h1,h2,h3,h4⟩:=h;refine⟨a,cap,h1,h2,h3,?_⟩;rcases g4 with g4|⟨_,_,_,cr0,_,g6,_⟩
  ·exact .inl g4
  ·rcases h4 with h4|⟨h4,c,esz,cr,h5,h6,h7⟩
   ·exact .inl h4
   ·exact .inr ⟨h4,c,esz,cr,h5,VRrs.back hi rows cr0 cr g6 h6,h7⟩
 | .nilm,_,_,_,h=>by simpa only[VR]using h
 | .map _,_,_,h0,h=>by
  simp only[VR]at h0 h ⊢;obtain⟨w0,k0,_⟩:=h0;obtain⟨w1,k1,k2⟩:=h;rw[hi _ _ k0]at k1; cases k1;exact⟨w0,k0,k2⟩
 | .fn _ a b,_,_,h0,h=>by
  simp only[VR]at h0 h ⊢;obtain⟨a0,b0,_,g1,g2⟩:=h0;obtain⟨a',b',e,h1,h2⟩:=h;exact⟨a',b',e,VRs.back hi a _ _ g1 h1,VRs.back hi b _ _ g2 h2⟩
 | .yld _,_,_,h0,h=>by
  simp only[VR]at h0 h ⊢;obtain⟨w0,k0,_⟩:=h0;obtain⟨w1,k1,k2⟩:=h;rw[hi _ _ k0]at k1; cases k1;exact⟨w0,k0,k2⟩
 | .nilf,_,_,_,h=>by simpa only[VR]using h
 | .iface _ v,_,_,h0,h=>by
  simp only[VR]at h0 h ⊢;obtain⟨x0,_,g⟩:=h0;obtain⟨x,e,k⟩:=h;exact⟨x,e,VR.back hi v _ _ g k⟩
 | .nili,_,_,_,h=>by simpa only[VR]using h
 | .agg cs,_,_,h0,h=>by
  simp only[VR]at h0 h ⊢;obtain⟨x0,_,g⟩:=h0;obtain⟨x,e,k⟩:=h;exact⟨x,e,VRs.back hi cs _ _ g k⟩
 | .tup cs,_,_,h0,h=>by
  simp only[VR]at h0 h ⊢;obtain⟨x0,_,g⟩:=h0;obtain⟨x,e,k⟩:=h;exact⟨x,e,VRs.back hi cs _ _ g k⟩
theorem VRs.back(hi:∀i w,ι i=some w->ι' i=some w):∀(l:List V) (x0 x:List Value),VRs N ι ro l x0->VRs N ι' ro' l x->VRs N ι ro' l x
 | [],_,_,_,h=>by rw[VRs.nil_inv h]; exact VRs.nil
 | v::l,_,_,h0,h=>by
  obtain⟨y0,r0,rfl,g1,g2⟩:=VRs.cons_inv h0;obtain⟨y,r,rfl,h1,h2⟩:=VRs.cons_inv h;exact VRs.cons (VR.back hi v _ _ g1 h1) (VRs.back hi l _ _ g2 h2)
theorem VRrs.back(hi:∀i w,ι i=some w->ι' i=some w):∀(l:List (List V)) (x0 x:List (List Value)),VRrs N ι ro l x0->VRrs N ι' ro' l x->VRrs N ι ro' l x
 | [],_,_,_,h=>by simpa only[VRrs]using h
 | v::l,_,_,h0,h=>by
  simp only[VRrs]at h0 h ⊢;obtain⟨y0,r0,rfl,g1,g2⟩:=h0;obtain⟨y,r,rfl,h1,h2⟩:=h;exact⟨y,r,rfl,VRs.back hi v _ _ g1 h1,VRrs.back hi l _ _ g2 h2⟩
end
theorem All2.back{es:List (Nat × V × V)}{m0:List MapEntry}(hi:∀i w,ι i=some w->ι' i=some w)(h0:All2 (qdY N ι ro) es m0):∀{m:List MapEntry},All2 (qdY N ι' ro') es m->All2 (qdY N ι ro') es m:=by
 induction h0 with
 | nil=>intro m h; cases h; exact .nil
 | cons h k I =>
  intro m hm;cases hm with
  | cons h1 k1=>exact .cons ⟨h1.1,VR.back hi _ _ _ h.2.1 h1.2.1,VR.back hi _ _ _ h.2.2 h1.2.2⟩ (I k1)
variable {CR:Nat->IC->Code->Prop}
theorem ORel.back(hi:∀i w,ι i=some w->ι' i=some w){o:Obj}{wn:Plc}{c0 c:Go.Obj}(h0:ORel N CR ι ro o wn c0)(h:ORel N CR ι' ro' o wn c):ORel N CR ι ro' o wn c:=by
 cases o with
 | rows rs =>
  obtain⟨a0,_,_,_,_,_,_,g⟩:=h0;obtain⟨a,b,f,h1,h2,J,U,I⟩:=h;refine⟨a,b,f,h1,h2,J,U,I.1,λi r hr j v hv=>?_⟩;obtain⟨x0,_,k0⟩:=g.2 i r hr j v hv;obtain⟨x,hx,k⟩:=I.2 i r hr j v hv;exact⟨x,hx,VR.back hi _ _ _ k0 k⟩
 | map es clock =>
  obtain⟨m0,_,g⟩:=h0;obtain⟨m,h1,h2⟩:=h;exact⟨m,h1,All2.back hi g h2⟩
 | strIter s p=>exact h
 | mapIter m a b d =>
  obtain⟨_,w0,g,_⟩:=h0;obtain⟨hb,w1,h1,h2⟩:=h;rw[hi _ _ g]at h1; cases h1;exact⟨hb,w0,g,h2⟩
 | loop st pend tm ps asg body =>
  obtain⟨l0,_,_,_,g,_⟩:=h0;obtain⟨l,h1,h2,J,U,I⟩:=h;exact⟨l,h1,h2,J,λi=>VR.back hi _ _ _ (g i) (U i),I⟩
 | dfr=>exact h
theorem HR.back{h0:Heap}{w0:World}(I:HR N CR ι ro h0 w0)(hh:HR N CR ι' ro' h w)(hG:Grow h0.n h0.n ι ro h0 w0 ι' ro' h w):HR N CR ι (qgA h0.n h ι' ro' w) h0 w:=by
 have key:∀i o,h0.get i=some o->i<h0.n/\h.get i=some o/\∀u,ι i=some u->ι' i=some u:=λi o hi=>by
  have:=(I.live i o hi).1;exact⟨this,by rw[hG.low i this]; exact hi,λu=>hG.ext.old i u⟩
 refine⟨λi o hi=>?_,I.dist,λb c hb=>?_,I.fresh,λb o hb=>⟨(hh.kb b o hb).1,λj oj u hj hu=>?_⟩⟩
 ·obtain⟨k1,k2,k3⟩:=key i o hi;obtain⟨_,wn,hw,c0,z2,z1⟩:=I.live i o hi;obtain⟨_,z4,z0,c,hc,hO⟩:=hh.live i o k2;rw[k3 _ hw]at z0; cases z0;exact⟨k1,wn,hw,c,hc,(ORel.back hG.ext.old z1 hO).mono (λ_ _ h=>h) λ_ _ h=>qeT h⟩
 ·rcases qnK hb with hb|⟨hc,i,wn,z3,U,hw,rfl⟩
  ·obtain⟨hc,hn⟩:=hh.rd b c hb;refine⟨hc,λj oj u hj hu=>?_⟩;obtain⟨_,k2,k3⟩:=key j oj hj;exact hn j oj u k2 (k3 u hu)
  ·obtain⟨e,fz,J⟩:=hc;refine⟨⟨e,fz,J⟩,λj oj u hj hu e'=>?_⟩;obtain⟨k1,k2,k3⟩:=key j oj hj;obtain⟨o,ho⟩:=Option.isSome_iff_exists.1 U;have:=hh.dist j i oj o u wn k2 ho (k3 u hu) hw e';omega
 ·obtain⟨_,k2,k3⟩:=key j oj hj;exact(hh.kb b o hb).2 j oj u k2 (k3 u hu)
theorem qmX{h0:Heap}{l:List V}{I:List VH}(hd:dedup h0 (some l)=some I){v:V}(J:v∈l):(⟨v,h0⟩:VH)∈I:=by
 cases l with
 | nil=>cases J
 | cons x r =>
  cases r with
  | nil =>
   simp only[dedup,Jae]at hd; subst hd;rw[Jah]at J; subst J; simp
  | cons y r =>
   simp only[dedup]at hd;cases ha:(y::r).all (V.beq x)<;>simp only[ha,cond,Jae]at hd<;>subst hd
   ·exact List.mem_map_of_mem J
   ·rcases Jag.1 J with rfl|J
    ·simp
    ·have:=V.beq_eq _ _ (List.all_eq_true.1 ha v J);rw[<-this]; simp
theorem qmt{mk:Nat}{h0:Heap}{m:ND VH}{J:List VH}(I:qeq h0.n h0 m=some J)(z4:mk<=h0.n)(z3:HR N CR ι ro h0 w){ms:List VH}(hm:m=some ms){x:Value}
  (hR:∃r∈ms,∃ι' ro',Grow h0.n h0.n ι ro h0 w ι' ro' r.h w'/\HR N CR ι' ro' r.h w'/\VR N ι' ro' r.v x) :
  ∃r∈J,∃ι' ro',Grow h0.n mk ι ro h0 w ι' ro' r.h w'/\HR N CR ι' ro' r.h w'/\VR N ι' ro' r.v x:=by
 obtain⟨r,hr,ι',ro',hG,hh,hv⟩:=hR;unfold qeq at I;generalize hb:ND.bind m _=q at I;cases q with
 | none=>cases I
 | some l =>
  obtain⟨z5,z1,z0⟩:=qBw hb;rw[hm]at z1; cases z1;obtain⟨rs,U,z2⟩:=z0 r hr;split at U
  ·rename_i v hf;cases U;refine⟨⟨v,h0⟩,qmX I (z2 v (by simp)),ι,qgA h0.n r.h ι' ro' w',⟨⟨λ_ _=>rfl,λ_ _ h=>h,λb c hb=>qeT (hG.ext.ro b c hb)⟩,hG.env,Jac _,λ_ _=>rfl⟩,HR.back z3 hh hG,VR.none (qdP hh _ _ _ _ hf hv)⟩
  ·cases U
variable {N:Num}{ι ι' ι'':Inj}{ro ro' ro'':RO}{P:Program}{h h' h'':Heap}{w w' w'':World}
def qke(P:Program)(N:Num)(f:Nat)(p:Nat->List V->Heap->ND VH):Prop :=
 ∀mk ι ro h w args (xs:Array Value) outs,mk<=h.n->HR N (CRel P N) ι ro h w->VRs N ι ro args xs.toList->p mk args h=some outs ->
  ∃nx w1,(callFunc (N.f f) xs).run P w=.ok nx w1/\qih P w1 (λv w'=>∃r∈outs,∃ι' ro',Grow h.n mk ι ro h w ι' ro' r.h w'/\HR N (CRel P N) ι' ro' r.h w'/\VR N ι' ro' r.v v) nx
structure Link (P:Program) (N:Num) (AP:Prog):Prop where
 hN:∀t u,N.t t=N.t u->t=u
 mixed:P.follows .mixedOrders=true
 meth:MethOK P N AP.meth
 fn:∀f F,AP.prim f=none->AP.fn f=some F->∃fn c,P.funcs[N.f f]?=some fn/\fn.body=some c/\fn.ntmps=F.nt/\(fn.name == "runtime.NumGoroutine")=false/\okC P N F.nt F.body c=true/\okRes P F.res fn.results.toList=true
 prim:∀f p,AP.prim f=some p->qke P N f p
theorem qAW(AP:Prog):∀(n mk:Nat) (fu:Nat) {mk':Nat}{m:Nat->String->Option Nat},qAX ⟨evCall AP n mk,m,fu,mk',AP.pureF⟩
 | 0,mk,fu,_,_=>λf args h r _ hr=>by simp[evCall]at hr
 | n+1,mk,fu,_,_=>λf args h r I hr=>by
  simp only[Prog.pureF]at I;simp only[evCall]at hr;split at I
  ·cases I
  ·rename_i hp;split at I
   ·rename_i F U;rw[hp]at hr;simp only[U,I,cond,qeq]at hr;generalize ND.bind (qeS AP (evCall AP n h.n) n h.n F ([]++args++[]) h) _=m at hr;unfold dedup at hr;split at hr
    ·cases hr
    ·split at hr
     ·cases hr
     ·split at hr
      ·cases hr; rfl
      ·rename_i x r' y J;cases hb:(y::J).all (V.beq x)<;>simp only[hb,cond]at hr<;>cases hr
       rfl
   ·cases I
theorem qjG{f:Nat}{I J xs:Array Value}(w:World):(qaU (.func (.func (N.f f)) I J) xs).run P w=(callFunc (N.f f) (I++xs++J)).run P w:=by simp[qaU,Deferred.ofValue,invoke]
theorem qbT{AP:Prog}(L:Link P N AP):∀n mk,qfq P N (CRel P N) (evCall AP n mk) mk/\qqA P N (CRel P N) (qbx AP (evCall AP n mk)) mk
 | 0,mk=>⟨λι ro h w fv fx args xs outs _ _ _ _ hev=>by simp[evCall]at hev,λι ro h w f fa fc fx args xs outs _ _ _ _ hev=>by
   simp only[qbx,evCall]at hev;split at hev<;>cases hev⟩
 | n+1,mk=>by
  have hdef:qqA P N (CRel P N) (qbx AP (evCall AP (n+1) mk)) mk:=by
   intro ι ro h w f fa fc fx args xs outs hlim hh hfx hargs hev;simp only[VR]at hfx;obtain⟨a',b',rfl,ha,hb⟩:=hfx;have hall:VRs N ι ro (fa++args++fc) (a'++xs++b').toList:=by
    simp only[Array.toList_append]; exact VRs.append (VRs.append ha hargs) hb
   simp only[qbx]at hev;cases hp:AP.prim f with
   | some p=>rw[hp]at hev; cases hev
   | none =>
    rw[hp]at hev;simp only[evCall,hp]at hev;cases hF:AP.fn f with
    | none=>rw[hF]at hev; cases hev
    | some F =>
     rw[hF]at hev;dsimp only at hev;obtain⟨fn,c,g1,g2,g3,g4,g5,g6⟩:=L.fn f F hp hF;have g4':fn.name≠ "runtime.NumGoroutine" :=by simpa using g4
     have hent:(callFunc (N.f f) (a'++xs++b')).run P w=.ok (.enter (N.f f) (a'++xs++b')) w:=by simp[callFunc,g1,g4',g2]
     refine .inl ⟨N.f f,a'++xs++b',(qjG w).trans hent,?_⟩;cases hpure:F.pure with
     | true =>
      rw[hpure]at hev;simp only[cond]at hev;obtain⟨k1,k2⟩:=qbT L n h.n;cases hm:qeS AP (evCall AP n h.n) n h.n F (fa++args++fc) h with
      | none=>rw[hm]at hev; simp[qeq,dedup]at hev
      | some ms =>
       exact(qlN L.hN k1 k2 L.meth (qAW _ _ _ _) L.mixed g1 g2 g3 g5 g6 (Jac _) hh hall hm).mono λv w' hR=>qmt hev hlim hh hm hR
     | false =>
      rw[hpure]at hev;simp only[cond]at hev;obtain⟨k1,k2⟩:=qbT L n mk;exact qlN L.hN k1 k2 L.meth (qAW _ _ _ _) L.mixed g1 g2 g3 g5 g6 hlim hh hall hev
  refine⟨λι ro h w fv fx args xs outs hlim hh hfx hargs hev=>?_,hdef⟩;cases fv with
  | fn f fa fc =>
   cases hp:AP.prim f with
   | some p =>
    simp only[evCall,hp]at hev;simp only[VR]at hfx;obtain⟨a',b',rfl,ha,hb⟩:=hfx;have hall:VRs N ι ro (fa++args++fc) (a'++xs++b').toList:=by
     simp only[Array.toList_append]; exact VRs.append (VRs.append ha hargs) hb
    obtain⟨nx,w1,q1,q2⟩:=L.prim f p hp mk ι ro h w _ _ outs hlim hh hall hev;exact⟨nx,w1,(qjG w).trans q1,q2⟩
   | none=>exact(hdef ι ro h w f fa fc fx args xs outs hlim hh hfx hargs (by simp only[qbx,hp]; exact hev)).invokes
  | yld l =>
   simp only[VR]at hfx;obtain⟨wn,hw,rfl⟩:=hfx;simp only[evCall]at hev;exact qkm L.hN (qbT L n mk).1 L.meth (qAW _ _ _ _) L.mixed hlim hh hw hargs hev
  | _=>simp[evCall]at hev
end Go.Abs


