/- The evaluator is sound: what it comes to the machine comes to. -/
import Derived.Orders
import Derived.Defers
import Derived.Test.YtaknodpgafomdaaGreatDoorAs1
set_option linter.unusedSimpArgs false
set_option linter.unusedVariables false
namespace Go.Abs
open Go
variable {e:Env}{base:Nat}{tm tm':Tm}{h h':Heap}{r:Bool}{st st':St}{i:Ins}{op:IOp}{f:Eff}
theorem qqj (hc:op.cls=.r):(∃o,op=.r o)\/∃f args,op=.callP f args:=by
 cases op with
 | r o=>exact .inl ⟨o,rfl⟩
 | callP f args=>exact .inr ⟨f,args,rfl⟩
 | p o=>simp [IOp.cls] at hc
 | a o hole =>
  cases o with
  | bslice ro z n ps=>cases ro<;>cases hole<;>simp [IOp.cls] at hc
  | s2b ro x=>cases ro<;>cases hole<;>simp [IOp.cls] at hc
  | _=>cases hole<;>simp [IOp.cls] at hc
 | _=>simp [IOp.cls] at hc
theorem cls_a {p:Nat}(hc:op.cls=.a p):∃o,op=.a o (some p):=by
 cases op with
 | a o hole =>
  cases hole with
  | none =>
   cases o with
   | bslice ro z n ps=>cases ro<;>simp [IOp.cls] at hc
   | s2b ro x=>cases ro<;>simp [IOp.cls] at hc
   | _=>simp [IOp.cls] at hc
  | some q =>
   have:q=p:=by
    cases o with
    | bslice ro z n ps=>cases ro<;>simp [IOp.cls] at hc<;>exact hc
    | s2b ro x=>cases ro<;>simp [IOp.cls] at hc<;>exact hc
    | _=>simpa [IOp.cls] using hc
   subst this; exact⟨o,rfl⟩
 | _=>simp [IOp.cls] at hc
theorem qoK (hc:i.op.cls=.r) (he:effI i e base tm h r=some [f]):f.h=h/\f.d=[]:=by
 have key:∀{f:Eff},qcF i.op e base tm h r=some [f]->f.h=h/\f.d=[]:=by
  intro f he;rcases qqj hc with ⟨o,ho⟩|⟨o,q,ho⟩<;>rw [ho] at he<;>simp only [qcF] at he<;>split at he<;>cases he<;>exact⟨rfl,rfl⟩
 unfold effI at he;cases hg:i.guard with
 | none=>rw [hg] at he; exact key he
 | some g =>
  rw [hg] at he;dsimp only at he;split at he
  ·rename_i c _;cases hcg:(c == g.2)
   ·simp [hcg] at he; subst he; exact⟨rfl,rfl⟩
   ·simp only [hcg,cond] at he; exact key he
  ·simp at he; subst he; exact⟨rfl,rfl⟩
  ·cases he
theorem eff_a {p:Nat}(hc:i.op.cls=.a p) (he:effI i e base tm h r=some [f]):∃upd:Heap->Heap,(upd=id\/∃ob,upd=λH=>H.set (base+p) ob)/\f.h=upd h/\f.d=[]/\∀H,effI i e base tm H r=some [⟨f.v,upd H,[]⟩]:=by
 obtain⟨o,ho⟩:=cls_a hc;have key:∀{f:Eff},qcF i.op e base tm h r=some [f]->∃upd:Heap->Heap,(upd=id\/∃ob,upd=λH=>H.set (base+p) ob)/\f.h=upd h/\f.d=[]/\∀H,qcF i.op e base tm H r=some [⟨f.v,upd H,[]⟩]:=by
  intro f he;rw [ho] at he ⊢;simp only [qcF] at he ⊢;cases hm:(qbK o).run tm with
  | none=>simp [hm] at he
  | some m =>
   cases m with
   | val v=>simp [hm] at he; subst he; exact⟨id,.inl rfl,rfl,rfl,λH=>rfl⟩
   | obj ob fn=>simp [hm] at he; subst he; exact⟨_,.inr ⟨ob,rfl⟩,rfl,rfl,λH=>rfl⟩
 unfold effI at he ⊢;cases hg:i.guard with
 | none=>rw [hg] at he; exact key he
 | some g =>
  rw [hg] at he;dsimp only at he ⊢;split at he
  ·rename_i c _;cases hcg:(c == g.2)
   ·simp [hcg] at he; subst he; exact⟨id,.inl rfl,rfl,rfl,λH=>rfl⟩
   ·simp only [hcg,cond] at he ⊢; exact key he
  ·simp at he; subst he; exact⟨id,.inl rfl,rfl,rfl,λH=>rfl⟩
  ·cases he
theorem qkl {v:V}{rs:List (List V)}(hr:qal h v=some rs) (hm:∀id o,h.get id=some o->h'.get id=some o):qal h' v=some rs:=by
 cases v<;>simp only [qal,reduceCtorEq] at hr ⊢<;>try exact hr
 split at hr
 ·rename_i R hg;rw [hm _ _ hg]; exact hr
 ·cases hr
theorem qm0 {o:RdO}{v:V}(hr:(qbc o).run tm h=some v) (hm:∀id o,h.get id=some o->h'.get id=some o):(qbc o).run tm h'=some v:=by
 cases o<;>simp only [qbc] at hr ⊢
 case load n x =>
  cases hx:x.ev tm<;>simp only [hx] at hr ⊢<;>try exact hr
  split at hr<;>try (simp at hr; done)
  rename_i rs hg;rw [hm _ _ hg]; exact hr
 case b2s x =>
  split at hr<;>try (simp at hr; done)
  rename_i rs hg;rw [qkl hg hm]; exact hr
 case lookup kn zero ok m k =>
  cases hk:qbX kn (k.ev tm)<;>simp only [hk,cond,reduceCtorEq] at hr ⊢
  cases hx:m.ev tm<;>simp only [hx] at hr ⊢<;>try exact hr
  split at hr<;>try (simp at hr; done)
  rename_i es cl hg;rw [hm _ _ hg]; exact hr
 case len k x =>
  cases k<;>simp only at hr ⊢<;>try exact hr
  cases hx:x.ev tm<;>simp only [hx] at hr ⊢<;>try exact hr
  split at hr<;>try (simp at hr; done)
  rename_i es cl hg;rw [hm _ _ hg]; exact hr
 case entry x =>
  split at hr<;>try (simp at hr; done)
  split at hr<;>try (simp at hr; done)
  rename_i hg;rw [hm _ _ hg];dsimp only;split at hr<;>try (simp at hr; done)
  rename_i hg2;rw [hm _ _ hg2]; exact hr
theorem qoJ (hc:i.op.cls=.r) (hn:∀f args,i.op≠.callP f args) (he:effI i e base tm h r=some [f]) (hm:∀id o,h.get id=some o->h'.get id=some o):effI i e base tm h' r=some [⟨f.v,h',[]⟩]:=by
 obtain⟨o,ho⟩:=(qqj hc).resolve_right λ⟨f,q,h⟩=>hn f q h;have key:∀{f:Eff},qcF i.op e base tm h r=some [f]->qcF i.op e base tm h' r=some [⟨f.v,h',[]⟩]:=by
  intro f he;rw [ho] at he ⊢;simp only [qcF] at he ⊢;split at he<;>cases he
  rename_i v hv;rw [qm0 hv hm]
 unfold effI at he ⊢;cases hg:i.guard with
 | none=>rw [hg] at he; exact key he
 | some g =>
  rw [hg] at he;dsimp only at he ⊢;split at he
  ·rename_i c _;cases hcg:(c == g.2)
   ·simp [hcg] at he; subst he; simp
   ·simp only [hcg,cond] at he ⊢; exact key he
  ·simp at he; subst he; simp
  ·cases he
theorem qA8 {l:List Ins}{hs:List Heap}{j k d:Nat}{o:RdO}(hl:l[j]?=some i) (hk:hs[k]?=some h') (hd:i.dst=some d) (ho:i.op=.r o):recheck l tm hs (j,k)=gdO i.guard tm (qA0 ((qbc o).run tm h') ((gK d).run tm)):=by
 simp only [recheck,hl,hk,ho,hd];unfold gdO qA0;cases i.guard<;>rfl
theorem qkn {l:List Ins}{hs:List Heap}{j k d:Nat}(hl:l[j]?=some i) (hk:hs[k]?=some h') (hd:i.dst=some d) (hc:i.op.cls=.r) (hre:qAU e l tm hs (j,k)=true) (he:effI i e base tm h r=some [f]) (hv:f.v=(gK d).run tm) :
  effI i e base tm h' r=some [⟨f.v,h',[]⟩]:=by
 obtain⟨S,hS,key⟩:∃S:Bool,qAU e l tm hs (j,k)=gdO i.guard tm S/\(S=true->qcF i.op e base tm h' r=some [⟨f.v,h',[]⟩]):=by
  have same:∀{o:Option V},qA0 o ((gK d).run tm)=true->o=some f.v:=λ{o} hs=>by
   unfold qA0 at hs;split at hs
   ·rename_i v;have:=V.beq_eq _ _ hs;rw [this,hv]
   ·cases hs
  rcases qqj hc with ⟨o,ho⟩|⟨o,q,ho⟩
  ·refine⟨qA0 ((qbc o).run tm h') ((gK d).run tm),?_,λhs=>?_⟩
   ·rw [<-qA8 hl hk hd ho];simp only [qAU,hl,hk,ho]
   ·rw [ho]; simp only [qcF,same hs]
  ·refine⟨qA0 (qAV e o ((qcE q).run tm) h') ((gK d).run tm),by simp only [qAU,hl,hk,ho,hd],λhs=>?_⟩;rw [ho]; simp only [qcF,same hs]
 rw [hS] at hre;unfold gdO at hre;unfold effI at he ⊢;cases hg:i.guard with
 | none=>rw [hg] at hre; exact key hre
 | some g =>
  rw [hg] at he hre;dsimp only at he hre ⊢;split at he
  ·rename_i c hgc;rw [hgc] at hre;dsimp only at hre;cases hcg:(c == g.2)
   ·simp [hcg] at he; subst he; simp
   ·simp only [hcg,cond] at hre ⊢; exact key hre
  ·simp at he; subst he; simp
  ·cases he
variable {e:Env}{base:Nat}
structure qaZ (e:Env) (base:Nat) (l:List Ins) (T:Nat->St):Prop where
 step:∀(i:Nat) (li:Ins),l[i]?=some li->∃f,effI li e base (T i).tm (T i).h (T i).round=some [f]/\T (i+1)=putE li.dst f (T i)
section
variable {l:List Ins}{T:Nat->St}{bs:Nat->List Nat}{na:Nat}{chk:List (Nat × Nat)}
theorem qaZ.round (t:qaZ e base l T):∀i,i<=l.length->(T i).round=(T 0).round
 | 0,_=>rfl
 | i+1,hi=>by
  obtain⟨f,_,h⟩:=t.step i l[i] (Jal (by omega));rw [h,qhK,t.round i (by omega)]
theorem qaZ.stay (t:qaZ e base l T) {s:Nat}:∀(d j:Nat),j+d=l.length->(∀(k:Nat) (lk:Ins),j<=k->l[k]?=some lk->lk.dst≠some s)->(gK s).run (T l.length).tm=(gK s).run (T j).tm
 | 0,j,hj,_=>by simp at hj; rw [hj]
 | d+1,j,hj,hw=>by
  have hlt:j<l.length:=by omega
  obtain⟨f,_,h⟩:=t.step j l[j] (Jal hlt);rw [t.stay d (j+1) (by omega) λk lk hk=>hw k lk (by omega),h,qgD,Jaa (hw j _ (Jac _) (Jal hlt))]
theorem qaZ.pre (t:qaZ e base l T) {s:Nat}:∀(j:Nat),j<=l.length->(∀(k:Nat) (lk:Ins),k<j->l[k]?=some lk->lk.dst≠some s)->(gK s).run (T j).tm=(gK s).run (T 0).tm
 | 0,_,_=>rfl
 | j+1,hj,hw=>by
  have hlt:j<l.length:=by omega
  obtain⟨f,_,h⟩:=t.step j l[j] (Jal hlt);rw [h,qgD,Jaa (hw j _ (Nat.lt_succ_self _) (Jal hlt)),t.pre j (by omega) λk lk hk=>hw k lk (by omega)]
theorem qaZ.final (t:qaZ e base l T) (ok:qfp l bs na chk) {i:Nat}{li:Ins}(hi:l[i]?=some li) {s:Nat}(hs:li.dst=some s) {f:Eff}(he:T (i+1)=putE li.dst f (T i)):(gK s).run (T l.length).tm=f.v:=by
 have hlt:i<l.length:=(Jam.1 hi).1;rw [t.stay (l.length-(i+1)) (i+1) (by omega) λk lk hk hlk hd=>ok.dst i k li lk s (by omega) hi hlk hs hd,he,qgD,Jab hs]
def isW (l:List Ins) (k:Nat):Prop:=∃lk,l[k]?=some lk/\lk.op.cls=.w
open Classical in
theorem qoD (p:Nat->Prop):∀(d a:Nat),(∀k,a<=k->k<a+d->¬p k)\/∃k,a<=k/\k<a+d/\p k/\∀k',a<=k'->k'<k->¬p k'
 | 0,a=>.inl λk h1 h2=>by omega
 | d+1,a=>by
  by_cases h:p a
  ·exact .inr ⟨a,Jac _,by omega,h,λk' h1 h2=>by omega⟩
  ·rcases qoD p d (a+1) with h1|⟨k,h1,h2,h3,h4⟩
   ·left; intro k hk1 hk2
    by_cases e:k=a
    ·subst e; exact h
    ·exact h1 k (by omega) (by omega)
   ·right; refine⟨k,by omega,by omega,h3,λk' hk1 hk2=>?_⟩
    by_cases e:k'=a
    ·subst e; exact h
    ·exact h4 k' (by omega) hk2
open Classical in
theorem qqQ (p:Nat->Prop) (a:Nat):∀(d:Nat),(∀k,a<=k->k<a+d->¬p k)\/∃k,a<=k/\k<a+d/\p k/\∀k',k<k'->k'<a+d->¬p k'
 | 0=>.inl λk h1 h2=>by omega
 | d+1=>by
  by_cases h:p (a+d)
  ·exact .inr ⟨a+d,by omega,by omega,h,λk' h1 h2=>by omega⟩
  ·rcases qqQ p a d with h1|⟨k,h1,h2,h3,h4⟩
   ·left; intro k hk1 hk2
    by_cases e:k=a+d
    ·subst e; exact h
    ·exact h1 k hk1 (by omega)
   ·right; refine⟨k,h1,by omega,h3,λk' hk1 hk2=>?_⟩
    by_cases e:k'=a+d
    ·subst e; exact h
    ·exact h4 k' hk1 (by omega)
theorem qaZ.quiet (t:qaZ e base l T) (ok:qfp l bs na chk) (h0:na=0) {a:Nat}:∀(d:Nat),a+d<=l.length->(∀k,a<=k->k<a+d->¬isW l k)->(T (a+d)).h=(T a).h/\(T (a+d)).defs=(T a).defs
 | 0,_,_=>⟨rfl,rfl⟩
 | d+1,hd,hq=>by
  obtain⟨h1,h2⟩:=t.quiet ok h0 d (by omega) λk hk1 hk2=>hq k hk1 (by omega);have hlt:a+d<l.length:=by omega
  have hget:=Jal hlt;obtain⟨f,he,h⟩:=t.step (a+d) _ hget;have hnw:=hq (a+d) (by omega) (by omega);have hf:f.h=(T (a+d)).h/\f.d=[]:=by
   cases hc:l[a+d].op.cls with
   | n=>exact⟨(qmV hc he).1,(qmV hc he).2.1⟩
   | r=>exact qoK hc he
   | a p=>have:=ok.ap _ _ p hget hc; omega
   | w=>exact absurd ⟨_,hget,hc⟩ hnw
  rw [show a+(d+1)=a+d+1 by omega,h];simp only [qjj,qgE,hf.1,hf.2,List.nil_append,h1,h2,and_self]
structure Sim (l:List Ins) (T:Nat->St) (base na:Nat) (S:Nat->Prop) (g:St):Prop where
 i1:∀(i:Nat) (li:Ins) (s:Nat),S i->l[i]?=some li->li.dst=some s->(gK s).run g.tm=(gK s).run (T l.length).tm
 i2:∀s,(∀(i:Nat) (li:Ins),S i->l[i]?=some li->li.dst≠some s)->(gK s).run g.tm=(gK s).run (T 0).tm
 i3:g.round=(T 0).round
 hw:na=0->∃m,m<=l.length/\(∀k,isW l k->(S k↔k<m))/\g.h=(T m).h/\g.defs=(T m).defs
 ha:na≠0->g.defs=(T 0).defs/\g.h.n=(T 0).h.n/\(∀id,(∀(i:Nat) (li:Ins) (p:Nat),S i->l[i]?=some li->li.op.cls=.a p->id≠base+p)->g.h.get id=(T 0).h.get id) /\
  ∀(i:Nat) (li:Ins) (p:Nat),S i->l[i]?=some li->li.op.cls=.a p->g.h.get (base+p)=(T l.length).h.get (base+p)
theorem qC7:Sim l T base na (λ_=>False) (T 0) where
 i1:=λi li s h=>h.elim
 i2:=λs _=>rfl
 i3:=rfl
 hw:=λ_=>⟨0,Nat.zero_le _,λk _=>⟨λh=>h.elim,λh=>by omega⟩,rfl,rfl⟩
 ha:=λ_=>⟨rfl,rfl,λid _=>rfl,λi li p h=>h.elim⟩
variable {S:Nat->Prop}{g:St}
theorem Sim.agree (t:qaZ e base l T) (ok:qfp l bs na chk) (sm:Sim l T base na S g) {i:Nat}{li:Ins}(hi:l[i]?=some li) (hS:¬S i) (hb:∀j∈bs i,S j) (hdc:∀j,S j->∀i∈bs j,S i):qbF li.looks g.tm (T i).tm:=by
 intro s hs;have hlt:i<l.length:=(Jam.1 hi).1
 by_cases hw:∃j lj,j≠i/\l[j]?=some lj/\lj.dst=some s
 ·obtain⟨j,lj,hji,hj,hd⟩:=hw;rcases ok.look i j li lj s (λe=>hji e.symm) hi hj hd hs with ⟨k1,k2⟩|⟨_,k1,k2⟩
  ·rw [sm.i1 j lj s (hb j k1) hj hd];exact t.stay (l.length-i) i (by omega) λk lk hk hlk hdk=>ok.dst j k lj lk s (by omega) hj hlk hd hdk
  ·have hSj:¬S j:=λh=>hS (hdc j h i k1);rw [sm.i2 s λq lq hSq hq hdq=>ok.dst j q lj lq s (λe=>hSj (e ▸ hSq)) hj hq hd hdq,t.pre i (by omega) λk lk hk hlk hdk=>ok.dst j k lj lk s (by omega) hj hlk hd hdk]
 ·rw [sm.i2 s λj lj hSj hj hd=>hw ⟨j,lj,λe=>hS (e ▸ hSj),hj,hd⟩,t.pre i (by omega) λk lk hk hlk hd=>hw ⟨k,lk,by omega,hlk,hd⟩]
theorem qaZ.agree_end (t:qaZ e base l T) (ok:qfp l bs na chk) {i:Nat}{li:Ins}(hi:l[i]?=some li) (hc:li.op.cls=.r):qbF li.looks (T l.length).tm (T i).tm:=by
 intro s hs;have hlt:i<l.length:=(Jam.1 hi).1;refine t.stay (l.length-i) i (by omega) λk lk hk hlk hd=>?_
 by_cases e:k=i
 ·subst e; rw [hi] at hlk; cases hlk;exact ok.own k li s hi hc hd hs
 ·rcases ok.look i k li lk s (λh=>e h.symm) hi hlk hd hs with h|⟨h,_⟩
  ·omega
  ·exact h hc
end
variable {e:Env}{base:Nat}{l:List Ins}{T:Nat->St}{bs:Nat->List Nat}{na:Nat}{chk:List (Nat × Nat)}{S:Nat->Prop}{g:St}
theorem qaZ.holes (t:qaZ e base l T) (ok:qfp l bs na chk) (h0:na≠0) {a:Nat}:∀(d:Nat),a+d<=l.length->(T (a+d)).h.n=(T a).h.n/\(T (a+d)).defs=(T a).defs /\
  ∀id,(∀(i:Nat) (li:Ins) (p:Nat),a<=i->i<a+d->l[i]?=some li->li.op.cls=.a p->id≠base+p)->(T (a+d)).h.get id=(T a).h.get id
 | 0,_=>⟨rfl,rfl,λ_ _=>rfl⟩
 | d+1,hd=>by
  obtain⟨h1,h2,h3⟩:=t.holes ok h0 (a:=a) d (by omega);have hlt:a+d<l.length:=by omega
  have hget:=Jal hlt;obtain⟨f,he,h⟩:=t.step (a+d) _ hget;have hf:f.h.n=(T (a+d)).h.n/\f.d=[]/\∀id,(∀p,l[a+d].op.cls=.a p->id≠base+p)->f.h.get id=(T (a+d)).h.get id:=by
   cases hc:l[a+d].op.cls with
   | n=>exact⟨by rw [(qmV hc he).1],(qmV hc he).2.1,λid _=>by rw [(qmV hc he).1]⟩
   | r=>exact⟨by rw [(qoK hc he).1],(qoK hc he).2,λid _=>by rw [(qoK hc he).1]⟩
   | a p =>
    obtain⟨upd,hu,h4,h5,_⟩:=eff_a hc he;rcases hu with rfl|⟨ob,rfl⟩
    ·exact⟨by rw [h4]; rfl,h5,λid _=>by rw [h4]; rfl⟩
    ·exact⟨by rw [h4]; rfl,h5,λid hid=>by rw [h4]; simp only []; rw [qBp,Jaa (hid p rfl)]⟩
   | w=>exact absurd hc (ok.aw h0 _ _ hget)
  rw [show a+(d+1)=a+d+1 by omega,h];refine⟨by rw [qjj,hf.1,h1],by rw [qgE,hf.2.1,h2]; rfl,λid hid=>?_⟩;rw [qjj,hf.2.2 id λp hp=>hid (a+d) _ p (by omega) (by omega) hget hp,h3 id λi li p h5 h6=>hid i li p h5 (by omega)]
theorem qaZ.hole_end (t:qaZ e base l T) (ok:qfp l bs na chk) (h0:na≠0) {i:Nat}{li:Ins}(hi:l[i]?=some li) {p:Nat}(hc:li.op.cls=.a p):(T l.length).h.get (base+p)=(T (i+1)).h.get (base+p)/\(T i).h.get (base+p)=(T 0).h.get (base+p):=by
 have hlt:i<l.length:=(Jam.1 hi).1;constructor
 ·have:=(t.holes ok h0 (a:=i+1) (l.length-(i+1)) (by omega)).2.2 (base+p) λk lk q h1 h2 hk hq e=>by
   have:p=q:=by omega
   subst this;exact ok.aa i k li lk p (by omega) hi hk hc hq
  rw [<-this]; congr 2; congr 1; omega
 ·have:=(t.holes ok h0 (a:=0) i (by omega)).2.2 (base+p) λk lk q h1 h2 hk hq e=>by
   have:p=q:=by omega
   subst this;exact ok.aa i k li lk p (by omega) hi hk hc hq
  simpa using this
theorem Sim.step (t:qaZ e base l T) (ok:qfp l bs na chk) {hs:List Heap}(hchk:∀c∈chk,qAU e l (T l.length).tm hs c=true) (hhs:∀k,k<=l.length->hs[k]?=some (T k).h) (hfree:∀p,(T 0).h.get (base+p)=none)
  (sm:Sim l T base na S g) (hdc:∀j,S j->∀i∈bs j,S i) {i:Nat}{li:Ins}(hi:l[i]?=some li) (hS:¬S i) (hb:∀j∈bs i,S j) :
  ∃f,effI li e base g.tm g.h g.round=some [f]/\Sim l T base na (λj=>S j\/j=i) (putE li.dst f g):=by
 have hlt:i<l.length:=(Jam.1 hi).1;obtain⟨f,he,hT⟩:=t.step i li hi;have hag:=sm.agree t ok hi hS hb hdc;have hround:g.round=(T i).round:=by rw [sm.i3,t.round i (by omega)]
 have htr:∀H,effI li e base g.tm H g.round=effI li e base (T i).tm H (T i).round:=λH=>by rw [qfJ hag,hround]
 have slots:∀f',f'.v=f.v->(∀(j:Nat) (lj:Ins) (s:Nat),(S j\/j=i)->l[j]?=some lj->lj.dst=some s->(gK s).run (putE li.dst f' g).tm=(gK s).run (T l.length).tm) /\
   ∀s,(∀(j:Nat) (lj:Ins),(S j\/j=i)->l[j]?=some lj->lj.dst≠some s)->(gK s).run (putE li.dst f' g).tm=(gK s).run (T 0).tm:=by
  intro f' hv;refine⟨λj lj s hj hlj hd=>?_,λs hs=>?_⟩
  ·rw [qgD];rcases hj with hj|rfl
   ·have hne:i≠j:=λh=>hS (h ▸ hj);rw [Jaa (λh=>ok.dst i j li lj s hne hi hlj h hd)];exact sm.i1 j lj s hj hlj hd
   ·rw [hi] at hlj; cases hlj;rw [Jab hd,hv,t.final ok hi hd hT]
  ·rw [qgD,Jaa (hs i li (.inr rfl) hi)];exact sm.i2 s λj lj hj=>hs j lj (.inl hj)
 have build:∀f',f'.v=f.v->effI li e base g.tm g.h g.round=some [f']->(na=0->∃m,m<=l.length/\(∀k,isW l k->((S k\/k=i)↔k<m))/\f'.h=(T m).h/\f'.d++g.defs=(T m).defs) ->
   (na≠0->f'.d++g.defs=(T 0).defs/\f'.h.n=(T 0).h.n/\(∀id,(∀(j:Nat) (lj:Ins) (p:Nat),(S j\/j=i)->l[j]?=some lj->lj.op.cls=.a p->id≠base+p)->f'.h.get id=(T 0).h.get id) /\
    ∀(j:Nat) (lj:Ins) (p:Nat),(S j\/j=i)->l[j]?=some lj->lj.op.cls=.a p->f'.h.get (base+p)=(T l.length).h.get (base+p)) ->
   ∃f,effI li e base g.tm g.h g.round=some [f]/\Sim l T base na (λj=>S j\/j=i) (putE li.dst f g):=by
  intro f' hv hf h1 h2;exact⟨f',hf,(slots f' hv).1,(slots f' hv).2,by rw [qhK,sm.i3],λh0=>by simpa using h1 h0,λh0=>by simpa using h2 h0⟩
 have calm:(∀p,li.op.cls≠.a p)->li.op.cls≠.w->effI li e base g.tm g.h g.round=some [⟨f.v,g.h,[]⟩]->∃f,effI li e base g.tm g.h g.round=some [f]/\Sim l T base na (λj=>S j\/j=i) (putE li.dst f g):=by
  intro hna hnw hf;refine build ⟨f.v,g.h,[]⟩ rfl hf (λh0=>?_) (λh0=>?_)
  ·obtain⟨m,h1,h2,h3,h4⟩:=sm.hw h0;refine⟨m,h1,λk hk=>?_,h3,by simpa using h4⟩;rw [<-h2 k hk];refine⟨λh=>?_,.inl⟩;rcases h with h|rfl
   ·exact h
   ·obtain⟨lk,hlk,hc⟩:=hk;rw [hi] at hlk; cases hlk; exact absurd hc hnw
  ·obtain⟨h1,h2,h3,h4⟩:=sm.ha h0;refine⟨by simpa using h1,h2,λid hid=>h3 id λj lj p hj=>hid j lj p (.inl hj),λj lj p hj hlj hc=>?_⟩;rcases hj with hj|rfl
   ·exact h4 j lj p hj hlj hc
   ·rw [hi] at hlj; cases hlj; exact absurd hc (hna p)
 cases hc:li.op.cls with
 | n =>
  refine calm (λp h=>by rw [hc] at h; cases h) (λh=>by rw [hc] at h; cases h) ?_;rw [htr]; exact (qmV hc he).2.2 _
 | r =>
  refine calm (λp h=>by rw [hc] at h; cases h) (λh=>by rw [hc] at h; cases h) ?_;have chkd:∀k,k<=l.length->(i,k)∈chk->effI li e base g.tm (T k).h g.round=some [⟨f.v,(T k).h,[]⟩]:=by
   intro k hk hmem;have hre:=hchk _ hmem;have hage:=t.agree_end ok hi hc;have he':effI li e base (T l.length).tm (T i).h (T i).round=some [f]:=by rw [qfJ hage]; exact he
   cases hd:li.dst with
   | none =>
    rcases qqj hc with ⟨o,ho⟩|⟨o,q,ho⟩<;>simp [qAU,recheck,hi,hhs k hk,ho,hd] at hre
   | some d =>
    have hv:=(t.final ok hi hd hT).symm;have:=qkn hi (hhs k hk) hd hc hre he' hv;rw [htr,<-qfJ hage]; exact this
  by_cases h0:na=0
  ·obtain⟨m,h1,h2,h3,h4⟩:=sm.hw h0;rw [h3];have same:(T m).h=(T i).h->effI li e base g.tm (T m).h g.round=some [⟨f.v,(T m).h,[]⟩]:=λh=>by
    rw [h,htr,he];obtain⟨q1,q2⟩:=qoK hc he;rw [<-q1,<-q2]
   by_cases hmi:m<=i
   ·rcases qoD (isW l) (i-m) m with hq|⟨k,k1,k2,k3,k4⟩
    ·have:=(t.quiet ok h0 (i-m) (by omega) λk hk1 hk2=>hq k hk1 (by omega)).1;rw [show m+(i-m)=i by omega] at this;exact same this.symm
    ·have hq:=(t.quiet ok h0 (a:=m) (k-m) (by omega) λk' hk1 hk2=>k4 k' hk1 (by omega)).1;rw [show m+(k-m)=k by omega] at hq;rw [<-hq];obtain⟨lk,hlk,hck⟩:=k3;rcases ok.rwB i k li lk (by omega) hi hlk hc hck with hbk|hmem
     ·have:=(h2 k ⟨lk,hlk,hck⟩).1 (hb k hbk); omega
     ·exact chkd k (by omega) hmem
   ·rcases qqQ (isW l) (i+1) (m-(i+1)) with hq|⟨k,k1,k2,k3,k4⟩
    ·have hq2:=(t.quiet ok h0 (a:=i) (m-i) (by omega) λk hk1 hk2=>by
      by_cases ek:k=i
      ·subst ek; rintro⟨lk,hlk,hck⟩;rw [hi] at hlk; cases hlk; rw [hc] at hck; cases hck
      ·exact hq k (by omega) (by omega)).1
     rw [show i+(m-i)=m by omega] at hq2;exact same hq2
    ·have hq2:=(t.quiet ok h0 (a:=k+1) (m-(k+1)) (by omega) λk' hk1 hk2=>k4 k' (by omega) (by omega)).1;rw [show k+1+(m-(k+1))=m by omega] at hq2;rw [hq2];obtain⟨lk,hlk,hck⟩:=k3;rcases ok.rwA i k li lk (by omega) hi hlk hc hck with hbk|hmem
     ·exact absurd (hdc k ((h2 k ⟨lk,hlk,hck⟩).2 (by omega)) i hbk) hS
     ·exact chkd (k+1) (by omega) hmem
  ·obtain⟨h1,h2,h3,h4⟩:=sm.ha h0;have:=chkd 0 (by omega) (ok.ar h0 i li hi hc);have:=qoJ hc (λf args ho=>h0 (ok.cn i li hi f args ho)) this (h':=g.h) λid o hid=>by
    rw [h3 id λj lj p hj hlj hcj e=>by rw [e,hfree p] at hid; cases hid]; exact hid
   exact this
 | a p =>
  have h0:na≠0:=by have:=ok.ap i li p hi hc; omega
  obtain⟨upd,hu,u1,u2,u3⟩:=eff_a hc he;obtain⟨h1,h2,h3,h4⟩:=sm.ha h0;have hfree':g.h.get (base+p)=(T 0).h.get (base+p):=h3 _ λj lj q hj hlj hcj e=>by
   have:p=q:=by omega
   subst this;exact ok.aa i j li lj p (λh=>hS (h ▸ hj)) hi hlj hc hcj
  obtain⟨e1,e2⟩:=t.hole_end ok h0 hi hc;rw [hT,qjj,u1] at e1;refine build ⟨f.v,upd g.h,[]⟩ rfl (by rw [htr]; exact u3 _) (λh=>absurd h h0) λ_=>⟨by simpa using h1,?_,λid hid=>?_,λj lj q hj hlj hcj=>?_⟩
  ·rcases hu with rfl|⟨ob,rfl⟩
   ·exact h2
   ·exact h2
  ·have hne:=hid i li p (.inr rfl) hi hc;have hold:=h3 id λj lj q hj=>hid j lj q (.inl hj);rcases hu with rfl|⟨ob,rfl⟩
   ·exact hold
   ·simp only []; rw [qBp,Jaa hne]; exact hold
  ·rcases hj with hj|rfl
   ·have hpq:p≠q:=λh=>by subst h; exact ok.aa i j li lj p (λh=>hS (h ▸ hj)) hi hlj hc hcj
    have hold:=h4 j lj q hj hlj hcj;rcases hu with rfl|⟨ob,rfl⟩
    ·exact hold
    ·simp only []; rw [qBp,Jaa (by omega)]; exact hold
   ·rw [hi] at hlj; cases hlj;rw [hc] at hcj; cases hcj;rw [e1];rcases hu with rfl|⟨ob,rfl⟩
    ·show g.h.get _=(T j).h.get _;rw [hfree',e2]
    ·simp only []; rw [qBp,qBp,Jab rfl,Jab rfl]
 | w =>
  have h0:na=0:=Classical.byContradiction λh=>ok.aw h i li hi hc;obtain⟨m,h1,h2,h3,h4⟩:=sm.hw h0;have hiw:isW l i:=⟨li,hi,hc⟩;have hmi:m<=i:=Nat.le_of_not_lt λh=>hS ((h2 i hiw).2 h);have hbefore:∀k,k<i->isW l k->S k:=λk hk hw=>by
   obtain⟨lk,hlk,hck⟩:=hw;exact hb k (ok.ww k i lk li hk hlk hi hck hc)
  have hq:=t.quiet ok h0 (a:=m) (i-m) (by omega) λk hk1 hk2 hw=>by
   have:=(h2 k hw).1 (hbefore k (by omega) hw); omega
  rw [show m+(i-m)=i by omega] at hq;refine build f rfl ?_ (λ_=>⟨i+1,by omega,λk hk=>⟨λh=>?_,λh=>?_⟩,by rw [hT,qjj],by rw [hT,qgE,h4,hq.2]⟩) (λh=>absurd h0 h)
  ·rw [h3,<-hq.1,htr]; exact he
  ·rcases h with h|rfl
   ·have:=(h2 k hk).1 h; omega
   ·omega
  ·by_cases ek:k=i
   ·exact .inr ek
   ·exact .inl (hbefore k (by omega) hk)
theorem Sim.finish (t:qaZ e base l T) (ok:qfp l bs na chk) (sm:Sim l T base na S g) (hall:∀i,i<l.length->S i) :
  (∀s,(gK s).run g.tm=(gK s).run (T l.length).tm)/\g.h.n=(T l.length).h.n/\(∀id,g.h.get id=(T l.length).h.get id)/\g.defs=(T l.length).defs/\g.round=(T l.length).round:=by
 refine⟨λs=>?_,?_⟩
 ·by_cases hw:∃(i:Nat) (li:Ins),l[i]?=some li/\li.dst=some s
  ·obtain⟨i,li,hi,hd⟩:=hw;exact sm.i1 i li s (hall i (Jam.1 hi).1) hi hd
  ·rw [sm.i2 s λi li _ hi hd=>hw ⟨i,li,hi,hd⟩];exact (t.stay l.length 0 (by omega) λk lk _ hk hd=>hw ⟨k,lk,hk,hd⟩).symm
 ·have hr:g.round=(T l.length).round:=by rw [sm.i3,t.round _ (Jac _)]
  by_cases h0:na=0
  ·obtain⟨m,h1,h2,h3,h4⟩:=sm.hw h0;have hq:=t.quiet ok h0 (a:=m) (l.length-m) (by omega) λk hk1 hk2 hw=>by
    have:=(h2 k hw).1 (hall k (by omega)); omega
   rw [show m+(l.length-m)=l.length by omega] at hq;rw [hq.1,hq.2,h3,h4];exact⟨rfl,λ_=>rfl,rfl,hr⟩
  ·obtain⟨h1,h2,h3,h4⟩:=sm.ha h0;have hh:=t.holes ok h0 (a:=0) l.length (by omega);rw [Nat.zero_add] at hh;refine⟨by rw [h2,hh.1],λid=>?_,by rw [h1,hh.2.1],hr⟩
   by_cases hid:∃(i:Nat) (li:Ins) (p:Nat),l[i]?=some li/\li.op.cls=.a p/\id=base+p
   ·obtain⟨i,li,p,hi,hc,rfl⟩:=hid;exact h4 i li p (hall i (Jam.1 hi).1) hi hc
   ·rw [h3 id λi li p _ hi hc e=>hid ⟨i,li,p,hi,hc,e⟩,hh.2.2 id λi li p _ _ hi hc e=>hid ⟨i,li,p,hi,hc,e⟩]
def qcN (o:Oper):List Nat:=(o.after.toList.filter (Region.binds .any)).map (·.on)
def memN (x:Nat):List Nat->Bool
 | []=>false
 | y::l=>cond (Nat.beq x y) true (memN x l)
def uni (a:List Nat):List Nat->List Nat
 | []=>a
 | x::l=>uni (cond (memN x a) a (x::a)) l
def qk9 (acc:List (List Nat)) (a:List Nat):List Nat->List Nat
 | []=>a
 | d::l=>qk9 acc (uni a (acc.getD d [])) l
def qhA (acc:List (List Nat)):List (List Nat)->List (List Nat)
 | []=>acc
 | d::r=>qhA (acc++[qk9 acc d d]) r
inductive Bef (deps:Nat->List Nat):Nat->Nat->Prop
 | one {d j:Nat}(h:d∈deps j):Bef deps d j
 | step {d m j:Nat}(h:Bef deps d m) (k:m∈deps j):Bef deps d j
theorem qes {x:Nat}:∀{l:List Nat},memN x l=true->x∈l
 | y::l,h=>by
  simp only [memN] at h;cases e:Nat.beq x y
  ·simp only [e,cond] at h; exact List.mem_cons_of_mem _ (qes h)
  ·rw [Jas] at e; subst e; simp
theorem qnk {x:Nat}:∀{l a:List Nat},x∈uni a l->x∈a\/x∈l
 | [],a,h=>.inl h
 | y::l,a,h=>by
  simp only [uni] at h;rcases qnk h with h|h
  ·cases e:memN y a
   ·simp only [e,cond] at h;rcases Jag.1 h with rfl|h
    ·simp
    ·exact .inl h
   ·simp only [e,cond] at h; exact .inl h
  ·exact .inr (List.mem_cons_of_mem _ h)
theorem qhC {x:Nat}{acc:List (List Nat)}:∀{l a:List Nat},x∈qk9 acc a l->x∈a\/∃d∈l,x∈acc.getD d []
 | [],a,h=>.inl h
 | d::l,a,h=>by
  simp only [qk9] at h;rcases qhC h with h|⟨d',h1,h2⟩
  ·rcases qnk h with h|h
   ·exact .inl h
   ·exact .inr ⟨d,by simp,h⟩
  ·exact .inr ⟨d',by simp [h1],h2⟩
theorem qj6 {deps:Nat->List Nat}:∀(r acc:List (List Nat)),(∀j,j<acc.length->∀x∈acc.getD j [],Bef deps x j)->(∀i d,r[i]?=some d->deps (acc.length+i)=d)->∀j x,x∈(qhA acc r).getD j []->Bef deps x j
 | [],acc,h,_,j,x,hx=>by
  by_cases hj:j<acc.length
  ·exact h j hj x hx
  ·simp only [qhA] at hx;rw [List.getD_eq_getElem?_getD,List.getElem?_eq_none (by omega)] at hx; simp at hx
 | d::r,acc,h,hd,j,x,hx=>by
  simp only [qhA] at hx;have h0:deps acc.length=d:=by simpa using hd 0 d rfl
  refine qj6 r _ (λj hj x hx=>?_) (λi d' hi=>?_) j x hx
  ·simp only [Jao,List.length_singleton] at hj
   by_cases e:j<acc.length
   ·rw [List.getD_eq_getElem?_getD,List.getElem?_append_left e,<-List.getD_eq_getElem?_getD] at hx;exact h j e x hx
   ·have:j=acc.length:=by omega
    subst this;rw [List.getD_eq_getElem?_getD,List.getElem?_append_right (Jac _)] at hx;simp at hx;rcases qhC hx with hx|⟨d',h1,h2⟩
    ·exact .one (by rw [h0]; exact hx)
    ·have hlt:d'<acc.length:=by
      apply Classical.byContradiction; intro hn;rw [List.getD_eq_getElem?_getD,List.getElem?_eq_none (by omega)] at h2; simp at h2
     exact .step (h d' hlt x h2) (by rw [h0]; exact h1)
  ·have:=hd (i+1) d' (by simpa using hi);rw [<-this]; congr 1; simp; omega
theorem qib {deps:Nat->List Nat}{S:Nat->Prop}(hc:∀j,S j->∀d∈deps j,S d) {x j:Nat}(h:Bef deps x j):(∀d∈deps j,S d)->S x:=by
 induction h with
 | one h=>intro hj; exact hj _ h
 | step h k ih=>intro hj; exact ih (hc _ (hj _ k))
def qie {α : Type}(f:Nat->α->Bool):Nat->List α->Bool
 | _,[]=>true
 | k,a::l=>f k a&&qie f (k+1) l
theorem qc9 {α : Type}{f:Nat->α->Bool}:∀{l:List α}{k:Nat},qie f k l=true->∀{i:Nat}{a : α},l[i]?=some a->f (k+i) a=true
 | [],k,h,i,a,hi=>by simp at hi
 | b::l,k,h,i,a,hi=>by
  simp only [qie,Jad] at h;cases i with
  | zero=>simp at hi; subst hi; exact h.1
  | succ i =>
   have:=qc9 h.2 (i:=i) (by simpa using hi);rw [show k+(i+1)=k+1+i by omega]; exact this
def qfG (p q:Nat):List (Nat × Nat)->Bool
 | []=>false
 | c::l=>cond (Nat.beq c.1 p&&Nat.beq c.2 q) true (qfG p q l)
theorem qdh {p q:Nat}:∀{l:List (Nat × Nat)},qfG p q l=true->(p,q)∈l
 | c::l,h=>by
  simp only [qfG] at h;cases e:(Nat.beq c.1 p&&Nat.beq c.2 q)
  ·simp only [e,cond] at h; exact List.mem_cons_of_mem _ (qdh h)
  ·simp only [Jad,Jas] at e;obtain⟨c1,c2⟩:=c;simp only at e;rw [e.1,e.2]; simp
def optIs (d:Option Nat) (s:Nat):Bool :=
 match d with
 | some x=>Nat.beq x s
 | none=>false
def qfS (tab:List (List Nat)) (chk:List (Nat × Nat)) (p q:Nat) (a b:Ins):Bool :=
 (match b.dst with
 | some s=>!(optIs a.dst s)&&cond (memN s a.looks) ((memN q (tab.getD p [])&&Nat.blt q p)||((match a.op.cls with|.r=>false|_=>true)&&memN p (tab.getD q [])&&Nat.blt p q)) true
 | none=>true) &&
 (match a.op.cls,b.op.cls with
 | .w,.w=>cond (Nat.blt p q) (memN p (tab.getD q [])) true
 | .r,.w=>cond (Nat.blt q p) (memN q (tab.getD p [])||qfG p q chk) (memN p (tab.getD q [])||qfG p (q+1) chk)
 | .a x,.a y=>!(Nat.beq x y)
 | _,_=>true)
def qgH (na:Nat) (chk:List (Nat × Nat)) (p:Nat) (a:Ins):Bool :=
 (match a.op.cls with
 | .r=>(match a.dst with
  | some s=>!(memN s a.looks)
  | none=>true)&&(Nat.beq na 0||qfG p 0 chk)
 | .a x=>Nat.blt x na
 | .w=>Nat.beq na 0
 | .n=>true) &&
 (match a.op with
 | .a _ (some _)=>(match a.op.cls with
  | .a _=>true
  | _=>false)
 | .callP _ _=>Nat.beq na 0
 | _=>true)
def qjr (na:Nat) (chk:List (Nat × Nat)) (l:List Ins) (ops:Array Oper):Bool :=
 let deps:=ops.toList.map qcN
 let tab:=qhA [] deps
 qie (λj ds=>ds.all (λd=>Nat.blt d j)) 0 deps&&qie (λp a=>qgH na chk p a&&qie (λq b=>Nat.beq p q||qfS tab chk p q a b) 0 l) 0 l
theorem qlu {x:Nat}{l:List Nat}:memN x l=true↔x∈l:=by
 refine⟨qes,λh=>?_⟩;induction l with
 | nil=>cases h
 | cons y l ih =>
  simp only [memN];cases e:Nat.beq x y
  ·simp only [cond];rcases Jag.1 h with rfl|h
   ·simp at e
   ·exact ih h
  ·rfl
theorem qmx {na:Nat}{chk:List (Nat × Nat)}{l:List Ins}{ops:Array Oper}(h:qjr na chk l ops=true) :
  qfp l (λj=>(qhA [] (ops.toList.map qcN)).getD j []) na chk/\(∀(j:Nat) (o:Oper),ops[j]?=some o->∀d∈qcN o,d<j) /\
   ∀(i:Nat) (li:Ins) x q,l[i]?=some li->li.op=.a x (some q)->li.op.cls=.a q:=by
 simp only [qjr,Jad] at h;obtain⟨h1,h2⟩:=h;have self:∀(i:Nat) (li:Ins),l[i]?=some li->qgH na chk i li=true:=λi li hi=>by
  have:=qc9 h2 hi;simp only [Jad,Nat.zero_add] at this; exact this.1
 have pair:∀(i j:Nat) (li lj:Ins),i≠j->l[i]?=some li->l[j]?=some lj->qfS (qhA [] (ops.toList.map qcN)) chk i j li lj=true:=λi j li lj hne hi hj=>by
  have:=qc9 h2 hi;simp only [Jad,Nat.zero_add] at this;have:=qc9 this.2 hj;simp only [Nat.zero_add,Bool.or_eq_true,Jas] at this;exact this.resolve_left hne
 refine⟨⟨?_,?_,?_,?_,?_,?_,?_,?_,?_,?_,?_⟩,λj o ho d hd=>?_,λi li x q hi hop=>?_⟩
 ·intro i j li lj d hne hi hj hd hd';have:=pair i j li lj hne hi hj;simp only [qfS,hd',hd,Jad,optIs] at this;simp at this
 ·intro i j li lj s hne hi hj hd hs;have:=pair i j li lj hne hi hj;simp only [qfS,hd,Jad] at this;have:=this.1.2;rw [qlu.2 hs] at this;simp only [cond,Bool.or_eq_true,Jad,Nat.blt_eq] at this;rcases this with this|this
  ·exact .inl ⟨qes this.1,this.2⟩
  ·refine .inr ⟨λhr=>?_,qes this.1.2,this.2⟩;have:=this.1.1;rw [hr] at this; cases this
 ·intro i j li lj hlt hi hj hc hc';have:=pair i j li lj (by omega) hi hj;simp only [qfS,hc,hc',Jad] at this;have:=this.2;rw [show Nat.blt _ _=true by rw [Nat.blt_eq]; exact hlt] at this;exact qes this
 ·intro i j li lj hlt hi hj hc hc';have:=pair i j li lj (by omega) hi hj;simp only [qfS,hc,hc',Jad] at this;have:=this.2;rw [show Nat.blt _ _=true by rw [Nat.blt_eq]; exact hlt] at this;simp only [cond,Bool.or_eq_true] at this;exact this.imp qes qdh
 ·intro i j li lj hlt hi hj hc hc';have:=pair i j li lj (by omega) hi hj;simp only [qfS,hc,hc',Jad] at this;have:=this.2;have hb:Nat.blt j i=false:=by cases hb:Nat.blt j i<;>simp [Nat.blt_eq] at hb ⊢; omega
  rw [hb] at this;simp only [cond,Bool.or_eq_true] at this;exact this.imp qes qdh
 ·intro i li s hi hc hd hs;have:=self i li hi;simp only [qgH,hc,hd,Jad] at this;have:=this.1.1;rw [qlu.2 hs] at this; simp at this
 ·intro i j li lj p hne hi hj hc hc';have:=pair i j li lj hne hi hj;simp only [qfS,hc,hc',Jad] at this;simp at this
 ·intro i li p hi hc;have:=self i li hi;simp only [qgH,hc,Jad,Nat.blt_eq] at this;exact this.1
 ·intro h0 i li hi hc;have:=self i li hi;simp only [qgH,hc,Jad,Jas] at this;exact h0 this.1
 ·intro i li hi f args ho;have:=self i li hi;simp only [qgH,ho,Jad,Jas] at this;exact this.2
 ·intro h0 i li hi hc;have:=self i li hi;simp only [qgH,hc,Jad,Bool.or_eq_true,Jas] at this;exact qdh (this.1.2.resolve_left h0)
 ·have hj:(ops.toList.map qcN)[j]?=some (qcN o):=by rw [List.getElem?_map,Array.getElem?_toList,ho]; rfl
  have:=qc9 h1 hj;simp only [Nat.zero_add,List.all_eq_true,Nat.blt_eq] at this;exact this d hd
 ·have:=self i li hi;simp only [qgH,Jad] at this;have:=this.2;rw [hop] at this;dsimp only at this;cases hc:(IOp.a x (some q)).cls with
  | a p =>
   obtain⟨o,ho⟩:=cls_a hc;cases ho;rw [hop]; exact hc
  | _=>rw [hc] at this; simp at this
variable {N:Num}{CR:Nat->IC->Code->Prop}{ι ι' ι'':Inj}{ro ro' ro'':RO}{P:Program}{h h' h'':Heap}{w w' w'':World}{nt:Nat}{st st' g:St}{b:Frame}{a:Act}{k:List Item}{cs:List Frame}{ops:Array Oper}
theorem HR.ext (hh:HR N CR ι ro h w) (hn:h'.n=h.n) (hg:∀i,h'.get i=h.get i):HR N CR ι ro h' w :=
 ⟨λi o hi=>by rw [hn]; exact hh.live i o (by rw [<-hg]; exact hi),λi j oi oj wi wj hi hj=>hh.dist i j oi oj wi wj (by rw [<-hg]; exact hi) (by rw [<-hg]; exact hj),
  λb c hb=>⟨(hh.rd b c hb).1,λi o wn hi=>(hh.rd b c hb).2 i o wn (by rw [<-hg]; exact hi)⟩,by rw [hn]; exact hh.fresh,
  λb o hb=>⟨(hh.kb b o hb).1,λi oi wn hi=>(hh.kb b o hb).2 i oi wn (by rw [<-hg]; exact hi)⟩⟩
theorem SR.ext (sr:SR P N CR nt ι ro g b a w) (h1:∀s,(gK s).run g.tm=(gK s).run st.tm) (h2:g.h.n=st.h.n) (h3:∀id,g.h.get id=st.h.get id) (h4:g.defs=st.defs) (h5:g.round=st.round):SR P N CR nt ι ro st b a w :=
 ⟨sr.hr.ext h2.symm λi=>(h3 i).symm,λi=>by rw [<-h1]; exact sr.tm i,sr.sz,by rw [<-h5]; exact sr.round,by rw [<-h4]; exact sr.defs⟩
theorem qh0 {α : Type}{p q : α->Bool}:∀{l:List α},(∀x∈l,q x=true->p x=true)->(∃x∈l,p x=true/\q x=false)->(l.filter q).length<(l.filter p).length
 | [],_,h=>by obtain⟨x,hx,_⟩:=h; cases hx
 | y::l,hm,h=>by
  have hle:∀{l:List α},(∀x∈l,q x=true->p x=true)->(l.filter q).length<=(l.filter p).length:=by
   intro l hm;induction l with
   | nil=>simp
   | cons y l ih =>
    have:=ih λx hx=>hm x (by simp [hx]);simp only [List.filter_cons];cases hq:q y
    ·cases hp:p y<;>simp<;>omega
    ·rw [hm y (by simp) hq]; simp; omega
  simp only [List.filter_cons];obtain⟨x,hx,hp,hq⟩:=h;have hm':∀x∈l,q x=true->p x=true:=λx hx=>hm x (by simp [hx]);rcases Jag.1 hx with rfl|hx
  ·rw [hp,hq];have:=hle hm';simp; omega
  ·have:=qh0 hm' ⟨x,hx,hp,hq⟩;cases hqy:q y
   ·cases hpy:p y<;>simp<;>omega
   ·rw [hm y (by simp) hqy]; simp; omega
theorem qix:∀{l:List Ins}{m:List Oper},okL P N nt ops l m=true->l.length=m.length/\∀(i:Nat) (li:Ins),l[i]?=some li->∃o,m[i]?=some o/\qpJ P N nt ops li o=true
 | [],[],_=>⟨rfl,λi li hi=>by simp at hi⟩
 | [],_::_,h=>by simp [okL] at h
 | _::_,[],h=>by simp [okL] at h
 | x::l,o::m,h=>by
  simp only [okL,Jad] at h;obtain⟨h1,h2⟩:=qix h.2;refine⟨by simp [h1],λi li hi=>?_⟩;cases i with
  | zero=>simp at hi; subst hi; exact⟨o,rfl,h.1⟩
  | succ i=>simpa using h2 i li (by simpa using hi)
theorem qsk (hN:∀t u,N.t t=N.t u->t=u) {e:Env}(hcall:qfq P N CR e.callF e.lim) (hmeth:MethOK P N e.meth) (hpure:qAX e) (hcalm:calm b.kind cs) {base:Nat}(hlim:e.lim<=base) {l:List Ins}{T:Nat->St}{na:Nat}{chk:List (Nat × Nat)}
  (hok:okL P N nt ops l ops.toList=true) (hd:qjr na chk l ops=true) (t:qaZ e base l T) {hs:List Heap}(hchk:∀c∈chk,qAU e l (T l.length).tm hs c=true) (hhs:∀k,k<=l.length->hs[k]?=some (T k).h)
  (hfree:∀p,(T 0).h.get (base+p)=none) (hbn:base+na<=(T 0).h.n) :
  ∀(fuel tt:Nat) (listed:Array Bool) (ι:Inj) (ro:RO) (g:St) (a:Act) (w:World),listed.size=l.length->Sim l T base na (λi=>listed.getD i false=true) g ->
   (∀j,listed.getD j false=true->∀o,ops[j]?=some o->∀d∈qcN o,listed.getD d false=true) ->
   SR P N CR nt ι ro g b a w->base<=g.h.n->((List.range l.length).filter λi=>!listed.getD i true).length<=fuel->(∀(i:Nat) (li:Ins) (p:Nat),listed.getD i false=false->l[i]?=some li->li.op.cls=.a p->ι (base+p)=none) ->
   qbL P N CR nt base e.lim ι ro g b w [T l.length] (λ_=>True) (lone (b.atR a (.inRegion ops (Region.linearise.go .any ops fuel tt listed [])::k)) cs w) (λa' w'=>lone (b.atR a' (.inRegion ops []::k)) cs w'):=by
 obtain⟨dok,hdep,hhole⟩:=qmx hd;obtain⟨hlen,hget⟩:=qix hok;have hsz:ops.size=l.length:=by rw [hlen]; simp
 let deps:Nat->List Nat:=λj=>match ops[j]? with|some o=>qcN o|none=>[]
 have hbef:∀j x,x∈(qhA [] (ops.toList.map qcN)).getD j []->Bef deps x j:=qj6 (ops.toList.map qcN) [] (λj hj=>by simp at hj) λi d hi=>by
  rw [List.getElem?_map,Array.getElem?_toList] at hi;simp only [List.length_nil,Nat.zero_add,deps];cases ho:ops[i]? with
  | none=>simp [ho] at hi
  | some o=>simp [ho] at hi; exact hi
 have done:∀(listed:Array Bool) (ι:Inj) (ro:RO) (g:St) (a:Act) (w:World),Sim l T base na (λi=>listed.getD i false=true) g->SR P N CR nt ι ro g b a w->(∀i,i<l.length->listed.getD i false=true) ->
   qbL P N CR nt base e.lim ι ro g b w [T l.length] (λ_=>True) (lone (b.atR a (.inRegion ops []::k)) cs w) (λa' w'=>lone (b.atR a' (.inRegion ops []::k)) cs w'):=by
  intro listed ι ro g a w sm sr hall;obtain⟨h1,h2,h3,h4,h5⟩:=sm.finish t dok hall;exact⟨_,Jah.2 rfl,ι,ro,a,w,⟨Ext.refl _ _ _,qbM.refl w,by omega,λi _=>(h3 i).symm⟩,λ_ _ _=>rfl,sr.ext h1 h2 h3 h4 h5,Steps.refl P _⟩
 intro fuel;induction fuel with
 | zero =>
  intro tt listed ι ro g a w hsize sm hdc sr hbg hcnt hho;refine done listed ι ro g a w sm sr λi hi=>?_;cases hl:listed.getD i false with
  | true=>rfl
  | false =>
   have hmem:i∈(List.range l.length).filter λi=>!listed.getD i true:=by
    rw [List.mem_filter,List.mem_range];refine⟨hi,?_⟩;have:listed.getD i true=listed.getD i false:=by simp [Array.getElem?_eq_getElem (show i<listed.size by omega)]
    rw [this,hl]; rfl
   have:=List.length_pos_of_mem hmem;omega
 | succ fuel ih =>
  intro tt listed ι ro g a w hsize sm hdc sr hbg hcnt hho;have hsame:∀i,i<l.length->listed.getD i true=listed.getD i false:=λi hi=>by simp [Array.getElem?_eq_getElem (show i<listed.size by omega)]
  simp only [Region.linearise.go];change qbL P N CR nt base e.lim ι ro g b w [T l.length] (λ_=>True) (lone (b.atR a (.inRegion ops (match (Region.ready .any ops listed)[tt % (Region.ready .any ops listed).length]? with
   | some i=>Region.linearise.go .any ops fuel (tt / (Region.ready .any ops listed).length) (listed.setIfInBounds i true) [i]
   | none=>[].reverse)::k)) cs w) _
  cases hi:(Region.ready .any ops listed)[tt % (Region.ready .any ops listed).length]? with
  | none =>
   have hnil:Region.ready .any ops listed=[]:=by
    cases hr:Region.ready .any ops listed with
    | nil=>rfl
    | cons x xs =>
     rw [hr] at hi;have hlt:tt % (x::xs).length<(x::xs).length:=Nat.mod_lt _ (by simp);rw [Jal hlt] at hi; cases hi
   refine done listed ι ro g a w sm sr λi=>?_;induction i using Nat.strongRecOn with
   | ind i hind =>
    intro hi';cases hl:listed.getD i false with
    | true=>rfl
    | false =>
     have ho:=Array.getElem?_eq_getElem (show i<ops.size by omega)
     have:i∈Region.ready .any ops listed:=mem_ready.2 ⟨by rw [hsame i hi',hl],_,ho,λed hed hbd=>by
      have hdm:ed.on∈qcN ops[i]:=Jak.2 ⟨ed,List.mem_filter.2 ⟨by simpa using hed,hbd⟩,rfl⟩;have hlt:=hdep i _ ho _ hdm;exact hind _ hlt (by omega)⟩
     rw [hnil] at this; cases this
  | some i =>
   dsimp only;rw [linearise_go_acc,List.reverse_singleton,List.singleton_append];obtain⟨r1,o,ho,r2⟩:=mem_ready.1 (Jar hi);have hilt:i<l.length:=by rw [<-hsz]; exact (Array.getElem?_eq_some_iff.1 ho).1
   have hli:=Jal hilt;have hnot:listed.getD i false=false:=by rw [<-hsame i hilt]; exact r1
   have hdi:∀d∈qcN o,listed.getD d false=true:=λd hd=>by
    obtain⟨ed,h1,h2⟩:=Jak.1 hd;obtain⟨h3,h4⟩:=List.mem_filter.1 h1;rw [<-h2]; exact r2 ed (by simpa using h3) h4
   have hdc':∀j,listed.getD j false=true->∀d∈deps j,listed.getD d false=true:=λj hj d hd=>by
    simp only [deps] at hd;split at hd
    ·rename_i oj hoj; exact hdc j hj oj hoj d hd
    ·cases hd
   have hbi:∀j∈(qhA [] (ops.toList.map qcN)).getD i [],listed.getD j false=true:=λj hj=>qib hdc' (hbef i j hj) λd hd=>by
    simp only [deps,ho] at hd; exact hdi d hd
   have hbj:∀j,listed.getD j false=true->∀x∈(qhA [] (ops.toList.map qcN)).getD j [],listed.getD x false=true:=λj hj x hx=>qib hdc' (hbef j x hx) (hdc' j hj);obtain⟨f,hf,sm'⟩:=sm.step t dok hchk hhs hfree hbj hli (by rw [hnot]; simp) hbi;obtain⟨o',ho',hoki⟩:=hget i _ hli;rw [Array.getElem?_toList,ho] at ho'; cases ho';have hev:(qdm l[i]).run e base g=some [putE l[i].dst f g]:=by rw [qjV,hf]; rfl
   have hone:=qjH (k:=k) (cs:=cs) (rest:=Region.linearise.go .any ops fuel (tt / (Region.ready .any ops listed).length) (listed.setIfInBounds i true) []) hN hcall hmeth hpure ho hoki sr hlim hbg hcalm hev λx q hop=>by
    have hc:=hhole i _ x q hli hop;have hq:=dok.ap i _ q hli hc;refine⟨by omega,?_,hho i _ q hnot hli hc⟩;rw [(sm.ha (by omega)).2.1]; omega
   have hset:∀j,(listed.setIfInBounds i true).getD j false=true↔(listed.getD j false=true\/j=i):=λj=>by
    by_cases e:i=j
    ·subst e; simp [show i<listed.size by omega]
    ·rw [getD_set_ne false e]; exact⟨.inl,λh=>h.resolve_right λh=>e h.symm⟩
   refine hone.trans (λ_ _=>trivial) λr hr ι' ro' a' w' hG hX sr'=>?_;rw [Jah] at hr;subst hr;refine ih _ _ ι' ro' _ a' w' (by simpa using hsize) ?_ (λj hj oj hoj d hd=>?_) sr' (Jaf hbg hG.n) ?_ (λj lj p hj hlj hc=>?_)
   ·have:(λj=>(listed.setIfInBounds i true).getD j false=true)=λj=>listed.getD j false=true\/j=i:=funext λj=>propext (hset j);rw [this]; exact sm'
   ·refine (hset d).2 (.inl ?_);rcases (hset j).1 hj with hj|rfl
    ·exact hdc j hj oj hoj d hd
    ·rw [ho] at hoj; cases hoj; exact hdi d hd
   ·have:=qh0 (l:=List.range l.length) (p:=λi=>!listed.getD i true) (q:=λj=>!(listed.setIfInBounds i true).getD j true) (λx hx hq=>by
     by_cases e:i=x
     ·subst e; simp [show i<listed.size by omega] at hq
     ·rwa [getD_set_ne true e] at hq) ⟨i,by simpa using hilt,by rw [r1]; rfl,by simp [show i<listed.size by omega]⟩
    omega
   ·have hj':listed.getD j false=false/\j≠i:=by
     constructor
     ·cases hx:listed.getD j false with
      | false=>rfl
      | true=>rw [(hset j).2 (.inl hx)] at hj; cases hj
     ·intro e; rw [(hset j).2 (.inr e)] at hj; cases hj
    have hp:=dok.ap j lj p hlj hc;rw [hX _ ?_ ?_]
    ·exact hho j lj p hj'.1 hlj hc
    ·rw [(sm.ha (by omega)).2.1]; omega
    ·rintro⟨x,q,hop,hpq⟩;have hci:=hhole i _ x q hli hop;have:p=q:=by omega
     subst this;exact dok.aa i j _ lj p (λh=>hj'.2 h.symm) hli hlj hci hc
def qvq:IC->Bool
 | .skip=>true
 | _=>false
def okC (P:Program) (N:Num) (nt:Nat):IC->Code->Bool
 | .skip,.skip=>true
 | .skip,.label _=>true
 | .ops l,.region _ ops false=>okL P N nt ops l ops.toList&&l.all qjv
 | .dops na chk l,.region _ ops true=>okL P N nt ops l ops.toList&&qjr na chk l ops
 | .dopc chk l,.region _ ops true=>okL P N nt ops l ops.toList&&qjr 0 chk l ops
 | .seq a b,.seq x y=>okC P N nt a x&&okC P N nt b y
 | .seq a b,.scope x=>qvq a&&okC P N nt b x
 | .cond c a b,.cond d x y=>okO N c d&&okC P N nt a x&&okC P N nt b y
 | .block i a,.block j x=>Nat.beq i j&&okC P N nt a x
 | .loop a,.loop x=>okC P N nt a x
 | .rangeF f ps asg body,.rangeFunc g qs x y=>okO N f g&&qs.toList == ps&&okC P N nt asg x&&okC P N nt body y&&ps.all (λp=>Nat.blt p nt)
 | .exit i,.exit j=>Nat.beq i j
 | .ret,.ret=>true
 | .bad,_=>true
 | _,_=>false
def CRel (P:Program) (N:Num) (nt:Nat) (c:IC) (x:Code):Prop:=okC P N nt c x=true
variable {N:Num}{ι ι' ι'':Inj}{ro ro' ro'':RO}{P:Program}{h h' h'':Heap}{w w' w'':World}{nt:Nat}{st st' g:St}{b:Frame}{a:Act}{k:List Item}{cs:List Frame}{ops:Array Oper}
def Arr (P:Program) (m:Machine) (b:Frame) (k:List Item) (cs:List Frame) (o:Out) (a:Act) (w:World):Prop :=
 match o with
 | .normal=>Steps P m (lone (b.atR a k) cs w)
 | .exit id=>∃k',exitTo id k'=exitTo id k/\Steps P m (lone (b.atR a (.code (.exit id)::k')) cs w)
 | .ret=>∃k',Steps P m (lone (b.atR a (.code .ret::k')) cs w)
theorem Arr.of_steps {m m':Machine}{o:Out}(h:Steps P m m') (k':Arr P m' b k cs o a w):Arr P m b k cs o a w:=by
 cases o with
 | normal=>exact h.trans k'
 | exit id=>obtain⟨q,h1,h2⟩:=k'; exact⟨q,h1,h.trans h2⟩
 | ret=>obtain⟨q,h2⟩:=k'; exact⟨q,h.trans h2⟩
def qdy (P:Program) (N:Num) (nt n0 lim:Nat) (ι:Inj) (ro:RO) (st:St) (b:Frame) (w:World) (outs:List OS) (m:Machine) (k:List Item) (cs:List Frame):Prop :=
 ∃r∈outs,∃ι' ro' a' w',Grow n0 lim ι ro st.h w ι' ro' r.s.h w'/\SR P N (CRel P N) nt ι' ro' r.s b a' w'/\Arr P m b k cs r.o a' w'
theorem qdy.sub {n0 lim:Nat}{outs outs':List OS}{m:Machine}(h:qdy P N nt n0 lim ι ro st b w outs m k cs) (hs:∀x∈outs,x∈outs'):qdy P N nt n0 lim ι ro st b w outs' m k cs :=
 let ⟨r,h1,h2⟩:=h; ⟨r,hs r h1,h2⟩
theorem qdy.head {n0 lim:Nat}{outs:List OS}{m m':Machine}(hm:Steps P m m') (h:qdy P N nt n0 lim ι ro st b w outs m' k cs):qdy P N nt n0 lim ι ro st b w outs m k cs :=
 let ⟨r,h1,ι',ro',a',w',h2,h3,h4⟩:=h; ⟨r,h1,ι',ro',a',w',h2,h3,h4.of_steps hm⟩
structure qfP (P:Program) (N:Num) (e:Env) (b:Frame) (cs:List Frame) (n0:Nat):Prop where
 hN:∀t u,N.t t=N.t u->t=u
 call:qfq P N (CRel P N) e.callF e.lim
 meth:MethOK P N e.meth
 pure:qAX e
 mixed:P.follows .mixedOrders=true
 calm:calm b.kind cs
 lim:e.lim<=n0
theorem qpD {e:Env}{n0:Nat}(ce:qfP P N e b cs n0) {l:List Ins}{id:Nat}(hok:okL P N nt ops l ops.toList=true) (hh:l.all qjv=true) (sr:SR P N (CRel P N) nt ι ro st b a w) (hn:n0<=st.h.n) {outs:List St}(hev:(qhj l).run e st.h.n st=some outs) :
  qdy P N nt n0 e.lim ι ro st b w (outs.map λs=>⟨.normal,s⟩) (lone (b.atR a (.code (.region id ops false)::k)) cs w) k cs:=by
 have hlen:=(qix hok).1;obtain⟨r,h1,ι',ro',a',w',h2,_,h3,h4⟩:=qjo (k:=k) (cs:=cs) ce.hN ce.call ce.meth ce.pure ce.lim ce.calm l 0 ι ro st a w outs (by simpa using hok) hh sr hn hev;refine⟨⟨.normal,r⟩,List.mem_map_of_mem h1,ι',ro',a',w',h2,h3,?_⟩;have:List.range' 0 l.length=List.range ops.size:=by rw [List.range_eq_range',hlen]; simp
 rw [this] at h4;exact .head stepR_region (h4.trans (.one stepR_region_end))
theorem qBd {e:Env}{l:List Ins}{tm:Tm}{hs:List Heap}{c:Nat × Nat}(h:recheck l tm hs c=true):qAU e l tm hs c=true:=by
 unfold qAU;split
 ·rename_i i h1 hl hk;split
  ·rename_i f args ho;simp [recheck,hl,hk,ho] at h
  ·exact h
 ·rename_i hx;unfold recheck at h;split at h
  ·rename_i i h1 hl hk;exact absurd hk (hx i h1 hl)
  ·cases h
theorem qA7 {e:Env}{n0:Nat}(ce:qfP P N e b cs n0) {na:Nat}{chk:List (Nat × Nat)}{l:List Ins}{id:Nat}(hok:okL P N nt ops l ops.toList=true) (hd:qjr na chk l ops=true) (sr:SR P N (CRel P N) nt ι ro st b a w) (hn:n0<=st.h.n)
  {st':St}{hs:List Heap}(hrun:opsH e st.h.n l ⟨st.tm,⟨st.h.n+na,st.h.os⟩,st.defs,st.round⟩ []=some (st',hs)) (hc:∀c∈chk,qAU e l st'.tm hs.reverse c=true) :
  qdy P N nt n0 e.lim ι ro st b w [⟨.normal,st'⟩] (lone (b.atR a (.code (.region id ops true)::k)) cs w) k cs:=by
 obtain⟨T,t0,t1,t2,t3⟩:=qjp l _ _ _ _ hrun;have hlen:=(qix hok).1;have hhs:∀q,q<=l.length->hs.reverse[q]?=some (T q).h:=λq hq=>by
  rw [t3];simp only [List.reverse_nil,List.nil_append,List.getElem?_map];rw [List.getElem?_range (by omega)]; rfl
 have hget0:∀q,(T 0).h.get q=st.h.get q:=λq=>by rw [t0]; rfl
 have hw1:HR N (CRel P N) ι ro (T 0).h { w with drawn:=w.drawn+1 }:=by
  have h1:HR N (CRel P N) ι ro st.h { w with drawn:=w.drawn+1 }:=sr.hr.heap rfl;rw [t0];exact⟨λi o hi=>⟨Nat.lt_of_lt_of_le (h1.live i o hi).1 (Nat.le_add_right _ _),(h1.live i o hi).2⟩,h1.dist,h1.rd,λi hi=>h1.fresh i (Jaf (Nat.le_add_right _ _) hi),h1.kb⟩
 have sr0:SR P N (CRel P N) nt ι ro (T 0) b a { w with drawn:=w.drawn+1 }:=⟨hw1,by rw [t0]; exact sr.tm,sr.sz,by rw [t0]; exact sr.round,by rw [t0]; exact sr.defs⟩;have hn0:(T 0).h.n=st.h.n+na:=by rw [t0]
 obtain⟨r,h1,ι',ro',a',w',h2,_,h3,h4⟩:=qsk (k:=k) (cs:=cs) ce.hN ce.call ce.meth ce.pure ce.calm (base:=st.h.n) (Jaf ce.lim hn) hok hd ⟨t2⟩ (hs:=hs.reverse)
  (λc hcm=>by rw [t1]; exact hc c hcm) hhs (λp=>by
   rw [hget0];cases hg:st.h.get (st.h.n+p) with
   | none=>rfl
   | some o=>have:=(sr.hr.live _ _ hg).1; omega) (by omega)
  ops.size (w.tape w.drawn (.order b.fn id)) (Array.replicate ops.size false) ι ro (T 0) a { w with drawn:=w.drawn+1 } (by rw [hlen]; simp) (by
   have:(λi=>(Array.replicate ops.size false).getD i false=true)=λ_=>False:=funext λi=>by
    simp only [Array.getD_eq_getD_getElem?,Array.getElem?_replicate];split<;>simp
   rw [this]; exact qC7) (λj hj=>by
    simp only [Array.getD_eq_getD_getElem?,Array.getElem?_replicate] at hj;split at hj<;>simp at hj) sr0 (by omega) (by
    have:((List.range l.length).filter λi=>!(Array.replicate ops.size false).getD i true).length<=(List.range l.length).length:=List.length_filter_le _ _;rw [List.length_range] at this;have hsz:l.length=ops.size:=by rw [hlen]; simp
    omega) (λi li p _ _ _=>sr.hr.fresh _ (by omega))
 rw [Jah] at h1;subst h1;refine⟨⟨.normal,st'⟩,Jah.2 rfl,ι',ro',a',w',?_,by rw [<-t1]; exact h3,?_⟩
 ·rw [<-t1];exact⟨⟨λi hi=>h2.ext.inj i (Nat.lt_of_lt_of_le hi hn),h2.ext.old,h2.ext.ro⟩,⟨h2.env.os,h2.env.output,h2.env.tape,(by have:=h2.env.drawn; simp only at this; omega),h2.env.size⟩,by have:=h2.n; show st.h.n<=(T l.length).h.n; omega,λi hi=>by rw [h2.low i hi,hget0]⟩
 ·have hsch:Region.schedule (P.follows .mixedOrders) ops (w.tape w.drawn (.order b.fn id))=Region.linearise.go .any ops ops.size (w.tape w.drawn (.order b.fn id)) (Array.replicate ops.size false) []:=by
   simp only [Region.schedule,ce.mixed,Bool.true_or,if_true,Region.linearise]
  have hst:=stepR_region_draw (P:=P) (b:=b) (a:=a) (k:=k) (cs:=cs) (w:=w) (ops:=ops) (id:=id);rw [hsch] at hst;exact .head hst (h4.trans (.one stepR_region_end))
theorem qoL {e:Env}{n0:Nat}(ce:qfP P N e b cs n0) {na:Nat}{chk:List (Nat × Nat)}{l:List Ins}{id:Nat}(hok:okL P N nt ops l ops.toList=true) (hd:qjr na chk l ops=true) (sr:SR P N (CRel P N) nt ι ro st b a w) (hn:n0<=st.h.n)
  {outs:List OS}(hev:qhd e na chk l st=some outs) :
  qdy P N nt n0 e.lim ι ro st b w outs (lone (b.atR a (.code (.region id ops true)::k)) cs w) k cs:=by
 unfold qhd at hev;split at hev
 ·rename_i st' hs hrun;cases hc:chk.all (recheck l st'.tm hs.reverse)<;>simp only [hc,cond,reduceCtorEq,Jae] at hev
  subst hev;exact qA7 ce hok hd sr hn hrun λc hcm=>qBd (List.all_eq_true.1 hc c hcm)
 ·cases hev
theorem qBg {e:Env}{n0:Nat}(ce:qfP P N e b cs n0) {chk:List (Nat × Nat)}{l:List Ins}{id:Nat}(hok:okL P N nt ops l ops.toList=true) (hd:qjr 0 chk l ops=true) (sr:SR P N (CRel P N) nt ι ro st b a w) (hn:n0<=st.h.n)
  {outs:List OS}(hev:qAZ e chk l st=some outs) :
  qdy P N nt n0 e.lim ι ro st b w outs (lone (b.atR a (.code (.region id ops true)::k)) cs w) k cs:=by
 unfold qAZ at hev;split at hev
 ·rename_i st' hs hrun;cases hc:chk.all (qAU e l st'.tm hs.reverse)<;>simp only [hc,cond,reduceCtorEq,Jae] at hev
  subst hev;exact qA7 ce hok hd sr hn (na:=0) hrun λc hcm=>List.all_eq_true.1 hc c hcm
 ·cases hev
def qoX (P:Program) (N:Num) (e:Env) (b:Frame) (cs:List Frame) (n0 nt:Nat):Prop :=
 ∀(f:Opd) (ps:List Nat) (asg body:IC) (g:Operand) (qs:Array Tmp) (x y:Code) (ι:Inj) (ro:RO) (st:St) (a:Act) (w:World) (k:List Item) (outs:List OS),
  okC P N nt (.rangeF f ps asg body) (.rangeFunc g qs x y)=true->SR P N (CRel P N) nt ι ro st b a w->n0<=st.h.n->qcA e (f.ev st.tm) ps asg body st=some outs ->
   qdy P N nt n0 e.lim ι ro st b w outs (lone (b.atR a (.code (.rangeFunc g qs x y)::k)) cs w) k cs
theorem qvo {x:Code}:step P (lone (b.atR a (.code (.scope x)::k)) cs w)=.next (lone (b.atR a (.code x::.inScope x::k)) cs w) :=
 step_lone_go (by simp [stepG,stepG.exec,Frame.atR])
theorem qvp {x:Code}:step P (lone (b.atR a (.inScope x::k)) cs w)=.next (lone (b.atR a k) cs w) :=
 step_lone_go (by simp [stepG,stepG.exec,Frame.atR])
theorem qbh {e:Env}{n0:Nat}(ce:qfP P N e b cs n0) (hrange:qoX P N e b cs n0 nt):∀(c:IC) (x:Code),okC P N nt c x=true->∀(ι:Inj) (ro:RO) (st:St) (a:Act) (w:World) (k:List Item) (outs:List OS),
  SR P N (CRel P N) nt ι ro st b a w->n0<=st.h.n->(qaR c).run e st=some outs->qdy P N nt n0 e.lim ι ro st b w outs (lone (b.atR a (.code x::k)) cs w) k cs
 | .skip,x,hok,ι,ro,st,a,w,k,outs,sr,hn,hev=>by
  simp only [qaR,Jae] at hev; subst hev;cases x<;>simp only [okC,Jan] at hok
  ·exact⟨_,Jah.2 rfl,ι,ro,a,w,Grow.refl,sr,.one stepR_skip⟩
  ·exact⟨_,Jah.2 rfl,ι,ro,a,w,Grow.refl,sr,.one stepR_label⟩
 | .ops l,x,hok,ι,ro,st,a,w,k,outs,sr,hn,hev=>by
  cases x<;>try (simp [okC] at hok; done)
  rename_i id ops d;cases d<;>simp only [okC,Jan,Jad] at hok
  simp only [qaR] at hev;obtain⟨ms,hm,hall⟩:=qBw hev;refine (qpD ce hok.1 hok.2 sr hn hm).sub λr hr=>?_;obtain⟨s,hs,rfl⟩:=Jak.1 hr;obtain⟨rs,h1,h2⟩:=hall s hs;cases h1;exact h2 _ (Jah.2 rfl)
 | .dops na chk l,x,hok,ι,ro,st,a,w,k,outs,sr,hn,hev=>by
  cases x<;>try (simp [okC] at hok; done)
  rename_i id ops d;cases d<;>simp only [okC,Jan,Jad] at hok
  simp only [qaR] at hev;exact qoL ce hok.1 hok.2 sr hn hev
 | .dopc chk l,x,hok,ι,ro,st,a,w,k,outs,sr,hn,hev=>by
  cases x<;>try (simp [okC] at hok; done)
  rename_i id ops d;cases d<;>simp only [okC,Jan,Jad] at hok
  simp only [qaR] at hev;exact qBg ce hok.1 hok.2 sr hn hev
 | .seq c d,x,hok,ι,ro,st,a,w,k,outs,sr,hn,hev=>by
  cases x<;>simp only [okC,Jan,Jad] at hok
  rotate_left
  ·rename_i y;obtain⟨hc,hok⟩:=hok;cases c<;>simp only [qvq,Jan] at hc
   simp only [qaR] at hev;have hev:(qaR d).run e st=some outs:=hev;obtain⟨r,hr,ι',ro',a',w',hG,sr',harr⟩:=qbh ce hrange d y hok ι ro st a w (.inScope y::k) outs sr hn hev;obtain⟨o,s⟩:=r;refine⟨_,hr,ι',ro',a',w',hG,sr',?_⟩;cases o with
   | normal=>exact .head qvo (Steps.trans harr (.one qvp))
   | exit id =>
    obtain⟨k',e1,e2⟩:=harr;exact⟨k',by rw [e1]; rfl,.head qvo e2⟩
   | ret =>
    obtain⟨k',e2⟩:=harr;exact⟨k',.head qvo e2⟩
  rename_i y z;simp only [qaR] at hev;obtain⟨ms,hm,hall⟩:=qBw hev;obtain⟨r,hr,ι',ro',a',w',hG,sr',harr⟩:=qbh ce hrange c y hok.1 ι ro st a w (.code z::k) ms sr hn hm;obtain⟨rs,h1,h2⟩:=hall r hr;obtain⟨o,s⟩:=r;cases o with
  | normal =>
   dsimp only at h1;obtain⟨r2,k1,ι2,ro2,a2,w2,k2,k3,k4⟩:=qbh ce hrange d z hok.2 ι' ro' s a' w' k rs sr' (Jaf hn hG.n) h1;exact⟨r2,h2 _ k1,ι2,ro2,a2,w2,hG.trans k2,k3,k4.of_steps (.head stepR_seq harr)⟩
  | exit id =>
   cases h1;obtain⟨k',e1,e2⟩:=harr;exact⟨_,h2 _ (Jah.2 rfl),ι',ro',a',w',hG,sr',k',by rw [e1]; rfl,.head stepR_seq e2⟩
  | ret =>
   cases h1;obtain⟨k',e2⟩:=harr;exact⟨_,h2 _ (Jah.2 rfl),ι',ro',a',w',hG,sr',k',.head stepR_seq e2⟩
 | .cond c d1 d2,x,hok,ι,ro,st,a,w,k,outs,sr,hn,hev=>by
  cases x<;>simp only [okC,Jan,Jad] at hok
  rename_i c' y z;simp only [qaR] at hev;have hc:=qan sr.tm hok.1.1;split at hev
  ·rename_i t ht;rw [ht] at hc;simp only [VR] at hc;have hst:=stepR_cond (P:=P) (b:=b) (a:=a) (k:=k) (cs:=cs) (w:=w) (x:=y) (y:=z) hc;cases t with
   | true=>exact (qbh ce hrange d1 y hok.1.2 ι ro st a w k outs sr hn hev).head (.one hst)
   | false=>exact (qbh ce hrange d2 z hok.2 ι ro st a w k outs sr hn hev).head (.one hst)
  ·cases hev
 | .block id c,x,hok,ι,ro,st,a,w,k,outs,sr,hn,hev=>by
  cases x<;>simp only [okC,Jan,Jad,Jas] at hok
  rename_i id' y;obtain⟨rfl,hok⟩:=hok;simp only [qaR] at hev;obtain⟨ms,hm,hall⟩:=qBw hev;obtain⟨r,hr,ι',ro',a',w',hG,sr',harr⟩:=qbh ce hrange c y hok ι ro st a w (.inBlock id::k) ms sr hn hm;obtain⟨rs,h1,h2⟩:=hall r hr;obtain⟨o,s⟩:=r;cases o with
  | normal =>
   cases h1;exact⟨_,h2 _ (Jah.2 rfl),ι',ro',a',w',hG,sr',.head stepR_block (harr.trans (.one stepR_inBlock))⟩
  | exit j =>
   obtain⟨k',e1,e2⟩:=harr;dsimp only at h1;cases hj:Nat.beq j id<;>simp only [hj,cond] at h1<;>cases h1
   ·have hne:(id == j)=false:=by
     rw [beq_eq_false_iff_ne]; intro e; subst e; simp at hj
    exact⟨_,h2 _ (Jah.2 rfl),ι',ro',a',w',hG,sr',k',by rw [e1]; simp [exitTo,hne],.head stepR_block e2⟩
   ·rw [Jas] at hj; subst hj;have he:exitTo j k'=some k:=by rw [e1]; simp [exitTo]
    exact⟨_,h2 _ (Jah.2 rfl),ι',ro',a',w',hG,sr',.head stepR_block (e2.trans (.one (stepR_exit he)))⟩
  | ret =>
   cases h1;obtain⟨k',e2⟩:=harr;exact⟨_,h2 _ (Jah.2 rfl),ι',ro',a',w',hG,sr',k',.head stepR_block e2⟩
 | .loop c,x,hok,ι,ro,st,a,w,k,outs,sr,hn,hev=>by
  cases x<;>simp only [okC,Jan] at hok
  rename_i y;simp only [qaR] at hev;have key:∀(n:Nat) (ι:Inj) (ro:RO) (st:St) (a:Act) (w:World) (outs:List OS),SR P N (CRel P N) nt ι ro st b a w->n0<=st.h.n->qga ((qaR c).run e) n st=some outs ->
    qdy P N nt n0 e.lim ι ro st b w outs (lone (b.atR a (.code y::.inLoop y::k)) cs w) k cs:=by
   intro n;induction n with
   | zero=>intro ι ro st a w outs _ _ h; cases h
   | succ n ih =>
    intro ι ro st a w outs sr hn hev;simp only [qga] at hev;obtain⟨ms,hm,hall⟩:=qBw hev;obtain⟨r,hr,ι',ro',a',w',hG,sr',harr⟩:=qbh ce hrange c y hok ι ro st a w (.inLoop y::k) ms sr hn hm;obtain⟨rs,h1,h2⟩:=hall r hr;obtain⟨o,s⟩:=r;cases o with
    | normal =>
     dsimp only at h1;obtain⟨r2,k1,ι2,ro2,a2,w2,k2,k3,k4⟩:=ih ι' ro' s a' w' rs sr' (Jaf hn hG.n) h1;exact⟨r2,h2 _ k1,ι2,ro2,a2,w2,hG.trans k2,k3,k4.of_steps (Steps.trans harr (.one stepR_inLoop))⟩
    | exit id =>
     cases h1;obtain⟨k',e1,e2⟩:=harr;exact⟨_,h2 _ (Jah.2 rfl),ι',ro',a',w',hG,sr',k',by rw [e1]; rfl,e2⟩
    | ret =>
     cases h1;exact⟨_,h2 _ (Jah.2 rfl),ι',ro',a',w',hG,sr',harr⟩
  exact (key e.fu ι ro st a w outs sr hn hev).head (.one stepR_loop)
 | .rangeF f ps asg body,x,hok,ι,ro,st,a,w,k,outs,sr,hn,hev=>by
  cases x<;>try (simp [okC] at hok; done)
  rename_i g qs x y;simp only [qaR] at hev;exact hrange f ps asg body g qs x y ι ro st a w k outs hok sr hn hev
 | .exit id,x,hok,ι,ro,st,a,w,k,outs,sr,hn,hev=>by
  cases x<;>simp only [okC,Jan,Jas] at hok
  subst hok;simp only [qaR,Jae] at hev; subst hev;exact⟨_,Jah.2 rfl,ι,ro,a,w,Grow.refl,sr,k,rfl,Steps.refl P _⟩
 | .ret,x,hok,ι,ro,st,a,w,k,outs,sr,hn,hev=>by
  cases x<;>simp only [okC,Jan] at hok
  simp only [qaR,Jae] at hev; subst hev;exact⟨_,Jah.2 rfl,ι,ro,a,w,Grow.refl,sr,k,Steps.refl P _⟩
 | .bad,x,hok,ι,ro,st,a,w,k,outs,sr,hn,hev=>by simp [qaR] at hev
variable {N:Num}{ι ι' ι'':Inj}{ro ro' ro'':RO}{P:Program}{h h' h'':Heap}{w w' w'':World}{nt:Nat}{st st' g:St}{b:Frame}{a:Act}{k:List Item}{cs:List Frame}{ops:Array Oper}
def qhe (b:Frame) (a:Act) (qs:Array Tmp) (x y:Code) (w:World):World :=
 { w with heap:=(w.heap.push (.deferred (some []))).push (.loop { state:=.ready,pending:=none,fn:=b.fn,tmps:=a.tmps,params:=qs,assign:=x,body:=y,defers:=w.heap.size }) }
def qcM (a:Act) (w:World):Act:={ a with defers:={ target:=.collected w.heap.size,args:=#[] }::a.defers }
theorem qiO (qs:Array Tmp) (x y:Code):(Instr.enterLoop b.fn a.tmps qs x y none).run P w=.ok (w.heap.size+1,[{ target:=.collected w.heap.size,args:=#[] }]) (qhe b a qs x y w):=by
 simp [Instr.enterLoop,newObj,Sem.run,qhe];rfl
theorem qnL (hb:b.roundOf=none) {f:Operand}{qs:Array Tmp}{x y:Code}{R:Value->World->Prop}(h:qeI P (a.eval f) #[.func (.yield (w.heap.size+1)) #[] #[]] (qhe b a qs x y w) R) :
  ∃v w',R v w'/\Steps P (lone (b.atR a (.code (.rangeFunc f qs x y)::k)) cs w) (lone (b.atR (qcM a w) (.endRangeFunc (w.heap.size+1)::k)) cs w'):=by
 obtain⟨nx,w1,h1,h2⟩:=h;have hfin:∀v,(b.atR (qcM a w) (.inRangeFunc (w.heap.size+1)::k)).finish v=b.atR (qcM a w) (.endRangeFunc (w.heap.size+1)::k):=λv=>rfl;have hev:∀(z:Operand),(b.atR (qcM a w) (.inRangeFunc (w.heap.size+1)::k)).eval z=a.eval z:=λz=>by cases z<;>rfl
 have hen:=qiO (P:=P) (b:=b) (a:=a) (w:=w) qs x y;have hst:(stepG P true { frame:=b.atR a (.code (.rangeFunc f qs x y)::k),callers:=cs,status:=.running,dying:=none } w).bare =
   (stepG.apply P true (b.atR (qcM a w) (.inRangeFunc (w.heap.size+1)::k)) cs none (qaU (a.eval f) #[.func (.yield (w.heap.size+1)) #[] #[]]) (qhe b a qs x y w)).bare:=by
  have hr:∀ty,(resolve (b.atR (qcM a w) (.inRangeFunc (w.heap.size+1)::k)).eval { callee:=.value f,args:=#[.const (.func (.yield (w.heap.size+1)) #[] #[])],argTypes:=#[] } ty:Sem Deferred)=Deferred.ofValue (a.eval f) #[.func (.yield (w.heap.size+1)) #[] #[]]:=λty=>by
   simp [resolve,hev,Act.eval]
  have hr0:=hr 0;simp only [stepG,stepG.exec,Frame.atR,hb,Sem.runT_eq,hen,GStep.bare_after];simp only [Frame.atR,hb,qcM] at hr0;simp only [qcM,qaU,List.cons_append,List.nil_append];rw [hr0]
 cases nx<;>simp only [qih] at h2
 ·rename_i v;refine⟨v,w1,h2,.one (step_lone_go ?_)⟩;rw [hst,<-hfin v]; simp [stepG.apply,h1]
 ·rename_i f' args;obtain⟨v,w',g1,g2⟩:=h2.of_calls (b.atR (qcM a w) (.inRangeFunc (w.heap.size+1)::k)) cs;refine⟨v,w',g1,.head (step_lone_go (fr':=Frame.enter P f' args .normal) (cs':=b.atR (qcM a w) (.inRangeFunc (w.heap.size+1)::k)::cs) (w':=w1) ?_) (by rw [<-hfin]; exact g2)⟩;rw [hst]; simp [stepG.apply,h1,Frame.atR]
 ·rename_i l f' tmps asg body;obtain⟨v,w',g1,g2⟩:=h2 (b.atR (qcM a w) (.inRangeFunc (w.heap.size+1)::k)) cs;refine⟨v,w',g1,.head (step_lone_go (fr':=Frame.round l f' tmps asg body .normal) (cs':=b.atR (qcM a w) (.inRangeFunc (w.heap.size+1)::k)::cs) (w':=w1) ?_) (by rw [<-hfin]; exact g2)⟩;rw [hst]; simp [stepG.apply,h1,Frame.atR]
theorem qrD {L:Nat}{r:Loop}(hL:w.heap[L]?=some (.loop r)) (hs:r.state≠.busy) :
  step P (lone (b.atR a (.endRangeFunc L::k)) cs w)=.next (lone (b.atR a ((r.pending.map Item.code).toList++k)) cs { w with heap:=w.heap.setIfInBounds L (.loop { r with state:=.exhausted }) }):=by
 have hrun:(Instr.endLoop L).run P w=.ok r.pending { w with heap:=w.heap.setIfInBounds L (.loop { r with state:=.exhausted }) }:=by
  simp [Instr.endLoop,Instr.getLoop,getObj,setObj,Sem.run,hL,hs]
 exact step_lone_go (by simp [stepG,stepG.exec,Frame.atR,Sem.runT_eq,hrun])
def outOf:Option IC->Option Out
 | none=>some .normal
 | some .ret=>some .ret
 | some (.exit i)=>some (.exit i)
 | _=>none
theorem qnT {s:LoopState}{pend:Option IC}{st':St}{rs:List OS}(h:(match s with
  | .busy=>none
  | _=>match pend with
   | none=>some [⟨.normal,st'⟩]
   | some .ret=>some [⟨.ret,st'⟩]
   | some (.exit i)=>some [⟨.exit i,st'⟩]
   | _=>(none:ND OS))=some rs):s≠.busy/\∃o,outOf pend=some o/\rs=[⟨o,st'⟩]:=by
 cases s with
 | busy=>cases h
 | _ =>
  dsimp only at h;refine⟨by simp,?_⟩;split at h
  ·exact⟨_,rfl,(Option.some.inj h).symm⟩
  ·exact⟨_,rfl,(Option.some.inj h).symm⟩
  ·exact⟨_,rfl,(Option.some.inj h).symm⟩
  ·cases h
theorem qp1 {pend:Option IC}{q:Option Code}{o:Out}(ho:outOf pend=some o) (hj:qk2 pend q) {m:Machine}(hm:Steps P m (lone (b.atR a ((q.map Item.code).toList++k)) cs w)):Arr P m b k cs o a w:=by
 cases pend with
 | none =>
  cases q with
  | none=>cases ho; exact hm
  | some c=>exact hj.elim
 | some p =>
  cases q with
  | none=>cases p<;>exact hj.elim
  | some c =>
   cases p<;>try (cases ho; done)
   ·cases c<;>try exact hj.elim
    have e:_=_:=hj;subst e;cases ho;exact⟨k,rfl,hm⟩
   ·cases c<;>try exact hj.elim
    cases ho;exact⟨k,hm⟩
theorem qep {e:Env}{n0:Nat}(ce:qfP P N e b cs n0):qoX P N e b cs n0 nt:=by
 intro f ps asg body g qs x y ι ro st a w k outs hok sr hn hev;simp only [okC,Jad,beq_iff_eq,List.all_eq_true,Nat.blt_eq] at hok;obtain⟨⟨⟨⟨o1,o2⟩,o3⟩,o4⟩,o5⟩:=hok;unfold qcA at hev;cases hr:st.round with
 | true=>simp [hr] at hev
 | false =>
  simp only [hr,cond] at hev;have hb:b.roundOf=none:=by have:=sr.round; rw [hr] at this; cases hbb:b.roundOf<;>simp [hbb] at this ⊢
  obtain⟨ms,hm,hall⟩:=qBw hev
  let wd:Plc:=⟨w.heap.size,0,0,0⟩
  let wl:Plc:=⟨w.heap.size+1,0,0,0⟩
  let w1:World:={ w with heap:=w.heap.push (.deferred (some [])) }
  have e1:=qeD sr.hr wd;have hh1:HR N (CRel P N) (λj=>if j=st.h.n then some wd else ι j) ro (st.h.push .dfr) w1 :=
   sr.hr.put_new (wn:=wd) (o:=.dfr) (c:=.deferred (some [])) (sr.hr.fresh _ (Jac _)) (by simp) (by simp) (λj=>by rw [qBq]) rfl (qdA.alloc w _).old (qdA.alloc w _).new rfl
  have e2:=qeD hh1 wl
  let lo:Loop:={ state:=.ready,pending:=none,fn:=b.fn,tmps:=a.tmps,params:=qs,assign:=x,body:=y,defers:=w.heap.size }
  have hh2:=hh1.put_new (wn:=wl) (o:=.loop .ready none st.tm ps asg body) (c:=.loop lo) (h':=(st.h.push .dfr).push (.loop .ready none st.tm ps asg body)) (w':=qhe b a qs x y w) (hh1.fresh _ (Jac _)) (by simp) (by simp) (λj=>by rw [qBq]) (by simp [wl,w1]) (by
    intro b' hb'; simp only [qhe,w1] at hb' ⊢; rw [Array.getElem?_push,Jaa (by omega)]) (by show ((w.heap.push _).push _)[w.heap.size+1]?=_; rw [Array.getElem?_push,Jab (by simp)]) ⟨lo,rfl,rfl,trivial,(sr.tm.mono e1.old e1.ro).mono e2.old e2.ro,o2,nt,sr.sz,o3,o4,o5⟩
  have hf:=(VR.mono e2.old e2.ro _ _ (VR.mono e1.old e1.ro _ _ (qan sr.tm o1)));have hargs:VRs N (λj=>if j=(st.h.push .dfr).n then some wl else if j=st.h.n then some wd else ι j) ro [.yld (st.h.push .dfr).n] (#[Value.func (.yield (w.heap.size+1)) #[] #[]]:Array Value).toList :=
   VRs.cons (by simp only [VR]; exact⟨wl,by simp,rfl⟩) VRs.nil
  have hinv:=ce.call _ _ _ _ _ _ _ #[Value.func (.yield (w.heap.size+1)) #[] #[]] ms (by have:=ce.lim; simp; omega) hh2 hf hargs hm;obtain⟨v,w',⟨r,hrm,ι',ro',hG,hh',_⟩,hst⟩:=qnL (k:=k) (cs:=cs) hb hinv;obtain⟨rs,hrs,hsub⟩:=hall r hrm;split at hrs
  ·rename_i s pend tm' ps' asg' body' hgl;have hl' : ι' (st.h.push .dfr).n = some wl := hG.ext.old _ _ (by simp);have hd' : ι' st.h.n = some wd := hG.ext.old _ _ (by simp);obtain ⟨_, wn, hwn, c, hc, hO⟩ := hh'.live _ _ hgl;rw [hl'] at hwn; cases hwn;obtain ⟨lo', rfl, hs1, hj, ht1, hp1, hx1⟩ := hO;have hold : ∀ j u, ι j = some u → ι' j = some u := fun j u hj => hG.ext.old _ _ (e2.old _ _ (e1.old _ _ hj));have hroo : ∀ b c, ro b = some c → ro' b = some c := hG.ext.ro;have fin : ∀ (o : Out), s ≠ .busy → rs = [⟨o, ⟨st.tm, r.h.set (st.h.push .dfr).n (.loop .exhausted pend tm' ps' asg' body'), .mark st.h.n :: st.defs, false⟩⟩] →
     (∀(m:Machine) a w,Steps P m (lone (b.atR a ((lo'.pending.map Item.code).toList++k)) cs w)->Arr P m b k cs o a w) ->
     qdy P N nt n0 e.lim ι ro st b w outs (lone (b.atR a (.code (.rangeFunc g qs x y)::k)) cs w) k cs:=by
    intro o hsb hrs harr;subst hrs;have hend:=qrD (P:=P) (b:=b) (a:=qcM a w) (k:=k) (cs:=cs) hc (by rw [hs1]; exact hsb);refine⟨_,hsub _ (Jah.2 rfl),ι',ro',qcM a w,_,?_,?_,harr _ _ _ (hst.trans (.one hend))⟩
    ·refine⟨⟨λj hj=>?_,hold,hroo⟩,⟨hG.env.os,hG.env.output,hG.env.tape,hG.env.drawn,?_⟩,?_,λj hj=>?_⟩
     ·rw [hG.ext.inj j (by simp; omega)];exact (Jaa (by simp; omega)).trans (Jaa (by omega))
     ·have:=hG.env.size;simp only [qhe,Array.size_push] at this;simp only [Array.size_setIfInBounds]; omega
     ·have:=hG.n;simp only [qBF,qBB] at this ⊢; omega
     ·have:=ce.lim;show (r.h.set _ _).get j=_;rw [qBp,Jaa (by simp; omega),hG.low j hj,qBq,Jaa (by simp; omega),qBq,Jaa (by omega)]
    ·refine⟨?_,sr.tm.mono hold hroo,sr.sz,by rw [hb]; rfl,.cons ⟨wd,hd',rfl⟩ (sr.defs.mono λ_ _ h=>h.mono hold hroo)⟩;exact hh'.set_obj hgl hl' ⟨_,rfl,rfl,hj,ht1,hp1,hx1⟩
   obtain⟨hsb,o,ho,hrs'⟩:=qnT hrs;exact fin o hsb hrs' λm a w hm=>qp1 ho hj hm
  ·cases hrs
variable {N:Num}{ι ι' ι'':Inj}{ro ro' ro'':RO}{P:Program}{h h' h'':Heap}{w w' w'':World}{nt:Nat}{st st' g:St}{b:Frame}{a:Act}{k:List Item}{cs:List Frame}{ops:Array Oper}
theorem qiW:∀(ps:List Nat) (args:List V) (xs:List Value) (tm:Tm) (t:Array Value),VRtm N ι ro tm t->VRs N ι ro args xs->(∀p∈ps,p<t.size) ->
  VRtm N ι ro (qdr tm ps args) ((ps.zip xs).foldl (λt (q:Nat × Value)=>t.setIfInBounds q.1 q.2) t)/\((ps.zip xs).foldl (λt (q:Nat × Value)=>t.setIfInBounds q.1 q.2) t).size=t.size
 | [],args,xs,tm,t,h,_,_=>⟨h,rfl⟩
 | p::ps,[],xs,tm,t,h,hx,_=>by rw [VRs.nil_inv hx]; exact⟨h,rfl⟩
 | p::ps,v::args,xs,tm,t,h,hx,hp=>by
  obtain⟨x,r,rfl,h1,h2⟩:=VRs.cons_inv hx;simp only [qdr,List.zip_cons_cons,List.foldl_cons];obtain⟨k1,k2⟩:=qiW ps args r _ (t.setIfInBounds p x) (h.set (hp p (by simp)) h1) h2 (λq hq=>by simpa using hp q (by simp [hq]));exact⟨k1,by simpa using k2⟩
theorem qm9 {L:Nat}{r:Loop}(hL:w.heap[L]?=some (.loop r)) {xs:Array Value}(hn:xs.size=r.params.size) :
  (qaU (.func (.yield L) #[] #[]) xs).run P w=.ok (.round L r.fn ((r.params.zip xs).foldl (λt (q:Nat × Value)=>t.setIfInBounds q.1 q.2) r.tmps) r.assign r.body) w:=by
 simp [qaU,Deferred.ofValue,invoke,Instr.yield,Instr.getLoop,getObj,Sem.run,hL,hn]
theorem qoT {L:Nat}{r:Loop}(hL:w.heap[L]?=some (.loop r)) (hs:r.state=.ready):(Instr.beginRound L).run P w=.ok () { w with heap:=w.heap.setIfInBounds L (.loop { r with state:=.busy }) }:=by
 simp [Instr.beginRound,Instr.getLoop,getObj,setObj,Sem.run,hL,hs]
theorem qsh {L:Nat}{r:Loop}(hL:w.heap[L]?=some (.loop r)) (jump:Option Code):(Instr.endRound L jump).run P w=.ok (.bool jump.isNone) { w with heap:=w.heap.setIfInBounds L (.loop { r with state:=if jump.isNone then .ready else .done,pending:=jump }) }:=by
 simp [Instr.endRound,Instr.getLoop,getObj,setObj,Sem.run,hL]
theorem qkm (hN:∀t u,N.t t=N.t u->t=u) {AP:Prog}{callF:V->List V->Heap->ND VH}{mk fu:Nat}(hcall:qfq P N (CRel P N) callF mk) (hmeth:MethOK P N AP.meth) (hpure:qAX ⟨callF,AP.meth,fu,mk,AP.pureF⟩) (hmixed:P.follows .mixedOrders=true)
  {l:Nat}{args:List V}{xs:Array Value}{outs:List VH}(hlim:mk<=h.n) (hh:HR N (CRel P N) ι ro h w) {wn:Plc}(hw:ι l=some wn) (hargs:VRs N ι ro args xs.toList) (hev:qb6 AP callF fu mk l args h=some outs) :
  qeI P (.func (.yield wn.blk) #[] #[]) xs w λv w'=>∃r∈outs,∃ι' ro',Grow h.n mk ι ro h w ι' ro' r.h w'/\HR N (CRel P N) ι' ro' r.h w'/\VR N ι' ro' r.v v:=by
 unfold qb6 at hev;split at hev
 ·rename_i s pend tm ps asg body hg;obtain⟨hb,hev⟩:=qaG hev;simp only [Jad,Jat,Jas] at hb;obtain⟨hmk,hlen⟩:=hb;obtain⟨hln,wn',hw',c,hc,lo,rfl,hs,hj,htm,hps,nt,hnt,hasg,hbody,hpn⟩:=hh.live _ _ hg;rw [hw] at hw'; cases hw';have hxs:xs.size=lo.params.size:=by
   have h1:=hargs.length;have h2:lo.params.toList.length=ps.length:=by rw [hps]
   simp at h1 h2; omega
  refine⟨_,w,qm9 hc hxs,?_⟩;intro cf cs
  let b:Frame:={ (default:Frame) with fn:=lo.fn,kind:=.normal,roundOf:=some wn.blk }
  obtain⟨ht1,ht2⟩:=qiW ps args xs.toList tm lo.tmps htm hargs λp hp=>Nat.lt_of_lt_of_le (hpn p hp) hnt;have hfold:(lo.params.zip xs).foldl (λt (q:Nat × Value)=>t.setIfInBounds q.1 q.2) lo.tmps=(ps.zip xs.toList).foldl (λt (q:Nat × Value)=>t.setIfInBounds q.1 q.2) lo.tmps:=by
   rw [<-Array.foldl_toList,Array.toList_zip,hps]
  let a:Act:=⟨(lo.params.zip xs).foldl (λt (q:Nat × Value)=>t.setIfInBounds q.1 q.2) lo.tmps,[]⟩
  have hfr:Frame.round wn.blk lo.fn a.tmps lo.assign lo.body .normal=b.atR a [.code lo.assign,.beginRound,.code lo.body]:=by
   simp [Frame.round,Frame.atR,b,a]
  have ce:qfP P N ⟨callF,AP.meth,fu,mk,AP.pureF⟩ b (cf::cs) h.n:=⟨hN,hcall,hmeth,hpure,hmixed,qeF _,hlim⟩;have sr:SR P N (CRel P N) nt ι ro ⟨qdr tm ps args,h,[],true⟩ b a w:=⟨hh,by show VRtm N ι ro _ ((lo.params.zip xs).foldl _ lo.tmps); rw [hfold]; exact ht1,by show nt<=((lo.params.zip xs).foldl _ lo.tmps).size; rw [hfold,ht2]; exact hnt,rfl,.nil⟩;obtain⟨ms,hm,hall⟩:=qBw hev;obtain⟨r,hr,ι1,ro1,a1,w1,hG1,sr1,harr1⟩:=qbh ce (qep ce) asg lo.assign hasg ι ro _ a w [.beginRound,.code lo.body] ms sr (Jac _) hm;obtain⟨rs,hrs,hsub⟩:=hall r hr;rw [hfr];obtain⟨ro1',rs1⟩:=r;obtain⟨tm1,h1,defs1,round1⟩:=rs1;dsimp only at hrs;split at hrs
  ·rename_i o1 d1 g1 pend1 tm' ps' asg' body' hgl;dsimp only at harr1;have hw1:ι1 l=some wn:=hG1.ext.old _ _ hw;obtain⟨_,wn1,hwn1,c1,hc1,lo1,rfl,hs1,hj1,ht1',hp1',hx1'⟩:=sr1.hr.live _ _ hgl;rw [hw1] at hwn1; cases hwn1
   have hdef:a1.defers=[]:=by have:=sr1.defs; cases hq:a1.defers with
    | nil=>rfl
    | cons x y=>rw [hq] at this; cases this
   have hbegin:=stepR_beginRound (P:=P) (b:=b) (a:=a1) (k:=[.code lo.body]) (cs:=cf::cs) (w:=w1) rfl (qoT hc1 hs1);have hh2:=sr1.hr.set_obj (o':=.loop .busy pend1 tm' ps' asg' body') (c:=.loop { lo1 with state:=.busy }) hgl hw1 ⟨_,rfl,rfl,hj1,ht1',hp1',hx1'⟩;have sr2:SR P N (CRel P N) nt ι1 ro1 ⟨tm1,h1.set l (.loop .busy pend1 tm' ps' asg' body'),[],true⟩ b a1 _:=⟨hh2,sr1.tm,sr1.sz,rfl,by rw [hdef]; exact .nil⟩;obtain⟨ms2,hm2,hall2⟩:=qBw hrs;obtain⟨s2,hs2,ι2,ro2,a2,w2,hG2,sr2',harr2⟩:=qbh ce (qep ce) body lo.body hbody ι1 ro1 _ a1 _ [] ms2 sr2 (by have:=hG1.n; exact this) hm2;obtain⟨rs2,hrs2,hsub2⟩:=hall2 s2 hs2;have hw2:ι2 l=some wn:=hG2.ext.old _ _ hw1;have hsteps:Steps P (lone (b.atR a [.code lo.assign,.beginRound,.code lo.body]) (cf::cs) w) (lone (b.atR a1 [.code lo.body]) (cf::cs) { w1 with heap:=w1.heap.setIfInBounds wn.blk (.loop { lo1 with state:=.busy }) }):=Steps.trans harr1 (.one hbegin);obtain⟨o2,s2⟩:=s2;obtain⟨tm2,h2,defs2,round2⟩:=s2;dsimp only at hrs2 harr2 sr2' hG2;have fin:∀(jump:Option IC) (cj:Option Code) (m:Machine),qk2 jump cj->endRound l jump h2=some rs2->Steps P (lone (b.atR a1 [.code lo.body]) (cf::cs) { w1 with heap:=w1.heap.setIfInBounds wn.blk (.loop { lo1 with state:=.busy }) }) m ->
     (∀v w',(Instr.endRound wn.blk cj).run P w2=.ok v w'->step P m=.next (lone (cf.finish v) cs w')) ->
     ∃v w',(∃r∈outs,∃ι' ro',Grow h.n mk ι ro h w ι' ro' r.h w'/\HR N (CRel P N) ι' ro' r.h w'/\VR N ι' ro' r.v v)/\Steps P (lone (b.atR a [.code lo.assign,.beginRound,.code lo.body]) (cf::cs) w) (lone (cf.finish v) cs w'):=by
    intro jump cj m hjr hend hm hst;unfold endRound at hend;split at hend
    ·rename_i s3 p3 tm3 ps3 asg3 body3 hg3;cases hend;obtain⟨_,wn3,hwn3,c3,hc3,lo3,rfl,hs3,hj3,ht3,hp3,hx3⟩:=sr2'.hr.live _ _ hg3;rw [hw2] at hwn3; cases hwn3;have hb3:cj.isNone=jump.isNone:=by cases jump<;>cases cj<;>first|rfl|exact hjr.elim|(rename_i q; cases q<;>exact hjr.elim)
     refine⟨_,_,⟨_,hsub _ (hsub2 _ (Jah.2 rfl)),ι2,ro2,?_,sr2'.hr.set_obj (c:=.loop { lo3 with state:=if cj.isNone then .ready else .done,pending:=cj }) hg3 hw2 ⟨_,rfl,?_,hjr,ht3,hp3,hx3⟩,?_⟩,(hsteps.trans hm).trans (.one (hst _ _ (qsh hc3 cj)))⟩
     ·have hG:=hG1.trans (⟨Ext.refl _ _ _,⟨rfl,rfl,rfl,(by first|exact Jac _|exact Nat.le_succ _|simp),by simp⟩,by simp,λi hi=>by rw [qBp,Jaa (by omega)]⟩:Grow h.n mk ι1 ro1 h1 w1 ι1 ro1 (h1.set l (.loop .busy pend1 tm' ps' asg' body')) { w1 with heap:=w1.heap.setIfInBounds wn.blk (.loop { lo1 with state:=.busy }) });have hG:=hG.trans hG2;exact⟨hG.ext,⟨hG.env.os,hG.env.output,hG.env.tape,hG.env.drawn,by simpa using hG.env.size⟩,by simpa using hG.n,λi hi=>by rw [qBp,Jaa (by omega)]; exact hG.low i hi⟩
     ·rw [hb3]; cases jump<;>rfl
     ·rw [hb3]; simp only [VR]
    ·cases hend
   split at hrs2
   ·cases o2 with
    | normal=>exact fin none none _ trivial hrs2 harr2 λv w' hr=>stepR_round_end rfl rfl hr
    | ret =>
     obtain⟨k',hk'⟩:=harr2;exact fin (some .ret) (some .ret) _ trivial hrs2 hk' λv w' hr=>stepR_round_ret rfl rfl hr
    | exit i =>
     obtain⟨k',e1,hk'⟩:=harr2;exact fin (some (.exit i)) (some (.exit i)) _ rfl hrs2 hk' λv w' hr=>stepR_round_exit rfl rfl (by rw [e1]; rfl) hr
   ·cases hrs2
  ·cases hrs
 ·cases hev
variable {N:Num}{ι ι' ι'':Inj}{ro ro' ro'':RO}{P:Program}{h h' h'':Heap}{w w' w'':World}{nt:Nat}{st st' g:St}{b:Frame}{a:Act}{k:List Item}{cs:List Frame}{ops:Array Oper}
variable {CR:Nat->IC->Code->Prop}
theorem HR.kill_set (hh:HR N CR ι ro h w) {i:Nat}{o:Obj}{wn:Plc}(hi:h.get i=some o) (hw:ι i=some wn) (c:Go.Obj):HR N CR ι ro (h.kill i) { w with heap:=w.heap.setIfInBounds wn.blk c }:=by
 have hk:=hh.kill i;refine⟨λj oj hj=>?_,hk.dist,λb' c' hb=>?_,hk.fresh,λb' o' hb=>?_⟩
 ·obtain⟨h1,u,h2,c2,h3,h4⟩:=hk.live j oj hj;refine⟨h1,u,h2,c2,?_,h4⟩;have hne:u.blk≠wn.blk:=λe=>by
   rw [qBr] at hj
   by_cases ej:j=i
   ·rw [Jab ej] at hj; cases hj
   ·rw [Jaa ej] at hj; exact ej (hh.dist j i oj o u wn hj hi h2 hw e)
  simp only [Array.getElem?_setIfInBounds];rw [Jaa (λe=>hne e.symm)]; exact h3
 ·obtain⟨⟨e,fz,h1⟩,h2⟩:=hk.rd b' c' hb;refine⟨⟨e,fz,?_⟩,h2⟩;have hne:wn.blk≠b':=(hh.rd b' c' hb).2 i o wn hi hw;simp only [Array.getElem?_setIfInBounds];rw [Jaa hne]; exact h1
 ·refine⟨?_,(hk.kb b' o' hb).2⟩;have hne:wn.blk≠b':=(hh.kb b' o' hb).2 i o wn hi hw;simp only [Array.getElem?_setIfInBounds];rw [Jaa hne]; exact (hk.kb b' o' hb).1
theorem qns {fr:Frame}{ds:List Deferred}{blk:Nat}(hm:fr.mode=.returning) (hd:fr.defers={ target:=.collected blk,args:=#[] }::ds) (hb:w.heap[blk]?=some (.deferred (some []))) :
  step P (lone fr cs w)=.next (lone { fr with defers:=ds } cs { w with heap:=w.heap.setIfInBounds blk (.deferred none) }):=by
 have hrun:(Instr.takeDeferred blk).run P w=.ok [] { w with heap:=w.heap.setIfInBounds blk (.deferred none) }:=by
  simp [Instr.takeDeferred,getObj,setObj,Sem.run,hb]
 exact step_lone_go (by simp [stepG,unwind,hm,hd,Sem.runT_eq,hrun])
theorem qf9 {fr:Frame}{d:Deferred}{ds:List Deferred}{fv:Fn}{cap:Array Value}{v:Value}(hm:fr.mode=.returning) (hd:fr.defers=d::ds) (ht:d.target=.fn fv cap) (hi:(invoke d.target d.args).run P w=.ok (.value v) w') :
  step P (lone fr cs w)=.next (lone { fr with defers:=ds } cs w'):=by
 obtain⟨t,a⟩:=d;simp only at ht hi;subst ht;exact step_lone_go (by simp [stepG,unwind,callDeferred,hm,hd,hi])
theorem qdB {callF:V->List V->Heap->ND VH}{mk:Nat}(hcall:qqA P N CR callF mk):∀(defs:List DefI) (ds:List Deferred) (ι:Inj) (ro:RO) (h:Heap) (w:World) (outs:List Heap),All2 (DefR N ι ro) defs ds->HR N CR ι ro h w->mk<=h.n->qa1 callF mk defs h=some outs ->
  ∀(fr:Frame) (cs:List Frame),fr.mode=.returning->fr.defers=ds->∃h'∈outs,∃ι' ro' w',Grow h.n mk ι ro h w ι' ro' h' w'/\HR N CR ι' ro' h' w'/\Steps P (lone fr cs w) (lone { fr with defers:=[] } cs w')
 | [],ds,ι,ro,h,w,outs,hds,hh,hmk,hev,fr,cs,hm,hd=>by
  cases hds;simp only [qa1,Jae] at hev; subst hev;refine⟨h,Jah.2 rfl,ι,ro,w,Grow.refl,hh,?_⟩;have:({ fr with defers:=[] }:Frame)=fr:=by cases fr; simp at hd; subst hd; rfl
  rw [this]; exact Steps.refl P _
 | .mark i::defs,ds,ι,ro,h,w,outs,hds,hh,hmk,hev,fr,cs,hm,hd=>by
  cases hds with
  | cons hr hds =>
   rename_i d ds;obtain⟨wn,hw,rfl⟩:=hr;simp only [qa1] at hev;split at hev
   ·rename_i hg;obtain⟨hmi,hev⟩:=qaG hev;rw [Jat] at hmi;obtain⟨_,wn',hw',c,hc,hO⟩:=hh.live _ _ hg;rw [hw] at hw'; cases hw';have hc':c=.deferred (some []):=hO;subst hc';have hst:=qns (P:=P) (cs:=cs) hm hd hc;obtain⟨h',h1,ι',ro',w',hG,hh',hs⟩:=qdB hcall defs ds ι ro (h.kill i) _ outs hds (hh.kill_set hg hw (.deferred none)) hmk hev { fr with defers:=ds } cs hm rfl;refine⟨h',h1,ι',ro',w',⟨hG.ext,⟨hG.env.os,hG.env.output,hG.env.tape,hG.env.drawn,by simpa using hG.env.size⟩,hG.n,λj hj=>?_⟩,hh',.head hst hs⟩;rw [hG.low j hj,qBr,Jaa (by omega)]
   ·cases hev
 | .call v::defs,ds,ι,ro,h,w,outs,hds,hh,hmk,hev,fr,cs,hm,hd=>by
  cases hds with
  | cons hr hds =>
   rename_i d ds;obtain⟨⟨f,fa,fc,rfl⟩,fn,first,cap,hv,rfl⟩:=hr;simp only [qa1] at hev;obtain⟨ms,hms,hall⟩:=qBw hev;have hen:=hcall ι ro h w f fa fc _ [] #[] ms hmk hh hv VRs.nil hms;have key:∀(fr':Frame) v w',Steps P (lone fr cs w) (lone { fr with defers:=ds } cs w')->(∃r∈ms,∃ι' ro',Grow h.n mk ι ro h w ι' ro' r.h w'/\HR N CR ι' ro' r.h w'/\VR N ι' ro' r.v v) ->
     ∃h'∈outs,∃ι' ro' w',Grow h.n mk ι ro h w ι' ro' h' w'/\HR N CR ι' ro' h' w'/\Steps P (lone fr cs w) (lone { fr with defers:=[] } cs w'):=by
    intro _ v w' hst hR;obtain⟨r,hr,ι',ro',hG,hh',_⟩:=hR;obtain⟨rs,hrs,hsub⟩:=hall r hr;obtain⟨h',h1,ι2,ro2,w2,hG2,hh2,hs2⟩:=qdB hcall defs ds ι' ro' r.h w' rs (hds.mono λ_ _ h=>h.mono hG.ext.old hG.ext.ro) hh' (Jaf hmk hG.n) hrs { fr with defers:=ds } cs hm rfl;exact⟨h',hsub _ h1,ι2,ro2,w2,hG.trans (hG2.less hG.n (Jac _)),hh2,hst.trans hs2⟩
   rcases hen with ⟨f',args',h1,h2⟩|⟨v,w1,h1,h2⟩
   ·have hi:(invoke (.fn fn cap) (first++#[])).run P w=.ok (.enter f' args') w:=by simpa [qaU,Deferred.ofValue] using h1
    have hst:=step_defer (P:=P) (cs:=cs) (fr:=fr) (by rw [hm]; simp) hd rfl hi;obtain⟨v,w',fr',g1,g2,g3,g4,g5,g6,fnn,g7,g8⟩:=h2 .deferred ({ fr with defers:=ds }::cs) (λq hq=>by unfold tryRecover; rw [hq]; simp [hm]);have hret:=step_going_returned (P:=P) (c:={ fr with defers:=ds }) (cs:=cs) (w:=w') (v:=v) g6 ⟨g4,g5,fnn,by rw [g3]; exact g7,g8⟩;have hset:({ { fr with defers:=ds } with mode:=settle ({ fr with defers:=ds }:Frame).mode }:Frame)={ fr with defers:=ds }:=by
     simp only [hm,settle]
    rw [hset] at hret;exact key fr v w' (.head hst (g2.trans (.one hret))) g1
   ·have hi:(invoke (.fn fn cap) (first++#[])).run P w=.ok (.value v) w1:=by simpa [qaU,Deferred.ofValue] using h1
    exact key fr v w1 (.one (qf9 hm hd rfl hi)) h2
variable {N:Num}{ι ι' ι'':Inj}{ro ro' ro'':RO}{P:Program}{h h' h'':Heap}{w w' w'':World}{nt:Nat}{st st' g:St}{b:Frame}{a:Act}{k:List Item}{cs:List Frame}{ops:Array Oper}
variable {CR:Nat->IC->Code->Prop}
def qlp (P:Program) (r:Res) (v:ResultVar):Bool :=
 match r,v with
 | .tm t,.tmp u=>Nat.beq t u
 | .cell n t,.cell u ty=>Nat.beq t u&&okN P n ty
 | _,_=>false
def okRes (P:Program):List Res->List ResultVar->Bool
 | [],[]=>true
 | r::l,v::m=>qlp P r v&&okRes P l m
 | _,_=>false
def qhJ (tmps:Array Value):ResultVar->Sem Value
 | .tmp t=>pure (tmps.getD t undef)
 | .cell a t=>do loadVar t (<- asAddr (tmps.getD a undef))
theorem qrH {tm:Tm}{tmps:Array Value}(htm:VRtm N ι ro tm tmps) (hh:HR N CR ι ro h w) {r:Res}{v:ResultVar}(hok:qlp P r v=true) {u:V}(hev:resV tm h r=some u):∃x,(qhJ tmps v).run P w=.ok x w/\VR N ι ro u x:=by
 cases r with
 | tm t =>
  cases v<;>simp only [qlp,Jan,Jas] at hok
  subst hok;simp only [resV,Jae] at hev;subst hev;exact⟨_,rfl,htm t⟩
 | cell n t =>
  cases v<;>simp only [qlp,Jan,Jad,Jas] at hok
  obtain⟨rfl,hn⟩:=hok;simp only [resV,qbc] at hev;have hx:=htm t;have hevt:(Opd.t t).ev tm=(gK t).run tm:=rfl;rw [hevt] at hev;cases hxv:(gK t).run tm<;>simp only [hxv,reduceCtorEq] at hev<;>rw [hxv] at hx
  ·rename_i i r o;simp only [VR] at hx;obtain⟨wn,hw,e1⟩:=hx;split at hev
   ·rename_i rs hg;split at hev
    ·rename_i row hr;rw [qcS] at hr;obtain⟨wn',c,e,fz,g1,g2,g3,g4,g5,g6⟩:=hh.rows hg;rw [hw] at g1; cases g1;obtain⟨z,hz,hrun⟩:=qgj (ad:=wn.base+r * wn.esz) g2 (λj u hu=>g6.2 r row hr j u hu) hev hn;exact⟨z,by simp only [qhJ,e1,asAddr,Plc.at]; simp [hrun],hz⟩
    ·cases hev
   ·cases hev
  ·rename_i row o;rw [qBA] at hx;obtain⟨b,ad,c,e1,hro,hc⟩:=hx;obtain⟨⟨e,fz,hb⟩,_⟩:=hh.rd b c hro;obtain⟨z,hz,hrun⟩:=qgj hb hc hev hn;exact⟨z,by simp only [qhJ,e1,asAddr]; simp [hrun],hz⟩
theorem qnN {tm:Tm}{tmps:Array Value}(htm:VRtm N ι ro tm tmps) (hh:HR N CR ι ro h w):∀{rs:List Res}{vs:List ResultVar}{us:List V},okRes P rs vs=true->allM (resV tm h) rs=some us->∃xs,(vs.mapM (qhJ tmps)).run P w=.ok xs w/\VRs N ι ro us xs
 | [],[],us,_,hev=>by simp [allM] at hev; subst hev; exact⟨[],by simp,VRs.nil⟩
 | [],_::_,_,h,_=>by simp [okRes] at h
 | _::_,[],_,h,_=>by simp [okRes] at h
 | r::rs,v::vs,us,hok,hev=>by
  simp only [okRes,Jad] at hok;simp only [allM] at hev;split at hev
  ·rename_i u hu;split at hev
   ·rename_i m hm;cases hev;obtain⟨x,h1,h2⟩:=qrH htm hh hok.1 hu;obtain⟨xs,h3,h4⟩:=qnN htm hh hok.2 hm;exact⟨x::xs,by simp [List.mapM_cons,h1,h3],VRs.cons h2 h4⟩
   ·cases hev
  ·cases hev
theorem qir {tm:Tm}{tmps:Array Value}(htm:VRtm N ι ro tm tmps) (hh:HR N CR ι ro h w) {fn:Func}{rs:List Res}(hok:okRes P rs fn.results.toList=true) {u:V}(hev:results tm h rs=some u):∃x,(Go.results fn tmps).run P w=.ok x w/\VR N ι ro u x:=by
 unfold results at hev;cases hm:allM (resV tm h) rs with
 | none=>simp [hm] at hev
 | some us =>
  obtain⟨xs,h1,h2⟩:=qnN htm hh hok hm;have hrun:(fn.results.mapM (qhJ tmps)).run P w=.ok xs.toArray w:=by
   rw [Array.mapM_eq_mapM_toList]; simp [h1]
  have hrun':(Go.results fn tmps).run P w=.ok (if h:xs.toArray.size=1 then xs.toArray[0] else .tuple xs.toArray) w:=by
   have:Go.results fn tmps=(do let vs <- fn.results.mapM (qhJ tmps); pure (if h:vs.size=1 then vs[0] else .tuple vs)):=rfl;rw [this,Sem.run_bind,hrun]; rfl
  refine⟨_,hrun',?_⟩;rw [hm] at hev;have hlen:=h2.length;cases us with
  | nil =>
   simp at hev; subst hev;rw [dif_neg (by simp at hlen ⊢; omega)];simp only [VR]; exact⟨_,rfl,h2⟩
  | cons u1 us =>
   cases us with
   | nil =>
    simp at hev; subst hev;obtain⟨x,r,rfl,k1,k2⟩:=VRs.cons_inv h2;rw [VRs.nil_inv k2] at hlen ⊢;simpa using k1
   | cons u2 us =>
    simp at hev; subst hev;rw [dif_neg (by simp at hlen ⊢; omega)];simp only [VR]; exact⟨_,rfl,h2⟩
theorem qlN (hN:∀t u,N.t t=N.t u->t=u) {AP:Prog}{callF:V->List V->Heap->ND VH}{mk fu:Nat}(hcall:qfq P N (CRel P N) callF mk) (hdef:qqA P N (CRel P N) (qbx AP callF) mk) (hmeth:MethOK P N AP.meth) (hpure:qAX ⟨callF,AP.meth,fu,mk,AP.pureF⟩) (hmixed:P.follows .mixedOrders=true)
  {id:FuncId}{F:IFn}{fn:Func}{c:Code}(hf:P.funcs[id]?=some fn) (hb:fn.body=some c) (hnt:fn.ntmps=F.nt) (hc:okC P N F.nt F.body c=true) (hres:okRes P F.res fn.results.toList=true)
  {args:List V}{xs:Array Value}{outs:List VH}(hlim:mk<=h.n) (hh:HR N (CRel P N) ι ro h w) (hargs:VRs N ι ro args xs.toList) (hev:qeS AP callF fu mk F args h=some outs) :
  qfo P id xs w λv w'=>∃r∈outs,∃ι' ro',Grow h.n mk ι ro h w ι' ro' r.h w'/\HR N (CRel P N) ι' ro' r.h w'/\VR N ι' ro' r.v v:=by
 unfold qeS at hev;obtain⟨hle,hev⟩:=qaG hev;rw [Jat] at hle;intro kind cs hcalm
 let b:Frame:={ fn:=id,tmps:=#[],todo:=[],defers:=[],mode:=.run,kind:=kind }
 let a:Act:=⟨xs++Array.replicate (F.nt-xs.size) undef,[]⟩
 have hsz:xs.size=args.length:=by have:=hargs.length; simp at this; omega
 have hfr:Frame.enter P id xs kind=b.atR a [.code c]:=by simp [Frame.enter,Frame.atR,hf,hb,hnt,b,a]
 have ce:qfP P N ⟨callF,AP.meth,fu,mk,AP.pureF⟩ b cs h.n:=⟨hN,hcall,hmeth,hpure,hmixed,hcalm,hlim⟩;have sr:SR P N (CRel P N) F.nt ι ro ⟨Tm.ofL 0 args .e,h,[],false⟩ b a w:=⟨hh,by
  have:=qC4 hargs (F.nt-xs.size);simpa [a] using this,by simp [a]; omega,rfl,.nil⟩
 obtain⟨ms,hm,hall⟩:=qBw hev;obtain⟨r,hr,ι1,ro1,a1,w1,hG1,sr1,harr1⟩:=qbh ce (qep ce) F.body c hc ι ro _ a w [] ms sr (Jac _) hm;obtain⟨rs,hrs,hsub⟩:=hall r hr;obtain⟨o1,s1⟩:=r;obtain⟨tm1,h1,defs1,round1⟩:=s1;have fin:∀todo,Steps P (lone (b.atR a [.code c]) cs w) (lone { b.atR a1 todo with mode:=.returning } cs w1)->ND.bind (qa1 (qbx AP callF) mk defs1 h1) (λh'=>match results tm1 h' F.res with|some v=>some [⟨v,h'⟩]|none=>none)=some rs ->
   ∃v w' fr,(∃r∈outs,∃ι' ro',Grow h.n mk ι ro h w ι' ro' r.h w'/\HR N (CRel P N) ι' ro' r.h w'/\VR N ι' ro' r.v v)/\Steps P (lone (Frame.enter P id xs kind) cs w) (lone fr cs w')/\fr.fn=id/\fr.mode=.returning/\fr.defers=[]/\fr.kind=kind /\
    ∃fn,P.funcs[id]?=some fn/\(Go.results fn fr.tmps).run P w'=.ok v w':=by
  intro todo hst hun;obtain⟨hs,hu,hall2⟩:=qBw hun;obtain⟨h',hh1,ι2,ro2,w2,hG2,hh2,hst2⟩:=qdB hdef defs1 a1.defers ι1 ro1 h1 w1 hs sr1.defs sr1.hr (Jaf hlim hG1.n) hu { b.atR a1 todo with mode:=.returning } cs rfl rfl;obtain⟨rs2,hrs2,hsub2⟩:=hall2 h' hh1;split at hrs2
  ·rename_i v hv;cases hrs2;obtain⟨x,hx1,hx2⟩:=qir (P:=P) (sr1.tm.mono hG2.ext.old hG2.ext.ro) hh2 hres hv;refine⟨x,w2,_,⟨_,hsub _ (hsub2 _ (Jah.2 rfl)),ι2,ro2,hG1.trans (hG2.less hG1.n (Jac _)),hh2,hx2⟩,by rw [hfr]; exact hst.trans hst2,rfl,rfl,rfl,rfl,fn,hf,hx1⟩
  ·cases hrs2
 cases o1 with
 | normal=>exact fin [] (Steps.trans harr1 (.one (stepR_end rfl))) hrs
 | ret =>
  obtain⟨k',hk'⟩:=harr1;exact fin _ (hk'.trans (.one (stepR_ret rfl))) hrs
 | exit i=>cases hrs
variable {N:Num}{ι ι' ι'':Inj}{ro ro' ro'':RO}{P:Program}{h h' h'':Heap}{w w' w'':World}
mutual
theorem VR.back (hi:∀i w,ι i=some w->ι' i=some w):∀(v:V) (x0 x:Value),VR N ι ro v x0->VR N ι' ro' v x->VR N ι ro' v x
 | .any,_,_,_,_=>by simp [VR]
 | .bool _,_,_,_,h=>by simpa only [VR] using h
 | .int _ _,_,_,_,h=>by simpa only [VR] using h
 | .str _,_,_,_,h=>by simpa only [VR] using h
 | .nilp,_,_,_,h=>by simpa only [VR] using h
 | .ptr _ _ _,_,_,h0,h=>by
  simp only [VR] at h0 h ⊢;obtain⟨w0,k0,_⟩:=h0;obtain⟨w1,k1,k2⟩:=h;rw [hi _ _ k0] at k1; cases k1;exact⟨w0,k0,k2⟩
 | .ptrR row _,_,_,h0,h=>by
  simp only [VR] at h0 h ⊢;obtain⟨_,_,_,_,_,cr0,g0,_⟩:=h0;obtain⟨b,a,c,h1,h2,cr,h3,h4⟩:=h;exact⟨b,a,c,h1,h2,cr,VRs.back hi row cr0 cr g0 h3,h4⟩
 | .nils,_,_,_,h=>by simpa only [VR] using h
 | .sl _ _ _ _ _,_,_,h0,h=>by
  simp only [VR] at h0 h ⊢;obtain⟨w0,k0,_⟩:=h0;obtain⟨w1,k1,k2⟩:=h;rw [hi _ _ k0] at k1; cases k1;exact⟨w0,k0,k2⟩
 | .slR rows _,_,_,h0,h=>by
  simp only [VR] at h0 h ⊢;obtain⟨_,_,_,_,_,g4⟩:=h0;obtain⟨a,cap,h1,h2,h3,h4⟩:=h;refine⟨a,cap,h1,h2,h3,?_⟩;rcases g4 with g4|⟨_,_,_,cr0,_,g6,_⟩
  ·exact .inl g4
  ·rcases h4 with h4|⟨h4,c,esz,cr,h5,h6,h7⟩
   ·exact .inl h4
   ·exact .inr ⟨h4,c,esz,cr,h5,VRrs.back hi rows cr0 cr g6 h6,h7⟩
 | .nilm,_,_,_,h=>by simpa only [VR] using h
 | .map _,_,_,h0,h=>by
  simp only [VR] at h0 h ⊢;obtain⟨w0,k0,_⟩:=h0;obtain⟨w1,k1,k2⟩:=h;rw [hi _ _ k0] at k1; cases k1;exact⟨w0,k0,k2⟩
 | .fn _ a b,_,_,h0,h=>by
  simp only [VR] at h0 h ⊢;obtain⟨a0,b0,_,g1,g2⟩:=h0;obtain⟨a',b',e,h1,h2⟩:=h;exact⟨a',b',e,VRs.back hi a _ _ g1 h1,VRs.back hi b _ _ g2 h2⟩
 | .yld _,_,_,h0,h=>by
  simp only [VR] at h0 h ⊢;obtain⟨w0,k0,_⟩:=h0;obtain⟨w1,k1,k2⟩:=h;rw [hi _ _ k0] at k1; cases k1;exact⟨w0,k0,k2⟩
 | .nilf,_,_,_,h=>by simpa only [VR] using h
 | .iface _ v,_,_,h0,h=>by
  simp only [VR] at h0 h ⊢;obtain⟨x0,_,g⟩:=h0;obtain⟨x,e,k⟩:=h;exact⟨x,e,VR.back hi v _ _ g k⟩
 | .nili,_,_,_,h=>by simpa only [VR] using h
 | .agg cs,_,_,h0,h=>by
  simp only [VR] at h0 h ⊢;obtain⟨x0,_,g⟩:=h0;obtain⟨x,e,k⟩:=h;exact⟨x,e,VRs.back hi cs _ _ g k⟩
 | .tup cs,_,_,h0,h=>by
  simp only [VR] at h0 h ⊢;obtain⟨x0,_,g⟩:=h0;obtain⟨x,e,k⟩:=h;exact⟨x,e,VRs.back hi cs _ _ g k⟩
theorem VRs.back (hi:∀i w,ι i=some w->ι' i=some w):∀(l:List V) (x0 x:List Value),VRs N ι ro l x0->VRs N ι' ro' l x->VRs N ι ro' l x
 | [],_,_,_,h=>by rw [VRs.nil_inv h]; exact VRs.nil
 | v::l,_,_,h0,h=>by
  obtain⟨y0,r0,rfl,g1,g2⟩:=VRs.cons_inv h0;obtain⟨y,r,rfl,h1,h2⟩:=VRs.cons_inv h;exact VRs.cons (VR.back hi v _ _ g1 h1) (VRs.back hi l _ _ g2 h2)
theorem VRrs.back (hi:∀i w,ι i=some w->ι' i=some w):∀(l:List (List V)) (x0 x:List (List Value)),VRrs N ι ro l x0->VRrs N ι' ro' l x->VRrs N ι ro' l x
 | [],_,_,_,h=>by simpa only [VRrs] using h
 | v::l,_,_,h0,h=>by
  simp only [VRrs] at h0 h ⊢;obtain⟨y0,r0,rfl,g1,g2⟩:=h0;obtain⟨y,r,rfl,h1,h2⟩:=h;exact⟨y,r,rfl,VRs.back hi v _ _ g1 h1,VRrs.back hi l _ _ g2 h2⟩
end
theorem All2.back {es:List (Nat × V × V)}{m0:List MapEntry}(hi:∀i w,ι i=some w->ι' i=some w) (h0:All2 (qdY N ι ro) es m0):∀{m:List MapEntry},All2 (qdY N ι' ro') es m->All2 (qdY N ι ro') es m:=by
 induction h0 with
 | nil=>intro m h; cases h; exact .nil
 | cons h k ih =>
  intro m hm;cases hm with
  | cons h1 k1=>exact .cons ⟨h1.1,VR.back hi _ _ _ h.2.1 h1.2.1,VR.back hi _ _ _ h.2.2 h1.2.2⟩ (ih k1)
variable {CR:Nat->IC->Code->Prop}
theorem ORel.back (hi:∀i w,ι i=some w->ι' i=some w) {o:Obj}{wn:Plc}{c0 c:Go.Obj}(h0:ORel N CR ι ro o wn c0) (h:ORel N CR ι' ro' o wn c):ORel N CR ι ro' o wn c:=by
 cases o with
 | rows rs =>
  obtain⟨a0,_,_,_,_,_,_,g⟩:=h0;obtain⟨a,b,f,h1,h2,h3,h4,h5⟩:=h;refine⟨a,b,f,h1,h2,h3,h4,h5.1,λi r hr j v hv=>?_⟩;obtain⟨x0,_,k0⟩:=g.2 i r hr j v hv;obtain⟨x,hx,k⟩:=h5.2 i r hr j v hv;exact⟨x,hx,VR.back hi _ _ _ k0 k⟩
 | map es clock =>
  obtain⟨m0,_,g⟩:=h0;obtain⟨m,h1,h2⟩:=h;exact⟨m,h1,All2.back hi g h2⟩
 | strIter s p=>exact h
 | mapIter m a b d =>
  obtain⟨_,w0,g,_⟩:=h0;obtain⟨hb,w1,h1,h2⟩:=h;rw [hi _ _ g] at h1; cases h1;exact⟨hb,w0,g,h2⟩
 | loop st pend tm ps asg body =>
  obtain⟨l0,_,_,_,g,_⟩:=h0;obtain⟨l,h1,h2,h3,h4,h5⟩:=h;exact⟨l,h1,h2,h3,λi=>VR.back hi _ _ _ (g i) (h4 i),h5⟩
 | dfr=>exact h
theorem HR.back {h0:Heap}{w0:World}(hh0:HR N CR ι ro h0 w0) (hh:HR N CR ι' ro' h w) (hG:Grow h0.n h0.n ι ro h0 w0 ι' ro' h w):HR N CR ι (qgA h0.n h ι' ro' w) h0 w:=by
 have key:∀i o,h0.get i=some o->i<h0.n/\h.get i=some o/\∀u,ι i=some u->ι' i=some u:=λi o hi=>by
  have:=(hh0.live i o hi).1;exact⟨this,by rw [hG.low i this]; exact hi,λu=>hG.ext.old i u⟩
 refine⟨λi o hi=>?_,hh0.dist,λb c hb=>?_,hh0.fresh,λb o hb=>⟨(hh.kb b o hb).1,λj oj u hj hu=>?_⟩⟩
 ·obtain⟨k1,k2,k3⟩:=key i o hi;obtain⟨_,wn,hw,c0,hc0,hO0⟩:=hh0.live i o hi;obtain⟨_,wn',hw',c,hc,hO⟩:=hh.live i o k2;rw [k3 _ hw] at hw'; cases hw';exact⟨k1,wn,hw,c,hc,(ORel.back hG.ext.old hO0 hO).mono (λ_ _ h=>h) λ_ _ h=>qeT h⟩
 ·rcases qnK hb with hb|⟨hc,i,wn,hmi,hlive,hw,rfl⟩
  ·obtain⟨hc,hn⟩:=hh.rd b c hb;refine⟨hc,λj oj u hj hu=>?_⟩;obtain⟨_,k2,k3⟩:=key j oj hj;exact hn j oj u k2 (k3 u hu)
  ·obtain⟨e,fz,hcell⟩:=hc;refine⟨⟨e,fz,hcell⟩,λj oj u hj hu e'=>?_⟩;obtain⟨k1,k2,k3⟩:=key j oj hj;obtain⟨o,ho⟩:=Option.isSome_iff_exists.1 hlive;have:=hh.dist j i oj o u wn k2 ho (k3 u hu) hw e';omega
 ·obtain⟨_,k2,k3⟩:=key j oj hj;exact (hh.kb b o hb).2 j oj u k2 (k3 u hu)
theorem qmX {h0:Heap}{l:List V}{outs:List VH}(hd:dedup h0 (some l)=some outs) {v:V}(hv:v∈l):(⟨v,h0⟩:VH)∈outs:=by
 cases l with
 | nil=>cases hv
 | cons x r =>
  cases r with
  | nil =>
   simp only [dedup,Jae] at hd; subst hd;rw [Jah] at hv; subst hv; simp
  | cons y r =>
   simp only [dedup] at hd;cases ha:(y::r).all (V.beq x)<;>simp only [ha,cond,Jae] at hd<;>subst hd
   ·exact List.mem_map_of_mem hv
   ·rcases Jag.1 hv with rfl|hv
    ·simp
    ·have:=V.beq_eq _ _ (List.all_eq_true.1 ha v hv);rw [<-this]; simp
theorem qmt {mk:Nat}{h0:Heap}{m:ND VH}{outs:List VH}(hev:qeq h0.n h0 m=some outs) (hmk:mk<=h0.n) (hh0:HR N CR ι ro h0 w) {ms:List VH}(hm:m=some ms) {x:Value}
  (hR:∃r∈ms,∃ι' ro',Grow h0.n h0.n ι ro h0 w ι' ro' r.h w'/\HR N CR ι' ro' r.h w'/\VR N ι' ro' r.v x) :
  ∃r∈outs,∃ι' ro',Grow h0.n mk ι ro h0 w ι' ro' r.h w'/\HR N CR ι' ro' r.h w'/\VR N ι' ro' r.v x:=by
 obtain⟨r,hr,ι',ro',hG,hh,hv⟩:=hR;unfold qeq at hev;generalize hb:ND.bind m _=q at hev;cases q with
 | none=>cases hev
 | some l =>
  obtain⟨ms',hm',hall⟩:=qBw hb;rw [hm] at hm'; cases hm';obtain⟨rs,hrs,hsub⟩:=hall r hr;split at hrs
  ·rename_i v hf;cases hrs;refine⟨⟨v,h0⟩,qmX hev (hsub v (by simp)),ι,qgA h0.n r.h ι' ro' w',⟨⟨λ_ _=>rfl,λ_ _ h=>h,λb c hb=>qeT (hG.ext.ro b c hb)⟩,hG.env,Jac _,λ_ _=>rfl⟩,HR.back hh0 hh hG,VR.none (qdP hh _ _ _ _ hf hv)⟩
  ·cases hrs
variable {N:Num}{ι ι' ι'':Inj}{ro ro' ro'':RO}{P:Program}{h h' h'':Heap}{w w' w'':World}
def qke (P:Program) (N:Num) (f:Nat) (p:Nat->List V->Heap->ND VH):Prop :=
 ∀mk ι ro h w args (xs:Array Value) outs,mk<=h.n->HR N (CRel P N) ι ro h w->VRs N ι ro args xs.toList->p mk args h=some outs ->
  ∃nx w1,(callFunc (N.f f) xs).run P w=.ok nx w1/\qih P w1 (λv w'=>∃r∈outs,∃ι' ro',Grow h.n mk ι ro h w ι' ro' r.h w'/\HR N (CRel P N) ι' ro' r.h w'/\VR N ι' ro' r.v v) nx
structure Link (P:Program) (N:Num) (AP:Prog):Prop where
 hN:∀t u,N.t t=N.t u->t=u
 mixed:P.follows .mixedOrders=true
 meth:MethOK P N AP.meth
 fn:∀f F,AP.prim f=none->AP.fn f=some F->∃fn c,P.funcs[N.f f]?=some fn/\fn.body=some c/\fn.ntmps=F.nt/\(fn.name == "runtime.NumGoroutine")=false/\okC P N F.nt F.body c=true/\okRes P F.res fn.results.toList=true
 prim:∀f p,AP.prim f=some p->qke P N f p
theorem qAW (AP:Prog):∀(n mk:Nat) (fu:Nat) {mk':Nat}{m:Nat->String->Option Nat},qAX ⟨evCall AP n mk,m,fu,mk',AP.pureF⟩
 | 0,mk,fu,_,_=>λf args h r _ hr=>by simp [evCall] at hr
 | n+1,mk,fu,_,_=>λf args h r hf hr=>by
  simp only [Prog.pureF] at hf;simp only [evCall] at hr;split at hf
  ·cases hf
  ·rename_i hp;split at hf
   ·rename_i F hF;rw [hp] at hr;simp only [hF,hf,cond,qeq] at hr;generalize ND.bind (qeS AP (evCall AP n h.n) n h.n F ([]++args++[]) h) _=m at hr;unfold dedup at hr;split at hr
    ·cases hr
    ·split at hr
     ·cases hr
     ·split at hr
      ·cases hr; rfl
      ·rename_i x r' y r'';cases hb:(y::r'').all (V.beq x)<;>simp only [hb,cond] at hr<;>cases hr
       rfl
   ·cases hf
theorem qjG {f:Nat}{a' b' xs:Array Value}(w:World):(qaU (.func (.func (N.f f)) a' b') xs).run P w=(callFunc (N.f f) (a'++xs++b')).run P w:=by simp [qaU,Deferred.ofValue,invoke]
theorem qbT {AP:Prog}(L:Link P N AP):∀n mk,qfq P N (CRel P N) (evCall AP n mk) mk/\qqA P N (CRel P N) (qbx AP (evCall AP n mk)) mk
 | 0,mk=>⟨λι ro h w fv fx args xs outs _ _ _ _ hev=>by simp [evCall] at hev,λι ro h w f fa fc fx args xs outs _ _ _ _ hev=>by
   simp only [qbx,evCall] at hev;split at hev<;>cases hev⟩
 | n+1,mk=>by
  have hdef:qqA P N (CRel P N) (qbx AP (evCall AP (n+1) mk)) mk:=by
   intro ι ro h w f fa fc fx args xs outs hlim hh hfx hargs hev;simp only [VR] at hfx;obtain⟨a',b',rfl,ha,hb⟩:=hfx;have hall:VRs N ι ro (fa++args++fc) (a'++xs++b').toList:=by
    simp only [Array.toList_append]; exact VRs.append (VRs.append ha hargs) hb
   simp only [qbx] at hev;cases hp:AP.prim f with
   | some p=>rw [hp] at hev; cases hev
   | none =>
    rw [hp] at hev;simp only [evCall,hp] at hev;cases hF:AP.fn f with
    | none=>rw [hF] at hev; cases hev
    | some F =>
     rw [hF] at hev;dsimp only at hev;obtain⟨fn,c,g1,g2,g3,g4,g5,g6⟩:=L.fn f F hp hF;have g4':fn.name≠ "runtime.NumGoroutine" :=by simpa using g4
     have hent:(callFunc (N.f f) (a'++xs++b')).run P w=.ok (.enter (N.f f) (a'++xs++b')) w:=by simp [callFunc,g1,g4',g2]
     refine .inl ⟨N.f f,a'++xs++b',(qjG w).trans hent,?_⟩;cases hpure:F.pure with
     | true =>
      rw [hpure] at hev;simp only [cond] at hev;obtain⟨k1,k2⟩:=qbT L n h.n;cases hm:qeS AP (evCall AP n h.n) n h.n F (fa++args++fc) h with
      | none=>rw [hm] at hev; simp [qeq,dedup] at hev
      | some ms =>
       exact (qlN L.hN k1 k2 L.meth (qAW _ _ _ _) L.mixed g1 g2 g3 g5 g6 (Jac _) hh hall hm).mono λv w' hR=>qmt hev hlim hh hm hR
     | false =>
      rw [hpure] at hev;simp only [cond] at hev;obtain⟨k1,k2⟩:=qbT L n mk;exact qlN L.hN k1 k2 L.meth (qAW _ _ _ _) L.mixed g1 g2 g3 g5 g6 hlim hh hall hev
  refine⟨λι ro h w fv fx args xs outs hlim hh hfx hargs hev=>?_,hdef⟩;cases fv with
  | fn f fa fc =>
   cases hp:AP.prim f with
   | some p =>
    simp only [evCall,hp] at hev;simp only [VR] at hfx;obtain⟨a',b',rfl,ha,hb⟩:=hfx;have hall:VRs N ι ro (fa++args++fc) (a'++xs++b').toList:=by
     simp only [Array.toList_append]; exact VRs.append (VRs.append ha hargs) hb
    obtain⟨nx,w1,q1,q2⟩:=L.prim f p hp mk ι ro h w _ _ outs hlim hh hall hev;exact⟨nx,w1,(qjG w).trans q1,q2⟩
   | none=>exact (hdef ι ro h w f fa fc fx args xs outs hlim hh hfx hargs (by simp only [qbx,hp]; exact hev)).invokes
  | yld l =>
   simp only [VR] at hfx;obtain⟨wn,hw,rfl⟩:=hfx;simp only [evCall] at hev;exact qkm L.hN (qbT L n mk).1 L.meth (qAW _ _ _ _) L.mixed hlim hh hw hargs hev
  | _=>simp [evCall] at hev
end Go.Abs

