/- What the program's functions come to, by the evaluator's rules; the intermediate code. -/
import Derived.Test.YtaknodpgafomdabGreatDoorAb1
set_option linter.unusedSimpArgs false
set_option linter.unusedVariables false
namespace Go.Abs
open Go
def W{α : Type}(d:Bool)(m:Nat->ND α)(Q : α->Prop):Prop :=
 ∃l N,l≠[]/\(d=true->l.length=1)/\(∀n,N<=n->m n=some l)/\∀r∈l,Q r
theorem W.one{α : Type}{d:Bool}{x : α}{Q : α->Prop}(h:Q x):W d (λ_=>some [x]) Q :=
 ⟨[x],0,by simp,λ_=>rfl,λ_ _=>rfl,by simpa using h⟩
theorem W.mono{α : Type}{d:Bool}{m:Nat->ND α}{Q R : α->Prop}(h:W d m Q)(hi:∀r,Q r->R r):W d m R:=by
 obtain⟨l,N,h0,h1,h2,h3⟩:=h;exact⟨l,N,h0,h1,h2,λr hr=>hi r (h3 r hr)⟩
theorem W.conj{α : Type}{d:Bool}{m:Nat->ND α}{Q R : α->Prop}(h:W d m Q)(hi:∀n l,m n=some l->∀r∈l,R r):W d m λr=>Q r/\R r:=by
 obtain⟨l,N,h0,h1,h2,h3⟩:=h;exact⟨l,N,h0,h1,h2,λr hr=>⟨h3 r hr,hi N l (h2 N (Jac _)) r hr⟩⟩
theorem W.congr{α : Type}{d:Bool}{m m':Nat->ND α}{Q : α->Prop}(h:W d m Q)(M:Nat)(e:∀n,M<=n->m' n=m n):W d m' Q:=by
 obtain⟨l,N,h0,h1,h2,h3⟩:=h;exact⟨l,max M N,h0,h1,λn hn=>by rw[e n (by omega),h2 n (by omega)],h3⟩
theorem W.eq{α : Type}{d:Bool}{m m':Nat->ND α}{Q : α->Prop}(h:W d m Q)(e:∀n,m' n=m n):W d m' Q:=h.congr 0 λn _=>e n
theorem W.drop{α : Type}{d:Bool}{m:Nat->ND α}{Q : α->Prop}(h:W d m Q):W false m Q:=by
 obtain⟨l,N,h0,_,h2,h3⟩:=h;exact⟨l,N,h0,(λe=>absurd e (by simp)),h2,h3⟩
theorem qDI{α : Type}{d:Bool}{m:ND α}{l:List α}{Q : α->Prop}(h:m=some l)(h0:l≠[])(h1:d=true->l.length=1)(h2:∀r∈l,Q r):W d (λ_=>m) Q :=
 ⟨l,0,h0,h1,λ_ _=>h,h2⟩
theorem qC3{α β : Type}{f:Nat->α->ND β}{Q : β->Prop}{d:Bool}:∀(l:List α),(∀x∈l,W d (λn=>f n x) Q) ->
  ∃k N,(l≠[]->k≠[])/\(∀n,N<=n->ND.join (l.map (f n))=some k)/\∀r∈k,Q r
 | [],_=>⟨[],0,λh=>absurd rfl h,λ_ _=>rfl,by simp⟩
 | x::l,h=>by
  obtain⟨k,N,h0,h1,h2⟩:=qC3 l λy hy=>h y (List.mem_cons_of_mem _ hy);obtain⟨k',N',g0,_,g2,g3⟩:=h x List.mem_cons_self;refine⟨k'++k,max N N',λ_=>by simp[g0],λn hn=>?_,?_⟩
  ·simp only[List.map_cons,ND.join];have e1:f n x=some k':=g2 n (by omega);rw[e1,h1 n (by omega)]
  ·intro r hr;rcases Jaj.1 hr with hr|hr
   ·exact g3 r hr
   ·exact h2 r hr
theorem W.bind{α β : Type}{d:Bool}{m:Nat->ND α}{f:Nat->α->ND β}{Q : β->Prop}(h:W d m λx=>W d (λn=>f n x) Q):W d (λn=>ND.bind (m n) (f n)) Q:=by
 obtain⟨l,N,h0,h1,h2,h3⟩:=h
 match l,h0,h1,h2,h3 with
 | [],h0,_,_,_=>exact absurd rfl h0
 | [x],_,_,h2,h3 =>
  refine W.congr (h3 x List.mem_cons_self) N λn hn=>?_;show ND.bind (m n) (f n)=f n x;rw[h2 n hn]; rfl
 | x::y::l,_,h1,h2,h3 =>
  obtain⟨k,M,g0,g1,g2⟩:=qC3 (x::y::l) h3;refine⟨k,max N M,g0 (by simp),λhd=>absurd (h1 hd) (by simp),λn hn=>?_,g2⟩;show ND.bind (m n) (f n)=_;rw[h2 n (by omega)];exact g1 n (by omega)
def Op{α : Type}(o:Option α)(Q : α->Prop):Prop:=∃v,o=.some v/\Q v
def Br(v:V)(A B:Prop):Prop:=∃t,v=.bool t/\(t=true->A)/\(t=false->B)
def Gd(v:V)(b:Bool)(A B:Prop):Prop:=(∃c,v=.bool c/\(c=b->A)/\(c≠b->B))\/(v=.tup []/\B)
variable {AP:Prog}{mk:Nat}{d:Bool}
def env(AP:Prog)(mk n:Nat):Env:=⟨evCall AP n mk,AP.meth,n,mk,AP.pureF⟩
def WF(AP:Prog)(d:Bool)(mk:Nat)(fv:V)(args:List V)(h:Heap)(Q:VH->Prop):Prop :=
 W d (λn=>evCall AP n mk fv args h) Q
def wcal(AP:Prog)(d:Bool)(mk:Nat)(c:Cal)(args:List V)(tm:Tm)(h:Heap)(Q:VH->Prop):Prop :=
 match c with
 | .dir f=>WF AP d mk (.fn f [] []) args h Q
 | .val x=>WF AP d mk (x.ev tm) args h Q
 | .inv x m=>Op (match x.ev tm with|.iface t v=>some (t,v)|_=>none) λp=>Op (AP.meth p.1 m) λf=>WF AP d mk (.fn f [] []) (p.2::args) h Q
def One(AP:Prog)(mk f:Nat)(args:List V)(h:Heap)(v:V):Prop:=∃N,∀n,N<=n->qAV (env AP mk n) f args h=some v
theorem One.of{f:Nat}{args:List V}{h h':Heap}{v:V}(hp:AP.pureF f=true)(hw:WF AP true mk (.fn f [] []) args h λr=>r=⟨v,h'⟩):One AP mk f args h v:=by
 obtain⟨l,N,h0,h1,h2,h3⟩:=hw
 match l,h0,h1 rfl,h2,h3 with
 | [x],_,_,h2,h3 =>
  refine⟨N,λn hn=>?_⟩;have e1:evCall AP n mk (.fn f [] []) args h=some [x]:=h2 n hn;have e2:=h3 x (by simp);simp only[qAV,env,hp,cond,e1,e2]
def gdP(g:Option (Nat × Bool))(tm:Tm)(s:Prop):Prop :=
 match g with
 | none=>s
 | some g=>match (gK g.1).run tm with
  | .bool c=>c=g.2->s
  | .tup []=>True
  | _=>False
def reP(AP:Prog)(mk:Nat)(l:List Ins)(tm:Tm)(hs:List Heap)(c:Nat × Nat):Prop :=
 match l[c.1]?,hs[c.2]? with
 | some i,some h =>
  (match i.op with
  | .callP f args=>(match i.dst with
   | some d=>gdP i.guard tm (One AP mk f ((qcE args).run tm) h ((gK d).run tm))
   | none=>False)
  | _=>recheck l tm hs c=true)
 | _,_=>False
theorem qBl{g:Option (Nat × Bool)}{tm:Tm}{s:Prop}{f:Nat->Bool}(hs:s->∃N,∀n,N<=n->f n=true)(h:gdP g tm s):∃N,∀n,N<=n->gdO g tm (f n)=true:=by
 unfold gdP at h;unfold gdO;split at h
 ·exact hs h
 ·rename_i g;split at h
  ·rename_i b hb
   by_cases hcg:b=g.2
   ·obtain⟨N,hN⟩:=hs (h hcg);exact⟨N,λn hn=>by simp only[hb,hcg,beq_self_eq_true,cond,hN n hn]⟩
   ·have:(b == g.2)=false:=by simpa using hcg
    exact⟨0,λn hn=>by simp only[hb,this,cond]⟩
  ·rename_i hb;exact⟨0,λn hn=>by simp only[hb]⟩
  ·exact h.elim
theorem qBe{l:List Ins}{tm:Tm}{hs:List Heap}{c:Nat × Nat}(h:reP AP mk l tm hs c):∃N,∀n,N<=n->qAU (env AP mk n) l tm hs c=true:=by
 unfold reP at h;split at h
 ·rename_i i h' hl hk;split at h
  ·rename_i f args ho;split at h
   ·rename_i d hd;obtain⟨N,hN⟩:=qBl (f:=λn=>qA0 (qAV (env AP mk n) f ((qcE args).run tm) h') ((gK d).run tm)) (λ⟨N,hN⟩=>⟨N,λn hn=>by rw[hN n hn]; exact V.beq_refl _⟩) h;exact⟨N,λn hn=>by simp only[qAU,hl,hk,ho,hd]; exact hN n hn⟩
   ·exact h.elim
  ·rename_i hx;refine⟨0,λn hn=>?_⟩;unfold qAU;simp only[hl,hk];exact h
 ·exact h.elim
theorem qAY{l:List Ins}{tm:Tm}{hs:List Heap}:∀{chk:List (Nat × Nat)},(∀c∈chk,reP AP mk l tm hs c)->∃N,∀n,N<=n->chk.all (qAU (env AP mk n) l tm hs)=true
 | [],_=>⟨0,λ_ _=>rfl⟩
 | c::chk,h=>by
  obtain⟨N,hN⟩:=qBe (h c (by simp));obtain⟨M,hM⟩:=qAY (chk:=chk) λc hc=>h c (by simp[hc]);exact⟨max N M,λn hn=>by rw[List.all_cons,hN n (by omega),hM n (by omega)]; rfl⟩
def wop(AP:Prog)(d:Bool)(mk:Nat)(dst:Option Nat)(op:IOp)(base:Nat)(st:St)(Q:St->Prop):Prop :=
 match op with
 | .p o=>Op ((qas o).run st.tm) λv=>Q ((putK dst).run v st.h st)
 | .r o=>Op ((qbc o).run st.tm st.h) λv=>Q ((putK dst).run v st.h st)
 | .a o hole=>Op ((qbK o).run st.tm) λm=>match m with
  | .val v=>Q ((putK dst).run v st.h st)
  | .obj o f=>(match hole with
   | none=>Q ((putK dst).run (f st.h.n) (st.h.push o) st)
   | some j=>Q ((putK dst).run (f (base+j)) (st.h.set (base+j) o) st))
 | .w o=>Op ((qay o).run mk st.tm st.h) λr=>Q ((putK dst).run r.v r.h st)
 | .fz o=>Op (xV o mk st.tm st.h) λr=>Q ((putK dst).run r.v r.h st)
 | .call c args frz=>wcal AP d mk c ((qcE args).run st.tm) st.tm st.h λr=>cond frz (Op (frzV mk r) λr=>Q ((putK dst).run r.v r.h st)) (Q ((putK dst).run r.v r.h st))
 | .callP f args=>∃v,One AP mk f ((qcE args).run st.tm) st.h v/\Q ((putK dst).run v st.h st)
 | .nxtM it=>Op (qfB mk (it.ev st.tm) st.h) λl=>d=false/\l≠[]/\∀r∈l,Q ((putK dst).run r.v r.h st)
 | .defer x=>Op (match x.ev st.tm with|.fn f a c=>some (V.fn f a c)|_=>none) λv=>st.round=false/\Q ((putK dst).run .any st.h ⟨st.tm,st.h,.call v::st.defs,st.round⟩)
 | .recover=>st.round=false/\Q ((putK dst).run .nili st.h st)
 | .bad=>False
def wins(AP:Prog)(d:Bool)(mk:Nat)(i:Ins)(base:Nat)(st:St)(Q:St->Prop):Prop :=
 match i.guard with
 | none=>wop AP d mk i.dst i.op base st Q
 | some g=>Gd ((gK g.1).run st.tm) g.2 (wop AP d mk i.dst i.op base st Q) (Q ((putK i.dst).run (.tup []) st.h st))
def wl(AP:Prog)(d:Bool)(mk:Nat):List Ins->Nat->St->(St->Prop)->Prop
 | [],_,st,Q=>Q st
 | i::l,base,st,Q=>wins AP d mk i base st λst=>wl AP d mk l base st Q
def wd(AP:Prog)(mk:Nat):List Ins->Nat->St->List Heap->(St->List Heap->Prop)->Prop
 | [],_,st,hs,Q=>Q st (st.h::hs)
 | i::l,base,st,hs,Q=>wins AP true mk i base st λst'=>wd AP mk l base st' (st.h::hs) Q
def qkD(l:List Ins)(i:Nat):Bool:=l.all λx=>match x.dst with
 | some j=>!Nat.beq j i
 | none=>true
def keep:IC->Nat->Bool
 | .ops l,i=>qkD l i
 | .dops _ _ l,i=>qkD l i
 | .dopc _ l,i=>qkD l i
 | .seq a b,i=>keep a i&&keep b i
 | .cond _ a b,i=>keep a i&&keep b i
 | .block _ c,i=>keep c i
 | .loop c,i=>keep c i
 | .rangeF ..,_=>false
 | _,_=>true
def qo2(c:IC)(s t:St):Prop:=∀i,keep c i=true->(gK i).run t.tm=(gK i).run s.tm
def wc(AP:Prog)(d:Bool)(mk:Nat):IC->St->(OS->Prop)->Prop
 | .skip,st,Q=>Q ⟨.normal,st⟩
 | .ops l,st,Q=>wl AP d mk l st.h.n st λst=>Q ⟨.normal,st⟩
 | .dops na chk l,st,Q=>wd AP mk l st.h.n ⟨st.tm,⟨st.h.n+na,st.h.os⟩,st.defs,st.round⟩ [] λst hs=>Op (cond (chk.all (recheck l st.tm hs.reverse)) (some ()) none) λ_=>Q ⟨.normal,st⟩
 | .dopc chk l,st,Q=>wd AP mk l st.h.n st [] λst hs=>(∀c∈chk,reP AP mk l st.tm hs.reverse c)/\Q ⟨.normal,st⟩
 | .seq a b,st,Q=>wc AP d mk a st λr=>match r.o with
  | .normal=>wc AP d mk b r.s Q
  | .exit i=>Q ⟨.exit i,r.s⟩
  | .ret=>Q ⟨.ret,r.s⟩
 | .cond c a b,st,Q=>Br (c.ev st.tm) (wc AP d mk a st Q) (wc AP d mk b st Q)
 | .block id c,st,Q=>wc AP d mk c st λr=>match r.o with
  | .exit i=>cond (Nat.beq i id) (Q ⟨.normal,r.s⟩) (Q ⟨.exit i,r.s⟩)
  | .normal=>Q ⟨.normal,r.s⟩
  | .ret=>Q ⟨.ret,r.s⟩
 | .loop c,st,Q=>∃I:Nat->St->Prop,(∃k,I k st)/\∀k st',I k st'->qo2 c st st'->wc AP d mk c st' λr=>match r.o with
  | .normal=>∃j,j<k/\I j r.s
  | .exit i=>Q ⟨.exit i,r.s⟩
  | .ret=>Q ⟨.ret,r.s⟩
 | .rangeF f ps asg body,st,Q=>W d (λn=>qcA (env AP mk n) (f.ev st.tm) ps asg body st) Q
 | .exit id,st,Q=>Q ⟨.exit id,st⟩
 | .ret,st,Q=>Q ⟨.ret,st⟩
 | .bad,_,_=>False
theorem qCj{β : Type}:∀{ms:List (ND β)}{l:List β},ND.join ms=some l->∀y∈l,∃m∈ms,∃k,m=some k/\y∈k
 | [],l,h,y,hy=>by simp[ND.join]at h; subst h; cases hy
 | x::r,l,h,y,hy=>by
  simp only[ND.join]at h;cases hx:x with
  | none=>simp[hx]at h
  | some a =>
   cases hr:ND.join r with
   | none=>simp[hx,hr]at h
   | some b =>
    simp[hx,hr]at h;subst h;rcases Jaj.1 hy with hy|hy
    ·exact⟨some a,by simp,a,rfl,hy⟩
    ·obtain⟨m,hm,k,hk,h2⟩:=qCj hr y hy;exact⟨m,by simp[hm],k,hk,h2⟩
theorem qBs{α β : Type}{m:ND α}{f : α->ND β}{l:List β}(h:ND.bind m f=some l):∀y∈l,∃k,m=some k/\∃x∈k,∃r,f x=some r/\y∈r:=by
 intro y hy;unfold ND.bind at h;cases m with
 | none=>simp at h
 | some k =>
  refine⟨k,rfl,?_⟩;cases k with
  | nil=>simp at h; subst h; cases hy
  | cons x r =>
   cases r with
   | nil=>exact⟨x,by simp,l,h,hy⟩
   | cons z r =>
    simp only at h;obtain⟨m,hm,k,hk,h2⟩:=qCj h y hy;obtain⟨u,hu,rfl⟩:=Jak.1 hm;exact⟨u,hu,k,hk,h2⟩
abbrev free(dst:Option Nat)(i:Nat):Prop:=(match dst with|some j=>!Nat.beq j i|none=>true)=true
theorem qdu{dst:Option Nat}{v:V}{h:Heap}{st:St}{i:Nat}(hk:free dst i):(gK i).run ((putK dst).run v h st).tm=(gK i).run st.tm:=by
 cases dst with
 | none=>rfl
 | some j =>
  simp only[putK,qgb];rw[Jaa];rintro rfl;simp at hk
theorem qbe{e:St}{l:List St}{P:St->Prop}(h:some [e]=some l)(hp:P e):∀r∈l,P r:=by
 cases h; intro r hr; simp at hr; subst hr; exact hp
theorem qnW{e:Env}{base:Nat}{dst:Option Nat}{op:IOp}{st:St}{l:List St}{i:Nat}(hk:free dst i)(h:(qaD dst op).run e base st=some l):∀r∈l,(gK i).run r.tm=(gK i).run st.tm:=by
 cases op with
 | p o =>
  simp only[qaD]at h;split at h
  ·exact qbe h (qdu hk)
  ·cases h
 | r o =>
  simp only[qaD]at h;split at h
  ·exact qbe h (qdu hk)
  ·cases h
 | a o hole =>
  simp only[qaD]at h;split at h
  ·exact qbe h (qdu hk)
  ·cases hole<;>exact qbe h (qdu hk)
  ·cases h
 | w o =>
  simp only[qaD]at h;split at h
  ·exact qbe h (qdu hk)
  ·cases h
 | fz o =>
  simp only[qaD]at h;split at h
  ·exact qbe h (qdu hk)
  ·cases h
 | call c args frz =>
  intro y hy;obtain⟨k,_,x,_,r,hr,hyr⟩:=qBs h y hy;cases frz with
  | false=>exact qbe (P:=λr=>(gK i).run r.tm=(gK i).run st.tm) hr (qdu hk) y hyr
  | true =>
   simp only[cond]at hr;split at hr
   ·exact qbe (P:=λr=>(gK i).run r.tm=(gK i).run st.tm) hr (qdu hk) y hyr
   ·cases hr
 | callP f args =>
  simp only[qaD]at h;split at h
  ·exact qbe h (qdu hk)
  ·cases h
 | nxtM it =>
  intro y hy;obtain⟨k,_,x,_,r,hr,hyr⟩:=qBs h y hy;exact qbe (P:=λr=>(gK i).run r.tm=(gK i).run st.tm) hr (qdu hk) y hyr
 | defer x =>
  simp only[qaD]at h;split at h
  ·cases hr:st.round with
   | true=>rw[hr]at h; cases h
   | false=>rw[hr]at h; exact qbe h (qdu (st:=⟨st.tm,st.h,_,_⟩) hk)
  ·cases h
 | recover =>
  simp only[qaD]at h;cases hr:st.round with
  | true=>rw[hr]at h; cases h
  | false=>rw[hr]at h; exact qbe h (qdu hk)
 | bad=>cases h
theorem qlI{e:Env}{base:Nat}{x:Ins}{st:St}{l:List St}{i:Nat}(hk:free x.dst i)(h:(qdm x).run e base st=some l):∀r∈l,(gK i).run r.tm=(gK i).run st.tm:=by
 unfold qdm at h;split at h
 ·exact qnW hk h
 ·rename_i g hg;simp only at h;split at h
  ·rename_i c hc;cases hcg:(c == g.2)with
   | true=>rw[hcg]at h; exact qnW hk h
   | false=>rw[hcg]at h; exact qbe h (qdu hk)
  ·exact qbe h (qdu hk)
  ·cases h
theorem qhV{x:Ins}{l:List Ins}{i:Nat}(h:qkD (x::l) i=true):free x.dst i/\qkD l i=true:=by
 simpa[qkD]using h
theorem qjB{e:Env}{i:Nat}{base:Nat}:∀{l:List Ins}{st:St}{k:List St},qkD l i=true->(qhj l).run e base st=some k->∀r∈k,(gK i).run r.tm=(gK i).run st.tm
 | [],st,k,_,h=>qbe h rfl
 | x::l,st,k,hk,h=>by
  intro y hy;obtain⟨h1,h2⟩:=qhV hk;obtain⟨k',e1,z,hz,r,hr,hyr⟩:=qBs h y hy;rw[qjB h2 hr y hyr,qlI h1 e1 z hz]
theorem qjq{e:Env}{i:Nat}{base:Nat}:∀{l:List Ins}{st:St}{hs:List Heap}{k:St × List Heap},qkD l i=true->opsH e base l st hs=some k->(gK i).run k.1.tm=(gK i).run st.tm
 | [],st,hs,k,_,h=>by simp[opsH]at h; subst h; rfl
 | x::l,st,hs,k,hk,h=>by
  obtain⟨h1,h2⟩:=qhV hk;simp only[opsH]at h;split at h
  ·rename_i st' hs';rw[qjq h2 h,qlI h1 (qBH hs') st' (by simp)]
  ·cases h
theorem qds{e:OS}{l:List OS}{P:OS->Prop}(h:some [e]=some l)(hp:P e):∀r∈l,P r:=by
 cases h; intro r hr; simp at hr; subst hr; exact hp
theorem qhS{c:IC}{i:Nat}{body:St->ND OS}(hb:∀st l,body st=some l->∀r∈l,(gK i).run r.s.tm=(gK i).run st.tm):∀(n:Nat) (st:St) (l:List OS),qga body n st=some l->∀r∈l,(gK i).run r.s.tm=(gK i).run st.tm
 | 0,st,l,h=>by cases h
 | n+1,st,l,h=>by
  intro y hy;obtain⟨k,e1,z,hz,r,hr,hyr⟩:=qBs h y hy;split at hr
  ·rw[qhS (c:=c) hb n _ _ hr y hyr,hb _ _ e1 z hz]
  ·exact(qds hr (P:=λr=>(gK i).run r.s.tm=(gK i).run st.tm) (hb _ _ e1 z hz)) y hyr
  ·exact(qds hr (P:=λr=>(gK i).run r.s.tm=(gK i).run st.tm) (hb _ _ e1 z hz)) y hyr
theorem qcB{e:Env}{i:Nat}:∀(c:IC) (st:St) (l:List OS),keep c i=true->(qaR c).run e st=some l->∀r∈l,(gK i).run r.s.tm=(gK i).run st.tm
 | .skip,st,l,_,h=>qds h rfl
 | .ops x,st,l,hk,h=>by
  intro y hy;obtain⟨k,e1,z,hz,r,hr,hyr⟩:=qBs h y hy;exact(qds hr (P:=λr=>(gK i).run r.s.tm=(gK i).run st.tm) (qjB hk e1 z hz)) y hyr
 | .dops na chk x,st,l,hk,h=>by
  simp only[qaR,qhd]at h;split at h
  ·rename_i st' hs he;cases hc:chk.all (recheck x st'.tm hs.reverse)with
   | false=>rw[hc]at h; cases h
   | true =>
    rw[hc]at h;have:=qjq hk he;exact qds h this
  ·cases h
 | .dopc chk x,st,l,hk,h=>by
  simp only[qaR,qAZ]at h;split at h
  ·rename_i st' hs he;cases hc:chk.all (qAU e x st'.tm hs.reverse)with
   | false=>rw[hc]at h; cases h
   | true =>
    rw[hc]at h;have:=qjq hk he;exact qds h this
  ·cases h
 | .seq a b,st,l,hk,h=>by
  simp only[keep,Jad]at hk;intro y hy;obtain⟨k,e1,z,hz,r,hr,hyr⟩:=qBs h y hy;have h1:=qcB a st k hk.1 e1 z hz;split at hr
  ·rw[qcB b _ _ hk.2 hr y hyr,h1]
  ·exact(qds hr (P:=λr=>(gK i).run r.s.tm=(gK i).run st.tm) h1) y hyr
  ·exact(qds hr (P:=λr=>(gK i).run r.s.tm=(gK i).run st.tm) h1) y hyr
 | .cond c a b,st,l,hk,h=>by
  simp only[keep,Jad]at hk;simp only[qaR]at h;split at h
  ·rename_i t ht;cases t with
   | true=>exact qcB a st l hk.1 h
   | false=>exact qcB b st l hk.2 h
  ·cases h
 | .block id c,st,l,hk,h=>by
  intro y hy;obtain⟨k,e1,z,hz,r,hr,hyr⟩:=qBs h y hy;have h1:=qcB c st k hk e1 z hz;split at hr
  ·rename_i j hj;cases hc:Nat.beq j id<;>rw[hc]at hr<;>exact(qds hr (P:=λr=>(gK i).run r.s.tm=(gK i).run st.tm) h1) y hyr
  ·exact(qds hr (P:=λr=>(gK i).run r.s.tm=(gK i).run st.tm) h1) y hyr
  ·exact(qds hr (P:=λr=>(gK i).run r.s.tm=(gK i).run st.tm) h1) y hyr
 | .loop c,st,l,hk,h=>qhS (c:=c) (λst l=>qcB c st l hk) _ st l h
 | .rangeF ..,_,_,hk,_=>by cases hk
 | .exit _,st,l,_,h=>qds h rfl
 | .ret,st,l,_,h=>qds h rfl
 | .bad,_,_,_,h=>by cases h
theorem ql8{c:Cal}{args:List V}{tm:Tm}{h:Heap}{Q:VH->Prop}(hw:wcal AP d mk c args tm h Q):W d (λn=>(calK c).run (env AP mk n) args tm h) Q:=by
 cases c with
 | dir f=>exact hw
 | val x=>exact hw
 | inv x m =>
  obtain⟨p,e1,f,e2,hw⟩:=hw;split at e1
  ·rename_i t v e0;cases e1;refine hw.eq λn=>?_;show(match x.ev tm with|.iface t v=>(match AP.meth t m with|some f=>evCall AP n mk (.fn f [] []) (v::args) h|none=>none)|_=>none)=_;rw[e0]; dsimp only; rw[e2]
  ·cases e1
theorem qiY{dst:Option Nat}{op:IOp}{base:Nat}{st:St}{Q:St->Prop}(hw:wop AP d mk dst op base st Q):W d (λn=>(qaD dst op).run (env AP mk n) base st) Q:=by
 cases op with
 | p o=>obtain⟨v,e,hq⟩:=hw; exact(W.one hq).eq λn=>by simp only[qaD]; rw[e]
 | r o=>obtain⟨v,e,hq⟩:=hw; exact(W.one hq).eq λn=>by simp only[qaD]; rw[e]
 | a o hole =>
  obtain⟨m,e,hq⟩:=hw;cases m with
  | val v=>exact(W.one (Q:=Q) hq).eq λn=>by simp only[qaD]; rw[e]
  | obj o f =>
   cases hole with
   | none=>exact(W.one (Q:=Q) hq).eq λn=>by simp only[qaD]; rw[e]
   | some j=>exact(W.one (Q:=Q) hq).eq λn=>by simp only[qaD]; rw[e]
 | w o=>obtain⟨r,e,hq⟩:=hw; exact(W.one hq).eq λn=>by simp only[qaD,env]; rw[e]
 | fz o=>obtain⟨r,e,hq⟩:=hw; exact(W.one hq).eq λn=>by simp only[qaD,env]; rw[e]
 | call c args frz =>
  refine W.bind ((ql8 hw).mono λr hr=>?_);cases frz with
  | true=>obtain⟨r',e,hq⟩:=hr; exact(W.one hq).eq λn=>by simp only[cond,env]; rw[e]
  | false=>exact W.one hr
 | callP f args =>
  obtain⟨v,⟨N,hN⟩,hq⟩:=hw;exact(W.one (Q:=Q) hq).congr N λn hn=>by simp only[qaD]; rw[hN n hn]
 | nxtM it =>
  obtain⟨l,e,hd,h0,hq⟩:=hw;refine W.bind (qDI e h0 (λh=>by rw[hd]at h; cases h) λr hr=>W.one (hq r hr))
 | defer x =>
  obtain⟨v,e1,hr,hq⟩:=hw;split at e1
  ·rename_i f a c e;cases e1;exact(W.one hq).eq λn=>by simp only[qaD]; rw[e]; simp only[hr,cond]
  ·cases e1
 | recover =>
  obtain⟨hr,hq⟩:=hw;exact(W.one hq).eq λn=>by simp only[qaD,hr,cond]
 | bad=>exact hw.elim
theorem qhB{i:Ins}{base:Nat}{st:St}{Q:St->Prop}(hw:wins AP d mk i base st Q):W d (λn=>(qdm i).run (env AP mk n) base st) Q:=by
 unfold wins at hw;unfold qdm;split at hw
 ·rename_i hg; simp only[hg]; exact qiY hw
 ·rename_i g hg;simp only[hg];rcases hw with ⟨c,e,h1,h2⟩|⟨e,hq⟩
  ·by_cases hc:c=g.2
   ·refine(qiY (h1 hc)).eq λn=>?_;rw[e]; simp only[hc,beq_self_eq_true,cond]
   ·refine(W.one (h2 hc)).eq λn=>?_;have hc':(c == g.2)=false:=by simpa using hc
    rw[e]; simp only[hc',cond]
  ·exact(W.one hq).eq λn=>by rw[e]
theorem qk5:∀{l:List Ins}{base:Nat}{st:St}{Q:St->Prop},wl AP d mk l base st Q->W d (λn=>(qhj l).run (env AP mk n) base st) Q
 | [],_,_,_,hw=>W.one hw
 | _::_,_,_,_,hw=>W.bind ((qhB hw).mono λ_ h=>qk5 h)
theorem qk7:∀{l:List Ins}{base:Nat}{st:St}{hs:List Heap}{Q:St->List Heap->Prop},wd AP mk l base st hs Q->∃r N,(∀n,N<=n->opsH (env AP mk n) base l st hs=some r)/\Q r.1 r.2
 | [],_,st,hs,_,hw=>⟨(st,st.h::hs),0,λ_ _=>rfl,hw⟩
 | i::l,base,st,hs,Q,hw=>by
  obtain⟨k,N,h0,h1,h2,h3⟩:=qhB hw
  match k,h0,h1 rfl,h2,h3 with
  | [x],_,_,h2,h3 =>
   obtain⟨r,M,g1,g2⟩:=qk7 (h3 x (by simp));refine⟨r,max N M,λn hn=>?_,g2⟩;simp only[opsH];have e1:(qdm i).run (env AP mk n) base st=some [x]:=h2 n (by omega);rw[e1];exact g1 n (by omega)
theorem qmF{c:IC}{I:Nat->St->Prop}{st:St}{Q:OS->Prop}
  (hc:∀k st',I k st'->qo2 c st st'->W d (λn=>(qaR c).run (env AP mk n) st') λr=>match r.o with
   | .normal=>∃j,j<k/\I j r.s
   | .exit i=>Q ⟨.exit i,r.s⟩
   | .ret=>Q ⟨.ret,r.s⟩):∀k st',I k st'->qo2 c st st'->∀(f:Nat->Nat),(∃N,∀n,N<=n->k<f n)->W d (λn=>qga ((qaR c).run (env AP mk n)) (f n) st') Q:=by
 intro k;induction k using Nat.strongRecOn with
 | ind k ih =>
  intro st' hI hk f hf;obtain⟨N,hN⟩:=hf;have h1:=(hc k st' hI hk).conj (R:=λr=>qo2 c st r.s) (λn l e r hr i hi=>by rw[qcB c st' l hi e r hr]; exact hk i hi);refine W.congr (m:=λn=>ND.bind ((qaR c).run (env AP mk n) st') λr=>match r.o with
   | .normal=>qga ((qaR c).run (env AP mk n)) (f n-1) r.s
   | .exit i=>some [⟨.exit i,r.s⟩]
   | .ret=>some [⟨.ret,r.s⟩]) (W.bind (h1.mono ?_)) N λn hn=>?_
  ·rintro⟨o,s⟩ ⟨h2,h3⟩;cases o with
   | normal =>
    obtain⟨j,hj,hIj⟩:=h2;exact ih j hj s hIj h3 (λn=>f n-1) ⟨N,λn hn=>by have:=hN n hn; omega⟩
   | exit i=>exact W.one h2
   | ret=>exact W.one h2
  ·have:=hN n hn;obtain⟨m,hm⟩:∃m,f n=m+1:=⟨f n-1,by omega⟩;rw[hm]; rfl
theorem qb2:∀{c:IC}{st:St}{Q:OS->Prop},wc AP d mk c st Q->W d (λn=>(qaR c).run (env AP mk n) st) Q
 | .skip,_,_,hw=>W.one hw
 | .ops _,_,_,hw=>W.bind ((qk5 hw).mono λ_ h=>W.one h)
 | .dops na chk l,st,Q,hw=>by
  obtain⟨r,N,h1,u,h2,h3⟩:=qk7 hw;have h2:chk.all (recheck l r.1.tm r.2.reverse)=true:=by
   cases hb:chk.all (recheck l r.1.tm r.2.reverse)with
   | true=>rfl
   | false=>rw[hb]at h2; cases h2
  refine W.congr (W.one h3) N λn hn=>?_;simp only[qaR,qhd];rw[h1 n hn];simp only[h2,cond]
 | .dopc chk l,st,Q,hw=>by
  obtain⟨r,N,h1,h2,h3⟩:=qk7 hw;obtain⟨M,hM⟩:=qAY h2;refine W.congr (W.one h3) (max N M) λn hn=>?_;simp only[qaR,qAZ];rw[h1 n (by omega)];simp only[hM n (by omega),cond]
 | .seq a b,st,Q,hw=>by
  refine W.bind ((qb2 (c:=a) hw).mono ?_);rintro⟨o,s⟩ h;cases o with
  | normal=>exact qb2 (c:=b) h
  | exit i=>exact W.one h
  | ret=>exact W.one h
 | .cond c a b,st,Q,hw=>by
  obtain⟨t,e,h1,h2⟩:=hw;cases t with
  | true=>exact(qb2 (c:=a) (h1 rfl)).eq λn=>by simp only[qaR]; rw[e]; rfl
  | false=>exact(qb2 (c:=b) (h2 rfl)).eq λn=>by simp only[qaR]; rw[e]; rfl
 | .block id c,st,Q,hw=>by
  refine W.bind ((qb2 (c:=c) hw).mono ?_);rintro⟨o,s⟩ h;cases o with
  | normal=>exact W.one h
  | exit i =>
   simp only at h;cases hb:Nat.beq i id<;>rw[hb]at h<;>simp only[hb,cond]<;>exact W.one h
  | ret=>exact W.one h
 | .loop c,st,Q,hw=>by
  obtain⟨I,⟨k,hI⟩,hc⟩:=hw;exact qmF (λk st' h1 h2=>qb2 (c:=c) (hc k st' h1 h2)) k st hI (λ_ _=>rfl) (λn=>n) ⟨k+1,λn hn=>by omega⟩
 | .rangeF ..,_,_,hw=>hw
 | .exit _,_,_,hw=>W.one hw
 | .ret,_,_,hw=>W.one hw
 | .bad,_,_,hw=>hw.elim
def wun(AP:Prog)(d:Bool)(mk:Nat):List DefI->Heap->(Heap->Prop)->Prop
 | [],h,Q=>Q h
 | .mark i::r,h,Q=>h.get i=some .dfr/\mk<=i/\wun AP d mk r (h.kill i) Q
 | .call v::r,h,Q=>(∃f a c,v=.fn f a c/\AP.prim f=none)/\WF AP d mk v [] h λx=>wun AP d mk r x.h Q
theorem qgp:∀{l:List DefI}{h:Heap}{Q:Heap->Prop},wun AP d mk l h Q->W d (λn=>qa1 (qbx AP (evCall AP n mk)) mk l h) Q
 | [],_,_,hw=>W.one hw
 | .mark i::r,h,Q,hw=>by
  obtain⟨h1,h2,h3⟩:=hw;refine(qgp h3).eq λn=>?_;simp only[qa1];rw[h1];simp only[(Jat ▸ h2:Nat.ble mk i=true),cond]
 | .call v::r,h,Q,hw=>by
  obtain⟨⟨f,a,c,rfl,hp⟩,hw⟩:=hw;refine W.bind (W.eq (W.mono hw λ_ h=>qgp h) λn=>?_);simp only[qbx,hp]
def wbody(AP:Prog)(d:Bool)(mk:Nat)(F:IFn)(args:List V)(h:Heap)(Q:VH->Prop):Prop :=
 wc AP d mk F.body ⟨Tm.ofL 0 args .e,h,[],false⟩ λr=>(match r.o with|.exit _=>False|_=>True) /\
  wun AP d mk r.s.defs r.s.h λh'=>∃v,results r.s.tm h' F.res=some v/\Q ⟨v,h'⟩
theorem qem{F:IFn}{args:List V}{h:Heap}{Q:VH->Prop}(hl:args.length<=F.nt)(hw:wbody AP d mk F args h Q):W d (λn=>qeS AP (evCall AP n mk) n mk F args h) Q:=by
 have h1:W d (λn=>ND.bind ((qaR F.body).run (env AP mk n) ⟨Tm.ofL 0 args .e,h,[],false⟩) λr =>
   match r.o with
   | .exit _=>none
   | _=>ND.bind (qa1 (qbx AP (evCall AP n mk)) mk r.s.defs r.s.h) λh' =>
     match results r.s.tm h' F.res with
     | some v=>some [⟨v,h'⟩]
     | none=>none) Q:=by
  refine W.bind ((qb2 hw).mono ?_);rintro ⟨o, s⟩ ⟨ho, hu⟩;have h2 : W d (fun n => ND.bind (qa1 (qbx AP (evCall AP n mk)) mk s.defs s.h) fun h' =>
     match results s.tm h' F.res with
     | some v=>some [⟨v,h'⟩]
     | none=>none) Q:=by
   refine W.bind ((qgp hu).mono ?_);rintro h' ⟨v,e,hq⟩;exact(W.one hq).eq λn=>by rw[e]
  cases o with
  | normal=>exact h2
  | exit i=>exact ho.elim
  | ret=>exact h2
 refine h1.eq λn=>?_;simp only[qeS,(Jat ▸ hl:Nat.ble args.length F.nt=true),cond];rfl
theorem WF.fn{f:Nat}{first cap args:List V}{F:IFn}{h:Heap}{Q:VH->Prop}(hp:AP.prim f=none)(hF:AP.fn f=some F)(hpure:F.pure=false)(hl:(first++args++cap).length<=F.nt)
  (hw:wbody AP d mk F (first++args++cap) h Q):WF AP d mk (.fn f first cap) args h Q:=by
 obtain⟨l,N,h0,h1,h2,h3⟩:=qem hl hw;refine⟨l,N+1,h0,h1,λn hn=>?_,h3⟩;obtain⟨m,rfl⟩:∃m,n=m+1:=⟨n-1,by omega⟩;simp only[evCall,hp,hF,hpure,cond];exact h2 m (by omega)
theorem WF.prim{f:Nat}{first cap args:List V}{p:Nat->List V->Heap->ND VH}{h:Heap}{Q:VH->Prop}(hp:AP.prim f=some p)(hw:W d (λ_=>p mk (first++args++cap) h) Q):WF AP d mk (.fn f first cap) args h Q:=by
 obtain⟨l,N,h0,h1,h2,h3⟩:=hw;refine⟨l,N+1,h0,h1,λn hn=>?_,h3⟩;obtain⟨m,rfl⟩:∃m,n=m+1:=⟨n-1,by omega⟩;simp only[evCall,hp];exact h2 m (by omega)
theorem qhg{h:Heap}{l:List V}{m:List VH}(e:dedup h (some l)=some m):∀r∈m,r.h=h/\r.v∈l:=by
 unfold dedup at e;simp only at e;split at e
 ·cases e; simp
 ·split at e
  ·cases e; simp
  ·rename_i x r y r';cases hb:(y::r').all (V.beq x)with
   | true=>rw[hb]at e; cases e; simp
   | false =>
    rw[hb]at e; cases e;intro r hr;obtain⟨v,hv,rfl⟩:=Jak.1 hr;exact⟨rfl,hv⟩
theorem qh3(h:Heap)(l:List V):∃m,dedup h (some l)=some m/\(l≠[]->m≠[])/\(l.length=1->m.length=1)/\(∀v,(∀x∈l,x=v)->l≠[]->m.length=1):=by
 unfold dedup;simp only;split
 ·exact⟨[],rfl,by simp,by simp,by simp⟩
 ·split
  ·exact⟨_,rfl,by simp,by simp,by simp⟩
  ·rename_i x r y r';cases hb:(y::r').all (V.beq x)with
   | true=>exact⟨_,rfl,by simp,by simp,by simp⟩
   | false =>
    refine⟨_,rfl,by simp,by simp,λv hv=>?_⟩;exfalso;have:(y::r').all (V.beq x)=true:=by
     rw[List.all_eq_true];intro z hz;rw[hv x (by simp),hv z (List.mem_cons_of_mem _ hz)];exact V.beq_refl v
    rw[hb]at this; cases this
theorem qBE{f:Nat}{first cap args:List V}{F:IFn}{h:Heap}{Q:V->Prop}(hp:AP.prim f=none)(hF:AP.fn f=some F)(hpure:F.pure=true)(hl:(first++args++cap).length<=F.nt)
  (hw:wbody AP d h.n F (first++args++cap) h λr=>∃v,freeze h.n r.h qat r.v=some v/\Q v):WF AP d mk (.fn f first cap) args h λr=>r.h=h/\Q r.v:=by
 have h1:=qem (AP:=AP) hl hw;have h2:W d (λn=>ND.bind (qeS AP (evCall AP n h.n) n h.n F (first++args++cap) h) λr=>match freeze h.n r.h qat r.v with
  | some v=>some [v]
  | none=>none) Q:=by
  refine W.bind (h1.mono ?_);rintro r ⟨v,e,hq⟩;exact(W.one hq).eq λn=>by rw[e]
 obtain⟨l,N,g0,g1,g2,g3⟩:=h2;obtain⟨m,e,k0,k1,_⟩:=qh3 h l;refine⟨m,N+1,k0 g0,λhd=>k1 (g1 hd),λn hn=>?_,λr hr=>?_⟩
 ·obtain⟨n,rfl⟩:∃m,n=m+1:=⟨n-1,by omega⟩;simp only[evCall,hp,hF,hpure,cond,qeq];exact(congrArg (dedup h) (g2 n (by omega))).trans e
 ·obtain⟨e1,e2⟩:=qhg e r hr;exact⟨e1,g3 _ e2⟩
theorem qBS{f:Nat}{first cap args:List V}{F:IFn}{h:Heap}{v:V}(hp:AP.prim f=none)(hF:AP.fn f=some F)(hpure:F.pure=true)(hl:(first++args++cap).length<=F.nt)
  (hw:wbody AP false h.n F (first++args++cap) h λr=>freeze h.n r.h qat r.v=some v):WF AP d mk (.fn f first cap) args h λr=>r=⟨v,h⟩:=by
 have h1:=qem (AP:=AP) hl hw;have h2:W false (λn=>ND.bind (qeS AP (evCall AP n h.n) n h.n F (first++args++cap) h) λr=>match freeze h.n r.h qat r.v with
  | some v=>some [v]
  | none=>none) λx=>x=v:=by
  refine W.bind (h1.mono ?_);intro r e;exact(W.one (x:=v) (Q:=λx=>x=v) rfl).eq λn=>by rw[e]
 obtain⟨l,N,g0,g1,g2,g3⟩:=h2;obtain⟨m,e,k0,_,k1⟩:=qh3 h l;refine⟨m,N+1,k0 g0,λ_=>k1 v g3 g0,λn hn=>?_,λr hr=>?_⟩
 ·obtain⟨n,rfl⟩:∃m,n=m+1:=⟨n-1,by omega⟩;simp only[evCall,hp,hF,hpure,cond,qeq];exact(congrArg (dedup h) (g2 n (by omega))).trans e
 ·obtain⟨e1,e2⟩:=qhg e r hr;obtain⟨rv,rh⟩:=r;simp only at e1 e2;subst e1;rw[g3 _ e2]
end Go.Abs

universe u
namespace Go.Abs
open Go
variable {AP:Prog}{mk:Nat}{d:Bool}
theorem qng{c:Cal}{args:List V}{tm:Tm}{h:Heap}{Q R:VH->Prop}(hw:wcal AP d mk c args tm h Q)(hi:∀r,Q r->R r):wcal AP d mk c args tm h R:=by
 cases c with
 | dir f=>exact W.mono hw hi
 | val x=>exact W.mono hw hi
 | inv x m=>obtain⟨p,e,f,e2,hw⟩:=hw; exact⟨p,e,f,e2,W.mono hw hi⟩
theorem qk4{t:Option Nat}{o:IOp}{b:Nat}{st:St}{Q R:St->Prop}(hw:wop AP d mk t o b st Q)(hi:∀r,Q r->R r):wop AP d mk t o b st R:=by
 cases o with
 | p o=>obtain⟨v,e,h⟩:=hw; exact⟨v,e,hi _ h⟩
 | r o=>obtain⟨v,e,h⟩:=hw; exact⟨v,e,hi _ h⟩
 | a o hole =>
  obtain⟨m,e,h⟩:=hw;refine⟨m,e,?_⟩;cases m with
  | val v=>exact hi _ h
  | obj o f=>cases hole<;>exact hi _ h
 | w o=>obtain⟨v,e,h⟩:=hw; exact⟨v,e,hi _ h⟩
 | fz o=>obtain⟨v,e,h⟩:=hw; exact⟨v,e,hi _ h⟩
 | call c args frz =>
  refine qng hw λr h=>?_;cases frz with
  | true=>obtain⟨v,e,h⟩:=h; exact⟨v,e,hi _ h⟩
  | false=>exact hi _ h
 | callP f args=>obtain⟨v,e,h⟩:=hw; exact⟨v,e,hi _ h⟩
 | nxtM it=>obtain⟨l,e,h1,h2,h3⟩:=hw; exact⟨l,e,h1,h2,λr hr=>hi _ (h3 r hr)⟩
 | defer x=>obtain⟨v,e,h1,h2⟩:=hw; exact⟨v,e,h1,hi _ h2⟩
 | recover=>exact⟨hw.1,hi _ hw.2⟩
 | bad=>exact hw
theorem qi0{x:Ins}{b:Nat}{st:St}{Q R:St->Prop}(hw:wins AP d mk x b st Q)(hi:∀r,Q r->R r):wins AP d mk x b st R:=by
 unfold wins at hw ⊢;split at hw
 ·exact qk4 hw hi
 ·rename_i g hg;rcases hw with ⟨c,e,h1,h2⟩|⟨e,h⟩
  ·exact .inl ⟨c,e,λk=>qk4 (h1 k) hi,λk=>hi _ (h2 k)⟩
  ·exact .inr ⟨e,hi _ h⟩
theorem qna:∀{l:List Ins}{b:Nat}{st:St}{Q R:St->Prop},wl AP d mk l b st Q->(∀r,Q r->R r)->wl AP d mk l b st R
 | [],_,_,_,_,hw,hi=>hi _ hw
 | _::_,_,_,_,_,hw,hi=>qi0 hw λ_ h=>qna h hi
theorem qnf:∀{l:List Ins}{b:Nat}{st:St}{hs:List Heap}{Q R:St->List Heap->Prop},wd AP mk l b st hs Q->(∀r s,Q r s->R r s)->wd AP mk l b st hs R
 | [],_,_,_,_,_,hw,hi=>hi _ _ hw
 | _::_,_,_,_,_,_,hw,hi=>qi0 hw λ_ h=>qnf h hi
theorem qcR:∀(c:IC) {st:St}{Q R:OS->Prop},wc AP d mk c st Q->(∀r,Q r->R r)->wc AP d mk c st R
 | .skip,_,_,_,hw,hi=>hi _ hw
 | .ops _,_,_,_,hw,hi=>qna hw λ_ h=>hi _ h
 | .dops ..,_,_,_,hw,hi=>qnf hw λ_ _ h=>let ⟨v,e,k⟩:=h; ⟨v,e,hi _ k⟩
 | .dopc ..,_,_,_,hw,hi=>qnf hw λ_ _ h=>⟨h.1,hi _ h.2⟩
 | .seq a b,_,_,_,hw,hi=>qcR a hw λr h=>by
  obtain⟨o,s⟩:=r;cases o with
  | normal=>exact qcR b h hi
  | exit i=>exact hi _ h
  | ret=>exact hi _ h
 | .cond c a b,_,_,_,hw,hi=>let ⟨t,e,h1,h2⟩:=hw; ⟨t,e,λk=>qcR a (h1 k) hi,λk=>qcR b (h2 k) hi⟩
 | .block id c,_,_,_,hw,hi=>qcR c hw λr h=>by
  obtain⟨o,s⟩:=r;cases o with
  | normal=>exact hi _ h
  | exit i=>simp only at h ⊢; cases hb:Nat.beq i id<;>rw[hb]at h<;>exact hi _ h
  | ret=>exact hi _ h
 | .loop c,_,_,_,hw,hi=>by
  obtain⟨I,hI,hc⟩:=hw;refine⟨I,hI,λk st' h1 h2=>qcR c (hc k st' h1 h2) λr h=>?_⟩;obtain⟨o,s⟩:=r;cases o with
  | normal=>exact h
  | exit i=>exact hi _ h
  | ret=>exact hi _ h
 | .rangeF ..,_,_,_,hw,hi=>W.mono hw hi
 | .exit _,_,_,_,hw,hi=>hi _ hw
 | .ret,_,_,_,hw,hi=>hi _ hw
 | .bad,_,_,_,hw,_=>hw
def Heap.grow(h:Heap)(na:Nat):Heap:=⟨h.n+na,h.os⟩
@[simp]theorem qC8(h:Heap):h.grow 0=h:=(rfl)
@[simp]theorem qDK(h:Heap)(na:Nat):(h.grow na).n=h.n+na:=(rfl)
@[simp]theorem qDu(h:Heap)(na i:Nat):(h.grow na).get i=h.get i:=(rfl)
structure Ps {α : Sort u}(a : α):Type where it ::
def OpS{α : Type}(o:Option α)(Q : α->Prop)(_:Ps Q):Prop:=Op o Q
def BrS(v:V)(A B:Prop)(_:Ps (A/\B)):Prop:=Br v A B
def GdS(v:V)(b:Bool)(A B:Prop)(_:Ps (A/\B)):Prop:=Gd v b A B
def WFS(AP:Prog)(d:Bool)(mk:Nat)(fv:V)(args:List V)(h:Heap)(Q:VH->Prop)(_:Ps Q):Prop:=WF AP d mk fv args h Q
inductive Fr where
 | seq (b:IC)
 | block (id:Nat)
def through(AP:Prog)(d:Bool)(mk:Nat):List Fr->(OS->Prop)->OS->Prop
 | [],Q,r=>Q r
 | .seq b::fs,Q,r=>match r.o with
  | .normal=>wc AP d mk b r.s (through AP d mk fs Q)
  | .exit i=>through AP d mk fs Q ⟨.exit i,r.s⟩
  | .ret=>through AP d mk fs Q ⟨.ret,r.s⟩
 | .block id::fs,Q,r=>match r.o with
  | .exit i=>cond (Nat.beq i id) (through AP d mk fs Q ⟨.normal,r.s⟩) (through AP d mk fs Q ⟨.exit i,r.s⟩)
  | .normal=>through AP d mk fs Q ⟨.normal,r.s⟩
  | .ret=>through AP d mk fs Q ⟨.ret,r.s⟩
def wk(AP:Prog)(d:Bool)(mk:Nat)(c:IC)(fs:List Fr)(st:St)(Q:OS->Prop)(_:Ps (c,fs,Q)):Prop:=wc AP d mk c st (through AP d mk fs Q)
def nx(AP:Prog)(d:Bool)(mk:Nat)(fs:List Fr)(o:Out)(st:St)(Q:OS->Prop)(_:Ps (fs,Q)):Prop:=through AP d mk fs Q ⟨o,st⟩
def wlS(AP:Prog)(d:Bool)(mk:Nat)(l:List Ins)(b:Nat)(fs:List Fr)(st:St)(Q:OS->Prop)(_:Ps (l,fs,Q)):Prop:=wl AP d mk l b st λst=>through AP d mk fs Q ⟨.normal,st⟩
def wdS(AP:Prog)(d:Bool)(mk:Nat)(l:List Ins)(b:Nat)(chk:List (Nat × Nat))(l0:List Ins)(fs:List Fr)(st:St)(hs:List Heap)(Q:OS->Prop)(_:Ps (l,chk,l0,fs,Q)):Prop :=
 wd AP mk l b st hs λst hs=>Op (cond (chk.all (recheck l0 st.tm hs.reverse)) (some ()) none) λ_=>through AP d mk fs Q ⟨.normal,st⟩
def qA4(AP:Prog)(mk:Nat)(chk:List (Nat × Nat))(l:List Ins)(tm:Tm)(hs:List Heap):Prop:=∀c∈chk,reP AP mk l tm hs c
def wdcS(AP:Prog)(d:Bool)(mk:Nat)(l:List Ins)(b:Nat)(chk:List (Nat × Nat))(l0:List Ins)(fs:List Fr)(st:St)(hs:List Heap)(Q:OS->Prop)(_:Ps (l,chk,l0,fs,Q)):Prop :=
 wd AP mk l b st hs λst hs=>qA4 AP mk chk l0 st.tm hs.reverse/\through AP d mk fs Q ⟨.normal,st⟩
def OneS(AP:Prog)(mk f:Nat)(args:List V)(h:Heap)(Q:V->Prop)(_:Ps Q):Prop:=∃v,One AP mk f args h v/\Q v
theorem OneS.by{f:Nat}{args:List V}{h:Heap}{Q:V->Prop}{v:V}(h1:One AP mk f args h v)(h2:Q v):OneS AP mk f args h Q ⟨⟩:=⟨v,h1,h2⟩
def qne(AP:Prog)(d:Bool)(mk:Nat)(i:Ins)(b:Nat)(st:St)(Q:St->Prop)(_:Ps (i,Q)):Prop:=wins AP d mk i b st Q
def wopS(AP:Prog)(d:Bool)(mk:Nat)(t:Option Nat)(o:IOp)(b:Nat)(st:St)(Q:St->Prop)(_:Ps (o,Q)):Prop:=wop AP d mk t o b st Q
def qnh(AP:Prog)(d:Bool)(mk:Nat)(c:Cal)(args:List V)(tm:Tm)(h:Heap)(Q:VH->Prop)(_:Ps (c,Q)):Prop:=wcal AP d mk c args tm h Q
def wunS(AP:Prog)(d:Bool)(mk:Nat)(l:List DefI)(h:Heap)(Q:Heap->Prop)(_:Ps Q):Prop:=wun AP d mk l h Q
@[simp]theorem Op_some{α : Type}{x : α}{Q : α->Prop}:OpS (some x) Q ⟨⟩=Q x:=by
 simp[OpS,Op]
@[simp]theorem Op_none{α : Type}{Q : α->Prop}:OpS (none:Option α) Q ⟨⟩=False:=by
 simp[OpS,Op]
theorem qBC{α : Type}{o:Option α}{Q : α->Prop}(h:∃x,o=some x/\Q x):OpS o Q ⟨⟩:=h
theorem OpS.intro{α : Type}{o:Option α}{x : α}{Q : α->Prop}(h:o=some x)(hq:Q x):OpS o Q ⟨⟩:=⟨x,h,hq⟩
section
variable {A B:Prop}{b:Bool}
@[simp]theorem Br_true:BrS (.bool true) A B ⟨⟩=A:=by simp[BrS,Br]
@[simp]theorem Br_false:BrS (.bool false) A B ⟨⟩=B:=by simp[BrS,Br]
theorem qaa:BrS (.bool b) A B ⟨⟩=((b=true->A)/\(b=false->B)):=by simp[BrS,Br]
@[simp]theorem Gd_tt:GdS (.bool true) true A B ⟨⟩=A:=by simp[GdS,Gd]
@[simp]theorem Gd_ft:GdS (.bool false) true A B ⟨⟩=B:=by simp[GdS,Gd]
@[simp]theorem Gd_tf:GdS (.bool true) false A B ⟨⟩=B:=by simp[GdS,Gd]
@[simp]theorem Gd_ff:GdS (.bool false) false A B ⟨⟩=A:=by simp[GdS,Gd]
theorem Gd_t:GdS (.bool b) true A B ⟨⟩=((b=true->A)/\(b=false->B)):=by cases b<;>simp[GdS,Gd]
theorem Gd_f:GdS (.bool b) false A B ⟨⟩=((b=false->A)/\(b=true->B)):=by cases b<;>simp[GdS,Gd]
@[simp]theorem Gd_u:GdS (.tup []) b A B ⟨⟩=B:=by simp[GdS,Gd]
end
def qob(AP:Prog)(d:Bool)(mk:Nat)(I:Nat->St->Prop)(k:Nat)(fs:List Fr)(Q:OS->Prop)(_:Ps (I,k,fs,Q))(r:OS):Prop:=match r.o with
 | .normal=>∃j,j<k/\I j r.s
 | .exit i=>nx AP d mk fs (.exit i) r.s Q ⟨⟩
 | .ret=>nx AP d mk fs .ret r.s Q ⟨⟩
def qah(I:Nat->St->Prop)(k:Nat)(st:St)(_:Ps (I,k)):Prop:=∃j,j<k/\I j st
theorem qah.intro{I:Nat->St->Prop}{k:Nat}{st:St}(j:Nat)(h:j<k)(hi:I j st):qah I k st ⟨⟩:=⟨j,h,hi⟩
section
variable {st:St}{Q:OS->Prop}{fs:List Fr}{b:Nat}
@[simp]theorem wk_skip:wk AP d mk .skip fs st Q ⟨⟩=nx AP d mk fs .normal st Q ⟨⟩:=(rfl)
@[simp]theorem qar{l:List Ins}:wk AP d mk (.ops l) fs st Q ⟨⟩=wlS AP d mk l st.h.n fs st Q ⟨⟩:=(rfl)
@[simp]theorem qnc{na:Nat}{chk:List (Nat × Nat)}{l:List Ins}:wk AP d mk (.dops na chk l) fs st Q ⟨⟩=wdS AP d mk l st.h.n chk l fs ⟨st.tm,st.h.grow na,st.defs,st.round⟩ [] Q ⟨⟩:=(rfl)
@[simp]theorem wk_dopc{chk:List (Nat × Nat)}{l:List Ins}:wk AP d mk (.dopc chk l) fs st Q ⟨⟩=wdcS AP d mk l st.h.n chk l fs st [] Q ⟨⟩:=(rfl)
@[simp]theorem qgq{a b:IC}:wk AP d mk (.seq a b) fs st Q ⟨⟩=wk AP d mk a (.seq b::fs) st Q ⟨⟩:=(rfl)
@[simp]theorem wk_cond{c:Opd}{a b:IC}:wk AP d mk (.cond c a b) fs st Q ⟨⟩=BrS (c.ev st.tm) (wk AP d mk a fs st Q ⟨⟩) (wk AP d mk b fs st Q ⟨⟩) ⟨⟩:=(rfl)
@[simp]theorem wk_block{id:Nat}{c:IC}:wk AP d mk (.block id c) fs st Q ⟨⟩=wk AP d mk c (.block id::fs) st Q ⟨⟩:=(rfl)
@[simp]theorem wk_exit{id:Nat}:wk AP d mk (.exit id) fs st Q ⟨⟩=nx AP d mk fs (.exit id) st Q ⟨⟩:=(rfl)
@[simp]theorem wk_ret:wk AP d mk .ret fs st Q ⟨⟩=nx AP d mk fs .ret st Q ⟨⟩:=(rfl)
@[simp]theorem wk_bad:wk AP d mk .bad fs st Q ⟨⟩=False:=(rfl)
@[simp]theorem nx_nil{o:Out}:nx AP d mk [] o st Q ⟨⟩=Q ⟨o,st⟩:=(rfl)
@[simp]theorem nx_seq{b:IC}:nx AP d mk (.seq b::fs) .normal st Q ⟨⟩=wk AP d mk b fs st Q ⟨⟩:=(rfl)
@[simp]theorem nx_seqX{b:IC}{i:Nat}:nx AP d mk (.seq b::fs) (.exit i) st Q ⟨⟩=nx AP d mk fs (.exit i) st Q ⟨⟩:=(rfl)
@[simp]theorem nx_seqR{b:IC}:nx AP d mk (.seq b::fs) .ret st Q ⟨⟩=nx AP d mk fs .ret st Q ⟨⟩:=(rfl)
@[simp]theorem nx_block{i:Nat}:nx AP d mk (.block i::fs) .normal st Q ⟨⟩=nx AP d mk fs .normal st Q ⟨⟩:=(rfl)
@[simp]theorem nx_blockE{i:Nat}:nx AP d mk (.block i::fs) (.exit i) st Q ⟨⟩=nx AP d mk fs .normal st Q ⟨⟩:=by simp[nx,through]
@[simp]theorem nx_blockX{i j:Nat}(h:j≠i):nx AP d mk (.block i::fs) (.exit j) st Q ⟨⟩=nx AP d mk fs (.exit j) st Q ⟨⟩:=by
 have:Nat.beq j i=false:=by cases hb:Nat.beq j i<;>simp at hb ⊢; exact h hb
 simp[nx,through,this]
@[simp]theorem nx_blockR{i:Nat}:nx AP d mk (.block i::fs) .ret st Q ⟨⟩=nx AP d mk fs .ret st Q ⟨⟩:=(rfl)
@[simp]theorem loopQ_n{I:Nat->St->Prop}{k:Nat}:qob AP d mk I k fs Q ⟨⟩ ⟨.normal,st⟩=qah I k st ⟨⟩:=(rfl)
@[simp]theorem loopQ_x{I:Nat->St->Prop}{k i:Nat}:qob AP d mk I k fs Q ⟨⟩ ⟨.exit i,st⟩=nx AP d mk fs (.exit i) st Q ⟨⟩:=(rfl)
@[simp]theorem loopQ_r{I:Nat->St->Prop}{k:Nat}:qob AP d mk I k fs Q ⟨⟩ ⟨.ret,st⟩=nx AP d mk fs .ret st Q ⟨⟩:=(rfl)
theorem qaf{c:IC}(I:Nat->St->Prop)(k:Nat)(h0:I k st)(h:∀k st',I k st'->qo2 c st st'->wk AP d mk c [] st' (qob AP d mk I k fs Q ⟨⟩) ⟨⟩):wk AP d mk (.loop c) fs st Q ⟨⟩ :=
 ⟨I,⟨k,h0⟩,λk st' h1 h2=>by
  have:=h k st' h1 h2;have e:(through AP d mk [] (qob AP d mk I k fs Q ⟨⟩))=λr=>match r.o with
   | .normal=>∃j,j<k/\I j r.s
   | .exit i=>through AP d mk fs Q ⟨.exit i,r.s⟩
   | .ret=>through AP d mk fs Q ⟨.ret,r.s⟩:=by
   funext r; rfl
  unfold wk at this;rw[e]at this;exact this⟩
theorem qgr{c:IC}(P:St->Prop)(hP:P st)(h:∀st,P st->wk AP d mk c fs st Q ⟨⟩):wk AP d mk c fs st Q ⟨⟩:=h st hP
theorem qk6{c:IC}(M:Out->St->Prop)(h1:wk AP d mk c [] st (λr=>M r.o r.s) ⟨⟩)(h2:∀o s,M o s->nx AP d mk fs o s Q ⟨⟩):wk AP d mk c fs st Q ⟨⟩:=qcR c h1 λr h=>h2 r.o r.s h
end
section
variable {st:St}{Q:OS->Prop}{fs:List Fr}{b:Nat}
@[simp]theorem wl_nil:wlS AP d mk [] b fs st Q ⟨⟩=nx AP d mk fs .normal st Q ⟨⟩:=(rfl)
@[simp]theorem wl_cons{x:Ins}{l:List Ins}:wlS AP d mk (x::l) b fs st Q ⟨⟩=qne AP d mk x b st (λst=>wlS AP d mk l b fs st Q ⟨⟩) ⟨⟩:=(rfl)
@[simp]theorem wd_nil{chk:List (Nat × Nat)}{l0:List Ins}{hs:List Heap}:wdS AP d mk [] b chk l0 fs st hs Q ⟨⟩=OpS (cond (chk.all (recheck l0 st.tm (st.h::hs).reverse)) (some ()) none) (λ_=>nx AP d mk fs .normal st Q ⟨⟩) ⟨⟩:=(rfl)
@[simp]theorem wdc_nil{chk:List (Nat × Nat)}{l0:List Ins}{hs:List Heap}:wdcS AP d mk [] b chk l0 fs st hs Q ⟨⟩=(qA4 AP mk chk l0 st.tm (st.h::hs).reverse/\nx AP d mk fs .normal st Q ⟨⟩):=(rfl)
@[simp]theorem wdc_cons{chk:List (Nat × Nat)}{l0:List Ins}{x:Ins}{l:List Ins}{hs:List Heap}:wdcS AP d mk (x::l) b chk l0 fs st hs Q ⟨⟩=qne AP true mk x b st (λst'=>wdcS AP d mk l b chk l0 fs st' (st.h::hs) Q ⟨⟩) ⟨⟩:=(rfl)
@[simp]theorem wd_cons{chk:List (Nat × Nat)}{l0:List Ins}{x:Ins}{l:List Ins}{hs:List Heap}:wdS AP d mk (x::l) b chk l0 fs st hs Q ⟨⟩=qne AP true mk x b st (λst'=>wdS AP d mk l b chk l0 fs st' (st.h::hs) Q ⟨⟩) ⟨⟩:=(rfl)
end
section
variable {st:St}{Q:St->Prop}{b:Nat}{t:Option Nat}
@[simp]theorem wins_i{t:Nat}{o:IOp}:qne AP d mk (Pr.i t o) b st Q ⟨⟩=wopS AP d mk (some t) o b st Q ⟨⟩:=(rfl)
@[simp]theorem wins_n{o:IOp}:qne AP d mk (Pr.n o) b st Q ⟨⟩=wopS AP d mk none o b st Q ⟨⟩:=(rfl)
@[simp]theorem wins_g{g:Nat × Bool}{o:IOp}:qne AP d mk ⟨t,some g,o⟩ b st Q ⟨⟩=GdS ((gK g.1).run st.tm) g.2 (wopS AP d mk t o b st Q ⟨⟩) (Q ((putK t).run (.tup []) st.h st)) ⟨⟩:=(rfl)
@[simp]theorem put_some{t:Nat}{v:V}{h:Heap}:(putK (some t)).run v h st=⟨(sK t).run v st.tm,h,st.defs,st.round⟩:=(rfl)
@[simp]theorem put_none{v:V}{h:Heap}:(putK none).run v h st=⟨st.tm,h,st.defs,st.round⟩:=(rfl)
@[simp]theorem wop_p{o:PO}:wopS AP d mk t (.p o) b st Q ⟨⟩=OpS ((qas o).run st.tm) (λv=>Q ((putK t).run v st.h st)) ⟨⟩:=(rfl)
@[simp]theorem wop_r{o:RdO}:wopS AP d mk t (.r o) b st Q ⟨⟩=OpS ((qbc o).run st.tm st.h) (λv=>Q ((putK t).run v st.h st)) ⟨⟩:=(rfl)
@[simp]theorem wop_a{o:AO}{hole:Option Nat}:wopS AP d mk t (.a o hole) b st Q ⟨⟩=OpS ((qbK o).run st.tm) (λm=>match m with
  | .val v=>Q ((putK t).run v st.h st)
  | .obj o f=>(match hole with
   | none=>Q ((putK t).run (f st.h.n) (st.h.push o) st)
   | some j=>Q ((putK t).run (f (b+j)) (st.h.set (b+j) o) st))) ⟨⟩:=(rfl)
@[simp]theorem wop_fz{o:XO}:wopS AP d mk t (.fz o) b st Q ⟨⟩=OpS (xV o mk st.tm st.h) (λr=>Q ((putK t).run r.v r.h st)) ⟨⟩:=(rfl)
@[simp]theorem wop_w{o:WO}:wopS AP d mk t (.w o) b st Q ⟨⟩=OpS ((qay o).run mk st.tm st.h) (λr=>Q ((putK t).run r.v r.h st)) ⟨⟩:=(rfl)
@[simp]theorem wop_callP{f:Nat}{args:List Opd}:wopS AP d mk t (.callP f args) b st Q ⟨⟩=OneS AP mk f ((qcE args).run st.tm) st.h (λv=>Q ((putK t).run v st.h st)) ⟨⟩:=(rfl)
@[simp]theorem wop_call{c:Cal}{args:List Opd}:wopS AP d mk t (.call c args false) b st Q ⟨⟩=qnh AP d mk c ((qcE args).run st.tm) st.tm st.h (λr=>Q ((putK t).run r.v r.h st)) ⟨⟩:=(rfl)
@[simp]theorem wop_callF{c:Cal}{args:List Opd}:wopS AP d mk t (.call c args true) b st Q ⟨⟩=qnh AP d mk c ((qcE args).run st.tm) st.tm st.h (λr=>OpS (frzV mk r) (λr=>Q ((putK t).run r.v r.h st)) ⟨⟩) ⟨⟩:=(rfl)
@[simp]theorem wop_nxtM{x:Opd}:wopS AP d mk t (.nxtM x) b st Q ⟨⟩=OpS (qfB mk (x.ev st.tm) st.h) (λl=>d=false/\l≠[]/\∀r∈l,Q ((putK t).run r.v r.h st)) ⟨⟩:=(rfl)
@[simp]theorem wop_defer{x:Opd}:wopS AP d mk t (.defer x) b st Q ⟨⟩=OpS (match x.ev st.tm with|.fn f a c=>some (V.fn f a c)|_=>none) (λv=>st.round=false/\Q ((putK t).run .any st.h ⟨st.tm,st.h,.call v::st.defs,st.round⟩)) ⟨⟩:=(rfl)
@[simp]theorem qq6:wopS AP d mk t .recover b st Q ⟨⟩=(st.round=false/\Q ((putK t).run .nili st.h st)):=(rfl)
end
section
variable {args:List V}{tm:Tm}{h:Heap}{Q:VH->Prop}
@[simp]theorem wcal_dir{f:Nat}:qnh AP d mk (.dir f) args tm h Q ⟨⟩=WFS AP d mk (.fn f [] []) args h Q ⟨⟩:=(rfl)
@[simp]theorem wcal_val{x:Opd}:qnh AP d mk (.val x) args tm h Q ⟨⟩=WFS AP d mk (x.ev tm) args h Q ⟨⟩:=(rfl)
@[simp]theorem wcal_inv{x:Opd}{m:String}:qnh AP d mk (.inv x m) args tm h Q ⟨⟩=OpS (match x.ev tm with|.iface t v=>some (t,v)|_=>none) (λp=>OpS (AP.meth p.1 m) (λf=>WFS AP d mk (.fn f [] []) (p.2::args) h Q ⟨⟩) ⟨⟩) ⟨⟩:=(rfl)
theorem WFS.by{fv:V}{R:VH->Prop}(h1:WF AP d mk fv args h R)(h2:∀v h',R ⟨v,h'⟩->Q ⟨v,h'⟩):WFS AP d mk fv args h Q ⟨⟩:=W.mono h1 λr=>h2 r.v r.h
@[simp]theorem wun_nil{Q:Heap->Prop}:wunS AP d mk [] h Q ⟨⟩=Q h:=(rfl)
@[simp]theorem qo7{i:Nat}{r:List DefI}{Q:Heap->Prop}:wunS AP d mk (.mark i::r) h Q ⟨⟩=(h.get i=some .dfr/\mk<=i/\wunS AP d mk r (h.kill i) Q ⟨⟩):=(rfl)
def qm3(AP:Prog)(d:Bool)(mk:Nat)(rs:List Res)(Q:VH->Prop)(_:Ps (rs,Q))(r:OS):Prop:=match r.o with
 | .exit _=>False
 | _=>wunS AP d mk r.s.defs r.s.h (λh'=>OpS (results r.s.tm h' rs) (λv=>Q ⟨v,h'⟩) ⟨⟩) ⟨⟩
@[simp]theorem bodyQ_n{rs:List Res}{st:St}:qm3 AP d mk rs Q ⟨⟩ ⟨.normal,st⟩=wunS AP d mk st.defs st.h (λh'=>OpS (results st.tm h' rs) (λv=>Q ⟨v,h'⟩) ⟨⟩) ⟨⟩:=(rfl)
@[simp]theorem bodyQ_r{rs:List Res}{st:St}:qm3 AP d mk rs Q ⟨⟩ ⟨.ret,st⟩=wunS AP d mk st.defs st.h (λh'=>OpS (results st.tm h' rs) (λv=>Q ⟨v,h'⟩) ⟨⟩) ⟨⟩:=(rfl)
theorem qef{F:IFn}(c:IC)(rs:List Res)(hc:F.body=c)(hr:F.res=rs)(h1:wk AP d mk c [] ⟨Tm.ofL 0 args .e,h,[],false⟩ (qm3 AP d mk rs Q ⟨⟩) ⟨⟩):wbody AP d mk F args h Q:=by
 subst hc hr;refine qcR F.body h1 λr h=>?_;unfold through qm3 at h;split at h
 ·exact h.elim
 ·rename_i hx;refine⟨?_,h⟩;cases e:r.o with
  | exit i=>exact(hx i e).elim
  | normal=>trivial
  | ret=>trivial
theorem WF.go{f:Nat}{first cap args:List V}{h:Heap}{Q:VH->Prop}(F:IFn)(c:IC)(rs:List Res)(hp:AP.prim f=none)(hF:AP.fn f=some F)(hpure:F.pure=false)(hl:Nat.ble (first++args++cap).length F.nt=true)(hc:F.body=c)(hr:F.res=rs)
  (h1:wk AP d mk c [] ⟨Tm.ofL 0 (first++args++cap) .e,h,[],false⟩ (qm3 AP d mk rs Q ⟨⟩) ⟨⟩):WF AP d mk (.fn f first cap) args h Q:=WF.fn hp hF hpure (Nat.le_of_ble_eq_true hl) (qef c rs hc hr h1)
theorem qBt{f:Nat}{first cap args:List V}{h:Heap}{v:V}(F:IFn)(c:IC)(rs:List Res)(hp:AP.prim f=none)(hF:AP.fn f=some F)(hpure:F.pure=true)(hl:Nat.ble (first++args++cap).length F.nt=true)(hc:F.body=c)(hr:F.res=rs)
  (h1:wk AP false h.n c [] ⟨Tm.ofL 0 (first++args++cap) .e,h,[],false⟩ (qm3 AP false h.n rs (λr=>freeze h.n r.h qat r.v=some v) ⟨⟩) ⟨⟩):WF AP d mk (.fn f first cap) args h λr=>r=⟨v,h⟩:=qBS hp hF hpure (Nat.le_of_ble_eq_true hl) (qef c rs hc hr h1)
end
@[simp]theorem ev_t{i:Nat}{tm:Tm}:(Opd.t i).ev tm=(gK i).run tm:=(rfl)
@[simp]theorem ev_c{v:V}{tm:Tm}:(Opd.c v).ev tm=v:=(rfl)
@[simp]theorem opds_nil{tm:Tm}:(qcE []).run tm=[]:=(rfl)
@[simp]theorem opds_cons{x:Opd}{l:List Opd}{tm:Tm}:(qcE (x::l)).run tm=x.ev tm::(qcE l).run tm:=(rfl)
attribute [simp] qgb gK_e
@[simp]theorem ofL_nil{i:Nat}{tm:Tm}:Tm.ofL i [] tm=tm:=(rfl)
@[simp]theorem ofL_cons{i:Nat}{v:V}{l:List V}{tm:Tm}:Tm.ofL i (v::l) tm=Tm.ofL (i+1) l ((sK i).run v tm):=(rfl)
@[simp]theorem qq5{p:Nat}{ps:List Nat}{a:V}{l:List V}{tm:Tm}:qdr tm (p::ps) (a::l)=qdr ((sK p).run a tm) ps l:=(rfl)
@[simp]theorem qsJ{l:List V}{tm:Tm}:qdr tm [] l=tm:=by cases l<;>rfl
attribute [simp] Nat.add_assoc
attribute [simp] qBp qBr qBq
theorem fw64{n:Int}(h : -9223372036854775808<=n)(h':n<=9223372036854775807):fw .i64 n=n:=by
 rw[qiI]; exact qij _ _ h h'
theorem fw8{n:Int}(h:0<=n)(h':n<=255):fw .u8 n=n:=by
 rw[qiI]; exact qij _ _ h h'
attribute [simp] qgZ qgP qek qf0
theorem qqo{a b:Nat}(h:a<b):Nat.blt a b=true:=by rw[Nat.blt_eq]; exact h
theorem qqp{a b:Nat}(h:a<=b):Nat.ble a b=true:=by rw[Jat]; exact h
theorem qqe(m n:Int):cond (ltB m n) m n=min m n:=by rw[qgP,cond_eq_ite,Int.min_def]; simp only[Jai]; split<;>split<;>omega
theorem qqf(m n:Int):cond (ltB n m) m n=max n m:=by rw[qgP,cond_eq_ite,Int.max_def]; simp only[Jai]; split<;>split<;>omega
@[simp]theorem qss{a b:Nat}:Nat.blt a b=decide (a<b):=by rw[Bool.eq_iff_iff,Nat.blt_eq]; simp
@[simp]theorem qa3{a b:Nat}:Nat.ble a b=decide (a<=b):=by rw[Bool.eq_iff_iff,Jat]; simp
@[simp]theorem qkY{a b:Nat}:Nat.beq a b=decide (a=b):=by rw[Bool.eq_iff_iff,Jas]; simp
theorem qey{k:IntKind}{n:Int}{len:Nat}(h:0<=n)(h':n<len):idx (.int k n) len=some n.toNat:=by
 obtain⟨m,rfl⟩:=Int.eq_ofNat_of_zero_le h;have:m<len:=by omega
 show cond (Nat.blt m len) (some m) none=_;rw[qqo this]; rfl
theorem qaY{n:Int}{top:Nat}(h:0<=n)(h':n<=top):bnd n top=some n.toNat:=by
 obtain⟨m,rfl⟩:=Int.eq_ofNat_of_zero_le h;have:m<=top:=by omega
 show cond (Nat.ble m top) (some m) none=_;rw[qqp this]; rfl
section
variable {k l:IntKind}{a b:Int}
@[simp]theorem bin_add{k:IntKind}{a b:Int}:(binK .add).run (.int k a) (.int k b)=some (.int k (fw k (a+b))):=by
 simp[binK,addV]
@[simp]theorem bin_sub:(binK .sub).run (.int k a) (.int k b)=some (.int k (fw k (a-b))):=by
 simp[binK,ariV]
@[simp]theorem bin_mul:(binK .mul).run (.int k a) (.int k b)=some (.int k (fw k (a * b))):=by
 simp[binK,ariV]
theorem qsu(h:b≠0):(binK .quo).run (.int k a) (.int k b)=some (.int k (fw k (a.tdiv b))):=by
 simp[binK,ariV,h]
theorem qst(h:b≠0):(binK .rem).run (.int k a) (.int k b)=some (.int k (a.tmod b)):=by
 simp[binK,ariV,h]
@[simp]theorem qeG:(binK .and).run (.int k a) (.int k b)=some (.int k (fw k (BitVec.ofInt k.bits a &&& BitVec.ofInt k.bits b).toNat)):=by
 simp[binK,ariV]
@[simp]theorem qia:(binK .or).run (.int k a) (.int k b)=some (.int k (fw k (BitVec.ofInt k.bits a ||| BitVec.ofInt k.bits b).toNat)):=by
 simp[binK,ariV]
@[simp]theorem qea:(binK .andNot).run (.int k a) (.int k b)=some (.int k (fw k (BitVec.ofInt k.bits a &&& ~~~ BitVec.ofInt k.bits b).toNat)):=by
 simp[binK,ariV]
@[simp]theorem bin_eql:(binK .eql).run (.int k a) (.int k b)=some (.bool (decide (a=b))):=by
 simp[binK,eqV]
@[simp]theorem bin_neq:(binK .neq).run (.int k a) (.int k b)=some (.bool (decide (a≠b))):=by
 simp[binK,eqV]
@[simp]theorem bin_lss:(binK .lss).run (.int k a) (.int k b)=some (.bool (decide (a<b))):=by
 simp[binK,cmpV]
@[simp]theorem bin_leq:(binK .leq).run (.int k a) (.int k b)=some (.bool (decide (a<=b))):=by
 simp[binK,cmpV]
@[simp]theorem bin_gtr:(binK .gtr).run (.int k a) (.int k b)=some (.bool (decide (b<a))):=by
 simp[binK,cmpV]
@[simp]theorem bin_geq:(binK .geq).run (.int k a) (.int k b)=some (.bool (decide (b<=a))):=by
 simp[binK,cmpV]
@[simp]theorem un_not{c:Bool}:unV .not (.bool c)=some (.bool !c):=(rfl)
@[simp]theorem un_neg:unV .neg (.int k a)=some (.int k (fw k (0-a))):=(rfl)
end
section
variable {x y i c a:Opd}{tm:Tm}{h:Heap}
def pickV(c a b:V):Option V:=match c with
 | .bool t=>cond t (some a) (some b)
 | _=>none
@[simp]theorem qsR{t:Bool}{u v:V}:pickV (.bool t) u v=some (cond t u v):=by cases t<;>rfl
def ciV(k:IntKind)(v:V):Option V:=match v with
 | .int _ n=>some (.int k (fw k n))
 | _=>none
@[simp]theorem ciV_int{k l:IntKind}{n:Int}:ciV k (.int l n)=some (.int k (fw k n)):=(rfl)
def qoF(off:Nat)(v:V):Option V:=match v with
 | .ptr i r o=>some (.ptr i r (o+off))
 | .ptrR r o=>some (.ptrR r (o+off))
 | _=>none
@[simp]theorem qs0{off i r o:Nat}:qoF off (.ptr i r o)=some (.ptr i r (o+off)):=(rfl)
@[simp]theorem qsf{off o:Nat}{r:List V}:qoF off (.ptrR r o)=some (.ptrR r (o+off)):=(rfl)
def fldV(off:Nat)(n:Option Nat)(v:V):Option V:=match v with
 | .agg cs=>qca cs off n
 | _=>none
@[simp]theorem fldV_agg{off:Nat}{n:Option Nat}{cs:List V}:fldV off n (.agg cs)=qca cs off n:=(rfl)
def qaw(esz:Nat)(v i:V):Option V:=match v with
 | .sl id lo len e _=>cond (Nat.beq e esz) (match idx i len with
  | some j=>some (.ptr id (lo+j) 0)
  | none=>none) none
 | .slR rows _=>(match idx i rows.length with
  | some j=>(match nthR j rows with
   | some r=>cond (Nat.beq r.length esz) (some (.ptrR r 0)) none
   | none=>none)
  | none=>none)
 | _=>none
def qez(len esz:Nat)(v i:V):Option V:=match idx i len with
 | some j=>(match v with
  | .ptr id r o=>some (.ptr id r (o+j * esz))
  | .ptrR r o=>some (.ptrR r (o+j * esz))
  | _=>none)
 | none=>none
def qfF(len esz:Nat)(ag:Bool)(v i:V):Option V:=match v with
 | .agg cs=>(match idx i len with
  | some j=>qca cs (j * esz) (cond ag (some esz) none)
  | none=>none)
 | _=>none
def qp3(v i:V):Option V:=match v with
 | .str s=>(match idx i s.length with
  | some j=>(match s[j]? with
   | some c=>some (.int .u8 (.ofNat c.toNat))
   | none=>none)
  | none=>none)
 | _=>none
def extV(i:Nat)(v:V):Option V:=match v with
 | .tup vs=>nth i vs
 | _=>none
@[simp]theorem extV_tup{i:Nat}{vs:List V}:extV i (.tup vs)=nth i vs:=(rfl)
def asrtV(t:Nat)(ok:Bool)(zero v:V):Option V:=match v with
 | .iface u v=>cond (Nat.beq t u) (some (cond ok (.tup [v,.bool true]) v)) (cond ok (some (.tup [zero,.bool false])) none)
 | .nili=>cond ok (some (.tup [zero,.bool false])) none
 | _=>none
@[simp]theorem qsw{t u:Nat}{ok:Bool}{zero v:V}:asrtV t ok zero (.iface u v)=cond (Nat.beq t u) (some (cond ok (.tup [v,.bool true]) v)) (cond ok (some (.tup [zero,.bool false])) none):=(rfl)
def eqoV(neg:Bool)(o:Option Bool):Option V:=match o with
 | some b=>some (.bool (neg != b))
 | none=>none
@[simp]theorem eqoV_some{neg b:Bool}:eqoV neg (some b)=some (.bool (neg != b)):=(rfl)
def qqY(o:Option (List V)):Option V:=match o with
 | some l=>some (.agg l)
 | none=>none
@[simp]theorem qsq{l:List V}:qqY (some l)=some (.agg l):=(rfl)
def minV(v:V)(tm:Tm)(xs:List Opd):Option V:=match v with
 | .int k n=>qbS k tm n xs
 | _=>none
@[simp]theorem minV_int{k:IntKind}{n:Int}{xs:List Opd}:minV (.int k n) tm xs=qbS k tm n xs:=(rfl)
def maxV(v:V)(tm:Tm)(xs:List Opd):Option V:=match v with
 | .int k n=>qco k tm n xs
 | _=>none
@[simp]theorem maxV_int{k:IntKind}{n:Int}{xs:List Opd}:maxV (.int k n) tm xs=qco k tm n xs:=(rfl)
@[simp]theorem qsS{k:IntKind}{n:Int}:qbS k tm n []=some (.int k n):=(rfl)
@[simp]theorem qsT{k:IntKind}{n:Int}:qco k tm n []=some (.int k n):=(rfl)
def qol(v:V):Option Int:=match v with
 | .int _ n=>some n
 | _=>none
@[simp]theorem intOf_int{k:IntKind}{n:Int}:qol (.int k n)=some n:=(rfl)
theorem qer{k:IntKind}{n m:Int}{y:Opd}{r:List Opd}(h:qol (y.ev tm)=some m):qbS k tm n (y::r)=qbS k tm (min m n) r:=by
 show(match y.ev tm with|.int _ m=>qbS k tm (cond (ltB m n) m n) r|_=>none)=_;split
 ·rename_i e; rw[e]at h; cases h;rw[qqe]
 ·rename_i h1; exfalso; revert h h1; cases (y.ev tm)<;>simp[qol]
theorem qkw{k:IntKind}{n m:Int}{y:Opd}{r:List Opd}(h:qol (y.ev tm)=some m):qco k tm n (y::r)=qco k tm (max n m) r:=by
 show(match y.ev tm with|.int _ m=>qco k tm (cond (ltB n m) m n) r|_=>none)=_;split
 ·rename_i e; rw[e]at h; cases h;rw[qqf]
 ·rename_i h1; exfalso; revert h h1; cases (y.ev tm)<;>simp[qol]
@[simp]theorem P_mov:(qas (.mov x)).run tm=some (x.ev tm):=(rfl)
@[simp]theorem P_pick{b:Opd}:(qas (.pick c a b)).run tm=pickV (c.ev tm) (a.ev tm) (b.ev tm):=(rfl)
@[simp]theorem P_build{z:List V}{ps:List (Nat × Nat × Opd)}:(qas (.build z ps)).run tm=qqY (qbI z tm ps):=(rfl)
@[simp]theorem P_nilc:(qas (.nilc x)).run tm=qcT (x.ev tm):=(rfl)
@[simp]theorem P_bin{op:BinOp}:(qas (.bin op x y)).run tm=(binK op).run (x.ev tm) (y.ev tm):=(rfl)
@[simp]theorem P_eqo{neg:Bool}{k:EqK}:(qas (.eqo neg k x y)).run tm=eqoV neg (eqv k (x.ev tm) (y.ev tm)):=(rfl)
@[simp]theorem P_un{op:UnOp}:(qas (.un op x)).run tm=unV op (x.ev tm):=(rfl)
@[simp]theorem P_ci{k:IntKind}:(qas (.ci k x)).run tm=ciV k (x.ev tm):=(rfl)
@[simp]theorem P_mki{t:Nat}:(qas (.mki t x)).run tm=some (.iface t (x.ev tm)):=(rfl)
@[simp]theorem P_asrt{t:Nat}{ok:Bool}{z:V}:(qas (.asrt t ok z x)).run tm=asrtV t ok z (x.ev tm):=(rfl)
@[simp]theorem P_mkf{f:Nat}{p q:List Opd}:(qas (.mkf f p q)).run tm=some (.fn f ((qcE p).run tm) ((qcE q).run tm)):=(rfl)
@[simp]theorem P_slice{esz:Nat}{lo hi mx:Option Opd}:(qas (.slice esz x lo hi mx)).run tm=qaT esz (cutK lo hi mx) tm (x.ev tm):=(rfl)
@[simp]theorem P_faddr{off:Nat}:(qas (.faddr off a)).run tm=qoF off (a.ev tm):=(rfl)
@[simp]theorem P_fld{off:Nat}{n:Option Nat}:(qas (.fld off n x)).run tm=fldV off n (x.ev tm):=(rfl)
@[simp]theorem P_iaddr{esz:Nat}:(qas (.iaddr esz x i)).run tm=qaw esz (x.ev tm) (i.ev tm):=(rfl)
@[simp]theorem P_iaddrA{len esz:Nat}:(qas (.iaddrA len esz x i)).run tm=qez len esz (x.ev tm) (i.ev tm):=(rfl)
@[simp]theorem P_idxA{len esz:Nat}{ag:Bool}:(qas (.idxA len esz ag x i)).run tm=qfF len esz ag (x.ev tm) (i.ev tm):=(rfl)
@[simp]theorem P_idxS:(qas (.idxS x i)).run tm=qp3 (x.ev tm) (i.ev tm):=(rfl)
@[simp]theorem P_ext{j:Nat}:(qas (.ext j x)).run tm=extV j (x.ev tm):=(rfl)
@[simp]theorem P_min{xs:List Opd}:(qas (.min x xs)).run tm=minV (x.ev tm) tm xs:=(rfl)
@[simp]theorem P_max{xs:List Opd}:(qas (.max x xs)).run tm=maxV (x.ev tm) tm xs:=(rfl)
def qcp(n:Option Nat)(v:V)(h:Heap):Option V:=match v with
 | .ptr i r o=>(match h.get i with
  | some (.rows rs)=>(match nthR r rs with
   | some row=>qca row o n
   | none=>none)
  | _=>none)
 | .ptrR row o=>qca row o n
 | _=>none
@[simp]theorem qsU{n:Option Nat}{row:List V}{o:Nat}:qcp n (.ptrR row o) h=qca row o n:=(rfl)
def rowN(n:Option Nat)(o:Nat)(x:Option (List V)):Option V:=match x with
 | some row=>qca row o n
 | none=>none
@[simp]theorem rowN_some{n:Option Nat}{o:Nat}{row:List V}:rowN n o (some row)=qca row o n:=(rfl)
def loadAt(n:Option Nat)(r o:Nat)(x:Option Obj):Option V:=match x with
 | some (.rows rs)=>rowN n o rs[r]?
 | _=>none
@[simp]theorem qcq{n:Option Nat}{r o:Nat}{rs:List (List V)}:loadAt n r o (some (.rows rs))=rowN n o rs[r]?:=(rfl)
@[simp]theorem qdL{n:Option Nat}{i r o:Nat}:qcp n (.ptr i r o) h=loadAt n r o (h.get i):=by
 simp only[qcp];cases h.get i with
 | none=>rfl
 | some x=>cases x with
  | rows rs=>simp only[loadAt,qcS]; rfl
  | _=>rfl
def lenV(k:LK)(v:V)(h:Heap):Option V:=match k with
 | .str=>(match v with
  | .str s=>some (.int .i64 (.ofNat s.length))
  | _=>none)
 | .sl=>(match v with
  | .nils=>some (.int .i64 0)
  | .sl _ _ n _ _=>some (.int .i64 (.ofNat n))
  | .slR r _=>some (.int .i64 (.ofNat r.length))
  | _=>none)
 | .map=>(match v with
  | .nilm=>some (.int .i64 0)
  | .map i=>(match h.get i with
   | some (.map es _)=>some (.int .i64 (.ofNat es.length))
   | _=>none)
  | _=>none)
@[simp]theorem lenV_nils:lenV .sl .nils h=some (.int .i64 0):=(rfl)
@[simp]theorem lenV_sl{id lo n e:Nat}{f:Bool}:lenV .sl (.sl id lo n e f) h=some (.int .i64 n):=(rfl)
@[simp]theorem lenV_slR{rs:List (List V)}{f:Bool}:lenV .sl (.slR rs f) h=some (.int .i64 rs.length):=(rfl)
@[simp]theorem lenV_str{s:List UInt8}:lenV .str (.str s) h=some (.int .i64 s.length):=(rfl)
def qmG(kn:KK)(zero:V)(ok:Bool)(m k:V)(h:Heap):Option V:=cond (qbX kn k) (match m with
  | .nilm=>some (cond ok (.tup [zero,.bool false]) zero)
  | .map i=>(match h.get i with
   | some (.map es _)=>(match qcz k es 0 with
    | some (some r)=>some (cond ok (.tup [r.2,.bool true]) r.2)
    | some none=>some (cond ok (.tup [zero,.bool false]) zero)
    | none=>none)
   | _=>none)
  | _=>none) none
@[simp]theorem R_load{n:Option Nat}:(qbc (.load n a)).run tm h=qcp n (a.ev tm) h:=(rfl)
@[simp]theorem R_len{k:LK}:(qbc (.len k x)).run tm h=lenV k (x.ev tm) h:=(rfl)
@[simp]theorem R_lookup{kn:KK}{z:V}{ok:Bool}{m k:Opd}:(qbc (.lookup kn z ok m k)).run tm h=qmG kn z ok (m.ev tm) (k.ev tm) h:=(rfl)
end
section
variable {tm:Tm}
@[simp] def boxM(n:Nat)(vs:List V):Option Made:=cond (decide (vs.length=n)&&decide (0<n)) (some (.obj (.rows [vs]) λi=>.ptr i 0 0)) none
@[simp]theorem A_alloc{cells:List V}:(qbK (.alloc cells)).run tm=some (.obj (.rows [cells]) λi=>.ptr i 0 0):=(rfl)
@[simp]theorem A_box{n:Nat}{x:Opd}:(qbK (.box n x)).run tm=boxM n (x.ev tm).cells:=by simp[qbK,boxM]
@[simp]theorem A_mkm:(qbK .mkm).run tm=some (.obj (.map [] 0) .map):=(rfl)
@[simp]theorem A_bslice{ro:Bool}{zero:List V}{len:Nat}{ps:List (Nat × Opd)}:(qbK (.bslice ro zero len ps)).run tm=(match qaV zero.length (List.replicate len zero) tm ps with
  | some rows=>cond ro (some (.val (.slR rows true))) (some (.obj (.rows rows) λi=>.sl i 0 len zero.length true))
  | none=>none):=(rfl)
end
section
variable {tm:Tm}{h:Heap}{mk:Nat}{a x:Opd}
def qim(mk n i r o:Nat)(vs:List V)(h:Heap)(rs:List (List V))(row:Option (List V)):Option VH:=match row with
 | some row=>cond (decide (mk<=i)&&decide (vs.length=n)&&decide (0<n)&&decide (o+n<=row.length)&&ones vs) (some ⟨.any,h.set i (.rows (rs.set r (qbW row o vs)))⟩) none
 | none=>none
@[simp]theorem qpc{n i r o:Nat}{vs:List V}{rs:List (List V)}{row:List V}:qim mk n i r o vs h rs (some row)=cond (decide (mk<=i)&&decide (vs.length=n)&&decide (0<n)&&decide (o+n<=row.length)&&ones vs) (some ⟨.any,h.set i (.rows (rs.set r (qbW row o vs)))⟩) none:=(rfl)
def storeAt(mk n i r o:Nat)(vs:List V)(h:Heap)(ob:Option Obj):Option VH:=match ob with
 | some (.rows rs)=>qim mk n i r o vs h rs rs[r]?
 | _=>none
@[simp]theorem qqH{n i r o:Nat}{vs:List V}{rs:List (List V)}:storeAt mk n i r o vs h (some (.rows rs))=qim mk n i r o vs h rs rs[r]?:=(rfl)
def qqG(mk n:Nat)(a:V)(vs:List V)(h:Heap):Option VH:=match a with
 | .ptr i r o=>storeAt mk n i r o vs h (h.get i)
 | _=>none
@[simp]theorem qmc{n i r o:Nat}{vs:List V}:qqG mk n (.ptr i r o) vs h=storeAt mk n i r o vs h (h.get i):=(rfl)
@[simp]theorem W_store{n:Nat}:(qay (.store n a x)).run mk tm h=qqG mk n (a.ev tm) (x.ev tm).cells h:=by
 simp only[qay];cases a.ev tm with
 | ptr i r o =>
  simp only[qmc];cases h.get i with
  | none=>rfl
  | some ob=>cases ob with
   | rows rs =>
    simp only[storeAt,qcS,qss,qa3,qkY];cases rs[r]?<;>rfl
   | _=>rfl
 | _=>rfl
@[simp]theorem ones_nil:ones []=true:=(rfl)
@[simp]theorem ones_cons{v:V}{l:List V}:ones (v::l)=(v.one&&ones l):=(rfl)
@[simp]theorem one_int{k:IntKind}{n:Int}:(V.int k n).one=true:=(rfl)
@[simp]theorem one_bool{b:Bool}:(V.bool b).one=true:=(rfl)
@[simp]theorem one_str{b:List UInt8}:(V.str b).one=true:=(rfl)
@[simp]theorem one_nils:V.nils.one=true:=(rfl)
@[simp]theorem one_sl{id lo n e:Nat}{f:Bool}:(V.sl id lo n e f).one=true:=(rfl)
@[simp]theorem one_slR{rs:List (List V)}{f:Bool}:(V.slR rs f).one=true:=(rfl)
@[simp]theorem one_ptr{i r o:Nat}:(V.ptr i r o).one=true:=(rfl)
@[simp]theorem one_map{i:Nat}:(V.map i).one=true:=(rfl)
@[simp]theorem one_fn{f:Nat}{p q:List V}:(V.fn f p q).one=true:=(rfl)
@[simp]theorem one_yld{i:Nat}:(V.yld i).one=true:=(rfl)
@[simp]theorem one_nilf:V.nilf.one=true:=(rfl)
end
@[simp]theorem nth_zero{v:V}{l:List V}:nth 0 (v::l)=some v:=(rfl)
@[simp]theorem nth_succ{i:Nat}{v:V}{l:List V}:nth (i+1) (v::l)=nth i l:=(rfl)
@[simp]theorem qsW{row:List V}{o:Nat}:qca row o none=nth o row:=(rfl)
@[simp]theorem qsV{row:List V}{o n:Nat}:qca row o (some n)=cond (decide (o+n<=row.length)) (some (.agg ((row.drop o).take n))) none:=by
 simp[qca]
@[simp]theorem qse{cells:List V}{tm:Tm}:qbI cells tm []=some cells:=(rfl)
@[simp]theorem qqX{cells:List V}{tm:Tm}{off size:Nat}{x:Opd}{r:List (Nat × Nat × Opd)}:qbI cells tm ((off,size,x)::r)=cond (decide ((x.ev tm).cells.length=size)&&decide (0<size)&&decide (off+size<=cells.length)) (qbI (qbW cells off (x.ev tm).cells) tm r) none:=by simp[qbI]
@[simp]theorem cells_agg{cs:List V}:(V.agg cs).cells=cs:=(rfl)
@[simp]theorem cells_int{k:IntKind}{n:Int}:(V.int k n).cells=[.int k n]:=(rfl)
@[simp]theorem qs2{b:Bool}:(V.bool b).cells=[.bool b]:=(rfl)
@[simp]theorem cells_str{s:List UInt8}:(V.str s).cells=[.str s]:=(rfl)
@[simp]theorem qs1:V.nils.cells=[.nils]:=(rfl)
@[simp]theorem cells_sl{id lo n e:Nat}{f:Bool}:(V.sl id lo n e f).cells=[.sl id lo n e f]:=(rfl)
@[simp]theorem cells_slR{rs:List (List V)}{f:Bool}:(V.slR rs f).cells=[.slR rs f]:=(rfl)
@[simp]theorem cells_ptr{i r o:Nat}:(V.ptr i r o).cells=[.ptr i r o]:=(rfl)
@[simp]theorem cells_map{i:Nat}:(V.map i).cells=[.map i]:=(rfl)
@[simp]theorem cells_fn{f:Nat}{a b:List V}:(V.fn f a b).cells=[.fn f a b]:=(rfl)
@[simp]theorem cells_yld{i:Nat}:(V.yld i).cells=[.yld i]:=(rfl)
@[simp]theorem qsn{t:Nat}{v:V}:(V.iface t v).cells=[.iface t v]:=(rfl)
@[simp]theorem putAt_nil{row:List V}{o:Nat}:qbW row o []=row:=by cases row<;>rfl
@[simp]theorem qsQ{row:List V}{o:Nat}{v:V}{vs:List V}:qbW row o (v::vs)=qbW (row.set o v) (o+1) vs:=by cases row<;>rfl
def qpi(o:Option V)(w:V):Bool:=match o with
 | some v=>V.beq v w
 | none=>false
@[simp]theorem qsL{v w:V}:qpi (some v) w=V.beq v w:=(rfl)
def qgg(i:Option Ins)(h:Option Heap)(tm:Tm):Bool:=match i,h with
 | some i,some h =>
  match i.op,i.dst with
  | .r o,some d =>
   let same:=match (qbc o).run tm h with
    | some v=>V.beq v ((gK d).run tm)
    | none=>false
   (match i.guard with
   | none=>same
   | some g=>match (gK g.1).run tm with
    | .bool c=>cond (c == g.2) same true
    | .tup []=>true
    | _=>false)
  | _,_=>false
 | _,_=>false
@[simp]theorem qsN{l:List Ins}{tm:Tm}{hs:List Heap}{c:Nat × Nat}:recheck l tm hs c=qgg l[c.1]? hs[c.2]? tm:=(rfl)
@[simp]theorem qsO{d:Nat}{o:RdO}{h:Heap}{tm:Tm}:qgg (some (Pr.i d (.r o))) (some h) tm=qpi ((qbc o).run tm h) ((gK d).run tm):=(rfl)
attribute [simp] V.beq_refl
section
variable {l:List Ins}{tm:Tm}{hs:List Heap}{c:Nat × Nat}{chk:List (Nat × Nat)}
@[simp]theorem reAll_nil:qA4 AP mk [] l tm hs=True:=by simp[qA4]
@[simp]theorem qBo:qA4 AP mk (c::chk) l tm hs=(reP AP mk l tm hs c/\qA4 AP mk chk l tm hs):=by simp[qA4]
theorem qBj{f d:Nat}{args:List Opd}{h:Heap}(hl:l[c.1]?=some (Pr.i d (.callP f args)))(hh:hs[c.2]?=some h)(h1:One AP mk f ((qcE args).run tm) h ((gK d).run tm)):reP AP mk l tm hs c:=by
 unfold reP; rw[hl,hh]; exact h1
theorem qA6{d:Nat}{o:RdO}{h:Heap}{v:V}(hl:l[c.1]?=some (Pr.i d (.r o)))(hh:hs[c.2]?=some h)(h1:(qbc o).run tm h=some v)(h2:(gK d).run tm=v):reP AP mk l tm hs c:=by
 unfold reP; rw[hl,hh]; show recheck l tm hs c=true; rw[qsN,hl,hh,qsO,h1,h2]; exact V.beq_refl v
end
section
variable {tm:Tm}{h:Heap}{mk:Nat}
@[simp]theorem qrG:results tm h []=some (.tup []):=(rfl)
@[simp]theorem qrF{t:Nat}:results tm h [.tm t]=some ((gK t).run tm):=(rfl)
@[simp]theorem qrE{t s:Nat}:results tm h [.tm t,.tm s]=some (.tup [(gK t).run tm,(gK s).run tm]):=(rfl)
@[simp]theorem qpu{t s u:Nat}:results tm h [.tm t,.tm s,.tm u]=some (.tup [(gK t).run tm,(gK s).run tm,(gK u).run tm]):=(rfl)
@[simp]theorem qsb{b:Bool}:freeze mk h qat (.bool b)=some (.bool b):=(rfl)
@[simp]theorem qsZ{k:IntKind}{n:Int}:freeze mk h qat (.int k n)=some (.int k n):=(rfl)
@[simp]theorem qsY{s:List UInt8}:freeze mk h qat (.str s)=some (.str s):=(rfl)
@[simp]theorem qr8:freeze mk h qat .nils=some .nils:=(rfl)
@[simp]theorem qr7:freeze mk h qat (.tup [])=some (.tup []):=(rfl)
@[simp]theorem qsa{k l:IntKind}{n m:Int}:freeze mk h qat (.tup [.int k n,.int l m])=some (.tup [.int k n,.int l m]):=(rfl)
@[simp]theorem qr9{k:IntKind}{n:Int}{b:Bool}:freeze mk h qat (.tup [.int k n,.bool b])=some (.tup [.int k n,.bool b]):=(rfl)
end
def lat{α : Type} [Inhabited α] (l:List α)(i:Nat) : α:=l[i]!
inductive Sl (α : Type) where
 | nil
 | of (l:List α)
 | full (l:List α)
def Sl.l{α : Type}:Sl α->List α
 | .nil=>[]
 | .of l=>l
 | .full l=>l
def Sl.enc{α : Type}(f : α->List V):Sl α->V
 | .nil=>.nils
 | .of l=>.slR (l.map f) false
 | .full l=>.slR (l.map f) true
instance {α : Type}:Inhabited (Sl α):=⟨.nil⟩
structure Rg where
 lo:Int
 hi:Int
instance:Inhabited Rg:=⟨0,0⟩
def Rg.cells(r:Rg):List V:=[.int .i64 r.lo,.int .i64 r.hi]
structure Sy where
 kind:Int
 r:Sl Rg
 n:Int
instance:Inhabited Sy:=⟨0,.nil,0⟩
def Sy.cells(s:Sy):List V:=[.int .i64 s.kind,s.r.enc Rg.cells,.int .i64 s.n]
structure Pd where
 a:Sl (Sl Sy)
 marks:Int
 no:Sl Rg
instance:Inhabited Pd:=⟨.nil,0,.nil⟩
def qaK(l:Sl Sy):List V:=[l.enc Sy.cells]
def Pd.cells(p:Pd):List V:=[p.a.enc qaK,.int .i64 p.marks,p.no.enc Rg.cells]
structure Gr where
 p:Sl Pd
 keys:Sl (List UInt8)
def qac(s:List UInt8):List V:=[.str s]
def Gr.cells(g:Gr):List V:=[g.p.enc Pd.cells,g.keys.enc qac]
def qak(c:UInt8):List V:=[.int .u8 c.toNat]
def qaM(n:Int):List V:=[.int .i64 n]
@[simp]theorem len_Rg{r:Rg}:r.cells.length=2:=(rfl)
@[simp]theorem len_Sy{r:Sy}:r.cells.length=3:=(rfl)
@[simp]theorem len_alt{r:Sl Sy}:(qaK r).length=1:=(rfl)
@[simp]theorem len_Pd{r:Pd}:r.cells.length=3:=(rfl)
@[simp]theorem len_Gr{r:Gr}:r.cells.length=2:=(rfl)
@[simp]theorem len_byte{r:UInt8}:(qak r).length=1:=(rfl)
@[simp]theorem len_int{r:Int}:(qaM r).length=1:=(rfl)
@[simp]theorem cells_enc{α : Type}{f : α->List V}{s:Sl α}:(s.enc f).cells=[s.enc f]:=by cases s<;>rfl
@[simp]theorem qtx{α : Type}{f : α->List V}{s:Sl α}:(s.enc f).one=true:=by cases s<;>rfl
@[simp]theorem qEp{α : Type}:(Sl.nil:Sl α).l=[]:=(rfl)
@[simp]theorem l_of{α : Type}{l:List α}:(Sl.of l).l=l:=(rfl)
@[simp]theorem qlE{α : Type}{l:List α}:(Sl.full l).l=l:=(rfl)
@[simp]theorem lenV_enc{α : Type}{f : α->List V}{s:Sl α}{h:Heap}:lenV .sl (s.enc f) h=some (.int .i64 s.l.length):=by
 cases s<;>simp[Sl.enc]
theorem qap{α : Type} [Inhabited α] {f : α->List V}{s:Sl α}{k:IntKind}{n:Int}{esz:Nat}(h0:0<=n)(h1:n<s.l.length)(he:∀a,(f a).length=esz) :
  qaw esz (s.enc f) (.int k n)=some (.ptrR (f (lat s.l n.toNat)) 0):=by
 cases s with
 | nil=>simp at h1; omega
 | of l =>
  simp only[l_of]at h1;have h2:n.toNat<l.length:=by omega
  have h3:idx (.int k n) l.length=some n.toNat:=qey h0 h1;simp only[Sl.enc,qaw,List.length_map,h3,qcS,List.getElem?_map,l_of];rw[Jal h2];simp[he,lat,getElem!_pos,h2]
 | full l =>
  simp only[qlE]at h1;have h2:n.toNat<l.length:=by omega
  have h3:idx (.int k n) l.length=some n.toNat:=qey h0 h1;simp only[Sl.enc,qaw,List.length_map,h3,qcS,List.getElem?_map,qlE];rw[Jal h2];simp[he,lat,getElem!_pos,h2]
@[simp]theorem rows_enc{α : Type}{f : α->List V}{s:Sl α}{h:Heap}:qal h (s.enc f)=some (s.l.map f):=by
 cases s<;>simp[Sl.enc,qal]
section
variable {k:IntKind}{n:Int}
@[simp]theorem qe7{s:Sl Rg}(h0:0<=n)(h1:n<s.l.length):qaw 2 (s.enc Rg.cells) (.int k n)=some (.ptrR (lat s.l n.toNat).cells 0):=qap h0 h1 λ_=>rfl
@[simp]theorem qz7{s:Sl Sy}(h0:0<=n)(h1:n<s.l.length):qaw 3 (s.enc Sy.cells) (.int k n)=some (.ptrR (lat s.l n.toNat).cells 0):=qap h0 h1 λ_=>rfl
@[simp]theorem qoq{s:Sl (Sl Sy)}(h0:0<=n)(h1:n<s.l.length):qaw 1 (s.enc qaK) (.int k n)=some (.ptrR (qaK (lat s.l n.toNat)) 0):=qap h0 h1 λ_=>rfl
@[simp]theorem qbg{s:Sl Pd}(h0:0<=n)(h1:n<s.l.length):qaw 3 (s.enc Pd.cells) (.int k n)=some (.ptrR (lat s.l n.toNat).cells 0):=qap h0 h1 λ_=>rfl
@[simp]theorem qmM{s:Sl UInt8}(h0:0<=n)(h1:n<s.l.length):qaw 1 (s.enc qak) (.int k n)=some (.ptrR (qak (lat s.l n.toNat)) 0):=qap h0 h1 λ_=>rfl
@[simp]theorem qe6{s:Sl Int}(h0:0<=n)(h1:n<s.l.length):qaw 1 (s.enc qaM) (.int k n)=some (.ptrR (qaM (lat s.l n.toNat)) 0):=qap h0 h1 λ_=>rfl
end
theorem qai{α : Type} [Inhabited α] {l:List α}{i:Nat}(h:i<l.length):lat l i∈l:=by
 unfold lat; rw[getElem!_pos l i h]; exact List.getElem_mem h
theorem lat_eq{α : Type} [Inhabited α] {l:List α}{i:Nat}(h:i<l.length):lat l i=l[i]:=by
 unfold lat; rw[getElem!_pos l i h]
theorem qaz{α : Type} [Inhabited α] {l:List α}{i:Nat}(h:i<l.length):l[i]?=some (lat l i):=by
 rw[lat_eq h,Jal h]
def IsI(v:V):Prop:=∃n,v=.int .i64 n
@[simp]theorem isI_int{n:Int}:IsI (.int .i64 n):=⟨n,rfl⟩
end Go.Abs

namespace Go.Abs.Pr
open Go Go.Abs
def b426:IC :=(sq [bf 2] (sq [ca 14 429 [],mv 3 14] (sq [ca 16 10 [(qz [37,32,34,105,102,34,32,34,100,111,34,59,32,97,32,61,32,119,32,40,34,32,34,32,119,41,42,59,32,64,108,111,110,103,32,64,114,101,115,32,119,32,61,32,91,97,45,122,93,43,59])],mv 15 16,ex 17 0 15,ex 18 1 15,ex 19 2 15,qw 4 [.nils,.nils],sT 2 4 17,mv 5 18,mv 6 19] (sq [i 20 (.a (.bslice true [.str []] 7 [(0,(qz [105,102])),(1,(qz [105])),(2,(qz [105,102,102])),(3,(qz [100,111])),(4,(qz [120])),(5,(qz [100,111,100,111])),(6,(qz [105,100]))]) none),mv 7 20] (.seq (sq [mv 21 3,nt 22 21,mv 23 22,eM 24 23 0,eN 25 23 24,eC 26 23 .lss 25 1,oP 27 23 26,mv 28 27,eM 29 28 0,eN 30 28 29,eC 31 28 .gtr 30 5,oP 32 28 31] (qQ 32 [mv 33 3,mv 2 33])) (sq [i 8 (.p (.mov qx))] (sq [bt 9] (.seq (sq [ki 10 0] (.block 0 (.loop (.seq (sq [mv 34 10,mv 35 0,ln 36 35,b2 37 .lss 34 36] (qv 37 0)) (.seq (.block 1 (.seq (sq [mv 40 0,mv 41 10,ia 42 1 40 41,ld 43 42,bk 44 .lss 43 0,mv 45 44,eM 46 45 0,eM 47 45 10,eI 48 45 1 46 47,eL 49 45 48,eM 50 45 7,eN 51 45 50,eB 52 45 .geq 49 51,oP 53 45 52] (qQ 53 [bt 2])) (.seq (sq [mv 54 10,bk 55 .gtr 54 0] (co 55 [mv 56 8,i 57 (.p (.bin .add (.t 56) (qz [32]))),mv 8 57])) (sq [mv 58 8,mv 59 7,mv 60 0,mv 61 10,ia 62 1 60 61,ld 63 62,ia 64 1 59 63,ld 65 64,b2 66 .add 58 65,mv 8 66] (.ops [mv 67 9,mv 68 67,gM 69 68 0,gM 70 68 10,gI 71 68 1 69 70,gL 72 68 71,gC 73 68 .neq 72 0,aP 74 68 73,mv 75 74,gM 76 75 0,gM 77 75 10,gI 78 75 1 76 77,gL 79 75 78,gC 80 75 .neq 79 3,aP 81 75 80,mv 9 81]))))) (.ops [mv 38 10,bk 39 .add 38 1,mv 10 39])))))) (sq [lg 83 2 4,mv 84 8,i 85 (.a (.s2b true (.t 84)) none),bu 86 [.nils,.nils,.nils,qj,.bool false] [(0,2,.t 83),(2,1,.t 85),(3,1,(kc 8))],ca 87 430 [.t 86,(kc 1099511627776)],mv 82 87,ex 88 0 82,ex 89 1 82,qw 11 [qj,.nils,qj],sT 3 11 88,mv 12 89] (sq [ki 13 0] (.seq (sq [mv 90 9] (co 90 [ki 13 1])) (sq [mv 91 6,bk 92 .eql 91 0,mv 93 92,gM 94 93 12,gC 95 93 .eql 94 0,aP 96 93 95,mv 97 96,gF 98 97 0 11,gL 99 97 98,gM 100 97 13,gB 101 97 .eql 99 100,aP 102 97 101,mv 2 102] .ret))))))))))))
def f426:IFn:=⟨false,103,[.tm 2],b426⟩
def b429:IC :=(sq [bf 0] (sq [i 11 (.a (.bslice false [.int .u8 0] 1 [(0,(.c (.int .u8 120)))]) none),i 12 (.w (.same (.t 11))),ca 13 432 [(qz [97,32,61,32,34,120,34,59]),.t 12,(kc 8),(kc 100)],mv 10 13,ex 14 0 10,ex 15 1 10,ex 16 2 10,qw 1 [qj,.nils,qj],sT 3 1 14,mv 2 15,mv 3 16] (sq [i 18 (.a (.bslice false [.int .u8 0] 1 [(0,(.c (.int .u8 121)))]) none),i 19 (.w (.same (.t 18))),ca 20 432 [(qz [97,32,61,32,34,120,34,59]),.t 19,(kc 8),(kc 100)],mv 17 20,ex 21 0 17,ex 22 1 17,ex 23 2 17,qw 4 [qj,.nils,qj],sT 3 4 21,mv 5 22,mv 6 23] (sq [i 25 (.a (.bslice false [.int .u8 0] 1 [(0,(.c (.int .u8 120)))]) none),i 26 (.w (.same (.t 25))),ca 27 432 [(qz [97,32,61,32,34,120,34,59]),.t 26,(kc 8),(kc 0)],mv 24 27,ex 28 0 24,ex 29 1 24,ex 30 2 24,qw 7 [qj,.nils,qj],sT 3 7 28,mv 8 29,mv 9 30] (sq [mv 31 3,bk 32 .eql 31 0,mv 33 32,gM 34 33 2,gC 35 33 .eql 34 8,aP 36 33 35,mv 37 36,gF 38 37 0 1,gL 39 37 38,gC 40 37 .eql 39 1,aP 41 37 40,mv 42 41,gF 43 42 1 1,gL 44 42 43,gN 45 42 44,gC 46 42 .eql 45 1,aP 47 42 46,mv 48 47,gF 49 48 2 1,gL 50 48 49,gC 51 48 .eql 50 1,aP 52 48 51,mv 53 52,gM 54 53 6,gC 55 53 .eql 54 0,aP 56 53 55,mv 57 56,gF 58 57 0 4,gL 59 57 58,gC 60 57 .eql 59 0,aP 61 57 60,mv 62 61,gM 63 62 9,gC 64 62 .eql 63 0,aP 65 62 64,mv 66 65,gF 67 66 0 7,gL 68 66 67,gC 69 66 .eql 68 3,aP 70 66 69,mv 71 70,gG 72 71 3 1,gG 73 71 3 1,gt 74 71 (.call (.dir 433) [.t 72,.t 73] false),aP 75 71 74,mv 0 75] .ret)))))
def f429:IFn:=⟨true,76,[.tm 0],b429⟩
def b10:IC :=(sq [qw 2 [.nils,.nils],ki 3 0,ki 4 0] (sq [mv 11 0,ca 12 15 [.t 11],mv 10 12,ex 13 0 10,ex 14 1 10,ex 15 2 10,qw 5 [.nils,.nils],sT 2 5 13,mv 6 14,mv 7 15] (.seq (sq [mv 16 7,bk 17 .neq 16 0] (qQ 17 [bu 18 [.nils,.nils] [],mv 19 6,mv 20 7,sT 2 2 18,mv 3 19,mv 4 20])) (sq [lg 22 2 5,ca 23 16 [.t 22],mv 21 23,ex 24 0 21,ex 25 1 21,ex 26 2 21,qw 8 [.nils,.nils],sT 2 8 24,mv 6 25,mv 7 26] (.seq (sq [mv 27 7,bk 28 .neq 27 0] (qQ 28 [bu 29 [.nils,.nils] [],mv 30 6,mv 31 7,sT 2 2 29,mv 3 30,mv 4 31])) (sq [lg 33 2 8,ca 34 17 [.t 33],mv 32 34,ex 35 0 32,ex 36 1 32,mv 9 35,mv 7 36] (.seq (.block 0 (sq [mv 38 7,bk 39 .eql 38 0,mv 37 39] (cd 37 (sq [lg 40 2 8,mv 41 0,lS 42 41,sT 2 2 40,mv 3 42,ki 4 0] .ret) (sq [mv 44 9,fa 45 1 5,ld 46 45,ln 47 46,b2 48 .lss 44 47,mv 43 48] (cd 43 (.seq (.dops 0 [(2,9),(6,9)] [bu 49 [.nils,.nils] [],fa 50 1 5,ld 51 50,mv 52 9,ia 53 9 51 52,fa 54 8 53,ld 55 54,mv 56 7,sT 2 2 49,mv 3 55,mv 4 56]) .ret) .skip))))) (sq [bu 57 [.nils,.nils] [],mv 58 7,sT 2 2 57,ki 3 0,mv 4 58] .ret))))))))
def f10:IFn:=⟨true,59,[.cell (some 2) 2,.tm 3,.tm 4],b10⟩
def b430:IC :=(sq [bx 2 5 0,qw 4 [qj,.nils,qj],ki 5 0] (sq [fa 8 4 2,n (.w (.store 1 (.t 8) (.c (.bool false))))] (.seq (.block 0 (sq [fa 10 2 2,ld 11 10,ln 12 11,bk 13 .gtr 12 200,mv 9 13] (cd 9 (sq [bu 14 [qj,.nils,qj] [],sT 3 4 14,ki 5 13] .ret) (.seq (sq [mv 16 1,bk 17 .lss 16 0,mv 15 17] (cd 15 .skip (.ops [lg 18 5 2,ca 19 312 [.t 18],nt 20 19,mv 15 20]))) (qQ 15 [bu 21 [qj,.nils,qj] [],sT 3 4 21,ki 5 1]))))) (sq [lg 22 5 2,ca 23 316 [.t 22],mv 6 23] (.seq (sq [mv 24 6,mv 25 1,b2 26 .gtr 24 25] (qQ 26 [mv 27 1,bu 28 [qj,.nils,qj] [(0,1,(kc 3)),(2,1,.t 27)],sT 3 4 28,ki 5 0])) (.seq (.dopc [(0,5),(1,5),(2,5)] [i 29 (.callP 434 []),lg 30 5 2,i 31 (.callP 388 [.t 30]),i 32 (.p (.idxA 3 2 true (.t 29) (.t 31))),qw 7 [qj,.nilf],sT 2 7 32]) (.seq (.dops 0 [(1,6)] [fa 33 0 7,ld 34 33,fa 35 1 7,ld 36 35,lg 37 5 2,i 38 (.call (.val (.t 36)) [.t 37] false),mv 39 6,bu 40 [qj,.nils,qj] [(0,1,.t 34),(1,1,.t 38),(2,1,.t 39)],sT 3 4 40,ki 5 0]) .ret)))))))
def f430:IFn:=⟨true,41,[.cell (some 3) 4,.tm 5],b430⟩
def b432:IC :=(sq [qw 8 [qj,.nils,qj],ki 9 0,ki 10 0] (sq [mv 16 0,ca 17 10 [.t 16],mv 15 17,ex 18 0 15,ex 19 1 15,ex 20 2 15,qw 11 [.nils,.nils],sT 2 11 18,mv 12 19,mv 13 20] (.seq (sq [mv 21 13,bk 22 .neq 21 0] (qQ 22 [bu 23 [qj,.nils,qj] [],mv 24 12,mv 25 13,sT 3 8 23,mv 9 24,mv 10 25])) (sq [lg 27 2 11,mv 28 1,mv 29 2,bu 30 [.nils,.nils,.nils,qj,.bool false] [(0,2,.t 27),(2,1,.t 28),(3,1,.t 29)],mv 31 3,ca 32 430 [.t 30,.t 31],mv 26 32,ex 33 0 26,ex 34 1 26,qw 14 [qj,.nils,qj],sT 3 14 33,mv 13 34] (.seq (sq [mv 35 13,bk 36 .neq 35 0] (co 36 [ki 12 0])) (sq [lg 37 3 14,mv 38 12,mv 39 13,sT 3 8 37,mv 9 38,mv 10 39] .ret))))))
def f432:IFn:=⟨true,40,[.cell (some 3) 8,.tm 9,.tm 10],b432⟩
def b433:IC :=(sq [bx 2 3 0,bx 3 3 1,bf 4] (sq [fa 5 0 2,ld 6 5,fa 7 0 3,ld 8 7,b2 9 .eql 6 8,mv 10 9,gF 11 10 2 2,gL 12 10 11,gF 13 10 2 3,gL 14 10 13,gB 15 10 .eql 12 14,aP 16 10 15,mv 17 16,gF 18 17 1 2,gL 19 17 18,gF 20 17 1 3,gL 21 17 20,gt 22 17 (.call (.dir 437) [.t 19,.t 21] false),aP 23 17 22,mv 4 23] .ret))
def f433:IFn:=⟨true,24,[.tm 4],b433⟩
def b15:IC :=(sq [qw 2 [.nils,.nils],qw 3 [qj],qw 4 [qj]] (sq [mv 8 0,ca 9 25 [.t 8],mv 7 9,ex 10 0 7,ex 11 1 7,ex 12 2 7,mv 5 10,sT 1 3 11,sT 1 4 12] (.seq (sq [ld 13 4,bk 14 .neq 13 0] (cd 14 (.seq (.dops 0 [(1,4),(2,4),(2,5)] [lg 15 2 2,ld 16 3,ld 17 4,sT 2 2 15,sT 1 3 16,sT 1 4 17]) .ret) .skip)) (sq [i 18 (.p (.mkf 26 [] [.t 2,.t 3,.t 4])),n (.defer (.t 18))] (sq [mv 19 5,mv 20 0,lS 21 20,bu 22 [.nils,qj,qj] [(0,1,.t 19),(1,1,.t 21)],bx 23 3 22,mv 6 23] (sq [mv 24 6,ca 25 27 [.t 24],fa 26 0 2,sT 1 26 25] (.seq (.block 0 (.loop (.seq (sq [fa 27 1 2,ld 28 27,ln 29 28,bk 30 .eql 29 0,mv 31 30,eM 32 31 6,gf 33 31 (.p (.nilc (.t 32))),eF 34 31 0 33,eL 35 31 34,eN 36 31 35,eC 37 31 .gtr 36 0,oP 38 31 37] (qv 38 0)) (.block 1 (.dops 0 [(1,7)] [fa 39 1 2,ld 40 39,mv 41 6,fa 42 1 2,ld 43 42,ln 44 43,ca 45 28 [.t 41,.t 44],i 46 (.a (.bslice true [.str [],qj,qj,.str [],.nils,.nils,qj,.nils,qj] 1 [(0,.t 45)]) none),aD 47 9 136 40 46,fa 48 1 2,sT 1 48 47]))))) (sq [lg 49 2 2,mv 50 0,lS 51 50,sT 2 2 49,sT 1 3 51,n (.w (.store 1 (.t 4) (kc 0)))] .ret))))))))
def f15:IFn:=⟨false,52,[.cell (some 2) 2,.cell none 3,.cell none 4],b15⟩
def b16:IC :=(sq [bx 1 2 0,qw 2 [.nils,.nils],ki 3 0,ki 4 0] (sq [i 12 (.a (.mkm) none),bu 13 [.nilm,.nils,.nilp] [(0,1,.t 12)],bx 14 3 13,mv 5 14] (.seq (sq [fa 15 1 1,ld 16 15,ln 17 16,ki 18 0] (.block 0 (.loop (sq [b2 19 .lss 18 17] (.seq (qv 19 0) (.seq (.block 1 (sq [mv 20 18,ia 21 9 16 18,lg 22 9 21,i 7 (.a (.alloc [.str [],qj,qj,.str [],.nils,.nils,qj,.nils,qj]) none),mv 6 20,sT 9 7 22] (.seq (.seq (.dops 0 [] [mv 24 5,nc 25 24,fa 26 0 25,ld 27 26,fa 28 0 7,ld 29 28,i 30 (.r (.lookup (.one .str) (.int .i64 0) true (.t 27) (.t 29))),mv 23 30,ex 31 0 23,ex 32 1 23,mv 8 31,mv 9 32]) (sq [mv 33 9] (cd 33 (.seq (.dops 0 [(2,4)] [bu 34 [.nils,.nils] [],fa 35 8 7,ld 36 35,sT 2 2 34,mv 3 36,ki 4 6]) .ret) .skip))) (.seq (.dops 0 [] [mv 37 5,nc 38 37,fa 39 0 38,ld 40 39,fa 41 0 7,ld 42 41,mv 43 6,n (.w (.mupd (.one .str) (.t 40) (.t 42) (.t 43)))]) (.dops 0 [(4,10),(6,10)] [mv 44 5,mv 45 5,nc 46 45,fa 47 1 46,ld 48 47,fa 49 1 7,ld 50 49,fa 51 7 7,ld 52 51,ca 53 29 [.t 52],bu 54 [.nils,qj,.nils] [(1,1,.t 50),(2,1,.t 53)],i 55 (.a (.bslice true [.nils,qj,.nils] 1 [(0,.t 54)]) none),aD 56 3 56 48 55,nc 57 44,fa 58 1 57,sT 1 58 56]))))) (.ops [bk 59 .add 18 1,mv 18 59]))))))) (.seq (sq [fa 60 1 1,ld 61 60,ln 62 61,bk 63 .eql 62 0,mv 64 63,eF 65 64 1 1,eL 66 64 65,eN 67 64 66,eC 68 64 .gtr 67 60,oP 69 64 68] (qQ 69 [bu 70 [.nils,.nils] [],sT 2 2 70,ki 3 0,ki 4 7])) (.seq (sq [fa 71 1 1,ld 72 71,ln 73 72,ki 74 0] (.block 2 (.loop (sq [b2 75 .lss 74 73] (.seq (qv 75 2) (.seq (.block 3 (sq [mv 76 74,ia 77 9 72 74,lg 78 9 77,i 11 (.a (.alloc [.str [],qj,qj,.str [],.nils,.nils,qj,.nils,qj]) none),mv 10 76,sT 9 11 78] (sq [mv 79 5,nc 80 79,fa 81 2 80,ld 82 81,i 83 (.p (.eqo false .ptr (.t 82) (.c .nilp)))] (co 83 [mv 84 5,mv 85 10,fa 86 2 11,lg 87 5 86,ca 88 30 [.t 84,.t 85,.t 87]])))) (.ops [bk 89 .add 74 1,mv 74 89]))))))) (.seq (sq [mv 90 5,nc 91 90,fa 92 2 91,ld 93 92,i 94 (.p (.eqo true .ptr (.t 93) (.c .nilp)))] (cd 94 (.seq (.dops 0 [(4,16),(7,16),(11,16),(14,16)] [bu 95 [.nils,.nils] [],mv 96 5,nc 97 96,fa 98 2 97,ld 99 98,nc 100 99,fa 101 1 100,ld 102 101,mv 103 5,nc 104 103,fa 105 2 104,ld 106 105,nc 107 106,fa 108 0 107,ld 109 108,sT 2 2 95,mv 3 102,mv 4 109]) .ret) .skip)) (.seq (.dops 0 [(3,7)] [mv 110 5,nc 111 110,fa 112 1 111,ld 113 112,fa 114 0 1,ld 115 114,ca 116 31 [.t 115],bu 117 [.nils,.nils] [(0,1,.t 113),(1,1,.t 116)],sT 2 2 117,ki 3 0,ki 4 0]) .ret)))))))
def f16:IFn:=⟨false,118,[.cell (some 2) 2,.tm 3,.tm 4],b16⟩
def b17:IC :=(sq [bx 1 2 0,qw 2 [qj],qw 3 [qj]] (.seq (sq [lg 6 2 1,ca 7 32 [.t 6],nt 8 7] (qQ 8 [n (.w (.store 1 (.t 2) (kc 0))),n (.w (.store 1 (.t 3) (kc 1)))])) (.seq (sq [lg 9 2 1,ca 10 33 [.t 9]] (.block 0 (.rangeF (.t 10) [11,12] (sq [mv 4 11] (.ops [mv 5 12])) (.block 1 (sq [mv 13 4,mv 14 5,sT 1 2 13,sT 1 3 14] .ret))))) (sq [n (.w (.store 1 (.t 2) (kc (-1)))),n (.w (.store 1 (.t 3) (kc 0)))] .ret))))
def f17:IFn:=⟨true,15,[.cell none 2,.cell none 3],b17⟩
def b312:IC :=(sq [bx 1 5 0,bf 2] (sq [fa 6 0 1,lg 7 2 6,ca 8 17 [.t 7],mv 5 8,ex 9 0 5,ex 10 1 5,mv 3 9,mv 4 10] (sq [mv 11 4,bk 12 .eql 11 0,mv 13 12,gF 14 13 2 1,gL 15 13 14,gN 16 13 15,gC 17 13 .leq 16 200,aP 18 13 17,mv 19 18,gF 20 19 3 1,gL 21 19 20,gC 22 19 .geq 21 1,aP 23 19 22,mv 24 23,gF 25 24 3 1,gL 26 24 25,gC 27 24 .leq 26 16,aP 28 24 27,mv 2 28] .ret)))
def f312:IFn:=⟨true,29,[.tm 2],b312⟩
def b316:IC :=(sq [bx 1 5 0,ki 2 0] (.seq (sq [lg 4 5 1,ca 5 312 [.t 4],nt 6 5] (qQ 6 [ki 2 0])) (sq [lg 7 5 1,i 8 (.a (.mkm) none),bu 9 [.nils,.nils,.nils,qj,.bool false,.nilm] [(0,5,.t 7),(5,1,.t 8)],bx 10 6 9,mv 3 10] (sq [mv 11 3,bu 12 [qj,qj,qj] [(2,1,(kc (-1)))],ca 13 330 [.t 11,.t 12]] (sq [mv 14 3,nc 15 14,fa 16 5 15,ld 17 16,i 18 (.r (.len .map (.t 17))),mv 2 18] .ret)))))
def f316:IFn:=⟨true,19,[.tm 2],b316⟩
def b434:IC :=(sq [qw 0 [qj,.nilf,qj,.nilf,qj,.nilf]] (sq [bu 1 [qj,.nilf] [(0,1,(kc 0)),(1,1,(.c (.fn 438 [] [])))],bu 2 [qj,.nilf] [(0,1,(kc 1)),(1,1,(.c (.fn 439 [] [])))],bu 3 [qj,.nilf] [(0,1,(kc 2)),(1,1,(.c (.fn 439 [] [])))],bu 4 [qj,.nilf,qj,.nilf,qj,.nilf] [(0,2,.t 1),(2,2,.t 2),(4,2,.t 3)],sT 6 0 4] .ret))
def f434:IFn:=⟨true,5,[.cell (some 6) 0],b434⟩
def b388:IC :=(sq [bx 1 5 0,ki 2 0] (sq [lg 3 5 1,fa 4 2 1,ld 5 4,ln 6 5,ca 7 389 [.t 3,(kc 0),(kc 0),.t 6,(kc (-1))],mv 2 7] .ret))
def f388:IFn:=⟨true,8,[.tm 2],b388⟩
def b437:IC :=(sq [bf 4] (.seq (sq [mv 6 0,ln 7 6,mv 8 1,ln 9 8,b2 10 .neq 7 9] (qQ 10 [bf 4])) (.seq (sq [mv 11 0,ln 12 11,ki 13 0] (.block 0 (.loop (sq [b2 14 .lss 13 12] (.seq (qv 14 0) (.seq (.block 1 (sq [mv 15 13,mv 5 15] (.seq (.dops 0 [] [mv 16 0,mv 17 5,ia 18 4 16 17,lg 19 4 18,mv 20 1,mv 21 5,ia 22 4 20 21,lg 23 4 22,i 24 (.p (.eqo true (.struct [.int,.int,.int,.int]) (.t 19) (.t 23)))]) (qQ 24 [bf 4])))) (.ops [bk 25 .add 13 1,mv 13 25]))))))) (sq [bt 4] .ret))))
def f437:IFn:=⟨false,26,[.tm 4],b437⟩
def b25:IC :=(sq [ns 2,ki 3 0,ki 4 0] (.seq (sq [mv 12 0,lS 13 12,bk 14 .gtr 13 3000] (qQ 14 [ns 2,ki 3 0,ki 4 7])) (sq [mv 15 0,i 16 (.p (.build [.str [],qj] [(0,1,.t 15)])),bx 17 2 16,mv 5 17] (sq [ca 18 44 [],mv 6 18] (sq [ns 7] (.block 0 (.loop (.block 1 (sq [mv 19 5,mv 20 0,lS 21 20,mv 22 0,mv 23 5,nc 24 23,fa 25 1 24,ld 26 25,i 27 (.p (.sliceS (.t 22) (some (.t 26)) none)),ca 28 45 [.t 27,(qz [32,9,10,13])],lS 29 28,b2 30 .sub 21 29,nc 31 19,fa 32 1 31,sT 1 32 30] (sq [mv 33 5,nc 34 33,fa 35 1 34,ld 36 35,mv 8 36] (.seq (sq [mv 37 8,mv 38 0,lS 39 38,b2 40 .eql 37 39] (qQ 40 [mv 41 7,mv 42 0,lS 43 42,mv 2 41,mv 3 43,ki 4 0])) (sq [mv 44 6,mv 45 0,mv 46 8,i 47 (.p (.idxS (.t 45) (.t 46))),i 48 (.r (.lookup (.one .int) .nilf false (.t 44) (.t 47))),mv 9 48] (.seq (sq [mv 49 9,i 50 (.p (.eqo false .func (.t 49) (.c .nilf)))] (co 50 [i 9 (.p (.mov (.c (.fn 46 [] []))))])) (sq [mv 52 9,mv 53 5,i 54 (.call (.val (.t 52)) [.t 53] false),mv 51 54,ex 55 0 51,ex 56 1 51,i 10 (.a (.alloc [qj,.str [],.nils,qj]) none),sT 4 10 55,mv 11 56] (.seq (.block 2 (sq [mv 58 11,nt 59 58,mv 57 59] (cd 57 (sq [mv 60 8,ns 2,mv 3 60,ki 4 2] .ret) (sq [mv 62 7,ln 63 62,bk 64 .eql 63 600,mv 61 64] (qQ 61 [mv 65 8,ns 2,mv 3 65,ki 4 7]))))) (sq [mv 66 8,fa 67 3 10,sT 1 67 66] (.ops [mv 68 7,lg 69 4 10,i 70 (.a (.bslice true [qj,.str [],.nils,qj] 1 [(0,.t 69)]) none),aD 71 4 56 68 70,mv 7 71])))))))))))))))))
def f25:IFn:=⟨false,72,[.tm 2,.tm 3,.tm 4],b25⟩
def b26:IC :=(sq [i 6 (.recover)] (.block 0 (sq [i 8 (.p (.eqo false .iface (.t 6) (.c .nili)))] (cd 8 (.ops [mv 3 6]) (sq [i 9 (.p (.asrt 0 true (.agg [qj,qj]) (.t 6))),ex 10 1 9,ex 11 0 9] (cd 10 (sq [qw 4 [qj,qj],sT 2 4 11] (.dops 0 [(2,6),(4,6),(4,7)] [bu 12 [.nils,.nils] [],fa 13 1 4,ld 14 13,fa 15 0 4,ld 16 15,sT 2 0 12,sT 1 1 14,sT 1 2 16])) (sq [mv 5 6] (.ops [mv 7 5,n (.bad)]))))))))
def f26:IFn:=⟨false,17,[],b26⟩
def b27:IC :=(sq [ns 2] (sq [ns 3] (.seq (sq [mv 4 0,ca 5 47 [.t 4,(qz [37])],nt 6 5] (qQ 6 [mv 7 3,mv 2 7])) (sq [mv 8 3,mv 9 0,ca 10 48 [.t 9,(kc 1),qx],qy 11 1 10,i 12 (.a (.bslice true [.str []] 1 [(0,.t 11)]) none),aD 13 1 16 8 12,mv 3 13] (.seq (.block 0 (.loop (.seq (sq [mv 14 0,ca 15 49 [.t 14,(kc 1),qx]] (qv 15 0)) (.block 1 (.seq (sq [mv 16 3,ln 17 16,bk 18 .eql 17 8] (co 18 [mv 19 0,ca 20 50 [.t 19,(kc 7)]])) (.ops [mv 21 3,mv 22 0,ca 23 48 [.t 22,(kc 1),qx],qy 24 1 23,i 25 (.a (.bslice true [.str []] 1 [(0,.t 24)]) none),aD 26 1 16 21 25,mv 3 26])))))) (sq [mv 27 0,ca 28 48 [.t 27,(kc 4),(qz [59])]] (sq [mv 29 3,mv 2 29] .ret)))))))
def f27:IFn:=⟨false,30,[.tm 2],b27⟩
def b28:IC :=(sq [i 4 (.a (.alloc [.str [],qj,qj,.str [],.nils,.nils,qj,.nils,qj]) none)] (sq [i 5 (.a (.alloc [.str [],qj,qj,.str [],.nils,.nils,qj,.nils,qj]) none)] (.seq (.block 0 (.loop (.seq (sq [mv 7 0,ca 8 49 [.t 7,(kc 5),qx]] (qv 8 0)) (.block 1 (.dops 0 [(1,3),(1,5)] [fa 9 1 5,ld 10 9,ca 11 51 [],mv 12 0,ca 13 48 [.t 12,(kc 5),qx],qy 14 1 13,i 15 (.r (.lookup (.one .str) (.int .i64 0) false (.t 11) (.t 14))),b2 16 .or 10 15,fa 17 1 5,sT 1 17 16]))))) (.seq (sq [mv 18 0,ca 19 49 [.t 18,(kc 0),qx],mv 20 19,gM 21 20 1,gC 22 20 .eql 21 16,aP 23 20 22] (co 23 [mv 24 0,ca 25 50 [.t 24,(kc 7)]])) (sq [mv 26 0,ca 27 48 [.t 26,(kc 0),qx],i 6 (.a (.alloc [qj,.str [],.nils,qj]) none),sT 4 6 27] (.seq (.dops 0 [(3,6)] [fa 28 1 6,ld 29 28,fa 30 3 6,ld 31 30,fa 32 0 5,sT 1 32 29,fa 33 8 5,sT 1 33 31]) (sq [mv 34 0,ca 35 48 [.t 34,(kc 4),(qz [61])]] (sq [mv 36 0,ca 37 52 [.t 36],fa 38 2 5,sT 5 38 37] (.seq (sq [mv 39 0,ca 40 47 [.t 39,(qz [47])]] (co 40 [mv 41 0,ca 42 48 [.t 41,(kc 2),qx],qy 43 2 42,fa 44 7 5,sT 1 44 43])) (sq [mv 45 0,ca 46 48 [.t 45,(kc 4),(qz [59])]] (sq [lg 47 9 5,sT 9 4 47] .ret)))))))))))
def f28:IFn:=⟨false,48,[.cell (some 9) 4],b28⟩
def b29:IC :=(sq [ns 2] (.seq (sq [mv 3 0,i 4 (.p (.eqo false .slice (.t 3) (.c .nils)))] (qQ 4 [ns 2])) (sq [i 5 (.a (.bslice true [qj,qj] 0 []) none),mv 6 0,aD 7 2 16 5 6,mv 2 7] .ret)))
def f29:IFn:=⟨false,8,[.tm 2],b29⟩
def b30:IC :=(sq [bx 5 5 2] (.seq (sq [fa 6 0 5,ld 7 6,bk 8 .neq 7 5] (co 8 [lg 9 5 5,i 10 (.a (.bslice true [qj,.str [],.nils,.nils,qj] 1 [(0,.t 9)]) none),fa 11 4 5,ld 12 11,i 13 (.p (.build [qj,.str [],.nils,.nils,qj] [(0,1,(kc 5)),(3,1,.t 10),(4,1,.t 12)])),sT 5 5 13])) (.ops [mv 14 0,mv 15 1,lg 16 5 5,ca 17 53 [.t 14,.t 15,.t 16]])))
def f30:IFn:=⟨false,18,[],b30⟩
def b31:IC :=(sq [ns 2] (.seq (sq [mv 3 0,i 4 (.p (.eqo false .slice (.t 3) (.c .nils)))] (qQ 4 [ns 2])) (sq [i 5 (.a (.bslice true [.str []] 0 []) none),mv 6 0,aD 7 1 16 5 6,mv 2 7] .ret)))
def f31:IFn:=⟨false,8,[.tm 2],b31⟩
def b32:IC :=(sq [bx 1 2 0,bf 2] (sq [fa 8 0 1,ld 9 8,ln 10 9,qw 3 [qj],sT 1 3 10] (sq [i 11 (.p (.mkf 54 [] [.t 3])),qw 4 [.nilf],sT 1 4 11] (sq [i 12 (.p (.mkf 56 [] [.t 4])),mv 5 12] (.seq (sq [fa 13 0 1,ld 14 13,ln 15 14,ki 16 0] (.block 0 (.loop (sq [b2 17 .lss 16 15] (.seq (qv 17 0) (.seq (.block 1 (sq [ia 18 3 14 16,lg 19 3 18,qw 7 [.nils,qj,.nils],sT 3 7 19] (sq [fa 20 0 7,ld 21 20,ln 22 21,bk 23 .eql 22 0,mv 24 23,eF 25 24 0 7,eL 26 24 25,eN 27 24 26,eC 28 24 .gtr 27 8,oP 29 24 28,mv 30 29,eF 31 30 1 7,eL 32 30 31,eC 33 30 .lss 32 0,oP 34 30 33,mv 35 34,eF 36 35 1 7,eL 37 35 36,eC 38 35 .gtr 37 63,oP 39 35 38,mv 40 39,eF 41 40 2 7,eL 42 40 41,gf 43 40 (.call (.dir 58) [.t 42] false),eX 44 40 43,oP 45 40 44,mv 46 45,eF 47 46 0 7,eL 48 46 47,eM 49 46 5,gf 50 46 (.call (.dir 59) [.t 48,.t 49] false),oP 51 46 50] (qQ 51 [bf 2])))) (.ops [bk 52 .add 16 1,mv 16 52]))))))) (sq [ld 53 3,bk 54 .gtr 53 0,mv 55 54,gL 56 55 3,gC 57 55 .leq 56 60,aP 58 55 57,mv 2 58] .ret))))))
def f32:IFn:=⟨true,59,[.tm 2],b32⟩
def b33:IC :=(sq [bx 1 2 0,i 2 (.p (.mov (.c .nilf)))] (sq [bu 4 [.nilf,qj] [(0,1,(.c (.fn 60 [] []))),(1,1,(kc 8))],bu 5 [.nilf,qj] [(0,1,(.c (.fn 61 [] []))),(1,1,(kc 9))],bu 6 [.nilf,qj] [(0,1,(.c (.fn 62 [] []))),(1,1,(kc 10))],bu 7 [.nilf,qj] [(0,1,(.c (.fn 63 [] []))),(1,1,(kc 11))],bu 8 [.nilf,qj] [(0,1,(.c (.fn 64 [] []))),(1,1,(kc 12))],i 9 (.a (.bslice true [.nilf,qj] 5 [(0,.t 4),(1,.t 5),(2,.t 6),(3,.t 7),(4,.t 8)]) none),qw 3 [.nils],sT 1 3 9] (sq [i 10 (.p (.mkf 65 [] [.t 3,.t 1])),mv 2 10] .ret)))
def f33:IFn:=⟨false,11,[.tm 2],b33⟩
def b330:IC :=(sq [bx 3 3 1,qw 4 [.nils,.nils]] (.seq (.seq (.dops 0 [(3,10),(4,10),(5,10)] [mv 18 0,nc 19 18,fa 20 5 19,ld 21 20,lg 22 3 3,i 23 (.r (.lookup (.agg [.int,.int,.int]) (.agg [.nils,.nils]) true (.t 21) (.t 22))),mv 17 23,ex 24 0 17,ex 25 1 17,qw 5 [.nils,.nils],sT 2 5 24,mv 6 25]) (sq [mv 26 6] (qQ 26 [lg 27 2 5,sT 2 4 27]))) (.seq (.dops 0 [(5,11),(7,11),(9,11)] [mv 28 0,nc 29 28,fa 30 0 29,fa 31 0 30,fa 32 0 31,ld 33 32,fa 34 0 3,ld 35 34,ia 36 3 33 35,lg 37 3 36,qw 7 [.nils,qj,.nils],sT 3 7 37]) (.seq (.dops 0 [] [mv 38 0,nc 39 38,fa 40 0 39,lg 41 5 40,fa 42 0 3,ld 43 42,fa 44 1 3,ld 45 44,fa 46 2 3,ld 47 46,ca 48 319 [.t 41,.t 43,.t 45,.t 47],mv 8 48]) (sq [ns 9] (.seq (sq [fa 49 0 7,ld 50 49,ln 51 50,ki 52 0] (.block 0 (.loop (sq [b2 53 .lss 52 51] (.seq (qv 53 0) (.seq (.block 1 (sq [ia 54 1 50 52,ld 55 54,mv 11 55] (.ops [mv 56 9,mv 57 0,mv 58 11,fa 59 1 3,ld 60 59,mv 61 8,ca 62 334 [.t 57,.t 58,.t 60,.t 61],aD 63 2 16 56 62,mv 9 63]))) (.ops [bk 64 .add 52 1,mv 52 64]))))))) (sq [mv 65 9,i 66 (.call (.dir 339) [.t 65] true),bu 67 [.nils,.nils] [(0,1,.t 66)],qw 12 [.nils,.nils],sT 2 12 67] (sq [fa 68 0 12,ld 69 68,mv 13 69] (.seq (sq [mv 70 13,ln 71 70,mv 14 71] (sq [mv 72 14,bk 73 .gtr 72 0,mv 74 73,gF 75 74 1 7,gL 76 74 75,gC 77 74 .and 76 1,gC 78 74 .neq 77 0,aP 79 74 78] (co 79 [mv 80 13,mv 81 14,bk 82 .sub 81 1,sL 83 2 80 82,mv 13 83]))) (.seq (sq [mv 84 13,ln 85 84,ki 86 0] (.block 2 (.loop (sq [b2 87 .lss 86 85] (.seq (qv 87 2) (.seq (.block 3 (sq [ia 88 2 84 86,lg 89 2 88,qw 16 [qj,qj],sT 2 16 89] (.seq (.dops 0 [] [mv 90 0,nc 91 90,fa 92 0 91,lg 93 5 92,fa 94 0 3,ld 95 94,fa 96 1 3,ld 97 96,fa 98 0 16,ld 99 98,fa 100 2 3,ld 101 100,ca 102 314 [.t 93,.t 95,.t 97,.t 99,.t 101]]) (co 102 [fa 103 1 12,ld 104 103,lg 105 2 16,i 106 (.a (.bslice true [qj,qj] 1 [(0,.t 105)]) none),aD 107 2 16 104 106,fa 108 1 12,sT 1 108 107])))) (.ops [bk 109 .add 86 1,mv 86 109]))))))) (.seq (.dops 0 [(1,5)] [fa 110 1 12,ld 111 110,mv 112 0,lg 113 3 3,ca 114 340 [.t 112,.t 113],aD 115 2 16 111 114,i 116 (.call (.dir 339) [.t 115] true),fa 117 1 12,sT 1 117 116]) (.seq (.dops 0 [] [mv 118 0,nc 119 118,fa 120 5 119,ld 121 120,lg 122 3 3,lg 123 2 12,n (.w (.mupd (.agg [.int,.int,.int]) (.t 121) (.t 122) (.t 123)))]) (sq [lg 124 2 12,sT 2 4 124] .ret)))))))))))))
def f330:IFn:=⟨false,125,[.cell (some 2) 4],b330⟩
def b438:IC :=(sq [bx 1 5 0,ns 2] (sq [ns 2] .ret))
def f438:IFn:=⟨false,3,[.tm 2],b438⟩
def b439:IC :=(sq [bx 1 5 0,ns 2] (sq [lg 7 5 1,fa 8 2 1,ld 9 8,ln 10 9,ca 11 393 [.t 7,(kc 0),(kc 0),.t 10,(kc (-1))],mv 6 11,ex 12 0 6,ex 13 1 6,ex 14 2 6,mv 3 12,mv 4 13,mv 5 14] (sq [mv 15 3,mv 2 15] .ret)))
def f439:IFn:=⟨false,16,[.tm 2],b439⟩
def b389:IC :=(sq [bx 5 5 0,ki 10 0] (sq [fa 12 4 5,n (.w (.store 1 (.t 12) (.c (.bool false))))] (.seq (sq [lg 13 5 5,ca 14 312 [.t 13],nt 15 14,mv 16 15,eM 17 16 1,eC 18 16 .lss 17 0,oP 19 16 18,mv 20 19,eM 21 20 1,eF 22 20 0 5,eF 23 20 0 22,eL 24 20 23,eN 25 20 24,eB 26 20 .geq 21 25,oP 27 20 26,mv 28 27,eM 29 28 2,eC 30 28 .lss 29 0,oP 31 28 30,mv 32 31,eM 33 32 2,eF 34 32 2 5,eL 35 32 34,eN 36 32 35,eB 37 32 .gtr 33 36,oP 38 32 37] (qQ 38 [ki 10 0])) (sq [lg 39 5 5,i 40 (.a (.mkm) none),i 41 (.a (.mkm) none),i 42 (.a (.mkm) none),bu 43 [.nils,.nils,.nils,qj,.bool false,.nilm,.nilm,.nilm] [(0,5,.t 39),(5,1,.t 40),(6,1,.t 41),(7,1,.t 42)],bx 44 8 43,mv 11 44] (sq [mv 45 11,mv 46 1,mv 47 2,mv 48 4,bu 49 [qj,qj,qj] [(0,1,.t 46),(1,1,.t 47),(2,1,.t 48)],mv 50 3,bu 51 [qj,qj,qj,qj] [(0,3,.t 49),(3,1,.t 50)],ca 52 394 [.t 45,.t 51],mv 10 52] .ret)))))
def f389:IFn:=⟨true,53,[.tm 10],b389⟩
def b44:IC :=(sq [i 0 (.p (.mov (.c .nilm)))] (sq [i 3 (.a (.mkm) none),n (.w (.mupd (.one .int) (.t 3) (.c (.int .u8 64)) (.c (.fn 71 [] [])))),n (.w (.mupd (.one .int) (.t 3) (.c (.int .u8 34)) (.c (.fn 72 [] [])))),n (.w (.mupd (.one .int) (.t 3) (.c (.int .u8 91)) (.c (.fn 73 [] [])))),n (.w (.mupd (.one .int) (.t 3) (.c (.int .u8 60)) (.c (.fn 74 [] [])))),mv 4 3,mv 1 4] (.seq (sq [ki 5 0] (.block 0 (.loop (sq [bk 6 .lss 5 10] (.seq (qv 6 0) (.seq (.block 1 (sq [mv 7 5,mv 2 7] (.ops [mv 8 1,mv 9 2,i 10 (.p (.idxS (qz [61,124,59,40,41,42,43,63,47,37]) (.t 9))),n (.w (.mupd (.one .int) (.t 8) (.t 10) (.c (.fn 75 [] []))))]))) (.ops [bk 11 .add 5 1,mv 5 11]))))))) (sq [mv 12 1,mv 0 12] .ret))))
def f44:IFn:=⟨false,13,[.tm 0],b44⟩
def b45:IC :=(sq [i 4 (.p (.mov qx))] (.seq (sq [mv 7 0,i 8 (.p (.bin .eql (.t 7) qx)),mv 9 8,eM 10 9 1,gf 11 9 (.p (.bin .eql (.t 10) qx)),oP 12 9 11] (qQ 12 [mv 13 0,mv 4 13])) (.seq (sq [mv 14 1,lS 15 14,bk 16 .eql 15 1,mv 17 16,gM 18 17 1,gt 19 17 (.p (.idxS (.t 18) (kc 0))),gt 20 17 (.p (.bin .lss (.t 19) (.c (.int .u8 128)))),aP 21 17 20] (qQ 21 [mv 22 0,mv 23 1,i 24 (.p (.idxS (.t 23) (kc 0))),ca 25 76 [.t 22,.t 24],mv 4 25])) (.seq (sq [mv 27 1,ca 28 77 [.t 27],mv 26 28,ex 29 0 26,ex 30 1 26,i 5 (.a (.alloc (List.replicate 256 (.bool false))) none),sT 256 5 29,mv 6 30] (sq [mv 31 6] (qQ 31 [mv 32 0,ca 33 78 [.t 32,.t 5],mv 4 33]))) (sq [mv 34 0,mv 35 1,ca 36 79 [.t 34,.t 35],mv 4 36] .ret)))))
def f45:IFn:=⟨false,37,[.tm 4],b45⟩
def b46:IC :=(sq [i 2 (.a (.alloc [qj,.str [],.nils,qj]) none),bf 3] (sq [mv 5 0,ca 6 80 [.t 5],mv 4 6] (sq [mv 7 4,i 8 (.p (.build [qj,.str [],.nils,qj] [(0,1,(kc 0)),(1,1,.t 7)])),mv 9 4,i 10 (.p (.bin .neq (.t 9) qx)),mv 11 10,gM 12 11 4,gt 13 11 (.r (.len .str (.t 12))),gC 14 11 .leq 13 12,aP 15 11 14,sT 4 2 8,mv 3 15] .ret)))
def f46:IFn:=⟨false,16,[.cell (some 4) 2,.tm 3],b46⟩
def b47:IC :=(sq [bf 4] (sq [mv 6 0,mv 7 1,ca 8 49 [.t 6,(kc 4),.t 7],mv 5 8] (.seq (sq [mv 9 5] (co 9 [mv 10 0,mv 11 0,nc 12 11,fa 13 0 12,ld 14 13,i 15 (.p (.slice 4 (.t 14) (some (kc 1)) none none)),nc 16 10,fa 17 0 16,sT 1 17 15])) (sq [mv 18 5,mv 4 18] .ret))))
def f47:IFn:=⟨false,19,[.tm 4],b47⟩
def b48:IC :=(sq [i 6 (.a (.alloc [qj,.str [],.nils,qj]) none)] (.seq (sq [mv 8 0,mv 9 1,mv 10 2,ca 11 49 [.t 8,.t 9,.t 10],nt 12 11] (co 12 [mv 13 0,ca 14 50 [.t 13,(kc 3)]])) (sq [mv 15 0,nc 16 15,fa 17 0 16,ld 18 17,iX 19 4 18 0,lg 20 4 19,i 7 (.a (.alloc [qj,.str [],.nils,qj]) none),sT 4 7 20] (sq [mv 21 0,mv 22 0,nc 23 22,fa 24 0 23,ld 25 24,i 26 (.p (.slice 4 (.t 25) (some (kc 1)) none none)),nc 27 21,fa 28 0 27,sT 1 28 26] (sq [lg 29 4 7,sT 4 6 29] .ret)))))
def f48:IFn:=⟨false,30,[.cell (some 4) 6],b48⟩
def b49:IC :=(sq [bf 6] (sq [mv 7 0,nc 8 7,fa 9 0 8,ld 10 9,ln 11 10,bk 12 .gtr 11 0,mv 13 12,gM 14 13 0,gt 15 13 (.p (.nilc (.t 14))),gF 16 13 0 15,gL 17 13 16,gt 18 13 (.p (.iaddr 4 (.t 17) (kc 0))),gF 19 13 0 18,gL 20 13 19,gM 21 13 1,gB 22 13 .eql 20 21,aP 23 13 22,mv 24 23,gM 25 24 2,gt 26 24 (.p (.bin .eql (.t 25) qx)),gM 27 24 26,eM 28 27 0,gf 29 27 (.p (.nilc (.t 28))),eF 30 27 0 29,eL 31 27 30,gf 32 27 (.p (.iaddr 4 (.t 31) (kc 0))),eF 33 27 1 32,eL 34 27 33,eM 35 27 2,eB 36 27 .eql 34 35,gt 37 24 (.p (.pick (.t 27) (.c (.bool true)) (.t 36))),aP 38 24 37,mv 6 38] .ret))
def f49:IFn:=⟨false,39,[.tm 6],b49⟩
def b50:IC :=(.ops [mv 4 1,mv 5 0,ca 6 81 [.t 5],bu 7 [qj,qj] [(0,1,.t 4),(1,1,.t 6)],i 8 (.p (.mki 0 (.t 7))),n (.bad)])
def f50:IFn:=⟨false,9,[],b50⟩
def b51:IC :=(sq [i 0 (.p (.mov (.c .nilm)))] (sq [i 1 (.a (.mkm) none),n (.w (.mupd (.one .str) (.t 1) (qz [108,111,110,103]) (kc 1))),n (.w (.mupd (.one .str) (.t 1) (qz [114,101,115]) (kc 2))),n (.w (.mupd (.one .str) (.t 1) (qz [111,102,102]) (kc 4))),n (.w (.mupd (.one .str) (.t 1) (qz [98,108,111,99,107]) (kc 8))),n (.w (.mupd (.one .str) (.t 1) (qz [97,108,105,103,110]) (kc 16))),n (.w (.mupd (.one .str) (.t 1) (qz [115,121,110,99]) (kc 32))),mv 2 1,mv 0 2] .ret))
def f51:IFn:=⟨false,3,[.tm 0],b51⟩
def b52:IC :=(sq [i 2 (.a (.alloc [qj,.str [],.nils,.nils,qj]) none)] (sq [mv 4 0,ca 5 82 [.t 4],i 6 (.a (.bslice true [qj,.str [],.nils,.nils,qj] 1 [(0,.t 5)]) none),mv 3 6] (.seq (.block 0 (.loop (.seq (sq [mv 7 0,ca 8 47 [.t 7,(qz [124])]] (qv 8 0)) (.block 1 (.ops [mv 9 3,mv 10 0,ca 11 82 [.t 10],i 12 (.a (.bslice true [qj,.str [],.nils,.nils,qj] 1 [(0,.t 11)]) none),aD 13 5 80 9 12,mv 3 13]))))) (sq [mv 14 3,iX 15 5 14 0,fa 16 4 15,ld 17 16,mv 18 3,ca 19 83 [(kc 5),.t 17,.t 18],sT 5 2 19] .ret))))
def f52:IFn:=⟨false,20,[.cell (some 5) 2],b52⟩
def b53:IC :=(sq [bx 3 1 0,bx 5 5 2] (sq [ns 6] (sq [mv 12 1,bu 13 [qj,.nils,qj] [(0,1,(kc 2)),(2,1,.t 12)],qw 7 [qj,.nils,qj],sT 3 7 13] (sq [i 14 (.p (.mkf 84 [] [.t 3,.t 5])),mv 8 14] (.seq (sq [fa 15 0 5,ld 16 15] (.block 0 (sq [bk 22 .eql 16 5,mv 21 22] (cd 21 (sq [fa 23 3 5,ld 24 23,ln 25 24,ki 26 0] (.block 1 (.loop (sq [b2 27 .lss 26 25] (.seq (qv 27 1) (.seq (.block 2 (sq [mv 28 26,mv 9 28] (.ops [mv 29 6,mv 30 8,mv 31 9,i 32 (.call (.val (.t 30)) [.t 31] false),i 33 (.a (.bslice true [.nils] 1 [(0,.t 32)]) none),aD 34 1 24 29 33,mv 6 34]))) (.ops [bk 35 .add 26 1,mv 26 35]))))))) (sq [bk 37 .eql 16 6,mv 36 37] (cd 36 (.dops 0 [(2,1)] [mv 38 8,i 39 (.call (.val (.t 38)) [(kc 0)] false),lg 40 3 7,i 41 (.a (.bslice true [qj,.nils,qj] 1 [(0,.t 40)]) none),aD 42 3 40 39 41,i 43 (.a (.bslice true [.nils] 2 [(0,.t 42),(1,(.c .nils))]) none),mv 6 43]) (sq [bk 45 .eql 16 7,mv 44 45] (cd 44 (sq [mv 46 8,i 47 (.call (.val (.t 46)) [(kc 0)] false),mv 10 47] (.dops 0 [(2,1)] [mv 48 10,ca 49 86 [.t 48],lg 50 3 7,i 51 (.a (.bslice true [qj,.nils,qj] 1 [(0,.t 50)]) none),aD 52 3 40 49 51,mv 53 10,i 54 (.a (.bslice true [.nils] 2 [(0,.t 52),(1,.t 53)]) none),mv 6 54])) (sq [bk 56 .eql 16 8,mv 55 56] (cd 55 (.ops [mv 57 8,i 58 (.call (.val (.t 57)) [(kc 0)] false),i 59 (.a (.bslice true [.nils] 2 [(0,.t 58),(1,(.c .nils))]) none),mv 6 59]) (.ops [ld 17 3,lg 18 5 5,ca 19 85 [.t 17,(.c .nils),.t 18],i 20 (.a (.bslice true [.nils] 1 [(0,.t 19)]) none),mv 6 20]))))))))))) (sq [mv 60 6,ca 61 59 [.t 60,(.c (.fn 87 [] []))],mv 11 61] (sq [ld 62 3,mv 63 6,ln 64 63,bk 65 .eql 64 0,mv 66 65,eM 67 66 6,eN 68 66 67,eC 69 66 .gtr 68 8,oP 70 66 69,mv 71 70,eM 72 71 11,oP 73 71 72,fa 74 4 5,ld 75 74,ca 76 88 [.t 62,.t 73,(kc 7),.t 75]] (.ops [ld 77 3,nc 78 77,fa 79 1 78,ld 80 79,mv 81 1,mv 82 6,ia 83 3 80 81,fa 84 0 83,sT 1 84 82]))))))))
def f53:IFn:=⟨false,85,[],b53⟩
def b54:IC :=(sq [bx 2 3 0,bf 3] (.seq (sq [fa 4 0 2,ld 5 4] (.block 0 (.seq (sq [bk 7 .eql 5 0,mv 6 7] (cd 6 .skip (.ops [bk 8 .eql 5 1,mv 6 8]))) (cd 6 (sq [lg 9 3 2,ca 10 55 [.t 9],nt 11 10,mv 3 11] .ret) (sq [bk 13 .eql 5 2,mv 12 13] (qQ 12 [fa 14 2 2,ld 15 14,bk 16 .lss 15 0,mv 17 16,eF 18 17 2 2,eL 19 17 18,eL 20 17 1,eB 21 17 .geq 19 20,oP 22 17 21,mv 23 22,eF 24 23 1 2,eL 25 23 24,eN 26 23 25,eC 27 23 .gtr 26 0,oP 28 23 27,mv 3 28])))))) (sq [bt 3] .ret)))
def f54:IFn:=⟨true,29,[.tm 3],b54⟩
def b55:IC :=(sq [bx 1 3 0,bf 2] (sq [fa 4 1 1,ld 5 4,i 6 (.p (.mkf 90 [] [.t 1])),ca 7 89 [.t 5,.t 6],mv 3 7] (sq [fa 8 2 1,ld 9 8,bk 10 .eql 9 0,mv 11 10,gM 12 11 3,gX 13 11 12,aP 14 11 13,mv 15 14,gF 16 15 1 1,gL 17 15 16,gt 18 15 (.call (.dir 58) [.t 17] false),aP 19 15 18,mv 2 19] .ret)))
def f55:IFn:=⟨true,20,[.tm 2],b55⟩
def b56:IC :=(sq [bf 3] (sq [mv 4 0,ln 5 4,bk 6 .gtr 5 40,mv 7 6,eM 8 7 0,eL 9 7 1,gf 10 7 (.call (.dir 57) [.t 8,.t 9] false),oP 11 7 10,mv 3 11] .ret))
def f56:IFn:=⟨true,12,[.tm 3],b56⟩
def b57:IC :=(sq [bf 4] (sq [mv 5 0,mv 6 1,ca 7 91 [.t 5,.t 6],bk 8 .geq 7 0,mv 4 8] .ret))
def f57:IFn:=⟨true,9,[.tm 4],b57⟩
def b58:IC :=(sq [bf 2] (.seq (sq [mv 5 0,ln 6 5,ki 7 0] (.block 0 (.loop (sq [b2 8 .lss 7 6] (.seq (qv 8 0) (.seq (.block 1 (sq [mv 9 7,ia 10 2 5 7,lg 11 2 10,qw 4 [qj,qj],mv 3 9,sT 2 4 11] (.seq (.dops 0 [] [fa 12 0 4,ld 13 12,bk 14 .lss 13 0,mv 15 14,eF 16 15 0 4,eL 17 15 16,eF 18 15 1 4,eL 19 15 18,eB 20 15 .gtr 17 19,oP 21 15 20,mv 22 21,eF 23 22 1 4,eL 24 22 23,eC 25 22 .gtr 24 1114111,oP 26 22 25,mv 27 26,eM 28 27 3,eC 29 27 .gtr 28 0,eM 30 27 29,gF 31 30 0 4,gL 32 30 31,gC 33 30 .sub 32 1,gM 34 30 0,gM 35 30 3,gC 36 30 .sub 35 1,gI 37 30 2 34 36,gF 38 30 1 37,gL 39 30 38,gB 40 30 .leq 33 39,gf 41 27 (.p (.pick (.t 30) (.t 40) (.c (.bool false)))),oP 42 27 41]) (qQ 42 [bf 2])))) (.ops [bk 43 .add 7 1,mv 7 43]))))))) (sq [bt 2] .ret)))
def f58:IFn:=⟨true,44,[.tm 2],b58⟩
def b59:IC :=(sq [bf 4] (sq [mv 5 0,mv 6 1,ca 7 92 [.t 5,.t 6],bk 8 .geq 7 0,mv 4 8] .ret))
def f59:IFn:=⟨true,9,[.tm 4],b59⟩
def b60:IC :=(sq [bx 1 2 0,ki 2 0] (.seq (sq [lg 7 2 1,ca 8 93 [.t 7],mv 6 8,ex 9 0 6,ex 10 1 6,mv 3 9,mv 4 10] (sq [mv 11 4,mv 12 11,eG 13 12 2 1,gf 14 12 (.call (.dir 32) [.t 13] false),eX 15 12 14,oP 16 12 15] (qQ 16 [ki 2 (-1)]))) (.seq (sq [fa 17 0 1,ld 18 17,ln 19 18,ki 20 0] (.block 0 (.loop (sq [b2 21 .lss 20 19] (.seq (qv 21 0) (.seq (.block 1 (sq [mv 22 20,mv 5 22] (sq [lg 23 2 1,mv 24 5,mv 25 5,ca 26 94 [.t 23,.t 24,.t 25]] (qQ 26 [mv 27 5,mv 2 27])))) (.ops [bk 28 .add 20 1,mv 20 28]))))))) (sq [ki 2 (-1)] .ret))))
def f60:IFn:=⟨true,29,[.tm 2],b60⟩
def b61:IC :=(sq [bx 1 2 0,ki 2 0] (sq [lg 4 2 1,ca 5 95 [.t 4,(kc 0)],mv 3 5] (.seq (sq [mv 6 3,ln 7 6,bk 8 .eql 7 0] (qQ 8 [ki 2 (-1)])) (sq [mv 9 3,iX 10 1 9 0,n (.w (.store 1 (.t 10) (.c (.bool true))))] (sq [mv 11 3,ca 12 96 [.t 11,(.c (.bool false))],mv 2 12] .ret)))))
def f61:IFn:=⟨true,13,[.tm 2],b61⟩
def b62:IC :=(sq [bx 1 2 0,ki 2 0] (sq [lg 3 2 1,ca 4 97 [.t 3],ca 5 96 [.t 4,(.c (.bool false))],mv 2 5] .ret))
def f62:IFn:=⟨true,6,[.tm 2],b62⟩
def b63:IC :=(sq [bx 1 2 0,ki 2 0] (sq [lg 3 2 1,i 4 (.p (.mkf 99 [] [.t 1])),ca 5 98 [.t 3,.t 4],mv 2 5] .ret))
def f63:IFn:=⟨true,6,[.tm 2],b63⟩
def b64:IC :=(sq [bx 1 2 0,ki 2 0] (sq [lg 3 2 1,i 4 (.p (.mkf 101 [] [.t 1])),ca 5 98 [.t 3,.t 4],mv 2 5] .ret))
def f64:IFn:=⟨true,6,[.tm 2],b64⟩
def b65:IC :=(sq [ld 7 1,ln 8 7,ki 9 0] (.block 0 (.loop (sq [b2 10 .lss 9 8] (.seq (qv 10 0) (.seq (.block 1 (sq [ia 11 2 7 9,lg 12 2 11,qw 5 [.nilf,qj],sT 2 5 12] (sq [fa 13 0 5,ld 14 13,lg 15 2 2,i 16 (.call (.val (.t 14)) [.t 15] false),mv 6 16] (sq [mv 17 6,bk 18 .neq 17 (-1),mv 19 18,gM 20 19 0,gM 21 19 6,gF 22 19 1 5,gL 23 19 22,gt 24 19 (.call (.val (.t 20)) [.t 21,.t 23] false),gX 25 19 24,aP 26 19 25] (cd 26 .ret .skip))))) (.ops [bk 27 .add 9 1,mv 9 27])))))))
def f65:IFn:=⟨false,28,[],b65⟩
def b319:IC :=(sq [bx 4 5 0,ki 8 0] (.seq (sq [lg 9 5 4,mv 10 1,ca 11 325 [.t 9,.t 10],mv 12 11,gF 13 12 0 4,gF 14 12 0 13,gL 15 12 14,gM 16 12 1,gI 17 12 3 15 16,gF 18 12 1 17,gL 19 12 18,gC 20 12 .and 19 8,gC 21 12 .neq 20 0,aP 22 12 21] (qQ 22 [fa 23 2 4,ld 24 23,mv 25 2,fa 26 3 4,ld 27 26,ca 28 332 [.t 24,.t 25,.t 27],mv 8 28])) (sq [mv 29 3,mv 8 29] .ret)))
def f319:IFn:=⟨true,30,[.tm 8],b319⟩
def b334:IC :=(sq [ns 8] (sq [mv 16 2,bu 17 [qj,qj] [(0,1,.t 16)],i 18 (.a (.bslice true [qj,qj] 1 [(0,.t 17)]) none),mv 9 18] (.seq (sq [mv 19 1,ln 20 19,ki 21 0] (.block 0 (.loop (sq [b2 22 .lss 21 20] (.seq (qv 22 0) (.seq (.block 1 (sq [ia 23 3 19 21,lg 24 3 23,qw 11 [qj,.nils,qj],sT 3 11 24] (sq [qw 12 [.nils]] (.seq (sq [mv 25 9,ln 26 25,ki 27 0] (.block 2 (.loop (sq [b2 28 .lss 27 26] (.seq (qv 28 2) (.seq (.block 3 (sq [ia 29 2 25 27,lg 30 2 29,qw 14 [qj,qj],sT 2 14 30] (sq [mv 31 0,lg 32 3 11,lg 33 2 14,mv 34 3,ca 35 342 [.t 31,.t 32,.t 33,.t 34]] (.block 4 (.rangeF (.t 35) [36] (.ops [qw 15 [qj,qj],sT 2 15 36]) (.block 5 (.ops [ld 37 12,lg 38 2 15,i 39 (.a (.bslice true [qj,qj] 1 [(0,.t 38)]) none),aD 40 2 16 37 39,sT 1 12 40]))))))) (.ops [bk 41 .add 27 1,mv 27 41]))))))) (.ops [ld 42 12,i 43 (.call (.dir 339) [.t 42] true),mv 9 43]))))) (.ops [bk 44 .add 21 1,mv 21 44]))))))) (sq [mv 45 9,mv 8 45] .ret))))
def f334:IFn:=⟨false,46,[.tm 8],b334⟩
def b339:IC :=(sq [ns 2] (sq [mv 3 0,ca 4 345 [.t 3,(.c (.fn 346 [] []))]] (sq [mv 5 0,ca 6 348 [.t 5,(.c (.fn 349 [] []))],mv 2 6] .ret)))
def f339:IFn:=⟨false,7,[.tm 2],b339⟩
def b314:IC :=(sq [bx 5 5 0,bf 10] (sq [lg 15 5 5,mv 16 2,mv 17 3,mv 18 4,bu 19 [.nils,.nils,.nils,qj,.bool false,qj,qj,qj] [(0,5,.t 15),(5,1,.t 16),(6,1,.t 17),(7,1,.t 18)],qw 11 [.nils,.nils,.nils,qj,.bool false,qj,qj,qj],sT 8 11 19] (.seq (.seq (.dops 0 [] [lg 20 5 5,mv 21 1,ca 22 325 [.t 20,.t 21],nt 23 22,mv 24 23,eG 25 24 8 11,gf 26 24 (.call (.dir 326) [.t 25] false),eX 27 24 26,oP 28 24 27,mv 29 28,eF 30 29 0 5,eF 31 29 0 30,eL 32 29 31,eM 33 29 1,eI 34 29 3 32 33,eF 35 29 2 34,eL 36 29 35,eF 37 29 2 5,eL 38 29 37,eM 39 29 3,gf 40 29 (.call (.dir 327) [.t 36,.t 38,.t 39] false),eX 41 29 40,oP 42 29 41]) (qQ 42 [bf 10])) (sq [lg 43 8 11,ca 44 328 [.t 43],mv 12 44] (.seq (sq [i 45 (.a (.bslice true [qj] 3 [(0,(kc 2)),(1,(kc 4)),(2,(kc 16))]) none),ln 46 45,ki 47 0] (.block 0 (.loop (sq [b2 48 .lss 47 46] (.seq (qv 48 0) (.seq (.block 1 (sq [ia 49 1 45 47,ld 50 49,mv 14 50] (sq [fa 51 0 5,fa 52 0 51,ld 53 52,mv 54 1,ia 55 3 53 54,fa 56 1 55,ld 57 56,mv 58 14,b2 59 .and 57 58,bk 60 .neq 59 0,mv 61 60,gM 62 61 12,gM 63 61 14,gt 64 61 (.r (.lookup (.one .int) .nilf false (.t 62) (.t 63))),gt 65 61 (.call (.val (.t 64)) [] false),gX 66 61 65,aP 67 61 66] (qQ 67 [bf 10])))) (.ops [bk 68 .add 47 1,mv 47 68]))))))) (sq [bt 10] .ret))))))
def f314:IFn:=⟨true,69,[.tm 10],b314⟩
def b340:IC :=(sq [bx 3 3 1,ns 4] (sq [ns 5] (.seq (.seq (.dops 0 [] [mv 8 0,nc 9 8,fa 10 0 9,fa 11 4 10,ld 12 11,nt 13 12,mv 14 13,eF 15 14 0 3,eL 16 14 15,eC 17 14 .neq 16 0,eM 18 14 17,gM 19 18 0,gt 20 18 (.p (.nilc (.t 19))),gF 21 18 0 20,gF 22 18 0 21,gF 23 18 0 22,gL 24 18 23,gF 25 18 0 3,gL 26 18 25,gI 27 18 3 24 26,gF 28 18 1 27,gL 29 18 28,gC 30 18 .and 29 32,gC 31 18 .eql 30 0,gf 32 14 (.p (.pick (.t 18) (.t 31) (.c (.bool false)))),oP 33 14 32]) (qQ 33 [mv 34 5,mv 4 34])) (.seq (sq [mv 35 0,nc 36 35,fa 37 0 36,fa 38 2 37,ld 39 38,ca 40 315 [.t 39],ln 41 40,ki 42 0] (.block 0 (.loop (sq [b2 43 .lss 42 41] (.seq (qv 43 0) (.seq (.block 1 (sq [ia 44 1 40 42,ld 45 44,mv 7 45] (sq [mv 46 7,fa 47 1 3,ld 48 47,b2 49 .gtr 46 48] (co 49 [mv 50 5,mv 51 7,bu 52 [qj,qj] [(0,1,.t 51),(1,1,(kc 1))],i 53 (.a (.bslice true [qj,qj] 1 [(0,.t 52)]) none),aD 54 2 16 50 53,mv 5 54])))) (.ops [bk 55 .add 42 1,mv 42 55]))))))) (sq [mv 56 5,mv 4 56] .ret)))))
def f340:IFn:=⟨true,57,[.tm 4],b340⟩
def b393:IC :=(sq [bx 5 5 0,ns 10,ki 11 0,bf 12] (.seq (sq [lg 17 5 5,ca 18 312 [.t 17],nt 19 18,mv 20 19,eM 21 20 1,eC 22 20 .lss 21 0,oP 23 20 22,mv 24 23,eM 25 24 1,eF 26 24 0 5,eF 27 24 0 26,eL 28 24 27,eN 29 24 28,eB 30 24 .geq 25 29,oP 31 24 30,mv 32 31,eM 33 32 2,eC 34 32 .lss 33 0,oP 35 32 34,mv 36 35,eM 37 36 2,eF 38 36 2 5,eL 39 36 38,eN 40 36 39,eB 41 36 .gtr 37 40,oP 42 36 41] (qQ 42 [ns 10,ki 11 0,bf 12])) (sq [lg 43 5 5,i 44 (.a (.mkm) none),i 45 (.a (.mkm) none),i 46 (.a (.mkm) none),bu 47 [.nils,.nils,.nils,qj,.bool false,.nilm,.nilm,.nilm] [(0,5,.t 43),(5,1,.t 44),(6,1,.t 45),(7,1,.t 46)],bx 48 8 47,mv 13 48] (sq [mv 49 1,mv 50 2,mv 51 4,bu 52 [qj,qj,qj] [(0,1,.t 49),(1,1,.t 50),(2,1,.t 51)],qw 14 [qj,qj,qj],sT 3 14 52] (.seq (sq [mv 53 13,lg 54 3 14,ca 55 396 [.t 53,.t 54],ln 56 55,ki 57 0] (.block 0 (.loop (sq [b2 58 .lss 57 56] (.seq (qv 58 0) (.seq (.block 1 (sq [ia 59 2 55 57,lg 60 2 59,qw 16 [qj,qj],sT 2 16 60] (sq [lg 61 2 16,mv 62 3,fa 63 1 16,ld 64 63,bu 65 [qj,qj] [(0,1,.t 62),(1,1,.t 64)],i 66 (.p (.eqo false (.struct [.int,.int]) (.t 61) (.t 65)))] (cd 66 (.seq (.dops 0 [(8,6)] [mv 67 13,lg 68 3 14,mv 69 3,bu 70 [qj,qj,qj,qj] [(0,3,.t 68),(3,1,.t 69)],fa 71 1 16,ld 72 71,ca 73 397 [.t 67,.t 70,.t 72],fa 74 1 16,ld 75 74,mv 10 73,mv 11 75,bt 12]) .ret) .skip)))) (.ops [bk 76 .add 57 1,mv 57 76]))))))) (sq [ns 10,ki 11 0,bf 12] .ret))))))
def f393:IFn:=⟨true,77,[.tm 10,.tm 11,.tm 12],b393⟩
def b394:IC :=(sq [bx 2 1 0,bx 3 4 1,ki 4 0] (.seq (.dops 0 [] [ld 5 2,nc 6 5,fa 7 6 6,ld 8 7,lg 9 4 3,i 10 (.p (.mkf 399 [] [.t 2,.t 3])),ca 11 398 [.t 8,.t 9,.t 10],mv 4 11]) .ret))
def f394:IFn:=⟨false,12,[.tm 4],b394⟩
def b71:IC :=(sq [i 2 (.a (.alloc [qj,.str [],.nils,qj]) none),bf 3] (sq [mv 5 0,nc 6 5,fa 7 1 6,ld 8 7,bk 9 .add 8 1,nc 10 5,fa 11 1 10,sT 1 11 9] (sq [mv 12 0,ca 13 80 [.t 12],mv 4 13] (sq [mv 14 4,i 15 (.p (.build [qj,.str [],.nils,qj] [(0,1,(kc 5)),(1,1,.t 14)])),ca 16 116 [],mv 17 4,ca 18 115 [.t 16,.t 17],sT 4 2 15,mv 3 18] .ret))))
def f71:IFn:=⟨false,19,[.cell (some 4) 2,.tm 3],b71⟩
def b72:IC :=(sq [i 2 (.a (.alloc [qj,.str [],.nils,qj]) none),bf 3] (sq [mv 8 0,nc 9 8,fa 10 1 9,ld 11 10,bk 12 .add 11 1,nc 13 8,fa 14 1 13,sT 1 14 12] (sq [ns 4] (.seq (.block 0 (.loop (.seq (sq [mv 15 0,ca 16 117 [.t 15,(.c (.int .u8 34))],nt 17 16] (qv 17 0)) (.block 1 (.seq (.seq (.dops 0 [] [mv 18 0,nc 19 18,fa 20 1 19,ld 21 20,mv 22 0,nc 23 22,fa 24 0 23,ld 25 24,lS 26 25,b2 27 .eql 21 26]) (qQ 27 [i 28 (.p (.build [qj,.str [],.nils,qj] [])),sT 4 2 28,bf 3])) (.seq (.dops 0 [] [mv 29 0,nc 30 29,fa 31 0 30,ld 32 31,mv 33 0,nc 34 33,fa 35 1 34,ld 36 35,i 37 (.p (.idxS (.t 32) (.t 36))),mv 5 37]) (sq [mv 38 0,nc 39 38,fa 40 1 39,ld 41 40,bk 42 .add 41 1,nc 43 38,fa 44 1 43,sT 1 44 42] (.seq (sq [mv 45 5,bJ 46 .eql 45 .u8 92] (cd 46 (.seq (sq [mv 47 0,ca 48 117 [.t 47,(.c (.int .u8 120))],nt 49 48] (qQ 49 [i 50 (.p (.build [qj,.str [],.nils,qj] [])),sT 4 2 50,bf 3])) (sq [mv 52 0,ca 53 118 [.t 52],mv 51 53,ex 54 0 51,ex 55 1 51,mv 6 54,mv 7 55] (.seq (sq [mv 56 7,nt 57 56] (qQ 57 [i 58 (.p (.build [qj,.str [],.nils,qj] [])),sT 4 2 58,bf 3])) (sq [mv 59 4,mv 60 6,cV 61 .u8 60,i 62 (.a (.bslice true [.int .u8 0] 1 [(0,.t 61)]) none),aD 63 1 1 59 62,mv 4 63] (.exit 1))))) .skip)) (.seq (sq [mv 64 5,bJ 65 .lss 64 .u8 32,mv 66 65,eM 67 66 5,gf 68 66 (.p (.bin .gtr (.t 67) (.c (.int .u8 126)))),oP 69 66 68] (qQ 69 [i 70 (.p (.build [qj,.str [],.nils,qj] [])),sT 4 2 70,bf 3])) (.ops [mv 71 4,mv 72 5,i 73 (.a (.bslice true [.int .u8 0] 1 [(0,.t 72)]) none),aD 74 1 1 71 73,mv 4 74])))))))))) (sq [mv 75 4,i 76 (.r (.b2s (.t 75))),i 77 (.p (.build [qj,.str [],.nils,qj] [(0,1,(kc 1)),(1,1,.t 76)])),mv 78 4,ln 79 78,bk 80 .gtr 79 0,sT 4 2 77,mv 3 80] .ret)))))
def f72:IFn:=⟨false,81,[.cell (some 4) 2,.tm 3],b72⟩
def b73:IC :=(sq [i 2 (.a (.alloc [qj,.str [],.nils,qj]) none),bf 3] (sq [mv 7 0,nc 8 7,fa 9 1 8,ld 10 9,bk 11 .add 10 1,nc 12 7,fa 13 1 12,sT 1 13 11] (sq [mv 14 0,ca 15 117 [.t 14,(.c (.int .u8 94))],mv 4 15] (sq [mv 17 0,ca 18 119 [.t 17,(.c (.int .u8 93)),(.c (.fn 120 [] []))],mv 16 18,ex 19 0 16,ex 20 1 16,mv 5 19,mv 6 20] (.seq (sq [mv 21 4] (co 21 [mv 22 5,ca 23 121 [.t 22,(kc 1114111)],mv 5 23])) (sq [mv 24 5,bu 25 [qj,qj] [(0,1,(kc 55296)),(1,1,(kc 57343))],i 26 (.a (.bslice true [qj,qj] 1 [(0,.t 25)]) none),ca 27 122 [.t 24,.t 26],i 28 (.p (.build [qj,.str [],.nils,qj] [(0,1,(kc 2)),(2,1,.t 27)])),mv 29 6,sT 4 2 28,mv 3 29] .ret))))))
def f73:IFn:=⟨false,30,[.cell (some 4) 2,.tm 3],b73⟩
def b74:IC :=(sq [i 2 (.a (.alloc [qj,.str [],.nils,qj]) none),bf 3] (sq [mv 6 0,nc 7 6,fa 8 1 7,ld 9 8,bk 10 .add 9 1,nc 11 6,fa 12 1 11,sT 1 12 10] (sq [mv 14 0,ca 15 119 [.t 14,(.c (.int .u8 62)),(.c (.fn 118 [] []))],mv 13 15,ex 16 0 13,ex 17 1 13,mv 4 16,mv 5 17] (sq [mv 18 4,i 19 (.p (.build [qj,.str [],.nils,qj] [(0,1,(kc 3)),(2,1,.t 18)])),mv 20 5,sT 4 2 19,mv 3 20] .ret))))
def f74:IFn:=⟨false,21,[.cell (some 4) 2,.tm 3],b74⟩
def b75:IC :=(sq [i 2 (.a (.alloc [qj,.str [],.nils,qj]) none),bf 3] (sq [mv 4 0,nc 5 4,fa 6 1 5,ld 7 6,bk 8 .add 7 1,nc 9 4,fa 10 1 9,sT 1 10 8] (.seq (.dops 0 [] [mv 11 0,nc 12 11,fa 13 0 12,ld 14 13,mv 15 0,nc 16 15,fa 17 1 16,ld 18 17,bk 19 .sub 18 1,mv 20 0,nc 21 20,fa 22 1 21,ld 23 22,i 24 (.p (.sliceS (.t 14) (some (.t 19)) (some (.t 23)))),i 25 (.p (.build [qj,.str [],.nils,qj] [(0,1,(kc 4)),(1,1,.t 24)])),sT 4 2 25,bt 3]) .ret)))
def f75:IFn:=⟨false,26,[.cell (some 4) 2,.tm 3],b75⟩
def b76:IC :=(sq [i 4 (.p (.mov qx))] (.seq (.block 0 (.loop (.seq (sq [mv 5 0,lS 6 5,bk 7 .gtr 6 0,mv 8 7,gM 9 8 0,gt 10 8 (.p (.idxS (.t 9) (kc 0))),gM 11 8 1,gB 12 8 .eql 10 11,aP 13 8 12] (qv 13 0)) (.block 1 (.ops [mv 14 0,i 15 (.p (.sliceS (.t 14) (some (kc 1)) none)),mv 0 15]))))) (sq [mv 16 0,mv 4 16] .ret)))
def f76:IFn:=⟨false,17,[.tm 4],b76⟩
def b77:IC :=(sq [i 2 (.a (.alloc (List.replicate 256 (.bool false))) none),bf 3] (.seq (sq [ki 4 0] (.block 0 (.loop (.seq (sq [mv 6 4,mv 7 0,lS 8 7,b2 9 .lss 6 8] (qv 9 0)) (.seq (.block 1 (sq [mv 12 0,mv 13 4,i 14 (.p (.idxS (.t 12) (.t 13))),mv 5 14] (.seq (sq [mv 15 5,bJ 16 .geq 15 .u8 128] (qQ 16 [lg 17 256 2,sT 256 2 17,bf 3])) (.ops [mv 18 5,i 19 (.p (.iaddrA 256 1 (.t 2) (.t 18))),n (.w (.store 1 (.t 19) (.c (.bool true))))])))) (.ops [mv 10 4,bk 11 .add 10 1,mv 4 11])))))) (sq [lg 20 256 2,sT 256 2 20,bt 3] .ret)))
def f77:IFn:=⟨false,21,[.cell (some 256) 2,.tm 3],b77⟩
def b78:IC :=(sq [i 4 (.p (.mov qx))] (.seq (.block 0 (.loop (.seq (sq [mv 5 0,lS 6 5,bk 7 .gtr 6 0] (qv 7 0)) (.block 1 (.seq (sq [mv 8 1,mv 9 0,i 10 (.p (.idxS (.t 9) (kc 0))),ca 11 123 [.t 8,.t 10],nt 12 11] (qk 12 0)) (.ops [mv 13 0,i 14 (.p (.sliceS (.t 13) (some (kc 1)) none)),mv 0 14])))))) (sq [mv 15 0,mv 4 15] .ret)))
def f78:IFn:=⟨false,16,[.tm 4],b78⟩
def b79:IC :=(sq [i 4 (.p (.mov qx))] (.seq (.block 0 (.loop (.seq (sq [mv 7 0,lS 8 7,bk 9 .gtr 8 0] (qv 9 0)) (.block 1 (sq [mv 11 0,ca 12 124 [.t 11],mv 10 12,ex 13 0 10,ex 14 1 10,mv 5 13,mv 6 14] (.seq (sq [mv 15 1,mv 16 5,ca 17 125 [.t 15,.t 16],nt 18 17] (qk 18 0)) (.ops [mv 19 0,mv 20 6,i 21 (.p (.sliceS (.t 19) (some (.t 20)) none)),mv 0 21]))))))) (sq [mv 22 0,mv 4 22] .ret)))
def f79:IFn:=⟨false,23,[.tm 4],b79⟩
def b80:IC :=(sq [i 2 (.p (.mov qx))] (.seq (.dops 0 [] [mv 7 0,nc 8 7,fa 9 0 8,ld 10 9,mv 11 0,nc 12 11,fa 13 1 12,ld 14 13,i 15 (.p (.sliceS (.t 10) (some (.t 14)) none)),mv 3 15]) (sq [mv 16 3,lS 17 16,mv 4 17] (.seq (sq [mv 18 3,i 19 (.a (.rngS (.t 18)) none)] (.block 0 (.loop (sq [i 20 (.w (.nxtS (.t 19))),ex 21 0 20] (.seq (qv 21 0) (.block 1 (sq [ex 22 1 20,ex 23 2 20,mv 5 22,mv 6 23] (sq [mv 24 6,mv 25 5,bk 26 .gtr 25 0,ca 27 126 [.t 24,.t 26],nt 28 27] (cd 28 (sq [mv 29 5,mv 4 29] (.exit 0)) .skip))))))))) (sq [mv 30 0,nc 31 30,fa 32 1 31,ld 33 32,mv 34 4,b2 35 .add 33 34,nc 36 30,fa 37 1 36,sT 1 37 35] (sq [mv 38 3,mv 39 4,i 40 (.p (.sliceS (.t 38) none (some (.t 39)))),mv 2 40] .ret))))))
def f80:IFn:=⟨false,41,[.tm 2],b80⟩
def b81:IC :=(sq [ki 2 0] (.seq (sq [mv 3 0,nc 4 3,fa 5 0 4,ld 6 5,ln 7 6,bk 8 .gtr 7 0] (qQ 8 [mv 9 0,nc 10 9,fa 11 0 10,ld 12 11,iX 13 4 12 0,fa 14 3 13,ld 15 14,mv 2 15])) (sq [mv 16 0,nc 17 16,fa 18 1 17,ld 19 18,mv 2 19] .ret)))
def f81:IFn:=⟨false,20,[.tm 2],b81⟩
def b82:IC :=(sq [i 2 (.a (.alloc [qj,.str [],.nils,.nils,qj]) none)] (sq [mv 7 0,ca 8 81 [.t 7],mv 3 8] (sq [ns 4] (.block 0 (.loop (.block 1 (sq [mv 10 0,ca 11 127 [.t 10],mv 9 11,ex 12 0 9,ex 13 1 9,i 5 (.a (.alloc [qj,.str [],.nils,.nils,qj]) none),sT 5 5 12,mv 6 13] (.seq (sq [mv 14 6,nt 15 14] (qQ 15 [mv 16 3,mv 17 4,ca 18 83 [(kc 4),.t 16,.t 17],sT 5 2 18])) (.ops [mv 19 4,mv 20 0,lg 21 5 5,ca 22 128 [.t 20,.t 21],i 23 (.a (.bslice true [qj,.str [],.nils,.nils,qj] 1 [(0,.t 22)]) none),aD 24 5 80 19 23,mv 4 24])))))))))
def f82:IFn:=⟨false,25,[.cell (some 5) 2],b82⟩
def b83:IC :=(sq [i 6 (.a (.alloc [qj,.str [],.nils,.nils,qj]) none)] (.seq (sq [mv 7 2,ln 8 7,bk 9 .eql 8 1] (qQ 9 [mv 10 2,iX 11 5 10 0,lg 12 5 11,sT 5 6 12])) (sq [mv 13 0,mv 14 2,mv 15 1,i 16 (.p (.build [qj,.str [],.nils,.nils,qj] [(0,1,.t 13),(3,1,.t 14),(4,1,.t 15)])),sT 5 6 16] .ret)))
def f83:IFn:=⟨false,17,[.cell (some 5) 6],b83⟩
def b84:IC :=(sq [ns 4] (.seq (sq [ld 5 1,nc 6 5,fa 7 2 6,ld 8 7,i 9 (.p (.eqo true .ptr (.t 8) (.c .nilp))),mv 10 9,eM 11 10 0,eF 12 10 3 2,eL 13 10 12,eN 14 10 13,eB 15 10 .geq 11 14,oP 16 10 15] (qQ 16 [ns 4])) (.seq (.dops 0 [] [ld 17 1,fa 18 3 2,ld 19 18,mv 20 0,ia 21 5 19 20,lg 22 5 21,ca 23 85 [.t 17,(.c .nils),.t 22],mv 4 23]) .ret)))
def f84:IFn:=⟨false,24,[.tm 4],b84⟩
def b85:IC :=(sq [bx 5 5 2,ns 6] (sq [mv 16 0,i 17 (.p (.mkf 85 [.t 16] [])),mv 7 17] (.seq (sq [fa 18 0 5,ld 19 18] (.block 0 (sq [bk 21 .eql 19 0,mv 20 21] (cd 20 (.seq (.dops 0 [] [mv 23 0,nc 24 23,fa 25 0 24,ld 26 25,fa 27 1 5,ld 28 27,i 29 (.r (.lookup (.one .str) (.int .i64 0) true (.t 26) (.t 28))),mv 22 29,ex 30 0 22,ex 31 1 22,mv 8 30,mv 9 31]) (.seq (sq [mv 32 0,mv 33 9,nt 34 33,fa 35 4 5,ld 36 35,ca 37 88 [.t 32,.t 34,(kc 5),.t 36]] (qQ 37 [mv 38 1,mv 6 38])) (sq [mv 39 1,mv 40 8,bu 41 [qj,.nils,qj] [(0,1,(kc 2)),(2,1,.t 40)],i 42 (.a (.bslice true [qj,.nils,qj] 1 [(0,.t 41)]) none),aD 43 3 40 39 42,mv 6 43] .ret))) (sq [bk 45 .eql 19 1,mv 44 45] (cd 44 (.seq (sq [fa 46 1 5,ld 47 46,lS 48 47,ki 49 0] (.block 1 (.loop (sq [b2 50 .lss 49 48] (.seq (qv 50 1) (.seq (.block 2 (sq [mv 51 49,mv 10 51] (sq [fa 52 1 5,ld 53 52,mv 54 10,i 55 (.p (.idxS (.t 53) (.t 54))),cV 56 .i64 55,mv 11 56] (.ops [mv 57 1,mv 58 11,mv 59 11,bu 60 [qj,qj] [(0,1,.t 58),(1,1,.t 59)],i 61 (.a (.bslice true [qj,qj] 1 [(0,.t 60)]) none),ca 62 129 [(kc 0),.t 61],i 63 (.a (.bslice true [qj,.nils,qj] 1 [(0,.t 62)]) none),aD 64 3 40 57 63,mv 1 64])))) (.ops [bk 65 .add 49 1,mv 49 65]))))))) (sq [mv 66 1,mv 6 66] .ret)) (sq [bk 68 .eql 19 2,mv 67 68] (cd 67 (sq [mv 69 1,fa 70 2 5,ld 71 70,ca 72 129 [(kc 1),.t 71],i 73 (.a (.bslice true [qj,.nils,qj] 1 [(0,.t 72)]) none),aD 74 3 40 69 73,mv 6 74] .ret) (sq [bk 76 .eql 19 3,mv 75 76] (cd 75 (sq [mv 77 1,fa 78 2 5,ld 79 78,ca 80 129 [(kc 0),.t 79],i 81 (.a (.bslice true [qj,.nils,qj] 1 [(0,.t 80)]) none),aD 82 3 40 77 81,mv 6 82] .ret) (sq [bk 84 .eql 19 4,mv 83 84] (cd 83 (.seq (sq [fa 85 3 5,ld 86 85,ln 87 86,ki 88 0] (.block 3 (.loop (sq [b2 89 .lss 88 87] (.seq (qv 89 3) (.seq (.block 4 (sq [ia 90 5 86 88,lg 91 5 90,i 13 (.a (.alloc [qj,.str [],.nils,.nils,qj]) none),sT 5 13 91] (sq [mv 92 0,nc 93 92,fa 94 2 93,ld 95 94,i 96 (.p (.eqo false .ptr (.t 95) (.c .nilp)))] (co 96 [mv 97 7,mv 98 1,lg 99 5 13,i 100 (.call (.val (.t 97)) [.t 98,.t 99] false),mv 1 100])))) (.ops [bk 101 .add 88 1,mv 88 101]))))))) (sq [mv 102 1,mv 6 102] .ret)) .skip)))))))))))) (sq [fa 103 0 5,ld 104 103,bk 105 .lss 104 0,mv 106 105,eF 107 106 0 5,eL 108 106 107,eC 109 106 .gtr 108 8,oP 110 106 109,mv 111 110,eF 112 111 0 5,eL 113 111 112,eC 114 111 .neq 113 5,eM 115 111 114,gF 116 115 3 5,gL 117 115 116,gN 118 115 117,gC 119 115 .neq 118 1,gf 120 111 (.p (.pick (.t 115) (.t 119) (.c (.bool false)))),oP 121 111 120,mv 14 121] (.seq (.seq (.dops 0 [] [mv 122 0,mv 123 14,mv 124 123,eM 125 124 0,gf 126 124 (.p (.nilc (.t 125))),eF 127 124 1 126,eL 128 124 127,eN 129 124 128,eC 130 124 .eql 129 60,oP 131 124 130,fa 132 4 5,ld 133 132,ca 134 88 [.t 122,.t 131,(kc 7),.t 133]]) (qQ 134 [mv 135 1,mv 6 135])) (sq [mv 136 0,nc 137 136,fa 138 1 137,ld 139 138,ln 140 139,mv 15 140] (sq [mv 141 0,mv 142 0,nc 143 142,fa 144 1 143,ld 145 144,bu 146 [.nils,qj,.nils] [],i 147 (.a (.bslice true [.nils,qj,.nils] 1 [(0,.t 146)]) none),aD 148 3 56 145 147,nc 149 141,fa 150 1 149,sT 1 150 148] (sq [mv 151 0,mv 152 15,lg 153 5 5,ca 154 53 [.t 151,.t 152,.t 153]] (sq [mv 155 1,mv 156 15,bu 157 [qj,.nils,qj] [(0,1,(kc 2)),(2,1,.t 156)],i 158 (.a (.bslice true [qj,.nils,qj] 1 [(0,.t 157)]) none),aD 159 3 40 155 158,mv 6 159] .ret)))))))))
def f85:IFn:=⟨false,160,[.tm 6],b85⟩
def b86:IC :=(sq [ns 2] (.seq (sq [mv 3 0,i 4 (.p (.eqo false .slice (.t 3) (.c .nils)))] (qQ 4 [ns 2])) (sq [i 5 (.a (.bslice true [qj,.nils,qj] 0 []) none),mv 6 0,aD 7 3 40 5 6,mv 2 7] .ret)))
def f86:IFn:=⟨false,8,[.tm 2],b86⟩
def b87:IC :=(sq [bf 2] (sq [mv 3 0,ln 4 3,bk 5 .gtr 4 40,mv 2 5] .ret))
def f87:IFn:=⟨false,6,[.tm 2],b87⟩
def b88:IC :=(sq [bf 8] (.seq (sq [mv 9 1,mv 10 9,gM 11 10 0,gt 12 10 (.p (.nilc (.t 11))),gF 13 10 2 12,gL 14 10 13,gt 15 10 (.p (.eqo false .ptr (.t 14) (.c .nilp))),aP 16 10 15] (co 16 [mv 17 0,mv 18 2,mv 19 3,bu 20 [qj,qj] [(0,1,.t 18),(1,1,.t 19)],bx 21 2 20,nc 22 17,fa 23 2 22,sT 1 23 21])) (sq [mv 24 1,mv 8 24] .ret)))
def f88:IFn:=⟨false,25,[.tm 8],b88⟩
def b89:IC :=(sq [bf 4] (sq [mv 5 0,mv 6 1,ca 7 130 [.t 5,.t 6],bk 8 .geq 7 0,mv 4 8] .ret))
def f89:IFn:=⟨true,9,[.tm 4],b89⟩
def b90:IC :=(sq [bx 2 2 0,bf 3] (sq [fa 4 0 1,ld 5 4,bk 6 .eql 5 0,mv 7 6,gF 8 7 1 2,gL 9 7 8,gC 10 7 .gtr 9 255,aP 11 7 10,mv 3 11] .ret))
def f90:IFn:=⟨true,12,[.tm 3],b90⟩
def b91:IC :=(sq [ki 4 0] (.seq (sq [mv 6 0,ln 7 6,ki 8 0] (.block 0 (.loop (sq [b2 9 .lss 8 7] (.seq (qv 9 0) (.seq (.block 1 (sq [mv 10 8,mv 5 10] (sq [mv 11 1,mv 12 0,mv 13 5,ia 14 3 12 13,lg 15 3 14,i 16 (.call (.val (.t 11)) [.t 15] false)] (qQ 16 [mv 17 5,mv 4 17])))) (.ops [bk 18 .add 8 1,mv 8 18]))))))) (sq [ki 4 (-1)] .ret)))
def f91:IFn:=⟨true,19,[.tm 4],b91⟩
def b92:IC :=(sq [ki 4 0] (.seq (sq [mv 6 0,ln 7 6,ki 8 0] (.block 0 (.loop (sq [b2 9 .lss 8 7] (.seq (qv 9 0) (.seq (.block 1 (sq [mv 10 8,mv 5 10] (sq [mv 11 1,mv 12 0,mv 13 5,ia 14 1 12 13,ld 15 14,i 16 (.call (.val (.t 11)) [.t 15] false)] (qQ 16 [mv 17 5,mv 4 17])))) (.ops [bk 18 .add 8 1,mv 8 18]))))))) (sq [ki 4 (-1)] .ret)))
def f92:IFn:=⟨true,19,[.tm 4],b92⟩
def b93:IC :=(sq [bx 1 2 0,ns 2,bf 3] (.seq (sq [lg 5 2 1,ca 6 32 [.t 5],nt 7 6] (qQ 7 [ns 2,bf 3])) (sq [lg 8 2 1,ca 9 131 [.t 8],ca 10 132 [.t 9],mv 4 10] (.seq (sq [mv 11 4,ln 12 11,fa 13 0 1,ld 14 13,ln 15 14,b2 16 .lss 12 15] (qQ 16 [ns 2,bf 3])) (sq [mv 17 4,mv 2 17,bt 3] .ret)))))
def f93:IFn:=⟨true,18,[.tm 2,.tm 3],b93⟩
def b94:IC :=(sq [bx 3 2 0,bf 6] (sq [i 12 (.a (.mkm) none),mv 7 12] (sq [mv 13 1,i 14 (.a (.bslice true [qj] 1 [(0,.t 13)]) none),mv 8 14] (.seq (.block 0 (.loop (.seq (sq [mv 15 8,ln 16 15,bk 17 .gtr 16 0] (qv 17 0)) (.block 1 (sq [mv 18 8,iX 19 1 18 0,ld 20 19,mv 9 20] (sq [mv 21 8,i 22 (.p (.slice 1 (.t 21) (some (kc 1)) none none)),mv 8 22] (sq [lg 23 2 3,mv 24 9,ca 25 133 [.t 23,.t 24],ln 26 25,ki 27 0] (.block 2 (.loop (sq [b2 28 .lss 27 26] (.seq (qv 28 2) (.seq (.block 3 (sq [ia 29 1 25 27,ld 30 29,mv 11 30] (.seq (sq [mv 31 11,mv 32 2,b2 33 .eql 31 32] (qQ 33 [bt 6])) (sq [mv 34 7,mv 35 11,i 36 (.r (.lookup (.one .int) (.bool false) false (.t 34) (.t 35))),nt 37 36] (cd 37 (sq [mv 38 7,mv 39 11,n (.w (.mupd (.one .int) (.t 38) (.t 39) (.c (.bool true))))] (.ops [mv 40 8,mv 41 11,i 42 (.a (.bslice true [qj] 1 [(0,.t 41)]) none),aD 43 1 8 40 42,mv 8 43])) .skip))))) (.ops [bk 44 .add 27 1,mv 27 44]))))))))))))) (sq [bf 6] .ret)))))
def f94:IFn:=⟨true,45,[.tm 6],b94⟩
def b95:IC :=(sq [bx 2 2 0,ns 4] (.seq (sq [lg 9 2 2,ca 10 32 [.t 9],nt 11 10,mv 12 11,eM 13 12 1,eC 14 12 .lss 13 0,oP 15 12 14,mv 16 15,eM 17 16 1,eF 18 16 0 2,eL 19 16 18,eN 20 16 19,eB 21 16 .geq 17 20,oP 22 16 21] (qQ 22 [ns 4])) (sq [fa 23 0 2,ld 24 23,ln 25 24,i 26 (.a (.mks [.bool false] 1 (.t 25) (.t 25)) none),qw 5 [.nils],sT 1 5 26] (sq [i 27 (.a (.mkm) none),mv 28 1,n (.w (.mupd (.one .int) (.t 27) (.t 28) (.c (.bool true)))),mv 29 27,qw 6 [.nilm],sT 1 6 29] (sq [i 30 (.p (.mkf 134 [] [.t 6,.t 2,.t 5])),mv 7 30] (.seq (.block 0 (.loop (.seq (sq [ld 31 6,i 32 (.r (.len .map (.t 31))),bk 33 .gtr 32 0] (qv 33 0)) (.block 1 (sq [fa 34 0 2,ld 35 34,ln 36 35,ki 37 0] (.block 2 (.loop (sq [b2 38 .lss 37 36] (.seq (qv 38 2) (.seq (.block 3 (sq [mv 39 37,mv 8 39] (sq [ld 40 6,mv 41 8,i 42 (.r (.lookup (.one .int) (.bool false) false (.t 40) (.t 41)))] (co 42 [mv 43 7,mv 44 8,i 45 (.call (.val (.t 43)) [.t 44] false)])))) (.ops [bk 46 .add 37 1,mv 37 46]))))))))))) (sq [ld 47 5,mv 4 47] .ret)))))))
def f95:IFn:=⟨false,48,[.tm 4],b95⟩
def b96:IC :=(sq [ki 4 0] (.seq (sq [mv 6 0,ln 7 6,ki 8 0] (.block 0 (.loop (sq [b2 9 .lss 8 7] (.seq (qv 9 0) (.seq (.block 1 (sq [mv 10 8,mv 5 10] (sq [mv 11 1,mv 12 0,mv 13 5,ia 14 1 12 13,ld 15 14,i 16 (.p (.eqo false .bool (.t 11) (.t 15)))] (qQ 16 [mv 17 5,mv 4 17])))) (.ops [bk 18 .add 8 1,mv 8 18]))))))) (sq [ki 4 (-1)] .ret)))
def f96:IFn:=⟨true,19,[.tm 4],b96⟩
def b97:IC :=(sq [bx 1 2 0,ns 2] (.seq (sq [lg 9 2 1,ca 10 32 [.t 9],nt 11 10] (qQ 11 [ns 2])) (sq [fa 12 0 1,ld 13 12,ln 14 13,i 15 (.a (.mks [.bool false] 1 (.t 14) (.t 14)) none),qw 3 [.nils],sT 1 3 15] (sq [i 16 (.p (.mkf 136 [] [.t 3])),qw 4 [.nilf],sT 1 4 16] (sq [i 17 (.p (.mkf 138 [] [.t 4])),mv 5 17] (.seq (sq [bt 6] (.block 0 (.loop (.seq (sq [mv 18 6] (qv 18 0)) (.block 1 (sq [bf 6] (sq [fa 19 0 1,ld 20 19,ln 21 20,ki 22 0] (.block 2 (.loop (sq [b2 23 .lss 22 21] (.seq (qv 23 2) (.seq (.block 3 (sq [mv 24 22,ia 25 3 20 22,lg 26 3 25,qw 8 [.nils,qj,.nils],mv 7 24,sT 3 8 26] (sq [ld 27 3,mv 28 7,ia 29 1 27 28,ld 30 29,nt 31 30,mv 32 31,gF 33 32 0 8,gL 34 32 33,gM 35 32 5,gt 36 32 (.call (.dir 59) [.t 34,.t 35] false),aP 37 32 36] (co 37 [ld 38 3,mv 39 7,ia 40 1 38 39,n (.w (.store 1 (.t 40) (.c (.bool true)))),bt 6])))) (.ops [bk 41 .add 22 1,mv 22 41]))))))))))))) (sq [ld 42 3,mv 2 42] .ret)))))))
def f97:IFn:=⟨true,43,[.tm 2],b97⟩
def b98:IC :=(sq [bx 2 2 0,ki 4 0] (sq [ki 5 (-1)] (.seq (sq [lg 8 2 2,ca 9 32 [.t 8],nt 10 9] (qQ 10 [mv 11 5,mv 4 11])) (.seq (sq [lg 12 2 2,ca 13 139 [.t 12],i 14 (.w (.rngM (.t 13)))] (.block 0 (.loop (sq [i 15 (.nxtM (.t 14)),ex 16 0 15] (.seq (qv 16 0) (.block 1 (sq [i 17 (.r (.entry (.t 14))),ex 18 0 17,ex 19 1 17,mv 6 18,mv 7 19] (sq [mv 20 5,bk 21 .eql 20 (-1),mv 22 21,eM 23 22 6,eM 24 22 5,eB 25 22 .lss 23 24,oP 26 22 25,mv 27 26,gM 28 27 1,gM 29 27 6,gM 30 27 7,gt 31 27 (.call (.val (.t 28)) [.t 29,.t 30] false),aP 32 27 31] (co 32 [mv 33 6,mv 5 33]))))))))) (sq [mv 34 5,mv 4 34] .ret)))))
def f98:IFn:=⟨true,35,[.tm 4],b98⟩
def b99:IC :=(sq [bf 5] (sq [mv 6 1,mv 7 0,ia 8 1 6 7,ld 9 8,mv 10 9,eG 11 10 2 2,eM 12 10 1,gf 13 10 (.call (.dir 100) [.t 11,.t 12,(kc 2)] false),oP 14 10 13,mv 5 14] .ret))
def f99:IFn:=⟨true,15,[.tm 5],b99⟩
def b100:IC :=(sq [bx 3 2 0,bf 6] (.seq (sq [mv 9 1,ln 10 9,ki 11 0] (.block 0 (.loop (sq [b2 12 .lss 11 10] (.seq (qv 12 0) (.seq (.block 1 (sq [mv 13 11,ia 14 1 9 11,ld 15 14,mv 7 13,mv 8 15] (sq [mv 16 8,mv 17 16,gF 18 17 0 3,gL 19 17 18,gM 20 17 7,gI 21 17 3 19 20,gG 22 17 3 21,gM 23 17 2,gt 24 17 (.call (.dir 102) [.t 22,.t 23] false),aP 25 17 24] (qQ 25 [bt 6])))) (.ops [bk 26 .add 11 1,mv 11 26]))))))) (sq [bf 6] .ret)))
def f100:IFn:=⟨true,27,[.tm 6],b100⟩
def b101:IC :=(sq [bf 5] (sq [fa 6 0 2,ld 7 6,mv 8 0,ia 9 3 7 8,lg 10 3 9,ca 11 102 [.t 10,(kc 1)],mv 12 11,eG 13 12 2 2,eM 14 12 1,gf 15 12 (.call (.dir 100) [.t 13,.t 14,(kc 1)] false),oP 16 12 15,mv 5 16] .ret))
def f101:IFn:=⟨true,17,[.tm 5],b101⟩
def b102:IC :=(sq [bx 2 3 0,bf 4] (.seq (.dops 0 [(1,3)] [fa 5 1 2,ld 6 5,ca 7 140 [],mv 8 1,i 9 (.p (.idxA 3 1 false (.t 7) (.t 8))),b2 10 .and 6 9,bk 11 .neq 10 0,mv 4 11]) .ret))
def f102:IFn:=⟨true,12,[.tm 4],b102⟩
def b325:IC :=(sq [bx 2 5 0,bf 4] (sq [fa 5 0 2,lg 6 2 5,ca 7 32 [.t 6],mv 8 7,gM 9 8 1,gC 10 8 .geq 9 0,aP 11 8 10,mv 12 11,gM 13 12 1,gF 14 12 0 2,gF 15 12 0 14,gL 16 12 15,gN 17 12 16,gB 18 12 .lss 13 17,aP 19 12 18,mv 4 19] .ret))
def f325:IFn:=⟨true,20,[.tm 4],b325⟩
def b332:IC :=(sq [ki 6 0] (.seq (sq [mv 11 0,mv 12 1,ca 13 331 [.t 11,.t 12],nt 14 13,mv 15 14,eM 16 15 2,eC 17 15 .lss 16 1,oP 18 15 17,mv 19 18,eM 20 19 2,eC 21 19 .gtr 20 16,oP 22 19 21] (qQ 22 [ki 6 (-1)])) (sq [ki 7 0] (.seq (sq [mv 23 0,mv 24 1,ca 25 341 [.t 23,.t 24],mv 8 25] (.block 0 (.loop (.seq (sq [mv 26 8,mv 27 1,b2 28 .lss 26 27] (qv 28 0)) (.block 1 (sq [mv 30 0,mv 31 8,ca 32 153 [.t 30,.t 31],mv 29 32,ex 33 0 29,ex 34 1 29,mv 9 33,mv 10 34] (.seq (.block 2 (sq [mv 38 8,mv 39 10,b2 40 .add 38 39,mv 41 1,b2 42 .gtr 40 41,mv 37 42] (cd 37 (sq [mv 43 7,mv 6 43] .ret) (sq [mv 45 0,mv 46 8,ia 47 1 45 46,ld 48 47,bJ 49 .eql 48 .u8 9,mv 44 49] (cd 44 (.ops [mv 50 7,mv 51 2,mv 52 7,mv 53 2,b2 54 .rem 52 53,b2 55 .sub 51 54,b2 56 .add 50 55,mv 7 56]) (.ops [mv 35 7,bk 36 .add 35 1,mv 7 36])))))) (.ops [mv 57 8,mv 58 10,b2 59 .add 57 58,mv 8 59])))))))) (sq [mv 60 7,mv 6 60] .ret)))))
def f332:IFn:=⟨true,61,[.tm 6],b332⟩
def b342:IC :=(sq [bx 4 1 0,bx 5 3 1,bx 6 2 2,bx 7 1 3,i 8 (.p (.mov (.c .nilf)))] (sq [i 9 (.p (.mkf 351 [] [.t 5,.t 4,.t 6,.t 7])),mv 8 9] .ret))
def f342:IFn:=⟨false,10,[.tm 8],b342⟩
def b346:IC :=(sq [bx 2 2 0,bx 3 2 1,ki 4 0] (.seq (.dops 0 [(6,4),(8,4)] [fa 5 0 2,ld 6 5,fa 7 0 3,ld 8 7,ca 9 227 [.t 6,.t 8],fa 10 1 2,ld 11 10,fa 12 1 3,ld 13 12,ca 14 227 [.t 11,.t 13],i 15 (.a (.bslice true [qj] 2 [(0,.t 9),(1,.t 14)]) none),ca 16 347 [.t 15],mv 4 16]) .ret))
def f346:IFn:=⟨false,17,[.tm 4],b346⟩
def b347:IC :=(sq [ki 2 0] (sq [ki 3 0] (.seq (sq [mv 6 0,ln 7 6,ki 8 0] (.block 0 (.loop (sq [b2 9 .lss 8 7] (.seq (qv 9 0) (.seq (.block 1 (sq [ia 10 1 6 8,ld 11 10,mv 5 11] (sq [mv 12 5,mv 13 3,b2 14 .neq 12 13] (qQ 14 [mv 15 5,mv 2 15])))) (.ops [bk 16 .add 8 1,mv 8 16]))))))) (sq [mv 17 3,mv 2 17] .ret))))
def f347:IFn:=⟨false,18,[.tm 2],b347⟩
def b227:IC :=(sq [ki 4 0] (sq [mv 7 0,ca 8 208 [.t 7],mv 5 8] (sq [mv 9 1,ca 10 208 [.t 9],mv 6 10] (.seq (sq [mv 11 5] (cd 11 (.seq (sq [mv 12 6] (qQ 12 [ki 4 0])) (sq [ki 4 (-1)] .ret)) .skip)) (.seq (sq [mv 13 6] (qQ 13 [ki 4 1])) (.seq (sq [mv 14 0,mv 15 1,b2 16 .lss 14 15] (qQ 16 [ki 4 (-1)])) (.seq (sq [mv 17 0,mv 18 1,b2 19 .gtr 17 18] (qQ 19 [ki 4 1])) (sq [ki 4 0] .ret))))))))
def f227:IFn:=⟨true,20,[.tm 4],b227⟩
def b348:IC :=(sq [ns 4] (.seq (sq [mv 8 0,ln 9 8,bk 10 .lss 9 2] (qQ 10 [mv 11 0,mv 4 11])) (.seq (sq [ki 5 1] (.block 0 (.loop (.seq (sq [mv 12 5,mv 13 0,ln 14 13,b2 15 .lss 12 14] (qv 15 0)) (.seq (.block 1 (.seq (.dops 0 [] [mv 18 1,mv 19 0,mv 20 5,ia 21 2 19 20,lg 22 2 21,mv 23 0,mv 24 5,bk 25 .sub 24 1,ia 26 2 23 25,lg 27 2 26,i 28 (.call (.val (.t 18)) [.t 22,.t 27] false)]) (cd 28 (sq [mv 29 0,mv 30 5,sL 31 2 29 30,mv 6 31] (.seq (sq [ki 7 1] (.block 2 (.loop (.seq (sq [mv 32 7,mv 33 6,ln 34 33,b2 35 .lss 32 34] (qv 35 2)) (.seq (.block 3 (.seq (.dops 0 [] [mv 38 1,mv 39 6,mv 40 7,ia 41 2 39 40,lg 42 2 41,mv 43 6,mv 44 7,bk 45 .sub 44 1,ia 46 2 43 45,lg 47 2 46,i 48 (.call (.val (.t 38)) [.t 42,.t 47] false),nt 49 48]) (cd 49 (sq [mv 50 0,mv 51 5,mv 52 6,mv 53 7,ia 54 2 52 53,lg 55 2 54,ia 56 2 50 51,sT 2 56 55] (.ops [mv 57 5,bk 58 .add 57 1,mv 5 58])) .skip))) (.ops [mv 36 7,bk 37 .add 36 1,mv 7 37])))))) (sq [mv 59 0,mv 60 5,sL 61 2 59 60,n (.w (.clear [qj,qj] (.t 61)))] (sq [mv 62 0,mv 63 5,sH 64 2 62 63,mv 4 64] .ret)))) .skip))) (.ops [mv 16 5,bk 17 .add 16 1,mv 5 17])))))) (sq [mv 65 0,mv 4 65] .ret))))
def f348:IFn:=⟨false,66,[.tm 4],b348⟩
def b349:IC :=(sq [bx 2 2 0,bx 3 2 1,bf 4] (sq [fa 5 0 2,ld 6 5,fa 7 0 3,ld 8 7,b2 9 .eql 6 8,mv 4 9] .ret))
def f349:IFn:=⟨true,10,[.tm 4],b349⟩
def b326:IC :=(sq [bx 1 8 0,bf 2] (sq [fa 3 5 1,ld 4 3,bk 5 .geq 4 0,mv 6 5,gF 7 6 5 1,gL 8 6 7,gF 9 6 6 1,gL 10 6 9,gB 11 6 .leq 8 10,aP 12 6 11,mv 13 12,gF 14 13 6 1,gL 15 13 14,gF 16 13 0 1,gF 17 13 2 16,gL 18 13 17,gN 19 13 18,gB 20 13 .leq 15 19,aP 21 13 20,mv 22 21,gF 23 22 0 1,gF 24 22 3 23,gL 25 22 24,gC 26 22 .geq 25 1,aP 27 22 26,mv 28 27,gF 29 28 0 1,gF 30 28 3 29,gL 31 28 30,gC 32 28 .leq 31 16,aP 33 28 32,mv 2 33] .ret))
def f326:IFn:=⟨true,34,[.tm 2],b326⟩
def b327:IC :=(sq [bf 6] (sq [mv 10 1,mv 11 2,ca 12 153 [.t 10,.t 11],mv 9 12,ex 13 0 9,ex 14 1 9,mv 7 13,mv 8 14] (sq [mv 15 7,bk 16 .lss 15 0,mv 17 16,eM 18 17 0,eM 19 17 7,gf 20 17 (.call (.dir 144) [.t 18,.t 19] false),eX 21 17 20,oP 22 17 21,mv 6 22] .ret)))
def f327:IFn:=⟨true,23,[.tm 6],b327⟩
def b328:IC :=(sq [bx 1 8 0,i 2 (.p (.mov (.c .nilm)))] (sq [i 3 (.a (.mkm) none),lg 4 8 1,i 5 (.p (.mkf 335 [.t 4] [])),n (.w (.mupd (.one .int) (.t 3) (kc 2) (.t 5))),lg 6 8 1,i 7 (.p (.mkf 336 [.t 6] [])),n (.w (.mupd (.one .int) (.t 3) (kc 4) (.t 7))),lg 8 8 1,i 9 (.p (.mkf 337 [.t 8] [])),n (.w (.mupd (.one .int) (.t 3) (kc 16) (.t 9))),mv 10 3,mv 2 10] .ret))
def f328:IFn:=⟨false,11,[.tm 2],b328⟩
def b315:IC :=(sq [ns 2] (sq [qw 3 [.nils]] (sq [qw 4 [qj],n (.w (.store 1 (.t 4) (kc (-1))))] (.seq (sq [mv 6 0,ca 7 329 [.t 6]] (.block 0 (.rangeF (.t 7) [8] (.ops [mv 5 8]) (.block 1 (.ops [ld 9 3,mv 10 5,i 11 (.a (.bslice true [qj] 1 [(0,.t 10)]) none),aD 12 1 8 9 11,mv 13 5,sT 1 3 12,sT 1 4 13]))))) (.seq (sq [ld 14 4,mv 15 0,ln 16 15,b2 17 .neq 14 16] (co 17 [ld 18 3,mv 19 0,ln 20 19,i 21 (.a (.bslice true [qj] 1 [(0,.t 20)]) none),aD 22 1 8 18 21,sT 1 3 22])) (sq [ld 23 3,mv 2 23] .ret))))))
def f315:IFn:=⟨true,24,[.tm 2],b315⟩
def b396:IC :=(sq [bx 3 3 1,ns 4] (.seq (.dops 0 [] [mv 8 0,nc 9 8,fa 10 5 9,ld 11 10,lg 12 3 3,i 13 (.r (.lookup (.agg [.int,.int,.int]) .nils true (.t 11) (.t 12))),mv 7 13,ex 14 0 7,ex 15 1 7,mv 5 14,mv 6 15]) (.seq (sq [mv 16 6,nt 17 16] (cd 17 (.seq (.dops 0 [] [mv 18 0,nc 19 18,fa 20 0 19,lg 21 5 20,fa 22 0 3,ld 23 22,fa 24 1 3,ld 25 24,fa 26 2 3,ld 27 26,ca 28 311 [.t 21,.t 23,.t 25,.t 27],mv 5 28]) (.dops 0 [] [mv 29 0,nc 30 29,fa 31 5 30,ld 32 31,lg 33 3 3,mv 34 5,n (.w (.mupd (.agg [.int,.int,.int]) (.t 32) (.t 33) (.t 34)))])) .skip)) (sq [mv 35 5,mv 4 35] .ret))))
def f396:IFn:=⟨false,36,[.tm 4],b396⟩
def b397:IC :=(sq [bx 4 4 1,ns 6] (.seq (.seq (.dops 0 [] [mv 15 0,nc 16 15,fa 17 7 16,ld 18 17,lg 19 4 4,i 20 (.r (.lookup (.agg [.int,.int,.int,.int]) .nils true (.t 18) (.t 19))),mv 14 20,ex 21 0 14,ex 22 1 14,mv 7 21,mv 8 22]) (sq [mv 23 8] (qQ 23 [mv 24 7,mv 6 24]))) (.seq (.dops 0 [(2,23),(8,23),(11,23),(14,23),(15,23),(18,23),(20,23)] [fa 25 0 4,fa 26 0 25,ld 27 26,mv 28 0,nc 29 28,fa 30 0 29,fa 31 0 30,fa 32 0 31,ld 33 32,fa 34 0 4,fa 35 0 34,ld 36 35,ia 37 3 33 36,fa 38 0 37,ld 39 38,ln 40 39,fa 41 0 4,fa 42 1 41,ld 43 42,fa 44 3 4,ld 45 44,bu 46 [qj,qj,qj,qj] [(0,1,.t 27),(1,1,.t 40),(2,1,.t 43),(3,1,.t 45)],qw 9 [qj,qj,qj,qj],sT 4 9 46]) (sq [lg 47 4 9,i 48 (.a (.bslice true [qj,qj,qj,qj] 1 [(0,.t 47)]) none),mv 10 48] (.seq (.dops 0 [] [mv 49 0,nc 50 49,fa 51 0 50,lg 52 5 51,fa 53 0 4,fa 54 0 53,ld 55 54,fa 56 0 4,fa 57 1 56,ld 58 57,fa 59 0 4,fa 60 2 59,ld 61 60,ca 62 319 [.t 52,.t 55,.t 58,.t 61],mv 11 62]) (.seq (.seq (.dops 0 [] [mv 63 0,nc 64 63,fa 65 0 64,fa 66 0 65,fa 67 0 66,ld 68 67,fa 69 0 4,fa 70 0 69,ld 71 70,ia 72 3 68 71,fa 73 0 72,ld 74 73,ln 75 74,ki 76 0]) (.block 0 (.loop (sq [b2 77 .lss 76 75] (.seq (qv 77 0) (.seq (.block 1 (sq [mv 78 76,mv 12 78] (sq [fa 79 0 4,fa 80 0 79,ld 81 80,mv 82 12,fa 83 0 4,fa 84 1 83,ld 85 84,fa 86 3 4,ld 87 86,mv 88 11,bu 89 [qj,qj,qj,qj,qj,qj] [(0,1,.t 81),(1,1,.t 82),(2,1,(kc 0)),(3,1,.t 85),(4,1,.t 87),(5,1,.t 88)],qw 13 [qj,qj,qj,qj,qj,qj],sT 6 13 89] (sq [mv 90 0,lg 91 4 4,ca 92 408 [.t 90,.t 91],mv 93 92,gM 94 93 0,gG 95 93 6 13,gt 96 93 (.call (.dir 409) [.t 94,.t 95] false),gM 97 93 2,gB 98 93 .eql 96 97,aP 99 93 98] (cd 99 (sq [mv 100 12,fa 101 1 9,sT 1 101 100] (.seq (.dops 0 [(0,6)] [lg 102 4 9,i 103 (.a (.bslice true [qj,qj,qj,qj] 1 [(0,.t 102)]) none),mv 104 0,lg 105 6 13,mv 106 2,ca 107 410 [.t 104,.t 105,.t 106],aD 108 4 32 103 107,mv 10 108]) (.exit 0))) .skip))))) (.ops [bk 109 .add 76 1,mv 76 109]))))))) (.seq (.dops 0 [] [mv 110 0,nc 111 110,fa 112 7 111,ld 113 112,lg 114 4 4,mv 115 10,n (.w (.mupd (.agg [.int,.int,.int,.int]) (.t 113) (.t 114) (.t 115)))]) (sq [mv 116 10,mv 6 116] .ret))))))))
def f397:IFn:=⟨false,117,[.tm 6],b397⟩
def b398:IC :=(sq [bx 4 4 1,ki 6 0] (.seq (sq [mv 11 0,lg 12 4 4,i 13 (.r (.lookup (.agg [.int,.int,.int,.int]) (.int .i64 0) true (.t 11) (.t 12))),mv 10 13,ex 14 0 10,ex 15 1 10,mv 7 14,mv 8 15] (sq [mv 16 8] (qQ 16 [mv 17 7,mv 6 17]))) (sq [mv 18 2,i 19 (.call (.val (.t 18)) [] false),mv 9 19] (sq [mv 20 0,lg 21 4 4,mv 22 9,n (.w (.mupd (.agg [.int,.int,.int,.int]) (.t 20) (.t 21) (.t 22)))] (sq [mv 23 9,mv 6 23] .ret)))))
def f398:IFn:=⟨false,24,[.tm 6],b398⟩
def b399:IC :=(sq [ki 2 0] (.seq (sq [ld 6 0,fa 7 0 1,lg 8 3 7,ca 9 401 [.t 6,.t 8],i 10 (.p (.mkf 402 [] [.t 1])),ca 11 400 [.t 9,.t 10],nt 12 11] (qQ 12 [ki 2 0])) (sq [ki 3 0] (.seq (.dops 0 [] [ld 13 0,nc 14 13,fa 15 0 14,lg 16 5 15,fa 17 0 1,fa 18 0 17,ld 19 18,fa 20 0 1,fa 21 1 20,ld 22 21,fa 23 0 1,fa 24 2 23,ld 25 24,ca 26 319 [.t 16,.t 19,.t 22,.t 25],mv 4 26]) (.seq (.seq (.dops 0 [] [ld 27 0,nc 28 27,fa 29 0 28,fa 30 0 29,fa 31 0 30,ld 32 31,fa 33 0 1,fa 34 0 33,ld 35 34,ia 36 3 32 35,fa 37 0 36,ld 38 37,ln 39 38,ki 40 0]) (.block 0 (.loop (sq [b2 41 .lss 40 39] (.seq (qv 41 0) (.seq (.block 1 (sq [mv 42 40,mv 5 42] (.ops [mv 43 3,ld 44 0,fa 45 0 1,fa 46 0 45,ld 47 46,mv 48 5,fa 49 0 1,fa 50 1 49,ld 51 50,fa 52 3 1,ld 53 52,mv 54 4,bu 55 [qj,qj,qj,qj,qj,qj] [(0,1,.t 47),(1,1,.t 48),(2,1,(kc 0)),(3,1,.t 51),(4,1,.t 53),(5,1,.t 54)],ca 56 404 [.t 44,.t 55],ca 57 403 [.t 43,.t 56],mv 3 57]))) (.ops [bk 58 .add 40 1,mv 40 58]))))))) (sq [mv 59 3,mv 2 59] .ret))))))
def f399:IFn:=⟨false,60,[.tm 2],b399⟩
def b400:IC :=(sq [bf 4] (sq [mv 5 0,mv 6 1,ca 7 411 [.t 5,.t 6],bk 8 .geq 7 0,mv 4 8] .ret))
def f400:IFn:=⟨true,9,[.tm 4],b400⟩
def b401:IC :=(sq [bx 2 1 0,bx 3 3 1,ns 4] (.seq (.dops 0 [] [ld 5 2,nc 6 5,fa 7 5 6,ld 8 7,lg 9 3 3,i 10 (.p (.mkf 413 [] [.t 2,.t 3])),ca 11 412 [.t 8,.t 9,.t 10],mv 4 11]) .ret))
def f401:IFn:=⟨false,12,[.tm 4],b401⟩
def b402:IC :=(sq [bx 2 2 0,bf 3] (sq [fa 4 0 2,ld 5 4,fa 6 3 1,ld 7 6,b2 8 .eql 5 7,mv 3 8] .ret))
def f402:IFn:=⟨true,9,[.tm 3],b402⟩
def b403:IC :=(sq [ki 4 0] (sq [mv 5 0,mv 6 1,b2 7 .add 5 6,i 8 (.p (.min (.t 7) [(kc 2)])),mv 4 8] .ret))
def f403:IFn:=⟨true,9,[.tm 4],b403⟩
def b404:IC :=(sq [bx 2 1 0,bx 3 6 1,ki 4 0] (.seq (.dops 0 [(0,19),(5,19),(7,19),(10,19),(12,19),(14,19),(16,19)] [ld 6 2,nc 7 6,fa 8 0 7,fa 9 0 8,fa 10 0 9,ld 11 10,fa 12 0 3,ld 13 12,ia 14 3 11 13,fa 15 0 14,ld 16 15,fa 17 1 3,ld 18 17,ia 19 1 16 18,ld 20 19,fa 21 2 3,ld 22 21,sL 23 3 20 22,qw 5 [.nils],sT 1 5 23]) (.seq (sq [ld 24 5,ln 25 24,bk 26 .eql 25 0] (cd 26 (.seq (sq [fa 27 3 3,ld 28 27,fa 29 4 3,ld 30 29,b2 31 .eql 28 30] (qQ 31 [ki 4 1])) (sq [ki 4 0] .ret)) .skip)) (.seq (.dops 0 [] [ld 32 2,nc 33 32,fa 34 7 33,ld 35 34,lg 36 6 3,i 37 (.p (.mkf 415 [] [.t 3,.t 5,.t 2])),ca 38 414 [.t 35,.t 36,.t 37],mv 4 38]) .ret))))
def f404:IFn:=⟨false,39,[.tm 4],b404⟩
def b115:IC :=(sq [bf 4] (sq [mv 5 0,mv 6 1,ca 7 149 [.t 5,.t 6],bk 8 .geq 7 0,mv 4 8] .ret))
def f115:IFn:=⟨false,9,[.tm 4],b115⟩
def b116:IC :=(sq [ns 0] (sq [i 1 (.a (.bslice true [.str []] 6 [(0,(qz [108,111,110,103])),(1,(qz [114,101,115])),(2,(qz [111,102,102])),(3,(qz [98,108,111,99,107])),(4,(qz [97,108,105,103,110])),(5,(qz [115,121,110,99]))]) none),mv 0 1] .ret))
def f116:IFn:=⟨false,2,[.tm 0],b116⟩
def b117:IC :=(sq [bf 4] (.seq (.seq (.dops 0 [] [mv 5 0,nc 6 5,fa 7 1 6,ld 8 7,mv 9 0,nc 10 9,fa 11 0 10,ld 12 11,lS 13 12,b2 14 .lss 8 13,mv 15 14,gM 16 15 0,gt 17 15 (.p (.nilc (.t 16))),gF 18 15 0 17,gL 19 15 18,gM 20 15 0,gt 21 15 (.p (.nilc (.t 20))),gF 22 15 1 21,gL 23 15 22,gt 24 15 (.p (.idxS (.t 19) (.t 23))),gM 25 15 1,gB 26 15 .eql 24 25,aP 27 15 26]) (cd 27 (sq [mv 28 0,nc 29 28,fa 30 1 29,ld 31 30,bk 32 .add 31 1,nc 33 28,fa 34 1 33,sT 1 34 32] (sq [bt 4] .ret)) .skip)) (sq [bf 4] .ret)))
def f117:IFn:=⟨false,35,[.tm 4],b117⟩
def b118:IC :=(sq [ki 2 0,bf 3] (sq [mv 7 0,ca 8 150 [.t 7,(kc 2)],mv 6 8,ex 9 0 6,ex 10 1 6,mv 4 9,mv 5 10] (sq [mv 11 4,mv 12 5,bk 13 .eql 12 2,mv 2 11,mv 3 13] .ret)))
def f118:IFn:=⟨false,14,[.tm 2,.tm 3],b118⟩
def b119:IC :=(sq [ns 6,bf 7] (sq [ns 8] (.seq (.block 0 (.loop (.seq (sq [mv 12 0,mv 13 1,ca 14 117 [.t 12,.t 13],nt 15 14] (qv 15 0)) (.block 1 (sq [mv 17 2,mv 18 0,i 19 (.call (.val (.t 17)) [.t 18] false),mv 16 19,ex 20 0 16,ex 21 1 16,mv 9 20,mv 10 21] (sq [mv 22 9,mv 11 22] (.seq (sq [mv 23 10,mv 24 23,gM 25 24 0,gt 26 24 (.call (.dir 117) [.t 25,(.c (.int .u8 45))] false),aP 27 24 26] (co 27 [mv 29 2,mv 30 0,i 31 (.call (.val (.t 29)) [.t 30] false),mv 28 31,ex 32 0 28,ex 33 1 28,mv 11 32,mv 10 33])) (.seq (sq [mv 34 10,nt 35 34,mv 36 35,eM 37 36 11,eM 38 36 9,eB 39 36 .lss 37 38,oP 40 36 39] (qQ 40 [ns 6,bf 7])) (.ops [mv 41 8,mv 42 9,mv 43 11,bu 44 [qj,qj] [(0,1,.t 42),(1,1,.t 43)],i 45 (.a (.bslice true [qj,qj] 1 [(0,.t 44)]) none),aD 46 2 16 41 45,mv 8 46]))))))))) (sq [mv 47 8,ca 48 151 [.t 47],mv 6 48,bt 7] .ret))))
def f119:IFn:=⟨false,49,[.tm 6,.tm 7],b119⟩
def b120:IC :=(sq [ki 2 0,bf 3] (.seq (sq [mv 8 0,ca 9 117 [.t 8,(.c (.int .u8 92))]] (cd 9 (.seq (sq [mv 10 0,ca 11 117 [.t 10,(.c (.int .u8 117))],nt 12 11] (qQ 12 [ki 2 0,bf 3])) (sq [mv 14 0,ca 15 150 [.t 14,(kc 6)],mv 13 15,ex 16 0 13,ex 17 1 13,mv 4 16,mv 5 17] (sq [mv 18 4,mv 19 5,bk 20 .gtr 19 0,mv 21 20,gM 22 21 4,gt 23 21 (.call (.dir 152) [.t 22] false),aP 24 21 23,mv 25 24,gM 26 25 0,gt 27 25 (.call (.dir 117) [.t 26,(.c (.int .u8 59))] false),aP 28 25 27,mv 2 18,mv 3 28] .ret))) .skip)) (.seq (.dops 0 [] [mv 30 0,nc 31 30,fa 32 0 31,ld 33 32,mv 34 0,nc 35 34,fa 36 1 35,ld 37 36,i 38 (.p (.sliceS (.t 33) (some (.t 37)) none)),i 39 (.a (.s2b true (.t 38)) none),ca 40 153 [.t 39,(kc 0)],mv 29 40,ex 41 0 29,ex 42 1 29,mv 6 41,mv 7 42]) (sq [mv 43 0,nc 44 43,fa 45 1 44,ld 46 45,mv 47 7,b2 48 .add 46 47,nc 49 43,fa 50 1 49,sT 1 50 48] (sq [mv 51 6,mv 52 6,bk 53 .geq 52 32,mv 54 53,gM 55 54 6,gt 56 54 (.p (.ci .i32 (.t 55))),gt 57 54 (.call (.dir 125) [(qz [91,93,94,45,92]),.t 56] false),gX 58 54 57,aP 59 54 58,mv 2 51,mv 3 59] .ret)))))
def f120:IFn:=⟨false,60,[.tm 2,.tm 3],b120⟩
def b121:IC :=(sq [ns 4] (.seq (sq [mv 5 1,bk 6 .lss 5 0] (qQ 6 [ns 4])) (sq [mv 7 1,i 8 (.p (.min (.t 7) [(kc 1114111)])),bu 9 [qj,qj] [(0,1,(kc 0)),(1,1,.t 8)],i 10 (.a (.bslice true [qj,qj] 1 [(0,.t 9)]) none),mv 11 0,ca 12 122 [.t 10,.t 11],mv 4 12] .ret)))
def f121:IFn:=⟨false,13,[.tm 4],b121⟩
def b122:IC :=(sq [ns 4] (sq [mv 5 0,mv 6 1,ca 7 154 [.t 5,.t 6,(.c (.fn 155 [] []))],mv 4 7] .ret))
def f122:IFn:=⟨true,8,[.tm 4],b122⟩
def b123:IC :=(sq [bf 4] (sq [mv 5 0,mv 6 1,nc 7 5,i 8 (.p (.iaddrA 256 1 (.t 7) (.t 6))),ld 9 8,mv 4 9] .ret))
def f123:IFn:=⟨false,10,[.tm 4],b123⟩
def b124:IC :=(sq [i 2 (.p (.mov (.c (.int .i32 0)))),ki 3 0] (.seq (sq [mv 4 0,i 5 (.p (.bin .neq (.t 4) qx)),mv 6 5,gM 7 6 0,gt 8 6 (.p (.idxS (.t 7) (kc 0))),gt 9 6 (.p (.bin .lss (.t 8) (.c (.int .u8 128)))),aP 10 6 9] (cd 10 (sq [mv 11 0,i 12 (.p (.idxS (.t 11) (kc 0))),cV 13 .i32 12,mv 2 13,ki 3 1] .ret) (.ops [mv 15 0,ca 16 156 [.t 15],mv 14 16,ex 17 0 14,ex 18 1 14,mv 2 17,mv 3 18]))) .ret))
def f124:IFn:=⟨false,19,[.tm 2,.tm 3],b124⟩
def b125:IC :=(sq [bf 4] (sq [mv 5 0,mv 6 1,ca 7 157 [.t 5,.t 6],bk 8 .geq 7 0,mv 4 8] .ret))
def f125:IFn:=⟨false,9,[.tm 4],b125⟩
def b126:IC :=(sq [bf 4] (sq [mv 5 0,bJ 6 .geq 5 .i32 97,mv 7 6,gM 8 7 0,gt 9 7 (.p (.bin .leq (.t 8) (.c (.int .i32 122)))),aP 10 7 9,mv 11 10,eM 12 11 1,eM 13 11 12,gM 14 13 0,gt 15 13 (.p (.bin .geq (.t 14) (.c (.int .i32 48)))),gM 16 13 15,gM 17 16 0,gt 18 16 (.p (.bin .leq (.t 17) (.c (.int .i32 57)))),gt 19 13 (.p (.pick (.t 16) (.t 18) (.c (.bool false)))),gM 20 13 19,eM 21 20 0,gf 22 20 (.p (.bin .eql (.t 21) (.c (.int .i32 95)))),gt 23 13 (.p (.pick (.t 20) (.c (.bool true)) (.t 22))),gf 24 11 (.p (.pick (.t 13) (.t 23) (.c (.bool false)))),oP 25 11 24,mv 4 25] .ret))
def f126:IFn:=⟨false,26,[.tm 4],b126⟩
def b127:IC :=(sq [i 2 (.a (.alloc [qj,.str [],.nils,.nils,qj]) none),bf 3] (.seq (sq [mv 6 0,nc 7 6,fa 8 0 7,ld 9 8,ln 10 9,bk 11 .eql 10 0] (qQ 11 [i 12 (.p (.build [qj,.str [],.nils,.nils,qj] [])),sT 5 2 12,bf 3])) (.seq (.dops 0 [(4,0),(7,0)] [ca 14 158 [],mv 15 0,nc 16 15,fa 17 0 16,ld 18 17,iX 19 4 18 0,fa 20 0 19,ld 21 20,i 22 (.r (.lookup (.one .int) .nilf true (.t 14) (.t 21))),mv 13 22,ex 23 0 13,ex 24 1 13,mv 4 23,mv 5 24]) (.seq (sq [mv 25 5,nt 26 25] (qQ 26 [i 27 (.p (.build [qj,.str [],.nils,.nils,qj] [])),sT 5 2 27,bf 3])) (sq [mv 28 4,mv 29 0,i 30 (.call (.val (.t 28)) [.t 29] false),ex 31 0 30,ex 32 1 30,sT 5 2 31,mv 3 32] .ret)))))
def f127:IFn:=⟨false,33,[.cell (some 5) 2,.tm 3],b127⟩
def b128:IC :=(sq [bx 3 5 1,i 4 (.a (.alloc [qj,.str [],.nils,.nils,qj]) none)] (.seq (sq [i 7 (.p (.build [.str [],qj] [(0,1,(qz [42])),(1,1,(kc 6))])),i 8 (.p (.build [.str [],qj] [(0,1,(qz [43])),(1,1,(kc 7))])),i 9 (.p (.build [.str [],qj] [(0,1,(qz [63])),(1,1,(kc 8))])),i 10 (.a (.bslice true [.str [],qj] 3 [(0,.t 7),(1,.t 8),(2,.t 9)]) none),ln 11 10,ki 12 0] (.block 0 (.loop (sq [b2 13 .lss 12 11] (.seq (qv 13 0) (.seq (.block 1 (sq [ia 14 2 10 12,lg 15 2 14,i 6 (.a (.alloc [.str [],qj]) none),sT 2 6 15] (sq [mv 16 0,fa 17 0 6,ld 18 17,ca 19 47 [.t 16,.t 18]] (qQ 19 [fa 20 1 6,ld 21 20,lg 22 5 3,i 23 (.a (.bslice true [qj,.str [],.nils,.nils,qj] 1 [(0,.t 22)]) none),fa 24 4 3,ld 25 24,i 26 (.p (.build [qj,.str [],.nils,.nils,qj] [(0,1,.t 21),(3,1,.t 23),(4,1,.t 25)])),sT 5 4 26])))) (.ops [bk 27 .add 12 1,mv 12 27]))))))) (sq [lg 28 5 3,sT 5 4 28] .ret)))
def f128:IFn:=⟨false,29,[.cell (some 5) 4],b128⟩
def b129:IC :=(sq [qw 4 [qj,.nils,qj]] (sq [mv 5 0,mv 6 1,ca 7 29 [.t 6],bu 8 [qj,.nils,qj] [(0,1,.t 5),(1,1,.t 7)],sT 3 4 8] .ret))
def f129:IFn:=⟨false,9,[.cell (some 3) 4],b129⟩
def b130:IC :=(sq [ki 4 0] (.seq (sq [mv 6 0,ln 7 6,ki 8 0] (.block 0 (.loop (sq [b2 9 .lss 8 7] (.seq (qv 9 0) (.seq (.block 1 (sq [mv 10 8,mv 5 10] (sq [mv 11 1,mv 12 0,mv 13 5,ia 14 2 12 13,lg 15 2 14,i 16 (.call (.val (.t 11)) [.t 15] false)] (qQ 16 [mv 17 5,mv 4 17])))) (.ops [bk 18 .add 8 1,mv 8 18]))))))) (sq [ki 4 (-1)] .ret)))
def f130:IFn:=⟨true,19,[.tm 4],b130⟩
def b131:IC :=(sq [bx 1 2 0,i 2 (.p (.mov (.c .nilp)))] (.seq (.dops 3 [(1,0),(2,0),(5,0),(6,0)] [fa 8 0 1,ld 9 8,ln 10 9,i 11 (.a (.mks [qj] 8 (.t 10) (.t 10)) (some 0)),fa 12 0 1,ld 13 12,ln 14 13,i 15 (.a (.mks [.nils] 24 (.t 14) (.t 14)) (some 1)),bu 16 [.nils,.nils] [(0,1,.t 11),(1,1,.t 15)],i 17 (.a (.box 2 (.t 16)) (some 2)),mv 3 17]) (.seq (sq [fa 18 0 1,ld 19 18,ln 20 19,ki 21 0] (.block 0 (.loop (sq [b2 22 .lss 21 20] (.seq (qv 22 0) (.seq (.block 1 (sq [mv 23 21,mv 4 23] (sq [lg 24 2 1,mv 25 4,ca 26 133 [.t 24,.t 25],mv 5 26] (sq [mv 27 3,nc 28 27,fa 29 0 28,ld 30 29,mv 31 4,mv 32 5,ln 33 32,ia 34 1 30 31,sT 1 34 33] (sq [mv 35 5,ln 36 35,ki 37 0] (.block 2 (.loop (sq [b2 38 .lss 37 36] (.seq (qv 38 2) (.seq (.block 3 (sq [ia 39 1 35 37,ld 40 39,mv 7 40] (.dops 0 [(3,15)] [mv 41 3,nc 42 41,fa 43 1 42,ld 44 43,mv 45 7,mv 46 3,nc 47 46,fa 48 1 47,ld 49 48,mv 50 7,ia 51 1 49 50,ld 52 51,mv 53 4,i 54 (.a (.bslice true [qj] 1 [(0,.t 53)]) none),aD 55 1 8 52 54,ia 56 1 44 45,sT 1 56 55]))) (.ops [bk 57 .add 37 1,mv 37 57]))))))))))) (.ops [bk 58 .add 21 1,mv 21 58]))))))) (sq [mv 59 3,mv 2 59] .ret))))
def f131:IFn:=⟨false,60,[.tm 2],b131⟩
def b132:IC :=(sq [ns 2] (sq [qw 3 [.nils]] (sq [i 11 (.p (.mkf 159 [.t 3] [])),mv 4 11] (.seq (sq [mv 12 0,nc 13 12,fa 14 0 13,ld 15 14,ln 16 15,ki 17 0] (.block 0 (.loop (sq [b2 18 .lss 17 16] (.seq (qv 18 0) (.seq (.block 1 (sq [mv 19 17,ia 20 1 15 17,ld 21 20,mv 5 19,mv 6 21] (sq [mv 22 6,bk 23 .eql 22 0] (co 23 [mv 24 4,mv 25 5,i 26 (.call (.val (.t 24)) [.t 25] false)])))) (.ops [bk 27 .add 17 1,mv 17 27]))))))) (sq [ns 7] (.seq (.block 2 (.loop (.seq (sq [ca 28 160 [.t 3],bk 29 .gtr 28 0] (qv 29 2)) (.block 3 (sq [ca 30 161 [.t 3],mv 8 30] (sq [mv 31 7,mv 32 8,i 33 (.a (.bslice true [qj] 1 [(0,.t 32)]) none),aD 34 1 8 31 33,mv 7 34] (sq [mv 35 0,nc 36 35,fa 37 1 36,ld 38 37,mv 39 8,ia 40 1 38 39,ld 41 40,ln 42 41,ki 43 0] (.block 4 (.loop (sq [b2 44 .lss 43 42] (.seq (qv 44 4) (.seq (.block 5 (sq [ia 45 1 41 43,ld 46 45,mv 10 46] (sq [mv 47 0,nc 48 47,fa 49 0 48,ld 50 49,mv 51 10,ia 52 1 50 51,ld 53 52,bk 54 .sub 53 1,ia 55 1 50 51,sT 1 55 54] (sq [mv 56 0,nc 57 56,fa 58 0 57,ld 59 58,mv 60 10,ia 61 1 59 60,ld 62 61,bk 63 .eql 62 0] (co 63 [mv 64 4,mv 65 10,i 66 (.call (.val (.t 64)) [.t 65] false)]))))) (.ops [bk 67 .add 43 1,mv 43 67]))))))))))))) (sq [mv 68 7,mv 2 68] .ret)))))))
def f132:IFn:=⟨false,69,[.tm 2],b132⟩
def b133:IC :=(sq [bx 2 2 0,ns 4] (.seq (sq [lg 11 2 2,ca 12 32 [.t 11],nt 13 12,mv 14 13,eM 15 14 1,eC 16 14 .lss 15 0,oP 17 14 16,mv 18 17,eM 19 18 1,eF 20 18 0 2,eL 21 18 20,eN 22 18 21,eB 23 18 .geq 19 22,oP 24 18 23] (qQ 24 [ns 4])) (sq [lg 25 2 2,ca 26 162 [.t 25],mv 5 26] (sq [ns 6] (.seq (sq [fa 27 0 2,ld 28 27,mv 29 1,ia 30 3 28 29,fa 31 0 30,ld 32 31,ln 33 32,ki 34 0] (.block 0 (.loop (sq [b2 35 .lss 34 33] (.seq (qv 35 0) (.seq (.block 1 (sq [ia 36 1 32 34,ld 37 36,mv 8 37] (sq [mv 38 8,ln 39 38,ki 40 0] (.block 2 (.loop (sq [b2 41 .lss 40 39] (.seq (qv 41 2) (.seq (.block 3 (sq [mv 42 40,ia 43 3 38 40,lg 44 3 43,qw 10 [qj,.nils,qj],mv 9 42,sT 3 10 44] (sq [fa 45 0 10,ld 46 45,bk 47 .eql 46 2,mv 48 47,gM 49 48 5,gM 50 48 8,gM 51 48 9,gt 52 48 (.p (.slice 3 (.t 50) none (some (.t 51)) none)),gt 53 48 (.call (.dir 163) [.t 49,.t 52] false),aP 54 48 53] (co 54 [mv 55 6,fa 56 2 10,ld 57 56,i 58 (.a (.bslice true [qj] 1 [(0,.t 57)]) none),aD 59 1 8 55 58,mv 6 59])))) (.ops [bk 60 .add 40 1,mv 40 60]))))))))) (.ops [bk 61 .add 34 1,mv 34 61]))))))) (sq [mv 62 6,ca 63 105 [.t 62]] (sq [mv 64 6,ca 65 106 [.t 64],mv 4 65] .ret)))))))
def f133:IFn:=⟨true,66,[.tm 4],b133⟩
def b134:IC :=(sq [ld 7 1,mv 8 0,n (.w (.del (.one .int) (.t 7) (.t 8)))] (sq [fa 9 0 2,ld 10 9,mv 11 0,ia 12 3 10 11,fa 13 0 12,ld 14 13,ca 15 135 [.t 14],ln 16 15,ki 17 0] (.block 0 (.loop (sq [b2 18 .lss 17 16] (.seq (qv 18 0) (.seq (.block 1 (sq [ia 19 3 15 17,lg 20 3 19,qw 6 [qj,.nils,qj],sT 3 6 20] (sq [fa 21 0 6,ld 22 21,bk 23 .eql 22 2,mv 24 23,gL 25 24 3,gF 26 24 2 6,gL 27 24 26,gI 28 24 1 25 27,gL 29 24 28,gX 30 24 29,aP 31 24 30] (cd 31 (.dops 0 [(3,8),(5,8)] [ld 32 3,fa 33 2 6,ld 34 33,ld 35 1,fa 36 2 6,ld 37 36,ia 38 1 32 34,n (.w (.store 1 (.t 38) (.c (.bool true)))),n (.w (.mupd (.one .int) (.t 35) (.t 37) (.c (.bool true))))]) .skip)))) (.ops [bk 39 .add 17 1,mv 17 39]))))))))
def f134:IFn:=⟨false,40,[],b134⟩
def b135:IC :=(sq [ns 2] (sq [ki 3 0] (.seq (sq [mv 9 0,ln 10 9,ki 11 0] (.block 0 (.loop (sq [b2 12 .lss 11 10] (.seq (qv 12 0) (.seq (.block 1 (sq [ia 13 1 9 11,ld 14 13,mv 5 14] (sq [mv 15 3,mv 16 5,ln 17 16,b2 18 .add 15 17,mv 3 18] (sq [mv 19 3,bk 20 .lss 19 0] (co 20 [i 21 (.p (.mki 1 (qz [108,101,110,32,111,117,116,32,111,102,32,114,97,110,103,101]))),n (.bad)]))))) (.ops [bk 22 .add 11 1,mv 11 22]))))))) (sq [mv 23 3,ca 24 164 [(.c .nils),.t 23],mv 6 24] (.seq (sq [mv 25 0,ln 26 25,ki 27 0] (.block 2 (.loop (sq [b2 28 .lss 27 26] (.seq (qv 28 2) (.seq (.block 3 (sq [ia 29 1 25 27,ld 30 29,mv 8 30] (.ops [mv 31 6,mv 32 8,aD 33 3 40 31 32,mv 6 33]))) (.ops [bk 34 .add 27 1,mv 27 34]))))))) (sq [mv 35 6,mv 2 35] .ret))))))
def f135:IFn:=⟨false,36,[.tm 2],b135⟩
def b136:IC :=(sq [bx 2 3 0,bf 3] (.seq (sq [fa 4 0 2,ld 5 4] (.block 0 (sq [bk 7 .eql 5 2,mv 6 7] (cd 6 (sq [ld 8 1,fa 9 2 2,ld 10 9,ia 11 1 8 10,ld 12 11,nt 13 12,mv 3 13] .ret) (sq [bk 15 .eql 5 0,mv 14 15] (qQ 14 [fa 16 1 2,ld 17 16,ln 18 17,bk 19 .eql 18 0,mv 3 19])))))) (sq [fa 20 1 2,ld 21 20,ca 22 137 [.t 21],nt 23 22,mv 3 23] .ret)))
def f136:IFn:=⟨true,24,[.tm 3],b136⟩
def b137:IC :=(sq [bf 2] (sq [mv 3 0,bu 4 [qj,qj] [(0,1,(kc 55296)),(1,1,(kc 57343))],i 5 (.a (.bslice true [qj,qj] 1 [(0,.t 4)]) none),ca 6 122 [.t 3,.t 5],ln 7 6,bk 8 .gtr 7 0,mv 2 8] .ret))
def f137:IFn:=⟨true,9,[.tm 2],b137⟩
def b138:IC :=(sq [bf 3] (sq [mv 4 0,ld 5 1,ca 6 57 [.t 4,.t 5],nt 7 6,mv 3 7] .ret))
def f138:IFn:=⟨true,8,[.tm 3],b138⟩
def b139:IC :=(sq [bx 1 2 0,i 2 (.p (.mov (.c .nilm)))] (sq [i 6 (.a (.mkm) none),mv 3 6] (.seq (sq [fa 7 0 1,ld 8 7,ln 9 8,ki 10 0] (.block 0 (.loop (sq [b2 11 .lss 10 9] (.seq (qv 11 0) (.seq (.block 1 (sq [mv 12 10,ia 13 3 8 10,lg 14 3 13,qw 5 [.nils,qj,.nils],mv 4 12,sT 3 5 14] (sq [lg 15 3 5,ca 16 165 [.t 15]] (co 16 [mv 17 3,mv 18 4,lg 19 2 1,mv 20 4,i 21 (.call (.dir 95) [.t 19,.t 20] true),n (.w (.mupd (.one .int) (.t 17) (.t 18) (.t 21)))])))) (.ops [bk 22 .add 10 1,mv 10 22]))))))) (sq [mv 23 3,mv 2 23] .ret))))
def f139:IFn:=⟨false,24,[.tm 2],b139⟩
def b140:IC :=(sq [qw 0 [qj,qj,qj]] (sq [bu 1 [qj,qj,qj] [(0,1,(kc 3)),(1,1,(kc 28)),(2,1,(kc 32))],sT 3 0 1] .ret))
def f140:IFn:=⟨true,2,[.cell (some 3) 0],b140⟩
def b331:IC :=(sq [bf 4] (sq [mv 5 1,bk 6 .geq 5 0,mv 7 6,gM 8 7 1,gM 9 7 0,gN 10 7 9,gB 11 7 .leq 8 10,aP 12 7 11,mv 4 12] .ret))
def f331:IFn:=⟨true,13,[.tm 4],b331⟩
def b341:IC :=(sq [ki 4 0] (.seq (sq [mv 5 0,mv 6 1,ca 7 331 [.t 5,.t 6],nt 8 7] (qQ 8 [ki 4 (-1)])) (sq [mv 9 0,mv 10 1,sH 11 1 9 10,ca 12 350 [.t 11,(.c (.int .u8 10))],bk 13 .add 12 1,mv 4 13] .ret)))
def f341:IFn:=⟨true,14,[.tm 4],b341⟩
def b153:IC :=(sq [ki 4 0,ki 5 0] (.seq (sq [mv 10 1,bk 11 .lss 10 0,mv 12 11,eM 13 12 1,eM 14 12 0,eN 15 12 14,eB 16 12 .geq 13 15,oP 17 12 16] (qQ 17 [ki 4 (-1),ki 5 0])) (.seq (sq [bu 18 [.nilf,.nilf,.nilf,.nilf] [(0,1,(.c (.fn 188 [] []))),(1,1,(.c (.fn 189 [] []))),(2,1,(.c (.fn 190 [] []))),(3,1,(.c (.fn 191 [] [])))],ki 19 0] (.block 0 (.loop (sq [bk 20 .lss 19 4] (.seq (qv 20 0) (.seq (.block 1 (sq [mv 21 19,i 22 (.p (.idxA 4 1 false (.t 18) (.t 19))),mv 6 21,mv 7 22] (sq [mv 24 7,mv 25 0,mv 26 1,sL 27 1 25 26,i 28 (.call (.val (.t 24)) [.t 27] false),mv 23 28,ex 29 0 23,ex 30 1 23,mv 8 29,mv 9 30] (sq [mv 31 9] (qQ 31 [mv 32 8,mv 33 6,bk 34 .add 33 1,mv 4 32,mv 5 34]))))) (.ops [bk 35 .add 19 1,mv 19 35]))))))) (sq [ki 4 (-1),ki 5 1] .ret))))
def f153:IFn:=⟨true,36,[.tm 4,.tm 5],b153⟩
def b351:IC :=(.seq (sq [fa 10 0 1,ld 11 10,bk 12 .neq 11 2] (cd 12 (.seq (.seq (.dops 0 [] [lg 14 3 1,ld 15 2,nc 16 15,fa 17 0 16,fa 18 2 17,ld 19 18,fa 20 0 3,ld 21 20,ca 22 104 [.t 14,.t 19,.t 21],mv 13 22,ex 23 0 13,ex 24 1 13,mv 6 23,mv 7 24]) (sq [mv 25 7] (co 25 [mv 26 0,fa 27 0 3,ld 28 27,mv 29 6,b2 30 .add 28 29,fa 31 1 3,ld 32 31,bu 33 [qj,qj] [(0,1,.t 30),(1,1,.t 32)],i 34 (.call (.val (.t 26)) [.t 33] false)]))) .ret) .skip)) (sq [ld 35 2,fa 36 2 1,ld 37 36,fa 38 0 3,ld 39 38,ld 40 4,bu 41 [qj,qj,qj] [(0,1,.t 37),(1,1,.t 39),(2,1,.t 40)],ca 42 330 [.t 35,.t 41],qy 43 1 42,ln 44 43,ki 45 0] (.block 0 (.loop (sq [b2 46 .lss 45 44] (.seq (qv 46 0) (.seq (.block 1 (sq [ia 47 2 43 45,lg 48 2 47,qw 9 [qj,qj],sT 2 9 48] (sq [mv 49 0,fa 50 0 9,ld 51 50,fa 52 1 3,ld 53 52,fa 54 1 9,ld 55 54,b2 56 .add 53 55,bu 57 [qj,qj] [(0,1,.t 51),(1,1,.t 56)],i 58 (.call (.val (.t 49)) [.t 57] false),nt 59 58] (cd 59 .ret .skip)))) (.ops [bk 60 .add 45 1,mv 45 60]))))))))
def f351:IFn:=⟨false,61,[],b351⟩
def b104:IC :=(sq [bx 3 3 0,ki 6 0,bf 7] (sq [bu 9 [.nilf,.nilf,.nilf] [(0,1,(.c (.fn 107 [] []))),(1,1,(.c (.fn 141 [] []))),(2,1,(.c (.fn 109 [] [])))],lg 10 3 3,mv 11 1,mv 12 2,ca 13 110 [.t 9,.t 10,.t 11,.t 12],mv 8 13] (sq [mv 14 8,mv 15 8,bk 16 .gtr 15 0,mv 6 14,mv 7 16] .ret)))
def f104:IFn:=⟨true,17,[.tm 6,.tm 7],b104⟩
def b208:IC :=(sq [bf 2] (sq [mv 3 0,mv 4 0,b2 5 .neq 3 4,mv 2 5] .ret))
def f208:IFn:=⟨false,6,[.tm 2],b208⟩
def b144:IC :=(sq [bf 4] (sq [mv 5 0,mv 6 1,ca 7 178 [.t 5,.t 6],mv 4 7] .ret))
def f144:IFn:=⟨true,8,[.tm 4],b144⟩
def b335:IC :=(sq [bx 1 8 0,bf 2] (.seq (.dops 0 [] [fa 3 0 1,fa 4 0 3,fa 5 1 4,ld 6 5,fa 7 0 1,fa 8 2 7,ld 9 8,fa 10 5 1,ld 11 10,fa 12 6 1,ld 13 12,i 14 (.p (.slice 1 (.t 9) (some (.t 11)) (some (.t 13)) none)),i 15 (.r (.b2s (.t 14))),ca 16 115 [.t 6,.t 15],nt 17 16,mv 2 17]) .ret))
def f335:IFn:=⟨true,18,[.tm 2],b335⟩
def b336:IC :=(sq [bx 1 8 0,bf 2] (.seq (sq [fa 5 5 1,ld 6 5,mv 3 6] (.block 0 (.loop (.seq (sq [mv 7 3,fa 8 6 1,ld 9 8,b2 10 .lss 7 9] (qv 10 0)) (.seq (.block 1 (.seq (sq [fa 13 0 1,fa 14 2 13,ld 15 14,mv 16 3,ia 17 1 15 16,ld 18 17,bJ 19 .neq 18 .u8 10] (qk 19 1)) (sq [fa 20 0 1,fa 21 2 20,ld 22 21,mv 23 3,bk 24 .add 23 1,ca 25 343 [.t 22,.t 24],mv 4 25] (.seq (.dops 0 [(17,16),(19,16)] [mv 26 4,fa 27 6 1,ld 28 27,b2 29 .lss 26 28,mv 30 29,gF 31 30 0 1,gF 32 30 2 31,gL 33 30 32,gM 34 30 4,gI 35 30 1 33 34,gL 36 30 35,gt 37 30 (.p (.bin .neq (.t 36) (.c (.int .u8 10)))),aP 38 30 37,mv 39 38,gG 40 39 8 1,gM 41 39 4,gt 42 39 (.call (.dir 344) [.t 40,.t 41] false),gG 43 39 8 1,gF 44 39 5 1,gL 45 39 44,gt 46 39 (.call (.dir 344) [.t 43,.t 45] false),gB 47 39 .leq 42 46,aP 48 39 47]) (qQ 48 [bf 2]))))) (.ops [mv 11 3,bk 12 .add 11 1,mv 3 12])))))) (sq [bt 2] .ret)))
def f336:IFn:=⟨true,49,[.tm 2],b336⟩
def b337:IC :=(sq [bx 1 8 0,bf 2] (.seq (.dops 0 [(5,3)] [lg 3 8 1,fa 4 5 1,ld 5 4,ca 6 344 [.t 3,.t 5],fa 7 7 1,ld 8 7,b2 9 .eql 6 8,mv 2 9]) .ret))
def f337:IFn:=⟨true,10,[.tm 2],b337⟩
def b329:IC :=(sq [bx 1 1 0,i 2 (.p (.mov (.c .nilf)))] (sq [i 3 (.p (.mkf 338 [] [.t 1])),mv 2 3] .ret))
def f329:IFn:=⟨false,4,[.tm 2],b329⟩
def b311:IC :=(sq [bx 4 5 0,ns 8] (sq [lg 9 5 4,mv 10 1,mv 11 2,mv 12 3,bu 13 [qj,qj,qj] [(0,1,.t 10),(1,1,.t 11),(2,1,.t 12)],ca 14 324 [.t 9,.t 13],qy 15 1 14,mv 8 15] .ret))
def f311:IFn:=⟨true,16,[.tm 8],b311⟩
def b408:IC :=(sq [bx 3 4 1,bf 4] (.seq (.seq (.dops 0 [] [mv 6 0,nc 7 6,fa 8 0 7,lg 9 5 8,fa 10 0 3,fa 11 0 10,ld 12 11,fa 13 0 3,fa 14 1 13,ld 15 14,fa 16 3 3,ld 17 16,fa 18 0 3,fa 19 2 18,ld 20 19,ca 21 314 [.t 9,.t 12,.t 15,.t 17,.t 20],nt 22 21]) (qQ 22 [bf 4])) (.seq (.seq (.dops 0 [] [mv 23 0,nc 24 23,fa 25 0 24,fa 26 0 25,fa 27 0 26,ld 28 27,fa 29 0 3,fa 30 0 29,ld 31 30,ia 32 3 28 31,fa 33 1 32,ld 34 33,bk 35 .and 34 1,bk 36 .eql 35 0]) (qQ 36 [bt 4])) (.seq (.dops 0 [] [mv 37 0,nc 38 37,fa 39 0 38,lg 40 5 39,fa 41 0 3,fa 42 0 41,ld 43 42,fa 44 0 3,fa 45 1 44,ld 46 45,fa 47 0 3,fa 48 2 47,ld 49 48,ca 50 313 [.t 40,.t 43,.t 46,.t 49],mv 5 50]) (.seq (.dops 0 [] [mv 51 5,ln 52 51,bk 53 .gtr 52 0,mv 54 53,gM 55 54 5,gM 56 54 5,gN 57 54 56,gC 58 54 .sub 57 1,gI 59 54 2 55 58,gF 60 54 0 59,gL 61 54 60,gF 62 54 3 3,gL 63 54 62,gB 64 54 .eql 61 63,aP 65 54 64,mv 4 65]) .ret)))))
def f408:IFn:=⟨true,66,[.tm 4],b408⟩
def b409:IC :=(sq [bx 3 6 1,ki 4 0] (.seq (.dops 0 [] [mv 14 0,nc 15 14,fa 16 0 15,fa 17 0 16,fa 18 0 17,ld 19 18,fa 20 0 3,ld 21 20,ia 22 3 19 21,fa 23 0 22,ld 24 23,fa 25 1 3,ld 26 25,ia 27 1 24 26,ld 28 27,fa 29 2 3,ld 30 29,sL 31 3 28 30,mv 5 31]) (.seq (sq [mv 32 5,ln 33 32,bk 34 .eql 33 0] (cd 34 (.seq (sq [fa 35 3 3,ld 36 35,fa 37 4 3,ld 38 37,b2 39 .eql 36 38] (qQ 39 [ki 4 0])) (sq [ki 4 1099511627776] .ret)) .skip)) (.seq (.seq (.dops 0 [] [mv 41 0,nc 42 41,fa 43 6 42,ld 44 43,lg 45 6 3,i 46 (.r (.lookup (.agg [.int,.int,.int,.int,.int,.int]) (.int .i64 0) true (.t 44) (.t 45))),mv 40 46,ex 47 0 40,ex 48 1 40,mv 6 47,mv 7 48]) (sq [mv 49 7] (qQ 49 [mv 50 6,mv 4 50]))) (sq [ki 8 1099511627776] (sq [lg 51 6 3,qw 9 [qj,qj,qj,qj,qj,qj],sT 6 9 51] (sq [fa 52 2 9,ld 53 52,bk 54 .add 53 1,fa 55 2 9,sT 1 55 54] (.seq (sq [mv 56 5,iX 57 3 56 0,fa 58 0 57,ld 59 58,bk 60 .neq 59 2] (cd 60 (.seq (.dops 0 [] [mv 62 5,iX 63 3 62 0,lg 64 3 63,mv 65 0,nc 66 65,fa 67 0 66,fa 68 2 67,ld 69 68,fa 70 3 3,ld 71 70,ca 72 104 [.t 64,.t 69,.t 71],mv 61 72,ex 73 0 61,ex 74 1 61,mv 10 73,mv 11 74]) (sq [mv 75 11] (cd 75 (sq [fa 76 3 9,ld 77 76,mv 78 10,b2 79 .add 77 78,fa 80 3 9,sT 1 80 79] (.ops [mv 81 0,lg 82 6 9,ca 83 409 [.t 81,.t 82],mv 8 83])) .skip))) (.seq (.dops 0 [] [mv 84 0,mv 85 5,iX 86 3 85 0,fa 87 2 86,ld 88 87,fa 89 3 3,ld 90 89,fa 91 5 3,ld 92 91,bu 93 [qj,qj,qj] [(0,1,.t 88),(1,1,.t 90),(2,1,.t 92)],ca 94 396 [.t 84,.t 93],ln 95 94,ki 96 0]) (.block 0 (.loop (sq [b2 97 .lss 96 95] (.seq (qv 97 0) (.seq (.block 1 (sq [ia 98 2 94 96,lg 99 2 98,qw 13 [qj,qj],sT 2 13 99] (sq [fa 100 0 13,ld 101 100,fa 102 3 9,sT 1 102 101] (.dops 0 [(2,6)] [mv 103 8,fa 104 1 13,ld 105 104,mv 106 0,lg 107 6 9,ca 108 409 [.t 106,.t 107],b2 109 .add 105 108,i 110 (.p (.min (.t 103) [.t 109])),mv 8 110])))) (.ops [bk 111 .add 96 1,mv 96 111]))))))))) (.seq (.dops 0 [] [mv 112 0,nc 113 112,fa 114 6 113,ld 115 114,lg 116 6 3,mv 117 8,n (.w (.mupd (.agg [.int,.int,.int,.int,.int,.int]) (.t 115) (.t 116) (.t 117)))]) (sq [mv 118 8,mv 4 118] .ret))))))))))
def f409:IFn:=⟨false,119,[.tm 4],b409⟩
def b410:IC :=(sq [bx 3 1 0,bx 4 6 1,bx 5 1 2,ns 6] (.seq .skip (sq [ns 7] (.seq (.dops 0 [] [ld 18 3,nc 19 18,fa 20 0 19,fa 21 0 20,fa 22 0 21,ld 23 22,fa 24 0 4,ld 25 24,ia 26 3 23 25,fa 27 0 26,ld 28 27,fa 29 1 4,ld 30 29,ia 31 1 28 30,ld 32 31,mv 8 32]) (.seq .skip (.seq (.block 0 (.loop (.seq (sq [fa 33 2 4,ld 34 33,mv 35 8,ln 36 35,b2 37 .lss 34 36] (qv 37 0)) (.seq (.block 1 (sq [mv 42 8,fa 43 2 4,ld 44 43,ia 45 3 42 44,lg 46 3 45,qw 9 [qj,.nils,qj],sT 3 9 46] (.seq (sq [fa 47 0 9,ld 48 47,bk 49 .neq 48 2] (cd 49 (.seq (.dops 0 [] [lg 51 3 9,ld 52 3,nc 53 52,fa 54 0 53,fa 55 2 54,ld 56 55,fa 57 3 4,ld 58 57,ca 59 104 [.t 51,.t 56,.t 58],mv 50 59,ex 60 0 50,ex 61 1 50,mv 10 60,mv 11 61]) (sq [fa 62 3 4,ld 63 62,mv 64 10,b2 65 .add 63 64,fa 66 3 4,sT 1 66 65] (.exit 1))) .skip)) (sq [lg 67 6 4,qw 12 [qj,qj,qj,qj,qj,qj],sT 6 12 67] (sq [fa 68 2 12,ld 69 68,bk 70 .add 69 1,fa 71 2 12,sT 1 71 70] (sq [qw 13 [.nils]] (sq [qw 14 [qj,qj]] (sq [i 72 (.p (.mkf 418 [] [.t 12,.t 3,.t 5,.t 9,.t 4,.t 13,.t 14])),mv 15 72] (.seq (sq [ld 73 3,fa 74 2 9,ld 75 74,fa 76 3 4,ld 77 76,fa 78 5 4,ld 79 78,bu 80 [qj,qj,qj] [(0,1,.t 75),(1,1,.t 77),(2,1,.t 79)],ca 81 396 [.t 73,.t 80],ln 82 81,ki 83 0] (.block 2 (.loop (sq [b2 84 .lss 83 82] (.seq (qv 84 2) (.seq (.block 3 (sq [ia 85 2 81 83,lg 86 2 85,qw 17 [qj,qj],sT 2 17 86] (.ops [mv 87 15,lg 88 2 17,i 89 (.call (.val (.t 87)) [.t 88] false)]))) (.ops [bk 90 .add 83 1,mv 83 90]))))))) (.seq (sq [ld 91 13,i 92 (.p (.eqo false .slice (.t 91) (.c .nils)))] (qk 92 0)) (sq [mv 93 7,ld 94 13,aD 95 4 32 93 94,mv 7 95] (.dops 0 [(2,8),(4,8)] [fa 96 0 14,ld 97 96,ld 98 5,fa 99 1 14,ld 100 99,b2 101 .sub 98 100,fa 102 3 4,sT 1 102 97,sT 1 5 101])))))))))))) (.ops [fa 38 2 4,ld 39 38,bk 40 .add 39 1,fa 41 2 4,sT 1 41 40]))))) (sq [mv 103 7,mv 6 103] .ret)))))))
def f410:IFn:=⟨false,104,[.tm 6],b410⟩
def b411:IC :=(sq [ki 4 0] (.seq (sq [mv 6 0,ln 7 6,ki 8 0] (.block 0 (.loop (sq [b2 9 .lss 8 7] (.seq (qv 9 0) (.seq (.block 1 (sq [mv 10 8,mv 5 10] (sq [mv 11 1,mv 12 0,mv 13 5,ia 14 2 12 13,lg 15 2 14,i 16 (.call (.val (.t 11)) [.t 15] false)] (qQ 16 [mv 17 5,mv 4 17])))) (.ops [bk 18 .add 8 1,mv 8 18]))))))) (sq [ki 4 (-1)] .ret)))
def f411:IFn:=⟨true,19,[.tm 4],b411⟩
def b412:IC :=(sq [bx 4 3 1,ns 6] (.seq (sq [mv 11 0,lg 12 3 4,i 13 (.r (.lookup (.agg [.int,.int,.int]) .nils true (.t 11) (.t 12))),mv 10 13,ex 14 0 10,ex 15 1 10,mv 7 14,mv 8 15] (sq [mv 16 8] (qQ 16 [mv 17 7,mv 6 17]))) (sq [mv 18 2,i 19 (.call (.val (.t 18)) [] false),mv 9 19] (sq [mv 20 0,lg 21 3 4,mv 22 9,n (.w (.mupd (.agg [.int,.int,.int]) (.t 20) (.t 21) (.t 22)))] (sq [mv 23 9,mv 6 23] .ret)))))
def f412:IFn:=⟨false,24,[.tm 6],b412⟩
def b413:IC :=(sq [ns 2] (.seq (.dops 0 [] [ld 3 0,nc 4 3,fa 5 0 4,lg 6 5 5,fa 7 0 1,ld 8 7,fa 9 1 1,ld 10 9,fa 11 2 1,ld 12 11,ca 13 311 [.t 6,.t 8,.t 10,.t 12],mv 2 13]) .ret))
def f413:IFn:=⟨false,14,[.tm 2],b413⟩
def b414:IC :=(sq [bx 4 6 1,ki 6 0] (.seq (sq [mv 11 0,lg 12 6 4,i 13 (.r (.lookup (.agg [.int,.int,.int,.int,.int,.int]) (.int .i64 0) true (.t 11) (.t 12))),mv 10 13,ex 14 0 10,ex 15 1 10,mv 7 14,mv 8 15] (sq [mv 16 8] (qQ 16 [mv 17 7,mv 6 17]))) (sq [mv 18 2,i 19 (.call (.val (.t 18)) [] false),mv 9 19] (sq [mv 20 0,lg 21 6 4,mv 22 9,n (.w (.mupd (.agg [.int,.int,.int,.int,.int,.int]) (.t 20) (.t 21) (.t 22)))] (sq [mv 23 9,mv 6 23] .ret)))))
def f414:IFn:=⟨false,24,[.tm 6],b414⟩
def b415:IC :=(sq [ki 3 0] (sq [lg 11 6 0,qw 4 [qj,qj,qj,qj,qj,qj],sT 6 4 11] (sq [fa 12 2 4,ld 13 12,bk 14 .add 13 1,fa 15 2 4,sT 1 15 14] (.seq (sq [ld 16 1,iX 17 3 16 0,fa 18 0 17,ld 19 18,bk 20 .neq 19 2] (cd 20 (.seq (.dops 0 [] [ld 22 1,iX 23 3 22 0,lg 24 3 23,ld 25 2,nc 26 25,fa 27 0 26,fa 28 2 27,ld 29 28,fa 30 3 0,ld 31 30,ca 32 104 [.t 24,.t 29,.t 31],mv 21 32,ex 33 0 21,ex 34 1 21,mv 5 33,mv 6 34]) (.seq (sq [mv 35 6,nt 36 35] (qQ 36 [ki 3 0])) (sq [fa 37 3 4,ld 38 37,mv 39 5,b2 40 .add 38 39,fa 41 3 4,sT 1 41 40] (sq [ld 42 2,lg 43 6 4,ca 44 404 [.t 42,.t 43],mv 3 44] .ret)))) .skip)) (sq [ki 7 0] (.seq (.seq (.dops 0 [] [ld 45 2,ld 46 1,iX 47 3 46 0,fa 48 2 47,ld 49 48,fa 50 3 0,ld 51 50,fa 52 5 0,ld 53 52,bu 54 [qj,qj,qj] [(0,1,.t 49),(1,1,.t 51),(2,1,.t 53)],ca 55 401 [.t 45,.t 54],ln 56 55,ki 57 0]) (.block 0 (.loop (sq [b2 58 .lss 57 56] (.seq (qv 58 0) (.seq (.block 1 (sq [ia 59 2 55 57,lg 60 2 59,qw 9 [qj,qj],sT 2 9 60] (.seq (sq [fa 61 0 9,ld 62 61,fa 63 3 4,sT 1 63 62] (sq [fa 64 0 9,ld 65 64,fa 66 4 0,ld 67 66,b2 68 .gtr 65 67] (qk 68 0))) (sq [ld 69 2,lg 70 6 4,ca 71 404 [.t 69,.t 70],mv 10 71] (sq [mv 72 10,bk 73 .gtr 72 0] (cd 73 (.dops 0 [] [mv 74 7,mv 75 10,ld 76 2,ld 77 1,iX 78 3 77 0,fa 79 2 78,ld 80 79,fa 81 3 0,ld 82 81,fa 83 5 0,ld 84 83,bu 85 [qj,qj,qj] [(0,1,.t 80),(1,1,.t 82),(2,1,.t 84)],fa 86 0 9,ld 87 86,bu 88 [qj,qj,qj,qj] [(0,3,.t 85),(3,1,.t 87)],ca 89 394 [.t 76,.t 88],b2 90 .mul 75 89,ca 91 403 [.t 74,.t 90],mv 7 91]) .skip)))))) (.ops [bk 92 .add 57 1,mv 57 92]))))))) (sq [mv 93 7,mv 3 93] .ret)))))))
def f415:IFn:=⟨false,94,[.tm 3],b415⟩
def b149:IC :=(sq [ki 4 0] (.seq (sq [mv 6 0,ln 7 6,ki 8 0] (.block 0 (.loop (sq [b2 9 .lss 8 7] (.seq (qv 9 0) (.seq (.block 1 (sq [mv 10 8,mv 5 10] (sq [mv 11 1,mv 12 0,mv 13 5,ia 14 1 12 13,ld 15 14,b2 16 .eql 11 15] (qQ 16 [mv 17 5,mv 4 17])))) (.ops [bk 18 .add 8 1,mv 8 18]))))))) (sq [ki 4 (-1)] .ret)))
def f149:IFn:=⟨false,19,[.tm 4],b149⟩
def b150:IC :=(sq [ki 4 0,ki 5 0] (sq [ki 6 0] (.seq (sq [mv 9 1,ki 10 0] (.block 0 (.loop (sq [b2 11 .lss 10 9] (.seq (qv 11 0) (.seq (.block 1 (sq [mv 12 10,mv 7 12] (.seq (.seq (.dops 0 [] [mv 13 0,nc 14 13,fa 15 1 14,ld 16 15,mv 17 0,nc 18 17,fa 19 0 18,ld 20 19,lS 21 20,b2 22 .eql 16 21]) (qQ 22 [mv 23 6,mv 24 7,mv 4 23,mv 5 24])) (.seq (.dops 0 [] [mv 25 0,nc 26 25,fa 27 0 26,ld 28 27,mv 29 0,nc 30 29,fa 31 1 30,ld 32 31,i 33 (.p (.idxS (.t 28) (.t 32))),ca 34 186 [(qz [48,49,50,51,52,53,54,55,56,57,97,98,99,100,101,102]),.t 33],mv 8 34]) (.seq (sq [mv 35 8,bk 36 .lss 35 0] (qQ 36 [mv 37 6,mv 38 7,mv 4 37,mv 5 38])) (sq [mv 39 6,bJ 40 .shl 39 .u64 4,mv 41 8,b2 42 .or 40 41,mv 6 42] (.ops [mv 43 0,nc 44 43,fa 45 1 44,ld 46 45,bk 47 .add 46 1,nc 48 43,fa 49 1 48,sT 1 49 47]))))))) (.ops [bk 50 .add 10 1,mv 10 50]))))))) (sq [mv 51 6,mv 52 1,mv 4 51,mv 5 52] .ret))))
def f150:IFn:=⟨false,53,[.tm 4,.tm 5],b150⟩
def b151:IC :=(sq [ns 2] (sq [mv 3 0,i 4 (.p (.mkf 178 [.t 3] [])),mv 5 0,ca 6 187 [.t 4,.t 5],mv 2 6] .ret))
def f151:IFn:=⟨true,7,[.tm 2],b151⟩
def b152:IC :=(sq [bf 2] (sq [mv 3 0,bk 4 .geq 3 0,mv 5 4,gM 6 5 0,gC 7 5 .leq 6 1114111,aP 8 5 7,mv 9 8,gM 10 9 0,gC 11 9 .lss 10 55296,gM 12 9 11,eM 13 12 0,eC 14 12 .gtr 13 57343,gt 15 9 (.p (.pick (.t 12) (.c (.bool true)) (.t 14))),aP 16 9 15,mv 2 16] .ret))
def f152:IFn:=⟨true,17,[.tm 2],b152⟩
def b154:IC :=(sq [bx 5 1 2,ns 6] (sq [mv 9 0,i 10 (.p (.mkf 178 [.t 9] [])),mv 11 1,i 12 (.p (.mkf 178 [.t 11] [])),qw 7 [.nilf],qw 8 [.nilf],sT 1 7 10,sT 1 8 12] (sq [i 13 (.p (.mkf 192 [] [.t 5,.t 7,.t 8])),mv 14 0,mv 15 1,i 16 (.a (.bslice true [.nils] 2 [(0,.t 14),(1,.t 15)]) none),ca 17 193 [.t 16],ca 18 187 [.t 13,.t 17],mv 6 18] .ret)))
def f154:IFn:=⟨true,19,[.tm 6],b154⟩
def b155:IC :=(sq [bf 4] (sq [mv 5 0,mv 6 5,gM 7 6 1,gX 8 6 7,aP 9 6 8,mv 4 9] .ret))
def f155:IFn:=⟨true,10,[.tm 4],b155⟩
def b156:IC :=(sq [i 2 (.p (.mov (.c (.int .i32 0)))),ki 3 0] (sq [mv 13 0,lS 14 13,mv 4 14] (.seq (sq [mv 15 4,bk 16 .lss 15 1] (qQ 16 [i 2 (.p (.mov (.c (.int .i32 65533)))),ki 3 0])) (sq [mv 17 0,i 18 (.p (.idxS (.t 17) (kc 0))),mv 5 18] (sq [mv 19 5,i 20 (.p (.iaddrA 256 1 (.c .any) (.t 19))),ld 21 20,mv 6 21] (.seq (sq [mv 22 6,bJ 23 .geq 22 .u8 240] (cd 23 (sq [mv 24 6,cV 25 .i32 24,bJ 26 .shl 25 .u64 31,bJ 27 .shr 26 .u64 31,mv 7 27] (sq [mv 28 0,i 29 (.p (.idxS (.t 28) (kc 0))),cV 30 .i32 29,mv 31 7,b2 32 .andNot 30 31,mv 33 7,i 34 (.p (.bin .and (.c (.int .i32 65533)) (.t 33))),b2 35 .or 32 34,mv 2 35,ki 3 1] .ret)) .skip)) (sq [mv 36 6,bJ 37 .and 36 .u8 7,cV 38 .i64 37,mv 8 38] (sq [mv 39 6,bJ 40 .shr 39 .u64 4,i 41 (.p (.iaddrA 16 2 (.c .any) (.t 40))),lg 42 2 41,qw 9 [.int .u8 0,.int .u8 0],sT 2 9 42] (.seq (sq [mv 43 4,mv 44 8,b2 45 .lss 43 44] (qQ 45 [i 2 (.p (.mov (.c (.int .i32 65533)))),ki 3 1])) (sq [mv 46 0,i 47 (.p (.idxS (.t 46) (kc 1))),mv 10 47] (.seq (sq [mv 48 10,fa 49 0 9,ld 50 49,b2 51 .lss 48 50,mv 52 51,eF 53 52 1 9,eL 54 52 53,eM 55 52 10,eB 56 52 .lss 54 55,oP 57 52 56] (qQ 57 [i 2 (.p (.mov (.c (.int .i32 65533)))),ki 3 1])) (.seq (sq [mv 58 8,bk 59 .leq 58 2] (qQ 59 [mv 60 5,bJ 61 .and 60 .u8 31,cV 62 .i32 61,bJ 63 .shl 62 .u64 6,mv 64 10,bJ 65 .and 64 .u8 63,cV 66 .i32 65,b2 67 .or 63 66,mv 2 67,ki 3 2])) (sq [mv 68 0,i 69 (.p (.idxS (.t 68) (kc 2))),mv 11 69] (.seq (sq [mv 70 11,bJ 71 .lss 70 .u8 128,mv 72 71,eM 73 72 11,gf 74 72 (.p (.bin .lss (.c (.int .u8 191)) (.t 73))),oP 75 72 74] (qQ 75 [i 2 (.p (.mov (.c (.int .i32 65533)))),ki 3 1])) (.seq (sq [mv 76 8,bk 77 .leq 76 3] (qQ 77 [mv 78 5,bJ 79 .and 78 .u8 15,cV 80 .i32 79,bJ 81 .shl 80 .u64 12,mv 82 10,bJ 83 .and 82 .u8 63,cV 84 .i32 83,bJ 85 .shl 84 .u64 6,b2 86 .or 81 85,mv 87 11,bJ 88 .and 87 .u8 63,cV 89 .i32 88,b2 90 .or 86 89,mv 2 90,ki 3 3])) (sq [mv 91 0,i 92 (.p (.idxS (.t 91) (kc 3))),mv 12 92] (.seq (sq [mv 93 12,bJ 94 .lss 93 .u8 128,mv 95 94,eM 96 95 12,gf 97 95 (.p (.bin .lss (.c (.int .u8 191)) (.t 96))),oP 98 95 97] (qQ 98 [i 2 (.p (.mov (.c (.int .i32 65533)))),ki 3 1])) (sq [mv 99 5,bJ 100 .and 99 .u8 7,cV 101 .i32 100,bJ 102 .shl 101 .u64 18,mv 103 10,bJ 104 .and 103 .u8 63,cV 105 .i32 104,bJ 106 .shl 105 .u64 12,b2 107 .or 102 106,mv 108 11,bJ 109 .and 108 .u8 63,cV 110 .i32 109,bJ 111 .shl 110 .u64 6,b2 112 .or 107 111,mv 113 12,bJ 114 .and 113 .u8 63,cV 115 .i32 114,b2 116 .or 112 115,mv 2 116,ki 3 4] .ret))))))))))))))))))
def f156:IFn:=⟨false,117,[.tm 2,.tm 3],b156⟩
def b157:IC :=(sq [ki 4 0] (.block 0 (sq [mv 161 1,i 162 (.p (.bin .leq (.c (.int .i32 0)) (.t 161))),mv 163 162,gM 164 163 1,gt 165 163 (.p (.bin .lss (.t 164) (.c (.int .i32 128)))),aP 166 163 165,mv 160 166] (cd 160 (sq [mv 167 0,mv 168 1,cV 169 .u8 168,ca 170 186 [.t 167,.t 169],mv 4 170] .ret) .bad))))
def f157:IFn:=⟨false,187,[.tm 4],b157⟩
def b158:IC :=(sq [i 0 (.p (.mov (.c .nilm)))] (sq [i 1 (.a (.mkm) none),n (.w (.mupd (.one .int) (.t 1) (kc 0) (.c (.fn 197 [] [])))),n (.w (.mupd (.one .int) (.t 1) (kc 1) (.c (.fn 197 [] [])))),n (.w (.mupd (.one .int) (.t 1) (kc 2) (.c (.fn 197 [] [])))),n (.w (.mupd (.one .int) (.t 1) (kc 3) (.c (.fn 197 [] [])))),n (.w (.mupd (.one .int) (.t 1) (kc 4) (.c (.fn 198 [] [])))),mv 2 1,mv 0 2] .ret))
def f158:IFn:=⟨false,3,[.tm 0],b158⟩
def b159:IC :=(.ops [mv 4 0,i 5 (.p (.mki 2 (.t 4))),mv 6 1,i 7 (.p (.mki 3 (.t 6))),ca 8 199 [.t 5,.t 7]])
def f159:IFn:=⟨false,9,[],b159⟩
def b160:IC :=(sq [ki 2 0] (sq [mv 3 0,nc 4 3,ld 5 4,ln 6 5,mv 2 6] .ret))
def f160:IFn:=⟨false,7,[.tm 2],b160⟩
def b161:IC :=(sq [ki 2 0] (sq [mv 6 0,i 7 (.p (.mki 2 (.t 6))),ca 8 200 [.t 7],i 9 (.p (.asrt 3 true (.int .i64 0) (.t 8))),mv 5 9,ex 10 0 5,ex 11 1 5,mv 3 10,mv 4 11] (sq [mv 12 3,mv 2 12] .ret)))
def f161:IFn:=⟨false,13,[.tm 2],b161⟩
def b162:IC :=(sq [bx 1 2 0,i 2 (.p (.mov (.c .nilp)))] (sq [lg 5 2 1,i 6 (.a (.mkm) none),bu 7 [.nils,.nils,.nilm] [(0,2,.t 5),(2,1,.t 6)],bx 8 3 7,qw 3 [.nilp],sT 1 3 8] (.seq (sq [ld 9 3,ca 10 201 [.t 9]] (.block 0 (.rangeF (.t 10) [11] (.ops [mv 4 11]) (.block 1 (.ops [ld 12 3,nc 13 12,fa 14 2 13,ld 15 14,mv 16 4,n (.w (.mupd (.one .int) (.t 15) (.t 16) (.c (.bool true))))]))))) (sq [ld 17 3,mv 2 17] .ret))))
def f162:IFn:=⟨false,18,[.tm 2],b162⟩
def b163:IC :=(sq [bx 2 1 0,bf 4] (sq [mv 5 1,i 6 (.p (.mkf 202 [] [.t 2])),ca 7 57 [.t 5,.t 6],nt 8 7,mv 4 8] .ret))
def f163:IFn:=⟨true,9,[.tm 4],b163⟩
def b106:IC :=(sq [ns 2] (.seq (sq [mv 6 0,ln 7 6,bk 8 .lss 7 2] (qQ 8 [mv 9 0,mv 2 9])) (.seq (sq [ki 3 1] (.block 0 (.loop (.seq (sq [mv 10 3,mv 11 0,ln 12 11,b2 13 .lss 10 12] (qv 13 0)) (.seq (.block 1 (.seq (.dops 0 [] [mv 16 0,mv 17 3,ia 18 1 16 17,ld 19 18,mv 20 0,mv 21 3,bk 22 .sub 21 1,ia 23 1 20 22,ld 24 23,b2 25 .eql 19 24]) (cd 25 (sq [mv 26 0,mv 27 3,sL 28 1 26 27,mv 4 28] (.seq (sq [ki 5 1] (.block 2 (.loop (.seq (sq [mv 29 5,mv 30 4,ln 31 30,b2 32 .lss 29 31] (qv 32 2)) (.seq (.block 3 (.seq (.dops 0 [] [mv 35 4,mv 36 5,ia 37 1 35 36,ld 38 37,mv 39 4,mv 40 5,bk 41 .sub 40 1,ia 42 1 39 41,ld 43 42,b2 44 .neq 38 43]) (cd 44 (sq [mv 45 0,mv 46 3,mv 47 4,mv 48 5,ia 49 1 47 48,ld 50 49,ia 51 1 45 46,sT 1 51 50] (.ops [mv 52 3,bk 53 .add 52 1,mv 3 53])) .skip))) (.ops [mv 33 5,bk 34 .add 33 1,mv 5 34])))))) (sq [mv 54 0,mv 55 3,sL 56 1 54 55,n (.w (.clear [qj] (.t 56)))] (sq [mv 57 0,mv 58 3,sH 59 1 57 58,mv 2 59] .ret)))) .skip))) (.ops [mv 14 3,bk 15 .add 14 1,mv 3 15])))))) (sq [mv 60 0,mv 2 60] .ret))))
def f106:IFn:=⟨false,61,[.tm 2],b106⟩
def b164:IC :=(sq [ns 4] (.seq (sq [mv 5 1,bk 6 .lss 5 0] (co 6 [i 7 (.p (.mki 1 (qz [99,97,110,110,111,116,32,98,101,32,110,101,103,97,116,105,118,101]))),n (.bad)])) (.seq (sq [mv 8 1,mv 9 0,i 10 (.p (.cap (.t 9))),mv 11 0,ln 12 11,b2 13 .sub 10 12,b2 14 .sub 8 13,mv 1 14] (sq [mv 15 1,bk 16 .gtr 15 0] (co 16 [mv 17 0,mv 18 0,i 19 (.p (.cap (.t 18))),sH 20 3 17 19,mv 21 1,i 22 (.w (.appendZ [qj,.nils,qj] 40 (.t 20) (.t 21))),mv 23 0,ln 24 23,sH 25 3 22 24,mv 0 25]))) (sq [mv 26 0,mv 4 26] .ret))))
def f164:IFn:=⟨false,27,[.tm 4],b164⟩
def b165:IC :=(sq [bx 1 3 0,bf 2] (sq [lg 3 3 1,ca 4 102 [.t 3,(kc 0)],mv 5 4,eF 6 5 2 1,eL 7 5 6,eN 8 5 7,eC 9 5 .gtr 8 0,oP 10 5 9,mv 2 10] .ret))
def f165:IFn:=⟨true,11,[.tm 2],b165⟩
def b350:IC :=(sq [ki 4 0] (sq [mv 5 0,mv 6 1,ca 7 354 [.t 5,.t 6],mv 4 7] .ret))
def f350:IFn:=⟨true,8,[.tm 4],b350⟩
def b188:IC :=(sq [ki 2 0,bf 3] (sq [mv 4 0,ca 5 216 [.t 4,(kc 1),(kc 0)],ex 6 0 5,ex 7 1 5,mv 2 6,mv 3 7] .ret))
def f188:IFn:=⟨false,8,[.tm 2,.tm 3],b188⟩
def b189:IC :=(sq [ki 2 0,bf 3] (sq [mv 4 0,ca 5 217 [],i 6 (.p (.idxA 5 1 false (.t 5) (kc 2))),ca 7 216 [.t 4,(kc 2),.t 6],ex 8 0 7,ex 9 1 7,mv 2 8,mv 3 9] .ret))
def f189:IFn:=⟨false,10,[.tm 2,.tm 3],b189⟩
def b190:IC :=(sq [ki 2 0,bf 3] (sq [mv 4 0,ca 5 217 [],i 6 (.p (.idxA 5 1 false (.t 5) (kc 3))),ca 7 216 [.t 4,(kc 3),.t 6],ex 8 0 7,ex 9 1 7,mv 2 8,mv 3 9] .ret))
def f190:IFn:=⟨false,10,[.tm 2,.tm 3],b190⟩
def b191:IC :=(sq [ki 2 0,bf 3] (sq [mv 4 0,ca 5 217 [],i 6 (.p (.idxA 5 1 false (.t 5) (kc 4))),ca 7 216 [.t 4,(kc 4),.t 6],ex 8 0 7,ex 9 1 7,mv 2 8,mv 3 9] .ret))
def f191:IFn:=⟨false,10,[.tm 2,.tm 3],b191⟩
def b107:IC :=(sq [bx 3 3 0,ki 6 0] (.seq (.seq (.dops 0 [] [mv 7 2,bk 8 .geq 7 0,mv 9 8,gM 10 9 2,gM 11 9 1,gN 12 9 11,gB 13 9 .lss 10 12,aP 14 9 13,mv 15 14,gF 16 15 1 3,gL 17 15 16,gM 18 15 1,gM 19 15 2,gI 20 15 1 18 19,gL 21 15 20,gt 22 15 (.p (.ci .i64 (.t 21))),gt 23 15 (.call (.dir 144) [.t 17,.t 22] false),aP 24 15 23]) (qQ 24 [ki 6 1])) (sq [ki 6 0] .ret)))
def f107:IFn:=⟨true,25,[.tm 6],b107⟩
def b141:IC :=(sq [bx 3 3 0,ki 6 0] (sq [fa 7 1 3,ld 8 7,ca 9 146 [.t 8],mv 10 1,mv 11 2,ca 12 166 [.t 9,.t 10,.t 11],mv 6 12] .ret))
def f141:IFn:=⟨true,13,[.tm 6],b141⟩
def b109:IC :=(sq [bx 3 3 0,ki 6 0] (sq [ki 6 0] .ret))
def f109:IFn:=⟨true,7,[.tm 6],b109⟩
def b110:IC :=(sq [bx 4 3 0,bx 5 3 1,ki 8 0] (sq [i 10 (.p (.iaddrA 3 1 (.t 4) (kc 2))),ld 11 10,mv 9 11] (.seq (sq [fa 12 0 5,ld 13 12,bk 14 .eql 13 0,mv 15 14,eF 16 15 0 5,eL 17 15 16,eC 18 15 .eql 17 1,oP 19 15 18] (co 19 [fa 20 0 5,ld 21 20,i 22 (.p (.iaddrA 3 1 (.t 4) (.t 21))),ld 23 22,mv 9 23])) (sq [mv 24 9,lg 25 3 5,mv 26 2,mv 27 3,i 28 (.call (.val (.t 24)) [.t 25,.t 26,.t 27] false),mv 8 28] .ret))))
def f110:IFn:=⟨true,29,[.tm 8],b110⟩
def b178:IC :=(sq [bx 3 1 1,bf 4] (sq [mv 5 0,i 6 (.p (.mkf 210 [] [.t 3])),ca 7 209 [.t 5,.t 6],mv 4 7] .ret))
def f178:IFn:=⟨true,8,[.tm 4],b178⟩
def b343:IC :=(sq [ki 4 0] (.seq (sq [mv 5 0,mv 6 1,ca 7 331 [.t 5,.t 6],nt 8 7] (qQ 8 [ki 4 (-1)])) (sq [mv 9 0,ln 10 9,mv 11 0,mv 12 1,sL 13 1 11 12,ca 14 352 [.t 13,(qz [32,9,13])],ln 15 14,b2 16 .sub 10 15,mv 4 16] .ret)))
def f343:IFn:=⟨true,17,[.tm 4],b343⟩
def b344:IC :=(sq [bx 2 8 0,ki 4 0] (sq [fa 5 0 2,fa 6 2 5,ld 7 6,mv 8 1,fa 9 0 2,fa 10 3 9,ld 11 10,ca 12 332 [.t 7,.t 8,.t 11],mv 4 12] .ret))
def f344:IFn:=⟨true,13,[.tm 4],b344⟩
def b338:IC :=(sq [ld 5 1,ln 6 5,ki 7 0] (.block 0 (.loop (sq [b2 8 .lss 7 6] (.seq (qv 8 0) (.seq (.block 1 (sq [mv 9 7,ia 10 1 5 7,ld 11 10,mv 3 9,mv 4 11] (sq [mv 12 4,bJ 13 .eql 12 .u8 10,mv 14 13,gM 15 14 0,gM 16 14 3,gC 17 14 .add 16 1,gt 18 14 (.call (.val (.t 15)) [.t 17] false),gX 19 14 18,aP 20 14 19] (cd 20 .ret .skip)))) (.ops [bk 21 .add 7 1,mv 7 21])))))))
def f338:IFn:=⟨false,22,[],b338⟩
def b324:IC :=(sq [bx 2 5 0,bx 3 3 1,qw 4 [.nils,.nils]] (.seq (sq [lg 6 5 2,ca 7 312 [.t 6],nt 8 7,mv 9 8,eF 10 9 0 3,eL 11 9 10,eC 12 9 .lss 11 0,oP 13 9 12,mv 14 13,eF 15 14 0 3,eL 16 14 15,eF 17 14 0 2,eF 18 14 0 17,eL 19 14 18,eN 20 14 19,eB 21 14 .geq 16 20,oP 22 14 21,mv 23 22,eF 24 23 1 3,eL 25 23 24,eC 26 23 .lss 25 0,oP 27 23 26,mv 28 27,eF 29 28 1 3,eL 30 28 29,eF 31 28 2 2,eL 32 28 31,eN 33 28 32,eB 34 28 .gtr 30 33,oP 35 28 34] (qQ 35 [bu 36 [.nils,.nils] [],sT 2 4 36])) (sq [lg 37 5 2,i 38 (.a (.mkm) none),bu 39 [.nils,.nils,.nils,qj,.bool false,.nilm] [(0,5,.t 37),(5,1,.t 38)],bx 40 6 39,mv 5 40] (sq [mv 41 5,lg 42 3 3,ca 43 330 [.t 41,.t 42],sT 2 4 43] .ret))))
def f324:IFn:=⟨false,44,[.cell (some 2) 4],b324⟩
def b313:IC :=(sq [bx 4 5 0,ns 8] (sq [lg 9 5 4,mv 10 1,mv 11 2,mv 12 3,bu 13 [qj,qj,qj] [(0,1,.t 10),(1,1,.t 11),(2,1,.t 12)],ca 14 324 [.t 9,.t 13],qy 15 0 14,mv 8 15] .ret))
def f313:IFn:=⟨true,16,[.tm 8],b313⟩
def b418:IC :=(sq [bx 8 2 0] (.seq (sq [fa 10 0 8,ld 11 10,fa 12 3 1,sT 1 12 11] (.seq (.dops 0 [(1,5),(6,4)] [fa 13 1 8,ld 14 13,ld 15 2,lg 16 6 1,ca 17 409 [.t 15,.t 16],b2 18 .add 14 17,ld 19 3,b2 20 .neq 18 19]) (cd 20 .ret .skip))) (sq [ld 21 2,fa 22 2 4,ld 23 22,fa 24 3 5,ld 25 24,fa 26 5 5,ld 27 26,bu 28 [qj,qj,qj] [(0,1,.t 23),(1,1,.t 25),(2,1,.t 27)],fa 29 0 8,ld 30 29,bu 31 [qj,qj,qj,qj] [(0,3,.t 28),(3,1,.t 30)],fa 32 1 8,ld 33 32,ca 34 397 [.t 21,.t 31,.t 33],mv 9 34] (.seq (.dops 0 [] [ld 35 6,i 36 (.p (.eqo false .slice (.t 35) (.c .nils))),mv 37 36,eL 38 37 2,gf 39 37 (.p (.nilc (.t 38))),eF 40 37 0 39,eF 41 37 0 40,eG 42 37 2 41,eM 43 37 9,eL 44 37 6,gf 45 37 (.call (.dir 385) [.t 42,.t 43,.t 44] false),oP 46 37 45]) (cd 46 (.dops 0 [(1,3)] [mv 47 9,lg 48 2 8,sT 1 6 47,sT 2 7 48]) .skip)))))
def f418:IFn:=⟨false,49,[],b418⟩
def b385:IC :=(sq [bx 3 2 0,bf 6] (.seq (.dops 0 [(6,5)] [lg 7 2 3,ca 8 32 [.t 7],mv 9 8,gG 10 9 2 3,gM 11 9 1,gt 12 9 (.call (.dir 392) [.t 10,.t 11] false),gG 13 9 2 3,gM 14 9 2,gt 15 9 (.call (.dir 392) [.t 13,.t 14] false),gt 16 9 (.call (.dir 391) [.t 12,.t 15] false),gC 17 9 .lss 16 0,aP 18 9 17,mv 6 18]) .ret))
def f385:IFn:=⟨true,19,[.tm 6],b385⟩
def b186:IC :=(sq [ki 4 0] (sq [mv 5 0,mv 6 1,ca 7 214 [.t 5,.t 6],mv 4 7] .ret))
def f186:IFn:=⟨false,8,[.tm 4],b186⟩
def b187:IC :=(sq [bx 2 1 0,ns 4] (sq [qw 5 [.nils]] (.seq (sq [mv 9 1,ca 10 215 [.t 9]] (.block 0 (.rangeF (.t 10) [11,12] (sq [mv 6 11] (.ops [mv 7 12])) (.block 1 (.seq (sq [ld 13 2,mv 14 6,i 15 (.call (.val (.t 13)) [.t 14] false),nt 16 15] (qk 16 1)) (.seq (sq [ld 17 5,ln 18 17,bk 19 .sub 18 1,mv 8 19] (sq [mv 20 8,bk 21 .geq 20 0,mv 22 21,gL 23 22 5,gM 24 22 8,gI 25 22 2 23 24,gF 26 22 1 25,gL 27 22 26,gM 28 22 6,gC 29 22 .sub 28 1,gB 30 22 .eql 27 29,aP 31 22 30] (cd 31 (sq [ld 32 5,mv 33 8,mv 34 7,ia 35 2 32 33,fa 36 1 35,sT 1 36 34] (.exit 1)) .skip))) (.ops [ld 37 5,mv 38 6,mv 39 7,bu 40 [qj,qj] [(0,1,.t 38),(1,1,.t 39)],i 41 (.a (.bslice true [qj,qj] 1 [(0,.t 40)]) none),aD 42 2 16 37 41,sT 1 5 42]))))))) (sq [ld 43 5,mv 4 43] .ret))))
def f187:IFn:=⟨true,44,[.tm 4],b187⟩
def b192:IC :=(sq [bf 5] (.seq (.dops 0 [(0,4),(0,7),(4,3)] [ld 6 1,ld 7 2,mv 8 0,i 9 (.call (.val (.t 7)) [.t 8] false),ld 10 3,mv 11 0,i 12 (.call (.val (.t 10)) [.t 11] false),i 13 (.call (.val (.t 6)) [.t 9,.t 12] false),mv 5 13]) .ret))
def f192:IFn:=⟨true,14,[.tm 5],b192⟩
def b193:IC :=(sq [ns 2] (sq [ki 3 0] (.seq (sq [mv 9 0,ln 10 9,ki 11 0] (.block 0 (.loop (sq [b2 12 .lss 11 10] (.seq (qv 12 0) (.seq (.block 1 (sq [ia 13 1 9 11,ld 14 13,mv 5 14] (sq [mv 15 3,mv 16 5,ln 17 16,b2 18 .add 15 17,mv 3 18] (sq [mv 19 3,bk 20 .lss 19 0] (co 20 [i 21 (.p (.mki 1 (qz [108,101,110,32,111,117,116,32,111,102,32,114,97,110,103,101]))),n (.bad)]))))) (.ops [bk 22 .add 11 1,mv 11 22]))))))) (sq [mv 23 3,ca 24 218 [(.c .nils),.t 23],mv 6 24] (.seq (sq [mv 25 0,ln 26 25,ki 27 0] (.block 2 (.loop (sq [b2 28 .lss 27 26] (.seq (qv 28 2) (.seq (.block 3 (sq [ia 29 1 25 27,ld 30 29,mv 8 30] (.ops [mv 31 6,mv 32 8,aD 33 2 16 31 32,mv 6 33]))) (.ops [bk 34 .add 27 1,mv 27 34]))))))) (sq [mv 35 6,mv 2 35] .ret))))))
def f193:IFn:=⟨true,36,[.tm 2],b193⟩
def b197:IC :=(sq [i 2 (.a (.alloc [qj,.str [],.nils,.nils,qj]) none),bf 3] (sq [mv 6 0,mv 7 0,nc 8 7,fa 9 0 8,ld 10 9,iX 11 4 10 0,fa 12 0 11,ld 13 12,ca 14 48 [.t 6,.t 13,qx],i 4 (.a (.alloc [qj,.str [],.nils,qj]) none),sT 4 4 14] (sq [bu 15 [qj,qj,qj,qj] [(0,1,(kc 0)),(1,1,(kc 1)),(2,1,(kc 2)),(3,1,(kc 3))],qw 5 [qj,qj,qj,qj],sT 4 5 15] (.seq (.dops 0 [] [fa 16 0 4,ld 17 16,i 18 (.p (.iaddrA 4 1 (.t 5) (.t 17))),ld 19 18,fa 20 1 4,ld 21 20,fa 22 2 4,ld 23 22,fa 24 3 4,ld 25 24,i 26 (.p (.build [qj,.str [],.nils,.nils,qj] [(0,1,.t 19),(1,1,.t 21),(2,1,.t 23),(4,1,.t 25)])),sT 5 2 26,bt 3]) .ret))))
def f197:IFn:=⟨false,27,[.cell (some 5) 2,.tm 3],b197⟩
def b198:IC :=(sq [i 2 (.a (.alloc [qj,.str [],.nils,.nils,qj]) none),bf 3] (.seq (sq [mv 5 0,ca 6 49 [.t 5,(kc 4),(qz [40])],nt 7 6] (qQ 7 [i 8 (.p (.build [qj,.str [],.nils,.nils,qj] [])),sT 5 2 8,bf 3])) (.seq (sq [mv 9 0,nc 10 9,fa 11 2 10,ld 12 11,bk 13 .eql 12 12] (co 13 [mv 14 0,ca 15 50 [.t 14,(kc 4)]])) (sq [mv 16 0,ca 17 47 [.t 16,(qz [40])]] (sq [mv 18 0,nc 19 18,fa 20 2 19,ld 21 20,bk 22 .add 21 1,nc 23 18,fa 24 2 23,sT 1 24 22] (sq [mv 25 0,ca 26 52 [.t 25],i 4 (.a (.alloc [qj,.str [],.nils,.nils,qj]) none),sT 5 4 26] (sq [mv 27 0,nc 28 27,fa 29 2 28,ld 30 29,bk 31 .sub 30 1,nc 32 27,fa 33 2 32,sT 1 33 31] (sq [mv 34 0,ca 35 48 [.t 34,(kc 4),(qz [41])]] (sq [lg 36 5 4,sT 5 2 36,bt 3] .ret)))))))))
def f198:IFn:=⟨false,37,[.cell (some 5) 2,.tm 3],b198⟩
def b199:IC :=(sq [mv 4 0,mv 5 1,i 6 (.call (.inv (.t 4) "Push") [.t 5] false)] (.ops [mv 7 0,mv 8 0,i 9 (.call (.inv (.t 8) "Len") [] false),bk 10 .sub 9 1,ca 11 219 [.t 7,.t 10]]))
def f199:IFn:=⟨false,12,[],b199⟩
def b200:IC :=(sq [i 2 (.p (.mov (.c .nili)))] (sq [mv 4 0,i 5 (.call (.inv (.t 4) "Len") [] false),bk 6 .sub 5 1,mv 3 6] (sq [mv 7 0,mv 8 3,i 9 (.call (.inv (.t 7) "Swap") [(kc 0),.t 8] false)] (sq [mv 10 0,mv 11 3,ca 12 220 [.t 10,(kc 0),.t 11]] (sq [mv 13 0,i 14 (.call (.inv (.t 13) "Pop") [] false),mv 2 14] .ret)))))
def f200:IFn:=⟨false,15,[.tm 2],b200⟩
def b201:IC :=(sq [bx 1 1 0,i 2 (.p (.mov (.c .nilf)))] (sq [i 3 (.p (.mkf 221 [] [.t 1])),mv 2 3] .ret))
def f201:IFn:=⟨false,4,[.tm 2],b201⟩
def b202:IC :=(sq [bx 2 3 0,bf 3] (.seq (.dops 0 [] [fa 4 0 2,ld 5 4,bk 6 .neq 5 2,mv 7 6,eL 8 7 1,gf 9 7 (.p (.nilc (.t 8))),eF 10 7 2 9,eL 11 7 10,eF 12 7 2 2,eL 13 7 12,gf 14 7 (.r (.lookup (.one .int) (.bool false) false (.t 11) (.t 13))),eX 15 7 14,oP 16 7 15,mv 3 16]) .ret))
def f202:IFn:=⟨true,17,[.tm 3],b202⟩
def b354:IC :=(sq [ki 4 0] (.seq (sq [mv 6 0,ln 7 6,bk 8 .sub 7 1,mv 5 8] (.block 0 (.loop (.seq (sq [mv 9 5,bk 10 .geq 9 0] (qv 10 0)) (.seq (.block 1 (sq [mv 13 0,mv 14 5,ia 15 1 13 14,ld 16 15,mv 17 1,b2 18 .eql 16 17] (qQ 18 [mv 19 5,mv 4 19]))) (.ops [mv 11 5,bk 12 .sub 11 1,mv 5 12])))))) (sq [ki 4 (-1)] .ret)))
def f354:IFn:=⟨true,20,[.tm 4],b354⟩
def b216:IC :=(sq [ki 6 0,bf 7] (.seq (sq [mv 11 1,mv 12 0,ln 13 12,b2 14 .gtr 11 13,mv 15 14,eM 16 15 0,gf 17 15 (.p (.iaddr 1 (.t 16) (kc 0))),eL 18 15 17,gf 19 15 (.p (.ci .i64 (.t 18))),eM 20 15 2,eB 21 15 .lss 19 20,oP 22 15 21] (qQ 22 [ki 6 0,bf 7])) (sq [mv 23 0,iX 24 1 23 0,ld 25 24,cV 26 .i64 25,mv 27 2,b2 28 .sub 26 27,mv 8 28] (.seq (sq [mv 29 0,mv 30 1,i 31 (.p (.slice 1 (.t 29) (some (kc 1)) (some (.t 30)) none)),ln 32 31,ki 33 0] (.block 0 (.loop (sq [b2 34 .lss 33 32] (.seq (qv 34 0) (.seq (.block 1 (sq [ia 35 1 31 33,ld 36 35,mv 10 36] (.seq (sq [mv 37 10,bJ 38 .andNot 37 .u8 63,bJ 39 .neq 38 .u8 128] (qQ 39 [ki 6 0,bf 7])) (.ops [mv 40 8,bJ 41 .shl 40 .u64 6,mv 42 10,bJ 43 .and 42 .u8 63,cV 44 .i64 43,b2 45 .or 41 44,mv 8 45])))) (.ops [bk 46 .add 33 1,mv 33 46]))))))) (sq [mv 47 8,mv 48 8,ca 49 152 [.t 48],mv 50 49,gM 51 50 8,gt 52 50 (.call (.dir 224) [.t 51] false),gM 53 50 1,gB 54 50 .eql 52 53,aP 55 50 54,mv 6 47,mv 7 55] .ret)))))
def f216:IFn:=⟨true,56,[.tm 6,.tm 7],b216⟩
def b217:IC :=(sq [qw 0 [qj,qj,qj,qj,qj]] (sq [bu 1 [qj,qj,qj,qj,qj] [(0,1,(kc 0)),(1,1,(kc 0)),(2,1,(kc 192)),(3,1,(kc 224)),(4,1,(kc 240))],sT 5 0 1] .ret))
def f217:IFn:=⟨true,2,[.cell (some 5) 0],b217⟩
def b166:IC :=(sq [ki 6 0] (.seq (sq [mv 10 2,bk 11 .lss 10 0,mv 12 11,eM 13 12 2,eM 14 12 1,eN 15 12 14,eB 16 12 .gtr 13 15,oP 17 12 16] (qQ 17 [ki 6 0])) (.seq (sq [mv 18 0,ln 19 18,ki 20 0] (.block 0 (.loop (sq [b2 21 .lss 20 19] (.seq (qv 21 0) (.seq (.block 1 (sq [ia 22 1 18 20,ld 23 22,mv 8 23] (sq [mv 24 8,mv 25 1,mv 26 2,sL 27 1 25 26,ca 28 179 [.t 24,.t 27],mv 9 28] (sq [mv 29 9,mv 30 8,ln 31 30,b2 32 .eql 29 31] (qQ 32 [mv 33 9,mv 6 33]))))) (.ops [bk 34 .add 20 1,mv 20 34]))))))) (sq [ki 6 0] .ret))))
def f166:IFn:=⟨true,35,[.tm 6],b166⟩
def b146:IC :=(sq [ns 2] (sq [ns 3] (.seq (sq [mv 12 0,ca 13 151 [.t 12],ln 14 13,ki 15 0] (.block 0 (.loop (sq [b2 16 .lss 15 14] (.seq (qv 16 0) (.seq (.block 1 (sq [ia 17 2 13 15,lg 18 2 17,qw 5 [qj,qj],sT 2 5 18] (sq [ca 19 180 [],ki 20 0] (.block 2 (.loop (sq [bk 21 .lss 20 5] (.seq (qv 21 2) (.seq (.block 3 (sq [i 22 (.p (.idxA 5 3 true (.t 19) (.t 20))),qw 7 [qj,qj,qj],sT 3 7 22] (sq [lg 23 2 5,i 24 (.a (.bslice true [qj,qj] 1 [(0,.t 23)]) none),fa 25 0 7,lg 26 2 25,i 27 (.a (.bslice true [qj,qj] 1 [(0,.t 26)]) none),ca 28 181 [.t 24,.t 27],mv 8 28] (.seq (sq [fa 29 2 7,ld 30 29,mv 9 30] (.block 4 (.loop (.seq (sq [mv 31 9,bk 32 .gtr 31 0] (qv 32 4)) (.seq (.block 5 (.ops [mv 35 9,bk 36 .mul 35 6,mv 37 8,ca 38 182 [.t 36,.t 37],mv 8 38])) (.ops [mv 33 9,bk 34 .sub 33 1,mv 9 34])))))) (sq [mv 39 8,ln 40 39,ki 41 0] (.block 6 (.loop (sq [b2 42 .lss 41 40] (.seq (qv 42 6) (.seq (.block 7 (sq [ia 43 2 39 41,lg 44 2 43,qw 11 [qj,qj],sT 2 11 44] (.ops [mv 45 3,lg 46 2 11,ca 47 183 [.t 46],i 48 (.a (.bslice true [.nils] 1 [(0,.t 47)]) none),aD 49 1 24 45 48,mv 3 49]))) (.ops [bk 50 .add 41 1,mv 41 50]))))))))))) (.ops [bk 51 .add 20 1,mv 20 51]))))))))) (.ops [bk 52 .add 15 1,mv 15 52]))))))) (sq [mv 53 3,mv 2 53] .ret))))
def f146:IFn:=⟨true,54,[.tm 2],b146⟩
def b209:IC :=(sq [bf 4] (sq [mv 5 0,mv 6 1,ca 7 223 [.t 5,.t 6],bk 8 .geq 7 0,mv 4 8] .ret))
def f209:IFn:=⟨true,9,[.tm 4],b209⟩
def b210:IC :=(sq [bx 2 2 0,bf 3] (sq [fa 4 0 2,ld 5 4,ld 6 1,b2 7 .leq 5 6,mv 8 7,gL 9 8 1,gF 10 8 1 2,gL 11 8 10,gB 12 8 .leq 9 11,aP 13 8 12,mv 3 13] .ret))
def f210:IFn:=⟨true,14,[.tm 3],b210⟩
def b352:IC :=(sq [ns 4] (.seq (sq [mv 7 0,ln 8 7,bk 9 .eql 8 0] (qQ 9 [ns 4])) (.seq (sq [mv 10 1,i 11 (.p (.bin .eql (.t 10) qx))] (qQ 11 [mv 12 0,mv 4 12])) (.seq (sq [mv 13 1,lS 14 13,bk 15 .eql 14 1,mv 16 15,gM 17 16 1,gt 18 16 (.p (.idxS (.t 17) (kc 0))),gt 19 16 (.p (.bin .lss (.t 18) (.c (.int .u8 128)))),aP 20 16 19] (qQ 20 [mv 21 0,mv 22 1,i 23 (.p (.idxS (.t 22) (kc 0))),ca 24 355 [.t 21,.t 23],mv 4 24])) (.seq (sq [mv 26 1,ca 27 356 [.t 26],mv 25 27,ex 28 0 25,ex 29 1 25,i 5 (.a (.alloc (List.replicate 256 (.bool false))) none),sT 256 5 28,mv 6 29] (sq [mv 30 6] (qQ 30 [mv 31 0,ca 32 357 [.t 31,.t 5],mv 4 32]))) (sq [mv 33 0,mv 34 1,ca 35 358 [.t 33,.t 34],mv 4 35] .ret))))))
def f352:IFn:=⟨false,36,[.tm 4],b352⟩
def b391:IC :=(sq [ki 4 0] (.seq (sq [mv 9 0,ln 10 9,ki 11 0] (.block 0 (.loop (sq [b2 12 .lss 11 10] (.seq (qv 12 0) (.seq (.block 1 (sq [mv 13 11,ia 14 1 9 11,ld 15 14,mv 5 13,mv 6 15] (.seq (sq [mv 16 5,mv 17 1,ln 18 17,b2 19 .geq 16 18] (qQ 19 [ki 4 1])) (sq [mv 20 1,mv 21 5,ia 22 1 20 21,ld 23 22,mv 7 23] (sq [mv 24 6,mv 25 7,ca 26 227 [.t 24,.t 25],mv 8 26] (sq [mv 27 8,bk 28 .neq 27 0] (qQ 28 [mv 29 8,mv 4 29]))))))) (.ops [bk 30 .add 11 1,mv 11 30]))))))) (.seq (sq [mv 31 0,ln 32 31,mv 33 1,ln 34 33,b2 35 .lss 32 34] (qQ 35 [ki 4 (-1)])) (sq [ki 4 0] .ret))))
def f391:IFn:=⟨true,36,[.tm 4],b391⟩
def b392:IC :=(sq [bx 2 2 0,ns 4] (sq [ns 5] (.seq (sq [mv 8 1,ln 9 8,ki 10 0] (.block 0 (.loop (sq [b2 11 .lss 10 9] (.seq (qv 11 0) (.seq (.block 1 (sq [ia 12 4 8 10,lg 13 4 12,qw 7 [qj,qj,qj,qj],sT 4 7 13] (sq [mv 14 5,fa 15 1 7,ld 16 15,i 17 (.a (.bslice true [qj] 1 [(0,.t 16)]) none),aD 18 1 8 14 17,mv 5 18] (.seq (.dops 0 [] [fa 19 0 7,ld 20 19,bk 21 .geq 20 0,mv 22 21,gF 23 22 0 7,gL 24 22 23,gF 25 22 0 2,gL 26 22 25,gN 27 22 26,gB 28 22 .lss 24 27,aP 29 22 28,mv 30 29,gF 31 30 1 7,gL 32 30 31,gF 33 30 0 2,gL 34 30 33,gF 35 30 0 7,gL 36 30 35,gI 37 30 3 34 36,gF 38 30 0 37,gL 39 30 38,gN 40 30 39,gB 41 30 .eql 32 40,aP 42 30 41]) (co 42 [mv 43 5,fa 44 3 7,ld 45 44,i 46 (.a (.bslice true [qj] 1 [(0,.t 45)]) none),aD 47 1 8 43 46,mv 5 47]))))) (.ops [bk 48 .add 10 1,mv 10 48]))))))) (sq [mv 49 5,mv 4 49] .ret))))
def f392:IFn:=⟨true,50,[.tm 4],b392⟩
def b214:IC :=(sq [ki 4 0] (sq [mv 5 0,mv 6 1,ca 7 225 [.t 5,.t 6],mv 4 7] .ret))
def f214:IFn:=⟨false,8,[.tm 4],b214⟩
def b215:IC :=(sq [i 2 (.p (.mov (.c .nilf)))] (sq [i 6 (.a (.bslice false [qj] 2 [(0,(kc 0)),(1,(kc 1114112))]) none),qw 3 [.nils],sT 1 3 6] (.seq (sq [mv 7 0,ln 8 7,ki 9 0] (.block 0 (.loop (sq [b2 10 .lss 9 8] (.seq (qv 10 0) (.seq (.block 1 (sq [ia 11 2 7 9,lg 12 2 11,qw 5 [qj,qj],sT 2 5 12] (.ops [ld 13 3,fa 14 0 5,ld 15 14,i 16 (.p (.max (.t 15) [(kc 0)])),i 17 (.p (.min (.t 16) [(kc 1114112)])),fa 18 1 5,ld 19 18,i 20 (.p (.max (.t 19) [(kc (-1))])),i 21 (.p (.min (.t 20) [(kc 1114111)])),bk 22 .add 21 1,i 23 (.a (.bslice false [qj] 2 [(0,.t 17),(1,.t 22)]) none),aD 24 1 8 13 23,sT 1 3 24]))) (.ops [bk 25 .add 9 1,mv 9 25]))))))) (sq [ld 26 3,ca 27 226 [.t 26,(.c (.fn 227 [] []))]] (sq [ld 28 3,ca 29 106 [.t 28],sT 1 3 29] (sq [i 30 (.p (.mkf 228 [] [.t 3])),mv 2 30] .ret))))))
def f215:IFn:=⟨false,31,[.tm 2],b215⟩
def b218:IC :=(sq [ns 4] (.seq (sq [mv 5 1,bk 6 .lss 5 0] (co 6 [i 7 (.p (.mki 1 (qz [99,97,110,110,111,116,32,98,101,32,110,101,103,97,116,105,118,101]))),n (.bad)])) (.seq (sq [mv 8 1,mv 9 0,i 10 (.p (.cap (.t 9))),mv 11 0,ln 12 11,b2 13 .sub 10 12,b2 14 .sub 8 13,mv 1 14] (sq [mv 15 1,bk 16 .gtr 15 0] (co 16 [mv 17 0,mv 18 0,i 19 (.p (.cap (.t 18))),sH 20 2 17 19,mv 21 1,i 22 (.w (.appendZ [qj,qj] 16 (.t 20) (.t 21))),mv 23 0,ln 24 23,sH 25 2 22 24,mv 0 25]))) (sq [mv 26 0,mv 4 26] .ret))))
def f218:IFn:=⟨false,27,[.tm 4],b218⟩
def b219:IC :=(.block 0 (.loop (.block 1 (sq [mv 5 1,bk 6 .sub 5 1,bk 7 .quo 6 2,mv 4 7] (.seq (sq [mv 8 4,mv 9 1,b2 10 .eql 8 9,mv 11 10,eM 12 11 0,eM 13 11 1,eM 14 11 4,gf 15 11 (.call (.inv (.t 12) "Less") [.t 13,.t 14] false),eX 16 11 15,oP 17 11 16] (qk 17 0)) (sq [mv 18 0,mv 19 4,mv 20 1,i 21 (.call (.inv (.t 18) "Swap") [.t 19,.t 20] false)] (.ops [mv 22 4,mv 1 22])))))))
def f219:IFn:=⟨false,23,[],b219⟩
def b220:IC :=(sq [bf 6] (sq [mv 11 1,mv 7 11] (.seq (.block 0 (.loop (.block 1 (sq [mv 12 7,i 13 (.p (.bin .mul (kc 2) (.t 12))),bk 14 .add 13 1,mv 8 14] (.seq (sq [mv 15 8,mv 16 2,b2 17 .geq 15 16,mv 18 17,eM 19 18 8,eC 20 18 .lss 19 0,oP 21 18 20] (qk 21 0)) (sq [mv 22 8,mv 9 22] (.seq (sq [mv 23 8,bk 24 .add 23 1,mv 10 24] (sq [mv 25 10,mv 26 2,b2 27 .lss 25 26,mv 28 27,gM 29 28 0,gM 30 28 10,gM 31 28 8,gt 32 28 (.call (.inv (.t 29) "Less") [.t 30,.t 31] false),aP 33 28 32] (co 33 [mv 34 10,mv 9 34]))) (.seq (sq [mv 35 0,mv 36 9,mv 37 7,i 38 (.call (.inv (.t 35) "Less") [.t 36,.t 37] false),nt 39 38] (qk 39 0)) (sq [mv 40 0,mv 41 7,mv 42 9,i 43 (.call (.inv (.t 40) "Swap") [.t 41,.t 42] false)] (.ops [mv 44 9,mv 7 44])))))))))) (sq [mv 45 7,mv 46 1,b2 47 .gtr 45 46,mv 6 47] .ret))))
def f220:IFn:=⟨false,48,[.tm 6],b220⟩
def b221:IC :=(sq [bt 3] (.block 0 (.loop (.seq (sq [mv 6 3] (qv 6 0)) (.block 1 (sq [bf 3] (sq [ld 7 1,nc 8 7,fa 9 0 8,fa 10 0 9,ld 11 10,ln 12 11,ki 13 0] (.block 2 (.loop (sq [b2 14 .lss 13 12] (.seq (qv 14 2) (.seq (.block 3 (sq [mv 15 13,ia 16 3 11 13,lg 17 3 16,qw 5 [.nils,qj,.nils],mv 4 15,sT 3 5 17] (.seq (sq [ld 18 1,nc 19 18,fa 20 2 19,ld 21 20,mv 22 4,i 23 (.r (.lookup (.one .int) (.bool false) false (.t 21) (.t 22))),mv 24 23,eF 25 24 0 5,eL 26 24 25,eL 27 24 1,gf 28 24 (.p (.mkf 163 [.t 27] [])),gf 29 24 (.call (.dir 59) [.t 26,.t 28] false),eX 30 24 29,oP 31 24 30] (qk 31 3)) (sq [bt 3] (sq [mv 32 0,mv 33 4,i 34 (.call (.val (.t 32)) [.t 33] false),nt 35 34] (cd 35 .ret .skip)))))) (.ops [bk 36 .add 13 1,mv 13 36])))))))))))))
def f221:IFn:=⟨false,37,[],b221⟩
def b224:IC :=(sq [ki 2 0] (.seq (.block 0 (sq [mv 4 0,bk 5 .lss 4 128,mv 3 5] (cd 3 (sq [ki 2 1] .ret) (sq [mv 7 0,bk 8 .lss 7 2048,mv 6 8] (cd 6 (sq [ki 2 2] .ret) (sq [mv 10 0,bk 11 .lss 10 65536,mv 9 11] (qQ 9 [ki 2 3]))))))) (sq [ki 2 4] .ret)))
def f224:IFn:=⟨true,12,[.tm 2],b224⟩
def b179:IC :=(sq [ki 4 0] (sq [mv 8 1,mv 9 1,ln 10 9,mv 11 0,ln 12 11,i 13 (.p (.min (.t 10) [.t 12])),mv 14 1,ln 15 14,mv 16 0,ln 17 16,i 18 (.p (.min (.t 15) [.t 17])),i 19 (.p (.slice 1 (.t 8) none (some (.t 13)) (some (.t 18)))),mv 1 19] (.seq (sq [mv 20 1,ln 21 20,ki 22 0] (.block 0 (.loop (sq [b2 23 .lss 22 21] (.seq (qv 23 0) (.seq (.block 1 (sq [mv 24 22,ia 25 1 20 22,ld 26 25,mv 5 24,mv 6 26] (sq [mv 27 6,cV 28 .i64 27,mv 7 28] (sq [mv 29 7,mv 30 0,mv 31 5,ia 32 2 30 31,fa 33 0 32,ld 34 33,b2 35 .lss 29 34,mv 36 35,eM 37 36 7,eM 38 36 0,eM 39 36 5,eI 40 36 2 38 39,eF 41 36 1 40,eL 42 36 41,eB 43 36 .gtr 37 42,oP 44 36 43] (qQ 44 [mv 45 5,mv 4 45]))))) (.ops [bk 46 .add 22 1,mv 22 46]))))))) (sq [mv 47 1,ln 48 47,mv 4 48] .ret))))
def f179:IFn:=⟨true,49,[.tm 4],b179⟩
def b180:IC :=(sq [qw 0 [qj,qj,qj,qj,qj,qj,qj,qj,qj,qj,qj,qj,qj,qj,qj]] (sq [bu 1 [qj,qj] [(0,1,(kc 0)),(1,1,(kc 127))],bu 2 [qj,qj,qj] [(0,2,.t 1),(2,1,(kc 0))],bu 3 [qj,qj] [(0,1,(kc 128)),(1,1,(kc 2047))],bu 4 [qj,qj,qj] [(0,2,.t 3),(2,1,(kc 1))],bu 5 [qj,qj] [(0,1,(kc 2048)),(1,1,(kc 55295))],bu 6 [qj,qj,qj] [(0,2,.t 5),(2,1,(kc 2))],bu 7 [qj,qj] [(0,1,(kc 57344)),(1,1,(kc 65535))],bu 8 [qj,qj,qj] [(0,2,.t 7),(2,1,(kc 2))],bu 9 [qj,qj] [(0,1,(kc 65536)),(1,1,(kc 1114111))],bu 10 [qj,qj,qj] [(0,2,.t 9),(2,1,(kc 3))],bu 11 [qj,qj,qj,qj,qj,qj,qj,qj,qj,qj,qj,qj,qj,qj,qj] [(0,3,.t 2),(3,3,.t 4),(6,3,.t 6),(9,3,.t 8),(12,3,.t 10)],sT 15 0 11] .ret))
def f180:IFn:=⟨true,12,[.cell (some 15) 0],b180⟩
def b181:IC :=(sq [ns 4] (sq [mv 5 0,mv 6 1,ca 7 154 [.t 5,.t 6,(.c (.fn 211 [] []))],mv 4 7] .ret))
def f181:IFn:=⟨true,8,[.tm 4],b181⟩
def b182:IC :=(sq [ns 4] (sq [ns 5] (sq [mv 10 0,i 11 (.p (.bin .shl (kc 1) (.t 10))),bk 12 .sub 11 1,mv 6 12] (.seq (sq [mv 13 1,ln 14 13,ki 15 0] (.block 0 (.loop (sq [b2 16 .lss 15 14] (.seq (qv 16 0) (.seq (.block 1 (sq [ia 17 2 13 15,lg 18 2 17,qw 8 [qj,qj],sT 2 8 18] (.seq (.seq (.dops 0 [] [fa 19 0 8,ld 20 19,mv 21 0,b2 22 .shr 20 21,fa 23 1 8,ld 24 23,mv 25 0,b2 26 .shr 24 25,b2 27 .eql 22 26]) (cd 27 (sq [mv 28 5,lg 29 2 8,i 30 (.a (.bslice true [qj,qj] 1 [(0,.t 29)]) none),aD 31 2 16 28 30,mv 5 31] (.exit 1)) .skip)) (.seq (sq [fa 32 0 8,ld 33 32,mv 34 6,b2 35 .and 33 34,bk 36 .neq 35 0] (cd 36 (sq [mv 37 5,fa 38 0 8,ld 39 38,fa 40 0 8,ld 41 40,mv 42 6,b2 43 .or 41 42,bu 44 [qj,qj] [(0,1,.t 39),(1,1,.t 43)],i 45 (.a (.bslice true [qj,qj] 1 [(0,.t 44)]) none),aD 46 2 16 37 45,mv 5 46] (.ops [fa 47 0 8,ld 48 47,mv 49 6,b2 50 .or 48 49,bk 51 .add 50 1,fa 52 0 8,sT 1 52 51])) .skip)) (sq [lg 53 2 8,qw 9 [qj,qj],sT 2 9 53] (.seq (sq [fa 54 1 8,ld 55 54,mv 56 6,b2 57 .and 55 56,mv 58 6,b2 59 .neq 57 58] (co 59 [fa 60 1 8,ld 61 60,mv 62 6,b2 63 .andNot 61 62,bk 64 .sub 63 1,fa 65 1 8,sT 1 65 64])) (.seq (sq [fa 66 0 8,ld 67 66,fa 68 1 8,ld 69 68,b2 70 .leq 67 69] (co 70 [mv 71 5,lg 72 2 8,i 73 (.a (.bslice true [qj,qj] 1 [(0,.t 72)]) none),aD 74 2 16 71 73,mv 5 74])) (sq [fa 75 1 8,ld 76 75,fa 77 1 9,ld 78 77,b2 79 .lss 76 78] (co 79 [mv 80 5,fa 81 1 8,ld 82 81,bk 83 .add 82 1,fa 84 1 9,ld 85 84,bu 86 [qj,qj] [(0,1,.t 83),(1,1,.t 85)],i 87 (.a (.bslice true [qj,qj] 1 [(0,.t 86)]) none),aD 88 2 16 80 87,mv 5 88]))))))))) (.ops [bk 89 .add 15 1,mv 15 89]))))))) (sq [mv 90 5,mv 4 90] .ret)))))
def f182:IFn:=⟨true,91,[.tm 4],b182⟩
def b183:IC :=(sq [bx 1 2 0,ns 2] (sq [fa 10 0 1,ld 11 10,ca 12 212 [.t 11],mv 9 12,ex 13 0 9,ex 14 1 9,mv 3 13,mv 4 14] (sq [fa 16 1 1,ld 17 16,ca 18 212 [.t 17],mv 15 18,ex 19 0 15,ex 20 1 15,mv 5 19,mv 6 20] (sq [ns 7] (.seq (sq [mv 21 3,ln 22 21,ki 23 0] (.block 0 (.loop (sq [b2 24 .lss 23 22] (.seq (qv 24 0) (.seq (.block 1 (sq [mv 25 23,mv 8 25] (.dops 0 [] [mv 26 7,mv 27 3,mv 28 8,ia 29 1 27 28,ld 30 29,cV 31 .i64 30,mv 32 5,mv 33 8,ia 34 1 32 33,ld 35 34,cV 36 .i64 35,bu 37 [qj,qj] [(0,1,.t 31),(1,1,.t 36)],i 38 (.a (.bslice true [qj,qj] 1 [(0,.t 37)]) none),aD 39 2 16 26 38,mv 7 39]))) (.ops [bk 40 .add 23 1,mv 23 40]))))))) (sq [mv 41 7,mv 2 41] .ret))))))
def f183:IFn:=⟨true,42,[.tm 2],b183⟩
def b223:IC :=(sq [ki 4 0] (.seq (sq [mv 6 0,ln 7 6,ki 8 0] (.block 0 (.loop (sq [b2 9 .lss 8 7] (.seq (qv 9 0) (.seq (.block 1 (sq [mv 10 8,mv 5 10] (sq [mv 11 1,mv 12 0,mv 13 5,ia 14 2 12 13,lg 15 2 14,i 16 (.call (.val (.t 11)) [.t 15] false)] (qQ 16 [mv 17 5,mv 4 17])))) (.ops [bk 18 .add 8 1,mv 8 18]))))))) (sq [ki 4 (-1)] .ret)))
def f223:IFn:=⟨true,19,[.tm 4],b223⟩
def b355:IC :=(sq [ns 4] (.seq (.block 0 (.loop (.seq (sq [mv 5 0,ln 6 5,bk 7 .gtr 6 0,mv 8 7,gM 9 8 0,gt 10 8 (.p (.iaddr 1 (.t 9) (kc 0))),gL 11 8 10,gM 12 8 1,gB 13 8 .eql 11 12,aP 14 8 13] (qv 14 0)) (.block 1 (.ops [mv 15 0,i 16 (.p (.slice 1 (.t 15) (some (kc 1)) none none)),mv 0 16]))))) (.seq (sq [mv 17 0,ln 18 17,bk 19 .eql 18 0] (qQ 19 [ns 4])) (sq [mv 20 0,mv 4 20] .ret))))
def f355:IFn:=⟨false,21,[.tm 4],b355⟩
def b356:IC :=(sq [i 2 (.a (.alloc (List.replicate 256 (.bool false))) none),bf 3] (.seq (sq [ki 4 0] (.block 0 (.loop (.seq (sq [mv 6 4,mv 7 0,lS 8 7,b2 9 .lss 6 8] (qv 9 0)) (.seq (.block 1 (sq [mv 12 0,mv 13 4,i 14 (.p (.idxS (.t 12) (.t 13))),mv 5 14] (.seq (sq [mv 15 5,bJ 16 .geq 15 .u8 128] (qQ 16 [lg 17 256 2,sT 256 2 17,bf 3])) (.ops [mv 18 5,i 19 (.p (.iaddrA 256 1 (.t 2) (.t 18))),n (.w (.store 1 (.t 19) (.c (.bool true))))])))) (.ops [mv 10 4,bk 11 .add 10 1,mv 4 11])))))) (sq [lg 20 256 2,sT 256 2 20,bt 3] .ret)))
def f356:IFn:=⟨false,21,[.cell (some 256) 2,.tm 3],b356⟩
def b357:IC :=(sq [ns 4] (.seq (.block 0 (.loop (.seq (sq [mv 5 0,ln 6 5,bk 7 .gtr 6 0] (qv 7 0)) (.block 1 (.seq (sq [mv 8 1,mv 9 0,iX 10 1 9 0,ld 11 10,ca 12 367 [.t 8,.t 11],nt 13 12] (qk 13 0)) (.ops [mv 14 0,i 15 (.p (.slice 1 (.t 14) (some (kc 1)) none none)),mv 0 15])))))) (.seq (sq [mv 16 0,ln 17 16,bk 18 .eql 17 0] (qQ 18 [ns 4])) (sq [mv 19 0,mv 4 19] .ret))))
def f357:IFn:=⟨false,20,[.tm 4],b357⟩
def b358:IC :=(sq [ns 4] (.seq (.block 0 (.loop (.seq (sq [mv 7 0,ln 8 7,bk 9 .gtr 8 0] (qv 9 0)) (.block 1 (sq [mv 11 0,ca 12 368 [.t 11],mv 10 12,ex 13 0 10,ex 14 1 10,mv 5 13,mv 6 14] (.seq (sq [mv 15 1,mv 16 5,ca 17 369 [.t 15,.t 16],nt 18 17] (qk 18 0)) (.ops [mv 19 0,mv 20 6,sL 21 1 19 20,mv 0 21]))))))) (.seq (sq [mv 22 0,ln 23 22,bk 24 .eql 23 0] (qQ 24 [ns 4])) (sq [mv 25 0,mv 4 25] .ret))))
def f358:IFn:=⟨false,26,[.tm 4],b358⟩
def b228:IC :=(sq [ki 3 1] (.block 0 (.loop (.seq (sq [mv 4 3,ld 5 1,ln 6 5,b2 7 .lss 4 6] (qv 7 0)) (.seq (.block 1 (.seq (.dops 0 [] [mv 10 0,ld 11 1,mv 12 3,bk 13 .sub 12 1,ia 14 1 11 13,ld 15 14,ld 16 1,mv 17 3,ia 18 1 16 17,ld 19 18,bk 20 .sub 19 1,i 21 (.call (.val (.t 10)) [.t 15,.t 20] false),nt 22 21]) (cd 22 .ret .skip))) (.ops [mv 8 3,bk 9 .add 8 1,mv 3 9]))))))
def f228:IFn:=⟨false,23,[],b228⟩
def b211:IC :=(sq [bf 4] (sq [mv 5 0,mv 6 5,gM 7 6 1,aP 8 6 7,mv 4 8] .ret))
def f211:IFn:=⟨true,9,[.tm 4],b211⟩
def b212:IC :=(sq [ns 2,bf 3] (.seq (sq [mv 7 0,ca 8 152 [.t 7],nt 9 8] (qQ 9 [ns 2,bf 3])) (sq [mv 10 0,ca 11 224 [.t 10],mv 4 11] (sq [mv 12 4,i 13 (.a (.mks [.int .u8 0] 1 (.t 12) (.t 12)) none),mv 5 13] (.seq (sq [mv 14 4,bk 15 .sub 14 1,mv 6 15] (.block 0 (.loop (.seq (sq [mv 16 6,bk 17 .gtr 16 0] (qv 17 0)) (.seq (.block 1 (sq [mv 20 5,mv 21 6,mv 22 0,bk 23 .and 22 63,i 24 (.p (.bin .or (kc 128) (.t 23))),cV 25 .u8 24,ia 26 1 20 21,sT 1 26 25] (.ops [mv 27 0,bJ 28 .shr 27 .u64 6,mv 0 28]))) (.ops [mv 18 6,bk 19 .sub 18 1,mv 6 19])))))) (sq [mv 29 5,ca 30 217 [],mv 31 4,i 32 (.p (.idxA 5 1 false (.t 30) (.t 31))),mv 33 0,b2 34 .or 32 33,cV 35 .u8 34,iX 36 1 29 0,sT 1 36 35] (sq [mv 37 5,mv 2 37,bt 3] .ret)))))))
def f212:IFn:=⟨true,38,[.tm 2,.tm 3],b212⟩
def b367:IC :=(sq [bf 4] (sq [mv 5 0,mv 6 1,nc 7 5,i 8 (.p (.iaddrA 256 1 (.t 7) (.t 6))),ld 9 8,mv 4 9] .ret))
def f367:IFn:=⟨false,10,[.tm 4],b367⟩
def b368:IC :=(sq [i 2 (.p (.mov (.c (.int .i32 0)))),ki 3 0] (.seq (sq [mv 6 0,ln 7 6,ki 8 0] (.block 0 (.loop (sq [b2 9 .lss 8 7] (.seq (qv 9 0) (.seq (.block 1 (sq [ia 10 1 6 8,ld 11 10,mv 5 11] (.seq (sq [mv 12 5,bJ 13 .lss 12 .u8 128] (qQ 13 [mv 14 5,cV 15 .i32 14,mv 2 15,ki 3 1])) (.exit 0)))) (.ops [bk 16 .add 8 1,mv 8 16]))))))) (sq [mv 18 0,ca 19 373 [.t 18],mv 17 19,ex 20 0 17,ex 21 1 17,mv 2 20,mv 3 21] .ret)))
def f368:IFn:=⟨false,22,[.tm 2,.tm 3],b368⟩
def b369:IC :=(sq [bf 4] (.seq (sq [mv 7 0,i 8 (.a (.rngS (.t 7)) none)] (.block 0 (.loop (sq [i 9 (.w (.nxtS (.t 8))),ex 10 0 9] (.seq (qv 10 0) (.block 1 (sq [ex 11 2 9,mv 6 11] (sq [mv 12 6,mv 13 1,b2 14 .eql 12 13] (qQ 14 [bt 4]))))))))) (sq [bf 4] .ret)))
def f369:IFn:=⟨false,15,[.tm 4],b369⟩
def b373:IC :=(sq [i 2 (.p (.mov (.c (.int .i32 0)))),ki 3 0] (sq [mv 13 0,ln 14 13,mv 4 14] (.seq (sq [mv 15 4,bk 16 .lss 15 1] (qQ 16 [i 2 (.p (.mov (.c (.int .i32 65533)))),ki 3 0])) (sq [mv 17 0,iX 18 1 17 0,ld 19 18,mv 5 19] (sq [mv 20 5,i 21 (.p (.iaddrA 256 1 (.c .any) (.t 20))),ld 22 21,mv 6 22] (.seq (sq [mv 23 6,bJ 24 .geq 23 .u8 240] (cd 24 (sq [mv 25 6,cV 26 .i32 25,bJ 27 .shl 26 .u64 31,bJ 28 .shr 27 .u64 31,mv 7 28] (sq [mv 29 0,iX 30 1 29 0,ld 31 30,cV 32 .i32 31,mv 33 7,b2 34 .andNot 32 33,mv 35 7,i 36 (.p (.bin .and (.c (.int .i32 65533)) (.t 35))),b2 37 .or 34 36,mv 2 37,ki 3 1] .ret)) .skip)) (sq [mv 38 6,bJ 39 .and 38 .u8 7,cV 40 .i64 39,mv 8 40] (sq [mv 41 6,bJ 42 .shr 41 .u64 4,i 43 (.p (.iaddrA 16 2 (.c .any) (.t 42))),lg 44 2 43,qw 9 [.int .u8 0,.int .u8 0],sT 2 9 44] (.seq (sq [mv 45 4,mv 46 8,b2 47 .lss 45 46] (qQ 47 [i 2 (.p (.mov (.c (.int .i32 65533)))),ki 3 1])) (sq [mv 48 0,iX 49 1 48 1,ld 50 49,mv 10 50] (.seq (sq [mv 51 10,fa 52 0 9,ld 53 52,b2 54 .lss 51 53,mv 55 54,eF 56 55 1 9,eL 57 55 56,eM 58 55 10,eB 59 55 .lss 57 58,oP 60 55 59] (qQ 60 [i 2 (.p (.mov (.c (.int .i32 65533)))),ki 3 1])) (.seq (sq [mv 61 8,bk 62 .leq 61 2] (qQ 62 [mv 63 5,bJ 64 .and 63 .u8 31,cV 65 .i32 64,bJ 66 .shl 65 .u64 6,mv 67 10,bJ 68 .and 67 .u8 63,cV 69 .i32 68,b2 70 .or 66 69,mv 2 70,ki 3 2])) (sq [mv 71 0,iX 72 1 71 2,ld 73 72,mv 11 73] (.seq (sq [mv 74 11,bJ 75 .lss 74 .u8 128,mv 76 75,eM 77 76 11,gf 78 76 (.p (.bin .lss (.c (.int .u8 191)) (.t 77))),oP 79 76 78] (qQ 79 [i 2 (.p (.mov (.c (.int .i32 65533)))),ki 3 1])) (.seq (sq [mv 80 8,bk 81 .leq 80 3] (qQ 81 [mv 82 5,bJ 83 .and 82 .u8 15,cV 84 .i32 83,bJ 85 .shl 84 .u64 12,mv 86 10,bJ 87 .and 86 .u8 63,cV 88 .i32 87,bJ 89 .shl 88 .u64 6,b2 90 .or 85 89,mv 91 11,bJ 92 .and 91 .u8 63,cV 93 .i32 92,b2 94 .or 90 93,mv 2 94,ki 3 3])) (sq [mv 95 0,iX 96 1 95 3,ld 97 96,mv 12 97] (.seq (sq [mv 98 12,bJ 99 .lss 98 .u8 128,mv 100 99,eM 101 100 12,gf 102 100 (.p (.bin .lss (.c (.int .u8 191)) (.t 101))),oP 103 100 102] (qQ 103 [i 2 (.p (.mov (.c (.int .i32 65533)))),ki 3 1])) (sq [mv 104 5,bJ 105 .and 104 .u8 7,cV 106 .i32 105,bJ 107 .shl 106 .u64 18,mv 108 10,bJ 109 .and 108 .u8 63,cV 110 .i32 109,bJ 111 .shl 110 .u64 12,b2 112 .or 107 111,mv 113 11,bJ 114 .and 113 .u8 63,cV 115 .i32 114,bJ 116 .shl 115 .u64 6,b2 117 .or 112 116,mv 118 12,bJ 119 .and 118 .u8 63,cV 120 .i32 119,b2 121 .or 117 120,mv 2 121,ki 3 4] .ret))))))))))))))))))
def f373:IFn:=⟨false,122,[.tm 2,.tm 3],b373⟩
def b258:IC :=(sq [bf 6] (.seq (.dops 0 [] [mv 7 0,nc 8 7,ld 9 8,mv 10 1,ia 11 1 9 10,ld 12 11,mv 13 0,nc 14 13,ld 15 14,mv 16 2,ia 17 1 15 16,ld 18 17,b2 19 .lss 12 18,mv 6 19]) .ret))
def f258:IFn:=⟨false,20,[.tm 6],b258⟩
def b259:IC :=(sq [i 2 (.p (.mov (.c .nili)))] (sq [mv 5 0,nc 6 5,ld 7 6,ln 8 7,bk 9 .sub 8 1,mv 3 9] (sq [mv 10 0,nc 11 10,ld 12 11,mv 13 3,ia 14 1 12 13,ld 15 14,mv 4 15] (sq [mv 16 0,mv 17 0,nc 18 17,ld 19 18,mv 20 3,sH 21 1 19 20,nc 22 16,sT 1 22 21] (sq [mv 23 4,i 24 (.p (.mki 3 (.t 23))),mv 2 24] .ret)))))
def f259:IFn:=⟨false,25,[.tm 2],b259⟩
def b260:IC :=(sq [mv 7 1,i 8 (.p (.asrt 3 true (.int .i64 0) (.t 7))),mv 6 8,ex 9 0 6,ex 10 1 6,mv 4 9,mv 5 10] (sq [mv 11 5] (co 11 [mv 12 0,mv 13 0,nc 14 13,ld 15 14,mv 16 4,i 17 (.a (.bslice true [qj] 1 [(0,.t 16)]) none),aD 18 1 8 15 17,nc 19 12,sT 1 19 18])))
def f260:IFn:=⟨false,20,[],b260⟩
def b261:IC :=(.dops 0 [] [mv 6 0,nc 7 6,ld 8 7,mv 9 1,mv 10 0,nc 11 10,ld 12 11,mv 13 2,mv 14 0,nc 15 14,ld 16 15,mv 17 2,ia 18 1 16 17,ld 19 18,mv 20 0,nc 21 20,ld 22 21,mv 23 1,ia 24 1 22 23,ld 25 24,ia 26 1 8 9,sT 1 26 19,ia 27 1 12 13,sT 1 27 25])
def f261:IFn:=⟨false,28,[],b261⟩
end Go.Abs.Pr

namespace Go.Abs.Pr
open Go Go.Abs
def fns(i:Nat):Option IFn:=br i 166 (br i 95 (br i 60 (br i 45 (br i 28 (br i 17 (br i 15 (bq i 10 f10) (br i 16 (bq i 15 f15) (bq i 16 f16))) (br i 26 (br i 25 (bq i 17 f17) (bq i 25 f25)) (br i 27 (bq i 26 f26) (bq i 27 f27)))) (br i 31 (br i 29 (bq i 28 f28) (br i 30 (bq i 29 f29) (bq i 30 f30))) (br i 33 (br i 32 (bq i 31 f31) (bq i 32 f32)) (br i 44 (bq i 33 f33) (bq i 44 f44))))) (br i 52 (br i 48 (br i 46 (bq i 45 f45) (br i 47 (bq i 46 f46) (bq i 47 f47))) (br i 50 (br i 49 (bq i 48 f48) (bq i 49 f49)) (br i 51 (bq i 50 f50) (bq i 51 f51)))) (br i 56 (br i 54 (br i 53 (bq i 52 f52) (bq i 53 f53)) (br i 55 (bq i 54 f54) (bq i 55 f55))) (br i 58 (br i 57 (bq i 56 f56) (bq i 57 f57)) (br i 59 (bq i 58 f58) (bq i 59 f59)))))) (br i 80 (br i 72 (br i 63 (br i 61 (bq i 60 f60) (br i 62 (bq i 61 f61) (bq i 62 f62))) (br i 65 (br i 64 (bq i 63 f63) (bq i 64 f64)) (br i 71 (bq i 65 f65) (bq i 71 f71)))) (br i 76 (br i 74 (br i 73 (bq i 72 f72) (bq i 73 f73)) (br i 75 (bq i 74 f74) (bq i 75 f75))) (br i 78 (br i 77 (bq i 76 f76) (bq i 77 f77)) (br i 79 (bq i 78 f78) (bq i 79 f79))))) (br i 87 (br i 83 (br i 81 (bq i 80 f80) (br i 82 (bq i 81 f81) (bq i 82 f82))) (br i 85 (br i 84 (bq i 83 f83) (bq i 84 f84)) (br i 86 (bq i 85 f85) (bq i 86 f86)))) (br i 91 (br i 89 (br i 88 (bq i 87 f87) (bq i 88 f88)) (br i 90 (bq i 89 f89) (bq i 90 f90))) (br i 93 (br i 92 (bq i 91 f91) (bq i 92 f92)) (br i 94 (bq i 93 f93) (bq i 94 f94))))))) (br i 131 (br i 116 (br i 102 (br i 98 (br i 96 (bq i 95 f95) (br i 97 (bq i 96 f96) (bq i 97 f97))) (br i 100 (br i 99 (bq i 98 f98) (bq i 99 f99)) (br i 101 (bq i 100 f100) (bq i 101 f101)))) (br i 107 (br i 104 (bq i 102 f102) (br i 106 (bq i 104 f104) (bq i 106 f106))) (br i 110 (br i 109 (bq i 107 f107) (bq i 109 f109)) (br i 115 (bq i 110 f110) (bq i 115 f115))))) (br i 123 (br i 119 (br i 117 (bq i 116 f116) (br i 118 (bq i 117 f117) (bq i 118 f118))) (br i 121 (br i 120 (bq i 119 f119) (bq i 120 f120)) (br i 122 (bq i 121 f121) (bq i 122 f122)))) (br i 127 (br i 125 (br i 124 (bq i 123 f123) (bq i 124 f124)) (br i 126 (bq i 125 f125) (bq i 126 f126))) (br i 129 (br i 128 (bq i 127 f127) (bq i 128 f128)) (br i 130 (bq i 129 f129) (bq i 130 f130)))))) (br i 151 (br i 138 (br i 134 (br i 132 (bq i 131 f131) (br i 133 (bq i 132 f132) (bq i 133 f133))) (br i 136 (br i 135 (bq i 134 f134) (bq i 135 f135)) (br i 137 (bq i 136 f136) (bq i 137 f137)))) (br i 144 (br i 140 (br i 139 (bq i 138 f138) (bq i 139 f139)) (br i 141 (bq i 140 f140) (bq i 141 f141))) (br i 149 (br i 146 (bq i 144 f144) (bq i 146 f146)) (br i 150 (bq i 149 f149) (bq i 150 f150))))) (br i 158 (br i 154 (br i 152 (bq i 151 f151) (br i 153 (bq i 152 f152) (bq i 153 f153))) (br i 156 (br i 155 (bq i 154 f154) (bq i 155 f155)) (br i 157 (bq i 156 f156) (bq i 157 f157)))) (br i 162 (br i 160 (br i 159 (bq i 158 f158) (bq i 159 f159)) (br i 161 (bq i 160 f160) (bq i 161 f161))) (br i 164 (br i 163 (bq i 162 f162) (bq i 163 f163)) (br i 165 (bq i 164 f164) (bq i 165 f165)))))))) (br i 335 (br i 217 (br i 193 (br i 186 (br i 180 (br i 178 (bq i 166 f166) (br i 179 (bq i 178 f178) (bq i 179 f179))) (br i 182 (br i 181 (bq i 180 f180) (bq i 181 f181)) (br i 183 (bq i 182 f182) (bq i 183 f183)))) (br i 189 (br i 187 (bq i 186 f186) (br i 188 (bq i 187 f187) (bq i 188 f188))) (br i 191 (br i 190 (bq i 189 f189) (bq i 190 f190)) (br i 192 (bq i 191 f191) (bq i 192 f192))))) (br i 208 (br i 199 (br i 197 (bq i 193 f193) (br i 198 (bq i 197 f197) (bq i 198 f198))) (br i 201 (br i 200 (bq i 199 f199) (bq i 200 f200)) (br i 202 (bq i 201 f201) (bq i 202 f202)))) (br i 212 (br i 210 (br i 209 (bq i 208 f208) (bq i 209 f209)) (br i 211 (bq i 210 f210) (bq i 211 f211))) (br i 215 (br i 214 (bq i 212 f212) (bq i 214 f214)) (br i 216 (bq i 215 f215) (bq i 216 f216)))))) (br i 313 (br i 227 (br i 220 (br i 218 (bq i 217 f217) (br i 219 (bq i 218 f218) (bq i 219 f219))) (br i 223 (br i 221 (bq i 220 f220) (bq i 221 f221)) (br i 224 (bq i 223 f223) (bq i 224 f224)))) (br i 260 (br i 258 (br i 228 (bq i 227 f227) (bq i 228 f228)) (br i 259 (bq i 258 f258) (bq i 259 f259))) (br i 311 (br i 261 (bq i 260 f260) (bq i 261 f261)) (br i 312 (bq i 311 f311) (bq i 312 f312))))) (br i 326 (br i 316 (br i 314 (bq i 313 f313) (br i 315 (bq i 314 f314) (bq i 315 f315))) (br i 324 (br i 319 (bq i 316 f316) (bq i 319 f319)) (br i 325 (bq i 324 f324) (bq i 325 f325)))) (br i 330 (br i 328 (br i 327 (bq i 326 f326) (bq i 327 f327)) (br i 329 (bq i 328 f328) (bq i 329 f329))) (br i 332 (br i 331 (bq i 330 f330) (bq i 331 f331)) (br i 334 (bq i 332 f332) (bq i 334 f334))))))) (br i 392 (br i 351 (br i 342 (br i 338 (br i 336 (bq i 335 f335) (br i 337 (bq i 336 f336) (bq i 337 f337))) (br i 340 (br i 339 (bq i 338 f338) (bq i 339 f339)) (br i 341 (bq i 340 f340) (bq i 341 f341)))) (br i 347 (br i 344 (br i 343 (bq i 342 f342) (bq i 343 f343)) (br i 346 (bq i 344 f344) (bq i 346 f346))) (br i 349 (br i 348 (bq i 347 f347) (bq i 348 f348)) (br i 350 (bq i 349 f349) (bq i 350 f350))))) (br i 367 (br i 355 (br i 352 (bq i 351 f351) (br i 354 (bq i 352 f352) (bq i 354 f354))) (br i 357 (br i 356 (bq i 355 f355) (bq i 356 f356)) (br i 358 (bq i 357 f357) (bq i 358 f358)))) (br i 385 (br i 369 (br i 368 (bq i 367 f367) (bq i 368 f368)) (br i 373 (bq i 369 f369) (bq i 373 f373))) (br i 389 (br i 388 (bq i 385 f385) (bq i 388 f388)) (br i 391 (bq i 389 f389) (bq i 391 f391)))))) (br i 411 (br i 400 (br i 396 (br i 393 (bq i 392 f392) (br i 394 (bq i 393 f393) (bq i 394 f394))) (br i 398 (br i 397 (bq i 396 f396) (bq i 397 f397)) (br i 399 (bq i 398 f398) (bq i 399 f399)))) (br i 404 (br i 402 (br i 401 (bq i 400 f400) (bq i 401 f401)) (br i 403 (bq i 402 f402) (bq i 403 f403))) (br i 409 (br i 408 (bq i 404 f404) (bq i 408 f408)) (br i 410 (bq i 409 f409) (bq i 410 f410))))) (br i 429 (br i 414 (br i 412 (bq i 411 f411) (br i 413 (bq i 412 f412) (bq i 413 f413))) (br i 418 (br i 415 (bq i 414 f414) (bq i 415 f415)) (br i 426 (bq i 418 f418) (bq i 426 f426)))) (br i 434 (br i 432 (br i 430 (bq i 429 f429) (bq i 430 f430)) (br i 433 (bq i 432 f432) (bq i 433 f433))) (br i 438 (br i 437 (bq i 434 f434) (bq i 437 f437)) (br i 439 (bq i 438 f438) (bq i 439 f439))))))))
def top:Nat:=440
def meths(t:Nat)(m:String):Option Nat:=cond (Nat.beq t 2&&m == "Len") (some 160) (cond (Nat.beq t 2&&m == "Less") (some 258) (cond (Nat.beq t 2&&m == "Pop") (some 259) (cond (Nat.beq t 2&&m == "Push") (some 260) (cond (Nat.beq t 2&&m == "Swap") (some 261) (none)))))
end Go.Abs.Pr

namespace Go.Abs
open Go
abbrev En:=Int × Int
def leE(a b:En):Bool:=ltB a.1 b.1||(eqB a.1 b.1&&leB a.2 b.2)
def insE(x:En):List En->List En
  | []=>[x]
  | y::l=>cond (leE x y) (x::y::l) (y::insE x l)
def qbd:List En->List En
  | []=>[]
  | x::l=>insE x (qbd l)
def ddE:En->List En->List En
  | x,[]=>[x]
  | x,y::l=>if y.1=x.1 then ddE x l else x::ddE y l
def qjW:List En->List En
  | []=>[]
  | x::l=>ddE x l
def qbG(l:List En):List En:=qjW (qbd l)
theorem leE_iff{a b:En}:leE a b=true↔a.1<b.1\/(a.1=b.1/\a.2<=b.2):=by
  simp[leE,qgP,qek,qgZ]
theorem qg5(x:En):∀l,(insE x l).Perm (x::l)
  | []=>.refl _
  | y::l=>by
    simp only[insE];cases leE x y with
    | true=>exact .refl _
    | false=>exact((qg5 x l).cons y).trans (.swap x y l)
theorem qc0:∀l,(qbd l).Perm l
  | []=>.refl _
  | x::l=>(qg5 x _).trans ((qc0 l).cons x)
theorem qbR(l:List En):(qbd l).length=l.length:=(qc0 l).length_eq
theorem qjD{a b c:En}(h:leE a b=true)(k:leE b c=true):leE a c=true:=by
  rw[leE_iff]at *; omega
theorem qjE{a b:En}(h:leE a b=false):leE b a=true:=by
  have:¬leE a b=true:=by simp[h]
  rw[leE_iff]at *; omega
theorem qoo(x:En):∀{l:List En},l.Pairwise (λa b=>leE a b=true)->(insE x l).Pairwise (λa b=>leE a b=true)
  | [],_=>by simp[insE]
  | y::l,h=>by
    rw[List.pairwise_cons]at h;simp only[insE];cases c:leE x y with
    | true =>
      refine List.pairwise_cons.2 ⟨λz hz=>?_,List.pairwise_cons.2 h⟩;rcases Jag.1 hz with rfl|hz
      · exact c
      · exact qjD c (h.1 z hz)
    | false =>
      refine List.pairwise_cons.2 ⟨λz hz=>?_,qoo x h.2⟩;rcases Jag.1 ((qg5 x l).mem_iff.1 hz)with rfl|hz
      · exact qjE c
      · exact h.1 z hz
theorem qeO:∀l:List En,(qbd l).Pairwise (λa b=>leE a b=true)
  | []=>by simp[qbd]
  | x::l=>qoo x (qeO l)
theorem qfe : ∀ (l : List En) (x : En), (x :: l).Pairwise (fun a b => leE a b = true) →
    (ddE x l).Pairwise (λa b=>a.1<b.1)/\(∀e,e∈ddE x l↔e∈x::l/\∀f∈x::l,f.1=e.1->e.2<=f.2)/\(∀e∈x::l,∃f∈ddE x l,f.1=e.1/\f.2<=e.2)
  | [],x,_=>by simp[ddE]
  | y::l,x,h=>by
    rw[List.pairwise_cons]at h;obtain⟨hx,hy⟩:=h;have hxy:=leE_iff.1 (hx y (by simp));simp only[ddE]
    by_cases c:y.1=x.1
    · rw[Jab c]
      obtain⟨q1,q2,q3⟩:=qfe l x (List.pairwise_cons.2 ⟨λz hz=>hx z (by simp[hz]),(List.pairwise_cons.1 hy).2⟩);refine⟨q1,λe=>?_,λe he=>?_⟩
      · rw[q2]
        constructor
        · rintro⟨h1,h2⟩
          refine⟨by rcases Jag.1 h1 with h|h<;>simp[h],λf hf hfe=>?_⟩;rcases Jag.1 hf with rfl|hf
          · exact h2 f (by simp) hfe
          · rcases Jag.1 hf with rfl|hf
            · have:=h2 x (by simp) (by omega); omega
            · exact h2 f (by simp[hf]) hfe
        · rintro⟨h1,h2⟩
          refine⟨?_,λf hf hfe=>h2 f (by rcases Jag.1 hf with h|h<;>simp[h]) hfe⟩;rcases Jag.1 h1 with rfl|h1
          · simp
          · rcases Jag.1 h1 with rfl|h1
            · have:=h2 x (by simp) (by omega)
              have:x=e:=by
                refine Prod.ext (by omega) (by omega)
              simp[this]
            · simp[h1]
      · rcases Jag.1 he with rfl|he
        · exact q3 e (by simp)
        · rcases Jag.1 he with rfl|he
          · obtain⟨f,hf,a,b⟩:=q3 x (by simp)
            exact⟨f,hf,by omega,by omega⟩
          · exact q3 e (by simp[he])
    · rw[Jaa c]
      obtain⟨q1,q2,q3⟩:=qfe l y hy;have hge:∀z∈y::l,x.1<z.1:=λz hz=>by
        rcases Jag.1 hz with rfl|hz
        · omega
        · have:=leE_iff.1 ((List.pairwise_cons.1 hy).1 z hz); omega
      refine⟨List.pairwise_cons.2 ⟨λz hz=>hge z ((q2 z).1 hz).1,q1⟩,λe=>?_,λe he=>?_⟩
      · rw[Jag,q2]
        constructor
        · rintro (rfl|⟨h1,h2⟩)
          · refine⟨by simp,λf hf hfe=>?_⟩
            rcases Jag.1 hf with rfl|hf
            · omega
            · have:=hge f hf; omega
          · refine⟨List.mem_cons_of_mem _ h1,λf hf hfe=>?_⟩
            rcases Jag.1 hf with rfl|hf
            · have:=hge e h1; omega
            · exact h2 f hf hfe
        · rintro⟨h1,h2⟩
          rcases Jag.1 h1 with rfl|h1
          · exact .inl rfl
          · exact .inr ⟨h1,λf hf=>h2 f (List.mem_cons_of_mem _ hf)⟩
      · rcases Jag.1 he with rfl|he
        · exact⟨e,by simp,rfl,Int.le_refl _⟩
        · obtain⟨f,hf,a,b⟩:=q3 e he
          exact⟨f,by simp[hf],a,b⟩
theorem qdc(l:List En):(qbG l).Pairwise (λa b=>a.1<b.1):=by
  unfold qbG;have:=qeO l;cases h:qbd l with
  | nil=>simp[qjW]
  | cons x r=>rw[h]at this; exact(qfe r x this).1
theorem qd5{l:List En}{e:En}:e∈qbG l↔e∈l/\∀f∈l,f.1=e.1->e.2<=f.2:=by
  have h1:∀f,f∈qbd l↔f∈l:=λf=>(qc0 l).mem_iff;unfold qbG;have hp:=qeO l;cases h:qbd l with
  | nil => rw [h] at h1; simp only [qjW]; constructor
           · intro h; cases h
           · rintro⟨h2,_⟩; rw[<-h1]at h2; cases h2
  | cons x r =>
    rw[h]at hp h1;rw[qjW,(qfe r x hp).2.1,h1];exact⟨λ⟨a,b⟩=>⟨a,λf hf=>b f ((h1 f).2 hf)⟩,λ⟨a,b⟩=>⟨a,λf hf=>b f ((h1 f).1 hf)⟩⟩
theorem qla{l:List En}{e:En}(he:e∈l):∃f∈qbG l,f.1=e.1/\f.2<=e.2:=by
  have h1:e∈qbd l:=(qc0 l).mem_iff.2 he;unfold qbG;have hp:=qeO l;cases h:qbd l with
  | nil=>rw[h]at h1; cases h1
  | cons x r=>rw[h]at hp h1; exact(qfe r x hp).2.2 e h1
theorem qgf{l:List En}{e:En}(h:e∈qbG l):e∈l:=(qd5.1 h).1
theorem qpb{l:List En}:qbG l=[]↔l=[]:=by
  constructor
  · intro h
    cases l with
    | nil=>rfl
    | cons x r =>
      obtain⟨f,hf,_⟩:=qla (l:=x::r) (e:=x) (by simp);rw[h]at hf; cases hf
  · rintro rfl; rfl
theorem qft:∀{l m:List En},l.Pairwise (λa b=>a.1<b.1)->m.Pairwise (λa b=>a.1<b.1)->(∀e,e∈l↔e∈m)->l=m
  | [],[],_,_,_=>rfl
  | [],y::m,_,_,h=>by have:=(h y).2 (by simp); cases this
  | x::l,[],_,_,h=>by have:=(h x).1 (by simp); cases this
  | x::l,y::m,hl,hm,h=>by
    rw[List.pairwise_cons]at hl hm;have e:x=y:=by
      rcases Jag.1 ((h x).1 (by simp))with e|e
      · exact e
      · rcases Jag.1 ((h y).2 (by simp))with e2|e2
        · exact e2.symm
        · have:=hm.1 x e; have:=hl.1 y e2; omega
    subst e;rw[qft hl.2 hm.2 λe=>?_];constructor
    · intro he
      rcases Jag.1 ((h e).1 (by simp[he]))with q|q
      · subst q; have:=hl.1 e he; omega
      · exact q
    · intro he
      rcases Jag.1 ((h e).2 (by simp[he]))with q|q
      · subst q; have:=hm.1 e he; omega
      · exact q
theorem qq8{l:List En}(h:l.Pairwise (λa b=>a.1<b.1)):qbG l=l:=by
  refine qft (qdc l) h λe=>?_;rw[qd5];refine⟨λh=>h.1,λhe=>⟨he,λf hf hfe=>?_⟩⟩;have:f=e:=by
    by_cases c:f=e
    · exact c
    · exfalso
      have key:∀{l:List En},l.Pairwise (λa b=>a.1<b.1)->e∈l->f∈l->False:=by
        intro l;induction l with
        | nil=>intro _ h; cases h
        | cons x l ih =>
          intro hp h1 h2;rw[List.pairwise_cons]at hp;rcases Jag.1 h1 with q1|q1<;>rcases Jag.1 h2 with q2|q2
          · exact c (q2.trans q1.symm)
          · have:=hp.1 f q2; rw[<-q1]at this; omega
          · have:=hp.1 e q1; rw[<-q2]at this; omega
          · exact ih hp.2 q1 q2
      exact key h he hf
  subst this; omega
def qkJ(c:Nat):List UInt8->Nat->Int
 | [],_=>-1
 | x::l,i=>cond (Nat.beq x.toNat c) (.ofNat i) (qkJ c l (i+1))
def qc4:Nat->List V->Heap->ND VH:=λ_ as h =>
 match as with
 | [.str s,.int .u8 (.ofNat c)]=>cond (Nat.blt c 256) (some [⟨.int .i64 (qkJ c s 0),h⟩]) none
 | _=>none
def insI(x:Int):List Int->List Int
 | []=>[x]
 | y::l=>cond (leB x y) (x::y::l) (y::insI x l)
def qa8:List Int->List Int
 | []=>[]
 | x::l=>insI x (qa8 l)
def qg2:List (List V)->Option (List Int)
 | []=>some []
 | r::rs=>match r with
  | [.int .i64 n]=>(match qg2 rs with
   | some l=>some (n::l)
   | none=>none)
  | _=>none
def qab(l:List Int):List (List V):=l.map λn=>[.int .i64 n]
def qed:Nat->List V->Heap->ND VH:=λmk as h =>
 match as with
 | [.nils]=>some [⟨.tup [],h⟩]
 | [.sl id lo len e _]=>(match h.get id with
  | some (.rows rs)=>cond (Nat.beq e 1&&Nat.beq lo 0&&Nat.beq len rs.length&&Nat.ble mk id&&Nat.blt len 4294967296) (match qg2 rs with
   | some l=>some [⟨.tup [],h.set id (.rows (qab (qa8 l)))⟩]
   | none=>none) none
  | _=>none)
 | _=>none
def qby:Nat->List V->Heap->ND VH:=λmk as h =>
 match as with
 | [s,.fn 227 [] []]=>qed mk [s] h
 | _=>none
def qkK:List (List V)->Option (List En)
 | []=>some []
 | r::rs=>match r with
  | [.int .i64 a,.int .i64 b]=>(match qkK rs with
   | some l=>some ((a,b)::l)
   | none=>none)
  | _=>none
def qag(l:List En):List (List V):=l.map λe=>[.int .i64 e.1,.int .i64 e.2]
def qeP:Nat->V->Heap->ND VH:=λmk s h =>
 match s with
 | .nils=>some [⟨.tup [],h⟩]
 | .sl id lo len e _=>(match h.get id with
  | some (.rows rs)=>cond (Nat.beq e 2&&Nat.beq lo 0&&Nat.beq len rs.length&&Nat.ble mk id&&Nat.blt len 4294967296) (match qkK rs with
   | some l=>some [⟨.tup [],h.set id (.rows (qag (qbd l)))⟩]
   | none=>none) none
  | _=>none)
 | _=>none
def qbz(c:Nat):Nat->List V->Heap->ND VH:=λmk as h =>
 match as with
 | [s,.fn c' [] []]=>cond (Nat.beq c' c) (qeP mk s h) none
 | _=>none
def prims(i:Nat):Option (Nat->List V->Heap->ND VH) :=
 cond (Nat.beq i 225) (some qc4) (cond (Nat.beq i 105) (some qed) (cond (Nat.beq i 226) (some qby) (cond (Nat.beq i 345) (some (qbz 346)) none)))
def PR:Prog:=⟨λi=>cond (Nat.blt i Pr.top) (Pr.fns i) none,prims,Pr.meths⟩
set_option maxRecDepth 10000
open Go Pr
def qkE(esz:Nat)(ld:Option Nat):IC :=
  (.seq (.ops [i 4 (.p (.mov (.c (.int .i64 0))))])
  (.seq (.seq (.ops [i 6 (.p (.mov (.t 0))),i 7 (.r (.len .sl (.t 6))),i 8 (.p (.mov (.c (.int .i64 0))))])
    (.block 0
     (.loop
      (.seq (.ops [i 9 (.p (.bin .lss (.t 8) (.t 7)))])
       (.seq (.cond (.t 9)
         .skip
         (.exit 0))
        (.seq (.block 1
          (.seq (.ops [i 10 (.p (.mov (.t 8))),i 5 (.p (.mov (.t 10)))])
           (.seq (.ops [i 11 (.p (.mov (.t 1))),i 12 (.p (.mov (.t 0))),i 13 (.p (.mov (.t 5))),i 14 (.p (.iaddr esz (.t 12) (.t 13))),i 15 (.r (.load ld (.t 14))),i 16 (.call (.val (.t 11)) [(.t 15)] false)])
            (.cond (.t 16)
             (.seq (.ops [i 17 (.p (.mov (.t 5))),i 4 (.p (.mov (.t 17)))])
              .ret)
             .skip))))
         (.ops [i 18 (.p (.bin .add (.t 8) (.c (.int .i64 1)))),i 8 (.p (.mov (.t 18)))])))))))
   (.seq (.ops [i 4 (.p (.mov (.c (.int .i64 (-1)))))])
    .ret)))
def idxF(esz:Nat)(ld:Option Nat):IFn:=⟨true,19,[.tm 4],qkE esz ld⟩
def qkQ(f:Nat):IC :=
  (.seq (.ops [i 4 (.p (.mov (.c (.bool false))))])
  (.seq (.ops [i 5 (.p (.mov (.t 0))),i 6 (.p (.mov (.t 1))),i 7 (.call (.dir f) [(.t 5),(.t 6)] false),i 8 (.p (.bin .geq (.t 7) (.c (.int .i64 0)))),i 4 (.p (.mov (.t 8)))])
   .ret))
def conF(f:Nat):IFn:=⟨true,9,[.tm 4],qkQ f⟩
def idxP{α : Type}(p : α->Bool):List α->Int->Int
  | [],_=>-1
  | a::l,i=>if p a then i else idxP p l (i+1)
theorem qiE{α : Type}(p : α->Bool):∀(l:List α) (i:Int),0<=i->decide (0<=idxP p l i)=l.any p
  | [],i,_=>by simp[idxP]
  | a::l,i,h=>by
    simp only[idxP,List.any_cons]
    by_cases hp:p a=true
    · simp[hp,h]
    · simpa[hp]using qiE p l (i+1) (by omega)
theorem qbu{α : Type} [Inhabited α] {l:List α}{i:Nat}(h:i<l.length):l.drop i=lat l i::l.drop (i+1):=by
  rw[lat_eq h]; exact List.drop_eq_getElem_cons h
section
variable {α : Type} [Inhabited α] {f g esz mk:Nat}{ld:Option Nat}{d:Bool}{enc : α->List V}{arg : α->V}{p : α->Bool}{s:Sl α}{fv:V}{h:Heap}
theorem idx_ok (hF : PR.fn f = some (idxF esz ld)) (hp : PR.prim f = none) (he : ∀ a, (enc a).length = esz) (hld : ∀ a, qca (enc a) 0 ld = some (arg a)) (hs : s.l.length < 1000000000)
    (hc:∀a∈s.l,WF PR false h.n fv [arg a] h λr=>r=⟨.bool (p a),h⟩):WF PR d mk (.fn f [] []) [s.enc enc,fv] h λr=>r=⟨.int .i64 (idxP p s.l 0),h⟩:=by
  refine qBS hp hF rfl (Nat.le_of_ble_eq_true rfl) ?_;refine qef (qkE esz ld) [.tm 4] rfl rfl ?_;unfold qkE;simp -dsimp;refine qaf (λk st=>∃(i:Int),0<=i/\(k:Int)=s.l.length-i/\idxP p (s.l.drop i.toNat) i=idxP p s.l 0/\(gK 8).run st.tm=.int .i64 i/\st.h=h/\st.defs=[]) s.l.length ⟨0,by simp⟩ ?_;rintro k ⟨tm,h',defs,round⟩ ⟨i,hi,hk,hx,h8,rfl,rfl⟩ hK;have h0:=hK 0 rfl;have h1:=hK 1 rfl;have h7:=hK 7 rfl;simp at h0 h1 h7 h8;clear hK;simp -dsimp[h7,h8];rw[qaa];refine⟨λhl=>?_,λhl=>?_⟩
  · simp at hl
    have ha:=qap (f:=enc) (s:=s) (k:=.i64) hi hl he;simp -dsimp[h0,h1,h7,h8,hl,ha,hld];refine WFS.by (hc _ (qai (by omega))) ?_
    intro v h'' e;cases e;simp -dsimp;rw[qbu (by omega)]at hx;simp only[idxP]at hx;rw[qaa];refine⟨λhb=>?_,λhb=>?_⟩
    · simp[hb]at hx
      simp -dsimp[h8,hx]
    · simp[hb]at hx
      simp -dsimp[h8];refine qah.intro (k-1) (by omega) ⟨i+1,by omega,by omega,?_,by simp[fw64 (n:=i+1) (by omega) (by omega)]⟩;rw[show(i+1).toNat=i.toNat+1 by omega]; exact hx
  · simp at hl
    rw[List.drop_eq_nil_of_le (by omega)]at hx;simp[idxP]at hx;have hl':decide (i<(s.l.length:Int))=false:=by simpa using hl
    simp -dsimp[hl',<-hx]
theorem qf5 (hF : PR.fn g = some (conF f)) (hp : PR.prim g = none) (hF' : PR.fn f = some (idxF esz ld)) (hp' : PR.prim f = none) (he : ∀ a, (enc a).length = esz) (hld : ∀ a, qca (enc a) 0 ld = some (arg a)) (hs : s.l.length < 1000000000)
    (hc:∀a∈s.l,WF PR false h.n fv [arg a] h λr=>r=⟨.bool (p a),h⟩):WF PR d mk (.fn g [] []) [s.enc enc,fv] h λr=>r=⟨.bool (s.l.any p),h⟩:=by
  refine qBS hp hF rfl (Nat.le_of_ble_eq_true rfl) ?_;refine qef (qkQ f) [.tm 4] rfl rfl ?_;unfold qkQ;simp -dsimp;refine WFS.by (idx_ok (s:=s) hF' hp' he hld hs hc) ?_
  intro v h' e;cases e;simp -dsimp[qiE]
end
def Lo(mk:Nat)(h h':Heap):Prop:=h.n<=h'.n/\∀i,i<mk->h'.get i=h.get i
theorem Lo.refl{mk:Nat}{h:Heap}:Lo mk h h:=⟨Jac _,λ_ _=>rfl⟩
theorem Lo.trans{mk:Nat}{h h' h'':Heap}(a:Lo mk h h')(b:Lo mk h' h''):Lo mk h h'':=⟨Jaf a.1 b.1,λi hi=>(b.2 i hi).trans (a.2 i hi)⟩
theorem Lo.set{mk:Nat}{h:Heap}{i:Nat}{o:Obj}(hi:mk<=i):Lo mk h (h.set i o):=⟨Jac _,λj hj=>by rw[qBp,Jaa (by omega)]⟩
theorem Lo.kill{mk:Nat}{h:Heap}{i:Nat}(hi:mk<=i):Lo mk h (h.kill i):=⟨Jac _,λj hj=>by rw[qBr,Jaa (by omega)]⟩
theorem Lo.push{mk:Nat}{h:Heap}{o:Obj}(hi:mk<=h.n):Lo mk h (h.push o):=⟨by simp,λj hj=>by rw[qBq,Jaa (by omega)]⟩
theorem qbb{α : Type}{c:Bool}{x:Option α}{y : α}(h:cond c x none=some y):c=true/\x=some y:=by
 cases c with
 | true=>exact⟨rfl,h⟩
 | false=>cases h
theorem qdX{a b:Bool}(h:(a&&b)=true):a=true/\b=true:=by simpa using h
theorem qfN{a b:Nat}(h:Nat.ble a b=true):a<=b:=Nat.le_of_ble_eq_true h
theorem qic{mk:Nat}{h:Heap}{esz bytes:Nat}{s:V}{xs:List (List V)}{r:VH}(hr:qaj mk h esz bytes s xs=some r)(hm:mk<=h.n):Lo mk h r.h:=by
 unfold qaj at hr;cases xs with
 | nil =>
  simp only at hr;split at hr<;>first|(cases hr; exact Lo.refl)|cases hr
 | cons x xs =>
  simp only at hr;cases hrow:qal h s with
  | none=>rw[hrow]at hr; cases hr
  | some rs =>
   rw[hrow]at hr;obtain⟨_,hr⟩:=qbb hr;cases s with
   | nils=>cases hr; exact Lo.push hm
   | slR a f=>obtain⟨_,hr⟩:=qbb hr; cases hr; exact Lo.push hm
   | sl i a b e f =>
    obtain⟨_,hr⟩:=qbb hr;cases f with
    | true=>cases hr; exact Lo.push hm
    | false =>
     obtain⟨h2,hr⟩:=qbb hr;cases hr;exact(Lo.kill (qfN h2)).trans (Lo.push hm)
   | _=>cases hr
theorem W_low{mk:Nat}{o:WO}{tm:Tm}{h:Heap}{r:VH}(hr:(qay o).run mk tm h=some r)(hm:mk<=h.n):Lo mk h r.h:=by
 cases o with
 | store n a x =>
  simp only[qay]at hr;split at hr
  ·split at hr
   ·split at hr
    ·obtain⟨h1,hr⟩:=qbb hr;simp only[Jad]at h1;cases hr; exact Lo.set (qfN h1.1.1.1.1)
    ·cases hr
   ·cases hr
  ·cases hr
 | mupd kn m k v =>
  simp only[qay]at hr;split at hr
  ·split at hr
   ·obtain⟨h1,hr⟩:=qbb hr;have:=qfN (qdX h1).1;split at hr<;>first|(cases hr; exact Lo.set this)|cases hr
   ·cases hr
  ·cases hr
 | del kn m k =>
  simp only[qay]at hr;split at hr
  ·split at hr
   ·obtain⟨h1,hr⟩:=qbb hr;have:=qfN (qdX h1).1;split at hr<;>first|(cases hr; exact Lo.set this)|(cases hr; exact Lo.refl)|cases hr
   ·cases hr
  ·cases hr
 | rngM x =>
  simp only[qay]at hr;split at hr
  ·split at hr
   ·cases hr; exact Lo.push hm
   ·cases hr
  ·cases hr
 | nxtS it =>
  simp only[qay]at hr;split at hr
  ·split at hr
   ·obtain⟨h1,hr⟩:=qbb hr;rename_i s pos hget hr0;cases hb:Nat.blt pos s.length with
    | true =>
     rw[hb]at hr;simp only[cond]at hr;split at hr
     ·cases hr; exact Lo.set (qfN h1)
     ·cases hr
    | false=>rw[hb]at hr; cases hr; exact Lo.refl
   ·cases hr
  ·cases hr
 | append esz bytes s x =>
  simp only[qay]at hr;split at hr
  ·exact qic hr hm
  ·cases hr
 | appendS s x =>
  simp only[qay]at hr;split at hr
  ·exact qic hr hm
  ·cases hr
 | appendZ zero bytes s n =>
  simp only[qay]at hr;split at hr
  ·split at hr
   ·obtain⟨_,hr⟩:=qbb hr;split at hr
    ·cases hr; exact Lo.push hm
    ·cases hr
   ·cases hr
  ·cases hr
 | clear zero x =>
  simp only[qay]at hr;split at hr
  ·cases hr; exact Lo.refl
  ·obtain⟨_,hr⟩:=qbb hr; cases hr; exact Lo.refl
  ·rename_i i lo len e f _;cases hb:Nat.beq len 0 with
   | true=>rw[hb]at hr; cases hr; exact Lo.refl
   | false =>
    rw[hb]at hr;simp only[cond]at hr;split at hr
    ·obtain⟨h1,hr⟩:=qbb hr;cases hr; exact Lo.set (qfN (qdX (qdX h1).1).1)
    ·cases hr
  ·cases hr
 | same x =>
  simp only[qay]at hr;split at hr
  ·obtain⟨_,hr⟩:=qbb hr; cases hr; exact Lo.refl
  ·cases hr
def LowF(mk:Nat)(callF:V->List V->Heap->ND VH):Prop:=∀fv args h l,callF fv args h=some l->mk<=h.n->∀r∈l,Lo mk h r.h
section
variable {mk:Nat}{e:Env}
theorem qso(he:LowF mk e.callF){c:Cal}{args:List V}{tm:Tm}{h:Heap}{l:List VH}(hr:(calK c).run e args tm h=some l)(hm:mk<=h.n):∀r∈l,Lo mk h r.h:=by
 cases c with
 | dir f=>exact he _ _ _ _ hr hm
 | val x=>exact he _ _ _ _ hr hm
 | inv x m =>
  simp only[calK]at hr;split at hr
  ·split at hr
   ·exact he _ _ _ _ hr hm
   ·cases hr
  ·cases hr
theorem qr6{r r':VH}(h:frzV mk r=some r'):Lo mk r.h r'.h:=by
 unfold frzV at h;split at h
 ·obtain⟨h1,h⟩:=qbb h;split at h
  ·split at h
   ·cases h; exact Lo.kill (qfN h1)
   ·cases h
  ·cases h
 ·cases h; exact Lo.refl
 ·cases h; exact Lo.refl
 ·cases h
theorem qtA{c:Nat}{p:V}{h h':Heap}(e:qs7 mk c p h=some h'):Lo mk h h':=by
 unfold qs7 at e;split at e
 ·split at e
  ·split at e
   ·split at e
    ·split at e
     ·rename_i q hq;obtain⟨h1,e⟩:=qbb e;split at e
      ·split at e
       ·cases e;simp only[Jad,Jat]at h1;exact(qr6 hq).trans (Lo.set h1.1)
       ·cases e
      ·cases e
     ·cases e
    ·cases e
   ·cases e
  ·cases e
 ·cases e
theorem X_low{o:XO}{tm:Tm}{h:Heap}{r:VH}(e:xV o mk tm h=some r)(hm:mk<=h.n):Lo mk h r.h:=by
 cases o with
 | wf o =>
  simp only[xV]at e;split at e
  ·rename_i q hq;exact(W_low hq hm).trans (qr6 e)
  ·cases e
 | ldF n a c =>
  simp only[xV]at e;split at e
  ·rename_i h' hq;split at e
   ·cases e; exact qtA hq
   ·cases e
  ·cases e
theorem qpP{it:V}{h:Heap}{l:List VH}(hr:qfB mk it h=some l):∀r∈l,Lo mk h r.h:=by
 unfold qfB at hr;split at hr
 ·split at hr
  ·split at hr
   ·obtain⟨h1,hr⟩:=qbb hr;have hi:=qfN (qdX (qdX (qdX h1).1).1).1;split at hr
    ·cases hr; simp[Lo.refl]
    ·cases hr;intro r hr;obtain⟨x,_,rfl⟩:=Jak.1 hr;exact Lo.set hi
   ·cases hr
  ·cases hr
 ·cases hr
theorem qbC{s:St}(t:St){l:List St}{h:Heap}(hr:some [s]=some l)(hp:Lo mk h s.h):∀r∈l,Lo mk h r.h:=by
 cases hr; simpa using hp
theorem qfu{dst:Option Nat}{v:V}{h:Heap}{st:St}:((putK dst).run v h st).h=h:=by cases dst<;>rfl
theorem qqN(he:LowF mk e.callF)(hl:e.lim=mk){dst:Option Nat}{op:IOp}{base:Nat}{st:St}{l:List St}(hr:(qaD dst op).run e base st=some l)(hm:mk<=st.h.n)(hb:∀o j,op=.a o (some j)->mk<=base):∀r∈l,Lo mk st.h r.h:=by
 subst hl;cases op with
 | p o =>
  simp only[qaD]at hr;split at hr
  ·exact qbC st hr (by rw[qfu]; exact Lo.refl)
  ·cases hr
 | r o =>
  simp only[qaD]at hr;split at hr
  ·exact qbC st hr (by rw[qfu]; exact Lo.refl)
  ·cases hr
 | a o hole =>
  simp only[qaD]at hr;split at hr
  ·exact qbC st hr (by rw[qfu]; exact Lo.refl)
  ·cases hole with
   | none=>exact qbC st hr (by rw[qfu]; exact Lo.push hm)
   | some j=>exact qbC st hr (by rw[qfu]; exact Lo.set (Jaf (hb o j rfl) (Nat.le_add_right _ _)))
  ·cases hr
 | w o =>
  simp only[qaD]at hr;split at hr
  ·rename_i r e1;exact qbC st hr (by rw[qfu]; exact W_low e1 hm)
  ·cases hr
 | fz o =>
  simp only[qaD]at hr;split at hr
  ·rename_i r e1;exact qbC st hr (by rw[qfu]; exact X_low e1 hm)
  ·cases hr
 | call c args frz =>
  intro y hy;obtain⟨k,e1,x,hx,r,hr,hyr⟩:=qBs hr y hy;have h1:=qso he e1 hm x hx;cases frz with
  | false=>exact qbC st hr (by rw[qfu]; exact h1) y hyr
  | true =>
   simp only[cond]at hr;split at hr
   ·rename_i r2 e2;exact qbC st hr (by rw[qfu]; exact h1.trans (qr6 e2)) y hyr
   ·cases hr
 | callP f args =>
  simp only[qaD]at hr;split at hr
  ·exact qbC st hr (by rw[qfu]; exact Lo.refl)
  ·cases hr
 | nxtM it =>
  intro y hy;obtain⟨k,e1,x,hx,r,hr,hyr⟩:=qBs hr y hy;exact qbC st hr (by rw[qfu]; exact qpP e1 x hx) y hyr
 | defer x =>
  simp only[qaD]at hr;split at hr
  ·cases h2:st.round with
   | true=>rw[h2]at hr; cases hr
   | false=>rw[h2]at hr; exact qbC st hr (by rw[qfu]; exact Lo.refl)
  ·cases hr
 | recover =>
  simp only[qaD]at hr;cases h2:st.round with
  | true=>rw[h2]at hr; cases hr
  | false=>rw[h2]at hr; exact qbC st hr (by rw[qfu]; exact Lo.refl)
 | bad=>cases hr
theorem qom(he:LowF mk e.callF)(hl:e.lim=mk){i:Ins}{base:Nat}{st:St}{l:List St}(hr:(qdm i).run e base st=some l)(hm:mk<=st.h.n)(hb:∀o j,i.op=.a o (some j)->mk<=base):∀r∈l,Lo mk st.h r.h:=by
 unfold qdm at hr;split at hr
 ·exact qqN he hl hr hm hb
 ·rename_i g hg;simp only at hr;split at hr
  ·rename_i c hc;cases hcg:(c == g.2)with
   | true=>rw[hcg]at hr; exact qqN he hl hr hm hb
   | false=>rw[hcg]at hr; exact qbC st hr (by rw[qfu]; exact Lo.refl)
  ·exact qbC st hr (by rw[qfu]; exact Lo.refl)
  ·cases hr
theorem qlA(he:LowF mk e.callF)(hl:e.lim=mk){base:Nat}(hb:mk<=base):∀{l:List Ins}{st:St}{k:List St},(qhj l).run e base st=some k->mk<=st.h.n->∀r∈k,Lo mk st.h r.h
 | [],st,k,hr,_=>qbC st hr Lo.refl
 | i::l,st,k,hr,hm=>by
  intro y hy;obtain⟨k',e1,x,hx,r,hr,hyr⟩:=qBs hr y hy;have h1:=qom he hl e1 hm (λ_ _ _=>hb) x hx;exact h1.trans (qlA he hl hb (l:=l) hr (Jaf hm h1.1) y hyr)
theorem qlm(he:LowF mk e.callF)(hl:e.lim=mk){base:Nat}(hb:mk<=base):∀{l:List Ins}{st:St}{hs:List Heap}{k:St × List Heap},opsH e base l st hs=some k->mk<=st.h.n->Lo mk st.h k.1.h
 | [],st,hs,k,hr,_=>by simp[opsH]at hr; subst hr; exact Lo.refl
 | i::l,st,hs,k,hr,hm=>by
  simp only[opsH]at hr;split at hr
  ·rename_i st' e1;have h1:=qom he hl (qBH e1) hm (λ_ _ _=>hb) st' (by simp);exact h1.trans (qlm he hl hb (l:=l) hr (Jaf hm h1.1))
  ·cases hr
theorem qcm{s:OS}{l:List OS}{h:Heap}(hr:some [s]=some l)(hp:Lo mk h s.s.h):∀r∈l,Lo mk h r.s.h:=by
 cases hr; simpa using hp
theorem qjy{body:St->ND OS}(hb:∀st l,body st=some l->mk<=st.h.n->∀r∈l,Lo mk st.h r.s.h):∀(n:Nat) (st:St) (l:List OS),qga body n st=some l->mk<=st.h.n->∀r∈l,Lo mk st.h r.s.h
 | 0,_,_,h,_=>by cases h
 | n+1,st,l,h,hm=>by
  intro y hy;obtain⟨k,e1,z,hz,r,hr,hyr⟩:=qBs h y hy;have h1:=hb _ _ e1 hm z hz;split at hr
  ·exact h1.trans (qjy hb n _ _ hr (Jaf hm h1.1) y hyr)
  ·exact qcm hr h1 y hyr
  ·exact qcm hr h1 y hyr
theorem qnS(he:LowF mk e.callF){fv:V}{ps:List Nat}{asg body:IC}{st:St}{l:List OS}(hr:qcA e fv ps asg body st=some l)(hm:mk<=st.h.n):∀r∈l,Lo mk st.h r.s.h:=by
 unfold qcA at hr;cases h2:st.round with
 | true=>rw[h2]at hr; cases hr
 | false =>
  rw[h2]at hr;simp only[cond]at hr;intro y hy;obtain⟨k,e1,x,hx,r,hr,hyr⟩:=qBs hr y hy;have h0:Lo mk st.h ((st.h.push .dfr).push (.loop .ready none st.tm ps asg body)):=(Lo.push hm).trans (Lo.push (by simp; omega));have h1:=h0.trans (he _ _ _ _ e1 (Jaf hm h0.1) x hx);split at hr
  ·split at hr
   ·cases hr
   ·have h3:∀o,Lo mk st.h (x.h.set (st.h.push .dfr).n o):=λo=>h1.trans (Lo.set (by simp; omega));split at hr
    ·exact qcm hr (h3 _) y hyr
    ·exact qcm hr (h3 _) y hyr
    ·exact qcm hr (h3 _) y hyr
    ·cases hr
  ·cases hr
theorem qcd(he:LowF mk e.callF)(hl:e.lim=mk):∀(c:IC) (st:St) (l:List OS),(qaR c).run e st=some l->mk<=st.h.n->∀r∈l,Lo mk st.h r.s.h
 | .skip,st,l,hr,_=>qcm hr Lo.refl
 | .ops x,st,l,hr,hm=>by
  intro y hy;obtain⟨k,e1,z,hz,r,hr,hyr⟩:=qBs hr y hy;exact qcm hr (qlA he hl hm e1 hm z hz) y hyr
 | .dops na chk x,st,l,hr,hm=>by
  simp only[qaR,qhd]at hr;split at hr
  ·rename_i st' hs e1;obtain⟨_,hr⟩:=qbb hr;have:=qlm he hl (base:=st.h.n) hm e1 (show mk<=st.h.n+na by omega);exact qcm hr ⟨Jaf (Nat.le_add_right _ _) this.1,this.2⟩
  ·cases hr
 | .dopc chk x,st,l,hr,hm=>by
  simp only[qaR,qAZ]at hr;split at hr
  ·rename_i st' hs e1;obtain⟨_,hr⟩:=qbb hr;exact qcm hr (qlm he hl (base:=st.h.n) hm e1 hm)
  ·cases hr
 | .seq a b,st,l,hr,hm=>by
  intro y hy;obtain⟨k,e1,z,hz,r,hr,hyr⟩:=qBs hr y hy;have h1:=qcd he hl a st k e1 hm z hz;split at hr
  ·exact h1.trans (qcd he hl b _ _ hr (Jaf hm h1.1) y hyr)
  ·exact qcm hr h1 y hyr
  ·exact qcm hr h1 y hyr
 | .cond c a b,st,l,hr,hm=>by
  simp only[qaR]at hr;split at hr
  ·rename_i t ht;cases t with
   | true=>exact qcd he hl a st l hr hm
   | false=>exact qcd he hl b st l hr hm
  ·cases hr
 | .block id c,st,l,hr,hm=>by
  intro y hy;obtain⟨k,e1,z,hz,r,hr,hyr⟩:=qBs hr y hy;have h1:=qcd he hl c st k e1 hm z hz;split at hr
  ·rename_i j hj;cases hc:Nat.beq j id<;>rw[hc]at hr<;>exact qcm hr h1 y hyr
  ·exact qcm hr h1 y hyr
  ·exact qcm hr h1 y hyr
 | .loop c,st,l,hr,hm=>qjy (λst l h h2=>qcd he hl c st l h h2) _ st l hr hm
 | .rangeF ..,st,l,hr,hm=>qnS he hr hm
 | .exit _,st,l,hr,_=>qcm hr Lo.refl
 | .ret,st,l,hr,_=>qcm hr Lo.refl
 | .bad,_,_,hr,_=>by cases hr
theorem qfr{callF:V->List V->Heap->ND VH}(he:LowF mk callF):∀(ds:List DefI) (h:Heap) (l:List Heap),qa1 callF mk ds h=some l->mk<=h.n->∀r∈l,Lo mk h r
 | [],h,l,hr,_=>by simp[qa1]at hr; subst hr; simp[Lo.refl]
 | .mark i::ds,h,l,hr,hm=>by
  simp only[qa1]at hr;split at hr
  ·obtain⟨h1,hr⟩:=qbb hr;intro r hr';exact(Lo.kill (qfN h1)).trans (qfr he ds _ _ hr hm r hr')
  ·cases hr
 | .call v::ds,h,l,hr,hm=>by
  intro y hy;obtain⟨k,e1,z,hz,r,hr,hyr⟩:=qBs hr y hy;have h1:=he _ _ _ _ e1 hm z hz;exact h1.trans (qfr he ds _ _ hr (Jaf hm h1.1) y hyr)
end
def Prog.Low(AP:Prog):Prop:=∀f p,AP.prim f=some p->∀mk args h l,p mk args h=some l->mk<=h.n->∀r∈l,Lo mk h r.h
theorem qmz{AP:Prog}{callF:V->List V->Heap->ND VH}{mk:Nat}(he:LowF mk callF):LowF mk (qbx AP callF):=by
 intro fv args h l hr;unfold qbx at hr;split at hr
 ·split at hr
  ·cases hr
  ·exact he _ _ _ _ hr
 ·cases hr
theorem qnI{AP:Prog}{callF:V->List V->Heap->ND VH}{mk fu:Nat}(he:LowF mk callF){F:IFn}{args:List V}{h:Heap}{l:List VH}(hr:qeS AP callF fu mk F args h=some l)(hm:mk<=h.n):∀r∈l,Lo mk h r.h:=by
 unfold qeS at hr;obtain⟨_,hr⟩:=qbb hr;intro y hy;obtain⟨k,e1,z,hz,r,hr,hyr⟩:=qBs hr y hy;have h1:=qcd (e:=⟨callF,AP.meth,fu,mk,AP.pureF⟩) he rfl F.body _ k e1 hm z hz;have key:∀(r:List VH),(ND.bind (qa1 (qbx AP callF) mk z.s.defs z.s.h) λh'=>match results z.s.tm h' F.res with|some v=>some [⟨v,h'⟩]|none=>none)=some r->y∈r->Lo mk h y.h:=by
  intro r hr hyr;obtain⟨k2,e2,h',hh',r2,hr2,hyr2⟩:=qBs hr y hyr;have h2:=qfr (qmz he) _ _ _ e2 (Jaf hm h1.1) h' hh';split at hr2
  ·cases hr2; simp at hyr2; subst hyr2; exact h1.trans h2
  ·cases hr2
 split at hr
 ·cases hr
 ·exact key r hr hyr
theorem qsi{mk l:Nat}{j:Option IC}{h:Heap}{k:List VH}(hl:mk<=l)(hr:endRound l j h=some k):∀r∈k,Lo mk h r.h:=by
 unfold endRound at hr;split at hr
 ·cases hr; simpa using Lo.set hl
 ·cases hr
theorem qnJ{AP:Prog}{callF:V->List V->Heap->ND VH}{mk fu l:Nat}(he:LowF mk callF){args:List V}{h:Heap}{k:List VH}  (hr:qb6 AP callF fu mk l args h=some k)(hm:mk<=h.n):∀r∈k,Lo mk h r.h:=by
 unfold qb6 at hr;split at hr
 ·rename_i s0 p0 tm ps asg body hg;obtain⟨h1,hr⟩:=qbb hr;have hl:=qfN (qdX h1).1;intro y hy;obtain⟨k1,e1,z,hz,r,hr,hyr⟩:=qBs hr y hy;have h2:=qcd (e:=⟨callF,AP.meth,fu,mk,AP.pureF⟩) he rfl asg _ k1 e1 hm z hz;split at hr
  ·obtain⟨k3,e3,z3,hz3,r3,hr3,hyr3⟩:=qBs hr y hyr;have h4:∀o,Lo mk h (z.s.h.set l o):=λo=>h2.trans (Lo.set hl);have h5:=(h4 _).trans (qcd (e:=⟨callF,AP.meth,fu,mk,AP.pureF⟩) he rfl body _ k3 e3 (Jaf hm (h4 .dfr).1) z3 hz3);split at hr3
   ·split at hr3<;>exact h5.trans (qsi hl hr3 y hyr3)
   ·cases hr3
  ·cases hr
 ·cases hr
theorem qfI{AP:Prog}(hp:AP.Low):∀(n mk:Nat),LowF mk (evCall AP n mk)
 | 0,_=>λ_ _ _ _ h=>by cases h
 | n+1,mk=>λfv args h l hr hm=>by
  simp only[evCall]at hr;split at hr
  ·split at hr
   ·rename_i p hpp;exact hp _ p hpp mk _ _ _ hr hm
   ·split at hr
    ·cases hr
    ·rename_i F hF;cases hpu:F.pure with
     | true =>
      rw[hpu]at hr;simp only[cond,qeq]at hr;generalize hb:ND.bind _ _=q at hr;cases q with
      | none=>cases hr
      | some k=>intro r hr'; rw[(qhg hr r hr').1]; exact Lo.refl
     | false =>
      rw[hpu]at hr;exact qnI (qfI hp n mk) hr hm
  ·exact qnJ (qfI hp n mk) hr hm
  ·cases hr
theorem WF.low{AP:Prog}(hp:AP.Low){d:Bool}{mk:Nat}{fv:V}{args:List V}{h:Heap}{Q:VH->Prop}(hw:WF AP d mk fv args h Q)(hm:mk<=h.n):WF AP d mk fv args h λr=>Q r/\Lo mk h r.h :=
 W.conj hw λn l e r hr=>qfI hp n mk fv args h l e hm r hr
def Le{α : Type}(x y:Option α):Prop:=∀l,x=some l->y=some l
theorem Le.refl{α : Type}{x:Option α}:Le x x:=λ_ h=>h
theorem qoj{β : Type}:∀{xs ys:List (ND β)},xs.length=ys.length->(∀(i:Nat) (x y:ND β),xs[i]?=some x->ys[i]?=some y->Le x y)->Le (ND.join xs) (ND.join ys)
 | [],[],_,_=>Le.refl
 | x::xs,y::ys,hl,h=>by
  intro l e;have h1:=h 0 x y rfl rfl;have h2:Le (ND.join xs) (ND.join ys):=qoj (by simpa using hl) λi a b ha hb=>h (i+1) a b (by simpa using ha) (by simpa using hb);simp only[ND.join]at e ⊢;cases hx:x with
  | none=>rw[hx]at e; cases e
  | some k =>
   cases hr:ND.join xs with
   | none=>rw[hx,hr]at e; cases e
   | some m=>rw[hx,hr]at e; rw[h1 k hx,h2 m hr]; exact e
theorem qbw{α β : Type}{m m':ND α}{f g : α->ND β}(hm:Le m m')(hf:∀x,Le (f x) (g x)):Le (ND.bind m f) (ND.bind m' g):=by
 intro l e;cases hk:m with
 | none=>rw[hk]at e; cases e
 | some k =>
  rw[hk]at e;rw[hm k hk]
  match k,e with
  | [],e=>exact e
  | [x],e=>exact hf x l e
  | x::y::r,e =>
   refine qoj (by simp) (λi a b ha hb=>?_) l e;simp only[List.getElem?_map]at ha hb;cases hc:(x::y::r)[i]? with
   | none=>rw[hc]at ha; cases ha
   | some z=>rw[hc]at ha hb; cases ha; cases hb; exact hf z
theorem qbl{α : Type}{c c':Bool}{x y:Option α}(hc:c=true->c'=true)(h:Le x y):Le (cond c x none) (cond c' y none):=by
 intro l e;obtain⟨h1,e⟩:=qbb e;rw[hc h1]; exact h l e
theorem qdv{mk mk' i:Nat}(h:mk<=mk'):Nat.ble mk' i=true->Nat.ble mk i=true:=λe=>Jat ▸ Jaf h (qfN e)
theorem qdx{a a' b:Bool}(h:a=true->a'=true):(a&&b)=true->(a'&&b)=true:=λe=>by
 obtain⟨h1,h2⟩:=qdX e; rw[h h1,h2]; rfl
theorem qj8{mk mk':Nat}(hm:mk<=mk'){h:Heap}{esz bytes:Nat}{s:V}{xs:List (List V)}:Le (qaj mk' h esz bytes s xs) (qaj mk h esz bytes s xs):=by
 unfold qaj;cases xs with
 | nil=>exact Le.refl
 | cons x xs =>
  dsimp only;cases qal h s with
  | none=>exact Le.refl
  | some rs =>
   refine qbl id ?_;cases s with
   | sl i a b e f =>
    refine qbl id ?_;cases f with
    | true=>exact Le.refl
    | false=>exact qbl (qdv hm) Le.refl
   | _=>exact Le.refl
theorem W_le{mk mk':Nat}(hm:mk<=mk')(o:WO)(tm:Tm)(h:Heap):Le ((qay o).run mk' tm h) ((qay o).run mk tm h):=by
 cases o with
 | store n a x =>
  simp only[qay];split
  ·split
   ·split
    ·exact qbl (qdx (qdx (qdx (qdx (qdv hm))))) Le.refl
    ·exact Le.refl
   ·exact Le.refl
  ·exact Le.refl
 | mupd kn m k v =>
  simp only[qay];split
  ·split
   ·exact qbl (qdx (qdv hm)) Le.refl
   ·exact Le.refl
  ·exact Le.refl
 | del kn m k =>
  simp only[qay];split
  ·split
   ·exact qbl (qdx (qdv hm)) Le.refl
   ·exact Le.refl
  ·exact Le.refl
 | rngM x=>exact Le.refl
 | nxtS it =>
  simp only[qay];split
  ·split
   ·exact qbl (qdv hm) Le.refl
   ·exact Le.refl
  ·exact Le.refl
 | append esz bytes s x =>
  simp only[qay];split
  ·exact qj8 hm
  ·exact Le.refl
 | appendS s x =>
  simp only[qay];split
  ·exact qj8 hm
  ·exact Le.refl
 | appendZ zero bytes s n=>exact Le.refl
 | clear zero x =>
  simp only[qay];split
  ·exact Le.refl
  ·exact Le.refl
  ·rename_i i lo len e f _;cases Nat.beq len 0 with
   | true=>exact Le.refl
   | false =>
    simp only[cond];split
    ·exact qbl (qdx (qdx (qdv hm))) Le.refl
    ·exact Le.refl
  ·exact Le.refl
 | same x=>exact Le.refl
structure qkg (e e':Env):Prop where
 call:∀fv args h,Le (e.callF fv args h) (e'.callF fv args h)
 meth:e'.meth=e.meth
 fu:e.fu<=e'.fu
 lim:e'.lim<=e.lim
 pureF:e'.pureF=e.pureF
section
variable {e e':Env}
theorem cal_le(he:qkg e e')(c:Cal)(args:List V)(tm:Tm)(h:Heap):Le ((calK c).run e args tm h) ((calK c).run e' args tm h):=by
 cases c with
 | dir f=>exact he.call _ _ _
 | val x=>exact he.call _ _ _
 | inv x m =>
  simp only[calK,he.meth];split
  ·split
   ·exact he.call _ _ _
   ·exact Le.refl
  ·exact Le.refl
theorem qoy{mk mk':Nat}(hm:mk<=mk')(r:VH):Le (frzV mk' r) (frzV mk r):=by
 unfold frzV;split
 ·exact qbl (qdv hm) Le.refl
 ·exact Le.refl
 ·exact Le.refl
 ·exact Le.refl
theorem qrP{mk mk':Nat}(hm:mk<=mk')(it:V)(h:Heap):Le (qfB mk' it h) (qfB mk it h):=by
 unfold qfB;split
 ·split
  ·split
   ·exact qbl (qdx (qdx (qdx (qdv hm)))) Le.refl
   ·exact Le.refl
  ·exact Le.refl
 ·exact Le.refl
theorem qtL{mk mk':Nat}(hm:mk<=mk'){c:Nat}{p:V}{h h':Heap}(e:qs7 mk' c p h=some h'):qs7 mk c p h=some h':=by
 unfold qs7 at e ⊢;split at e
 ·rename_i id row off;split at e
  ·rename_i rs hg;try simp only[hg]
   split at e
   ·rename_i r hr;try simp only[hr]
    split at e
    ·rename_i v hv;try simp only[hv]
     split at e
     ·rename_i q hq;rw[qoy hm _ q hq];simp only;obtain⟨h1,e⟩:=qbb e;obtain⟨h2,h3⟩:=qdX h1;rw[qdv hm h2,h3];exact e
     ·cases e
    ·cases e
   ·cases e
  ·cases e
 ·cases e
theorem X_le{mk mk':Nat}(hm:mk<=mk'){o:XO}{tm:Tm}{h:Heap}{r:VH}(e:xV o mk' tm h=some r):xV o mk tm h=some r:=by
 cases o with
 | wf o =>
  simp only[xV]at e ⊢;split at e
  ·rename_i q hq;rw[W_le hm o tm h q hq];exact qoy hm _ r e
  ·cases e
 | ldF n a c =>
  simp only[xV]at e ⊢;split at e
  ·rename_i h' hq;rw[qtL hm hq];exact e
  ·cases e
theorem qA2(he:qkg e e')(f:Nat)(args:List V)(h:Heap):Le (qAV e f args h) (qAV e' f args h):=by
 intro v hv;unfold qAV at hv ⊢;rw[he.pureF];cases hf:e.pureF f<;>simp only[hf,cond,reduceCtorEq]at hv ⊢
 split at hv
 ·rename_i r hr;rw[he.call _ _ _ _ hr]; exact hv
 ·cases hv
theorem qBi{o o':Option V}{u:V}(hle:Le o o')(k:qA0 o u=true):qA0 o' u=true:=by
 cases o with
 | none=>cases k
 | some v=>rw[hle v rfl]; exact k
theorem gdO_le{g:Option (Nat × Bool)}{tm:Tm}{s s':Bool}(hs:s=true->s'=true)(h:gdO g tm s=true):gdO g tm s'=true:=by
 unfold gdO at h ⊢;split at h
 ·exact hs h
 ·rename_i g;split at h
  ·rename_i b hb;cases hcg:(b == g.2)<;>simp only[hcg,cond]at h ⊢
   exact hs h
  ·exact h
  ·cases h
theorem qA3(he:qkg e e'){l:List Ins}{tm:Tm}{hs:List Heap}{c:Nat × Nat}(h:qAU e l tm hs c=true):qAU e' l tm hs c=true:=by
 unfold qAU at h ⊢;split at h
 ·split at h
  ·split at h
   ·exact gdO_le (qBi (qA2 he _ _ _)) h
   ·cases h
  ·exact h
 ·cases h
theorem op_le(he:qkg e e')(dst:Option Nat)(op:IOp)(base:Nat)(st:St):Le ((qaD dst op).run e base st) ((qaD dst op).run e' base st):=by
 cases op with
 | w o =>
  simp only[qaD];intro l hl;split at hl
  ·rename_i r hr;rw[W_le he.lim o st.tm st.h r hr]; exact hl
  ·cases hl
 | fz o =>
  simp only[qaD];intro l hl;split at hl
  ·rename_i r hr;rw[X_le he.lim hr]; exact hl
  ·cases hl
 | call c args frz =>
  refine qbw (cal_le he _ _ _ _) λr=>?_;cases frz with
  | true =>
   intro l hl;simp only[cond]at hl ⊢;split at hl
   ·rename_i r' hr;rw[qoy he.lim _ r' hr]; exact hl
   ·cases hl
  | false=>exact Le.refl
 | callP f args =>
  simp only[qaD];intro l hl;split at hl
  ·rename_i r hr;rw[qA2 he f _ _ r hr]; exact hl
  ·cases hl
 | nxtM it=>exact qbw (qrP he.lim _ _) λ_=>Le.refl
 | _=>exact Le.refl
theorem qqT(he:qkg e e')(i:Ins)(base:Nat)(st:St):Le ((qdm i).run e base st) ((qdm i).run e' base st):=by
 unfold qdm;split
 ·exact op_le he _ _ _ _
 ·dsimp only;split
  ·rename_i g hg x c hx;cases hc:(c == g.2)with
   | true=>exact op_le he _ _ _ _
   | false=>exact Le.refl
  ·exact Le.refl
  ·exact Le.refl
theorem qod(he:qkg e e')(base:Nat):∀(l:List Ins) (st:St),Le ((qhj l).run e base st) ((qhj l).run e' base st)
 | [],_=>Le.refl
 | i::l,st=>qbw (qqT he i base st) λst=>qod he base l st
theorem qnz{α : Type}{x y:ND α}(h:Le x y):Le (ND.single x) (ND.single y):=by
 intro l e;have:=qBH e;rw[h _ this]; rfl
theorem qnV(he:qkg e e')(base:Nat):∀(l:List Ins) (st:St) (hs:List Heap),Le (opsH e base l st hs) (opsH e' base l st hs)
 | [],_,_=>Le.refl
 | i::l,st,hs=>by
  intro r hr;simp only[opsH]at hr ⊢;split at hr
  ·rename_i st' h1;rw[qnz (qqT he i base st) st' h1];exact qnV he base l st' _ r hr
  ·cases hr
theorem Le.none{α : Type}{x:Option α}:Le none x:=λ_ h=>by cases h
theorem qlw{b b':St->ND OS}(h:∀st,Le (b st) (b' st)):∀(n n':Nat) (st:St),n<=n'->Le (qga b n st) (qga b' n' st)
 | 0,_,_,_=>Le.none
 | n+1,0,_,hn=>by omega
 | n+1,n'+1,st,hn=>qbw (h st) λr=>by
  cases r.o with
  | normal=>exact qlw h n n' r.s (by omega)
  | exit i=>exact Le.refl
  | ret=>exact Le.refl
theorem qpA(he:qkg e e')(fv:V)(ps:List Nat)(asg body:IC)(st:St):Le (qcA e fv ps asg body st) (qcA e' fv ps asg body st):=by
 unfold qcA;cases st.round with
 | true=>exact Le.refl
 | false=>exact qbw (he.call _ _ _) λ_=>Le.refl
theorem qdn(he:qkg e e'):∀(c:IC) (st:St),Le ((qaR c).run e st) ((qaR c).run e' st)
 | .skip,_=>Le.refl
 | .ops l,st=>qbw (qod he _ l st) λ_=>Le.refl
 | .dops na chk l,st=>by
  intro r hr;simp only[qaR,qhd]at hr ⊢;split at hr
  ·rename_i st' hs h1;rw[qnV he _ _ _ _ _ h1]; exact hr
  ·cases hr
 | .dopc chk l,st=>by
  intro r hr;simp only[qaR,qAZ]at hr ⊢;split at hr
  ·rename_i st' hs h1;rw[qnV he _ _ _ _ _ h1];cases hc:chk.all (qAU e l st'.tm hs.reverse)<;>simp only[hc,cond,reduceCtorEq]at hr
   have:chk.all (qAU e' l st'.tm hs.reverse)=true:=List.all_eq_true.2 λc hcm=>qA3 he (List.all_eq_true.1 hc c hcm);simp only[this,cond]; exact hr
  ·cases hr
 | .seq a b,st=>qbw (qdn he a st) λr=>by
  cases r.o with
  | normal=>exact qdn he b r.s
  | exit i=>exact Le.refl
  | ret=>exact Le.refl
 | .cond c a b,st=>by
  simp only[qaR];split
  ·rename_i t _;cases t with
   | true=>exact qdn he a st
   | false=>exact qdn he b st
  ·exact Le.refl
 | .block id c,st=>qbw (qdn he c st) λ_=>Le.refl
 | .loop c,st=>by
  show Le (qga ((qaR c).run e) e.fu st) (qga ((qaR c).run e') e'.fu st);exact qlw (λst=>qdn he c st) _ _ st he.fu
 | .rangeF f ps asg body,st=>qpA he _ ps asg body st
 | .exit _,_=>Le.refl
 | .ret,_=>Le.refl
 | .bad,_=>Le.refl
end
theorem qeK{f g:V->List V->Heap->ND VH}(hf:∀fv args h,Le (f fv args h) (g fv args h)){mk mk':Nat}(hm:mk<=mk'):∀(l:List DefI) (h:Heap),Le (qa1 f mk' l h) (qa1 g mk l h)
 | [],_=>Le.refl
 | .mark i::l,h=>by
  simp only[qa1];split
  ·exact qbl (qdv hm) (qeK hf hm l _)
  ·exact Le.refl
 | .call v::l,h=>qbw (hf _ _ _) λx=>qeK hf hm l x.h
theorem qju{AP:Prog}{f g:V->List V->Heap->ND VH}(hf:∀fv args h,Le (f fv args h) (g fv args h)):∀fv args h,Le (qbx AP f fv args h) (qbx AP g fv args h):=by
 intro fv args h;unfold qbx;split
 ·split
  ·exact Le.refl
  ·exact hf _ _ _
 ·exact Le.refl
theorem qlg{AP:Prog}{f g:V->List V->Heap->ND VH}(hf:∀fv args h,Le (f fv args h) (g fv args h)){fu fu' mk mk':Nat}(hn:fu<=fu')(hm:mk<=mk')(F:IFn)(args:List V)(h:Heap):Le (qeS AP f fu mk' F args h) (qeS AP g fu' mk F args h):=by
 unfold qeS;refine qbl id (qbw (qdn (e:=⟨f,AP.meth,fu,mk',AP.pureF⟩) (e':=⟨g,AP.meth,fu',mk,AP.pureF⟩) ⟨hf,rfl,hn,hm,rfl⟩ F.body _) λr=>?_);cases r.o with
 | exit i=>exact Le.refl
 | normal=>exact qbw (qeK (qju hf) hm _ _) λ_=>Le.refl
 | ret=>exact qbw (qeK (qju hf) hm _ _) λ_=>Le.refl
theorem qpt{AP:Prog}{f g:V->List V->Heap->ND VH}(hf:∀fv args h,Le (f fv args h) (g fv args h)){fu fu' mk mk':Nat}(hn:fu<=fu')(hm:mk<=mk')(l:Nat)(args:List V)(h:Heap):Le (qb6 AP f fu mk' l args h) (qb6 AP g fu' mk l args h):=by
 unfold qb6;split
 ·have he:qkg ⟨f,AP.meth,fu,mk',AP.pureF⟩ ⟨g,AP.meth,fu',mk,AP.pureF⟩:=⟨hf,rfl,hn,hm,rfl⟩;refine qbl (qdx (qdv hm)) (qbw (qdn he _ _) λr=>?_);intro k hk;split at hk
  ·rename_i h1 h2 h3;exact qbw (qdn he _ _) (λ_=>Le.refl) k hk
  ·cases hk
 ·exact Le.refl
def Prog.Mon(AP:Prog):Prop:=∀f p,AP.prim f=some p->∀mk mk' args h,mk<=mk'->Le (p mk' args h) (p mk args h)
theorem qqb{h:Heap}{m m':ND V}(hm:Le m m'):Le (dedup h m) (dedup h m'):=by
 intro l e;cases m with
 | none=>cases e
 | some k=>rw[hm k rfl]; exact e
theorem qdU{AP:Prog}(hp:AP.Mon):∀(n n' mk mk':Nat),n<=n'->mk<=mk'->∀fv args h,Le (evCall AP n mk' fv args h) (evCall AP n' mk fv args h)
 | 0,_,_,_,_,_=>λ_ _ _=>Le.none
 | n+1,0,_,_,hn,_=>by omega
 | n+1,n'+1,mk,mk',hn,hm=>λfv args h=>by
  have hn':n<=n':=by omega
  simp only[evCall];split
  ·split
   ·rename_i p hpp;exact hp _ p hpp _ _ _ _ hm
   ·split
    ·exact Le.refl
    ·rename_i F hF;cases F.pure with
     | true=>exact qqb (qbw (qlg (qdU hp n n' _ _ hn' (Jac _)) hn' (Jac _) F _ h) λ_=>Le.refl)
     | false=>exact qlg (qdU hp n n' mk mk' hn' hm) hn' hm F _ h
  ·exact qpt (qdU hp n n' mk mk' hn' hm) hn' hm _ _ h
  ·exact Le.refl
theorem qBK{AP:Prog}(hp:AP.Mon){d:Bool}{mk mk':Nat}{fv:V}{args:List V}{h:Heap}{Q:VH->Prop}(hw:WF AP d mk' fv args h Q)(hm:mk<=mk'):WF AP d mk fv args h Q:=by
 obtain⟨l,N,h0,h1,h2,h3⟩:=hw;exact⟨l,N,h0,h1,λn hn=>qdU hp n n mk mk' (Jac _) hm fv args h l (h2 n hn),h3⟩
theorem qD3{AP:Prog}(hp:AP.Mon){d:Bool}{mk n:Nat}{fv:V}{args:List V}{h:Heap}{r:VH}(e:evCall AP n mk fv args h=some [r]):WF AP d mk fv args h λx=>x=r :=
 ⟨[r],n,by simp,λ_=>rfl,λm hm=>qdU hp n m mk mk hm (Jac _) fv args h _ e,by simp⟩
theorem WF.frame{AP:Prog}(hl:AP.Low)(hp:AP.Mon){d:Bool}{mk:Nat}{fv:V}{args:List V}{h:Heap}{Q:VH->Prop}(hm:mk<=h.n)(hw:WF AP d h.n fv args h Q):WF AP d mk fv args h λr=>Q r/\h.n<=r.h.n/\∀i,i<h.n->r.h.get i=h.get i :=
 qBK hp (WF.low hl hw (Jac _)) hm
theorem qjb{mk:Nat}{args:List V}{h:Heap}{l:List VH}(e:qed mk args h=some l):∀r∈l,Lo mk h r.h:=by
 unfold qed at e;split at e
 ·cases e; simp[Lo.refl]
 ·split at e
  ·obtain⟨h1,e⟩:=qbb e;split at e
   ·cases e;have:=qfN (qdX (qdX h1).1).2;simpa using Lo.set this
   ·cases e
  ·cases e
 ·cases e
theorem qlb{mk mk':Nat}(hm:mk<=mk')(args:List V)(h:Heap):Le (qed mk' args h) (qed mk args h):=by
 unfold qed;split
 ·exact Le.refl
 ·split
  ·refine qbl (λe=>?_) Le.refl;obtain⟨e1,e2⟩:=qdX e;obtain⟨e3,e4⟩:=qdX e1;rw[e2,e3,qdv hm e4]; rfl
  ·exact Le.refl
 ·exact Le.refl
theorem qmi{mk:Nat}{s:V}{h:Heap}{l:List VH}(e:qeP mk s h=some l):∀r∈l,Lo mk h r.h:=by
 unfold qeP at e;split at e
 ·cases e; simp[Lo.refl]
 ·split at e
  ·obtain⟨h1,e⟩:=qbb e;split at e
   ·cases e;have:=qfN (qdX (qdX h1).1).2;simpa using Lo.set this
   ·cases e
  ·cases e
 ·cases e
theorem qnw{mk mk':Nat}(hm:mk<=mk')(s:V)(h:Heap):Le (qeP mk' s h) (qeP mk s h):=by
 unfold qeP;split
 ·exact Le.refl
 ·split
  ·refine qbl (λe=>?_) Le.refl;obtain⟨e1,e2⟩:=qdX e;obtain⟨e3,e4⟩:=qdX e1;rw[e2,e3,qdv hm e4]; rfl
  ·exact Le.refl
 ·exact Le.refl
theorem qgF{f:Nat}{p:Nat->List V->Heap->ND VH}(h:PR.prim f=some p):p=qc4\/p=qed\/p=qby\/p=qbz 346:=by
 simp only[PR,prims]at h;cases h1:Nat.beq f 225 with
 | true=>rw[h1]at h; cases h; exact .inl rfl
 | false =>
  rw[h1]at h;cases h2:Nat.beq f 105 with
  | true=>rw[h2]at h; cases h; exact .inr (.inl rfl)
  | false =>
   rw[h2]at h;cases h3:Nat.beq f 226 with
   | true=>rw[h3]at h; cases h; exact .inr (.inr (.inl rfl))
   | false =>
    rw[h3]at h;cases h4:Nat.beq f 345 with
    | true=>rw[h4]at h; cases h; exact .inr (.inr (.inr rfl))
    | false=>rw[h4]at h; cases h
theorem qq1:PR.Low:=by
 intro f p hp mk args h l e hm;rcases qgF hp with rfl|rfl|rfl|rfl
 ·unfold qc4 at e;split at e
  ·obtain⟨_,e⟩:=qbb e; cases e; simp[Lo.refl]
  ·cases e
 ·exact qjb e
 ·unfold qby at e;split at e
  ·exact qjb e
  ·cases e
 ·unfold qbz at e;split at e
  ·obtain⟨_,e⟩:=qbb e; exact qmi e
  ·cases e
theorem qda:PR.Mon:=by
 intro f p hp mk mk' args h hm;rcases qgF hp with rfl|rfl|rfl|rfl
 ·exact Le.refl
 ·exact qlb hm _ _
 ·unfold qby;split
  ·exact qlb hm _ _
  ·exact Le.refl
 ·unfold qbz;split
  ·refine qbl (λe=>e) (qnw hm _ _)
  ·exact Le.refl
theorem qDT{d:Bool}{mk:Nat}{fv:V}{args:List V}{h:Heap}{Q:VH->Prop}(hm:mk<=h.n)(hw:WF PR d h.n fv args h Q):WF PR d mk fv args h λr=>Q r/\h.n<=r.h.n/\∀i,i<h.n->r.h.get i=h.get i :=
 WF.frame qq1 qda hm hw
def bndV(v:V)(top:Nat):Option Nat:=match v with
 | .int _ n=>bnd n top
 | _=>none
@[simp]theorem bndV_int{k:IntKind}{n:Int}{top:Nat}:bndV (.int k n) top=bnd n top:=(rfl)
@[simp]theorem opt_none{d top:Nat}{tm:Tm}:(optK none).run d top tm=some d:=(rfl)
@[simp]theorem opt_some{x:Opd}{d top:Nat}{tm:Tm}:(optK (some x)).run d top tm=bndV (x.ev tm) top:=(rfl)
def qdl(len:Nat)(full:Bool)(h:Option Nat)(lo:Nat->Option Nat):Option Cut:=match h with
 | none=>none
 | some h=>match lo h with
  | none=>none
  | some l=>some ⟨l,h,full&&Nat.beq h len⟩
@[simp]theorem cut_run{lo hi:Option Opd}{len:Nat}{full:Bool}{tm:Tm}:(cutK lo hi none).run len full tm=qdl len full ((optK hi).run len len tm) λh=>(optK lo).run 0 h tm:=(rfl)
def qrh(id b e:Nat)(r:Option Cut):Option V:=match r with
 | some r=>some (.sl id (b+r.lo) (r.hi-r.lo) e r.full)
 | none=>none
@[simp]theorem qsK{id b e:Nat}{r:Cut}:qrh id b e (some r)=some (.sl id (b+r.lo) (r.hi-r.lo) e r.full):=(rfl)
@[simp]theorem qpg{e id b n:Nat}{f:Bool}{k:KCut}{tm:Tm}:qaT e k tm (.sl id b n e f)=qrh id b e (k.run n f tm):=by
 simp[qaT,qrh]; rfl
def Sl.cut{α : Type}(s:Sl α)(lo hi:Nat):Sl α:=match s with
 | .nil=>.nil
 | .of l=>.of ((l.drop lo).take (hi-lo))
 | .full l=>if hi=l.length then .full ((l.drop lo).take (hi-lo))else .of ((l.drop lo).take (hi-lo))
@[simp]theorem qqd{α : Type}(s:Sl α)(lo hi:Nat):(s.cut lo hi).l=(s.l.drop lo).take (hi-lo):=by
 cases s with
 | nil=>simp[Sl.cut]
 | of l=>simp[Sl.cut]
 | full l=>simp only[Sl.cut]; split<;>simp
theorem qdD{α : Type}{f : α->List V}{s:Sl α}{esz lo hi:Nat}{k:KCut}{tm:Tm}(he:∀a,(f a).length=esz)(hk:∀fl,k.run s.l.length fl tm=some ⟨lo,hi,fl&&decide (hi=s.l.length)⟩):qaT esz k tm (s.enc f)=some ((s.cut lo hi).enc f):=by
 cases s with
 | nil=>have h1:=hk true; simp only[qEp,List.length_nil]at h1; simp[Sl.enc,qaT,h1,Sl.cut]
 | of l =>
  have h1:=hk false;have hl:qa9 esz (l.map f)=true:=by cases l<;>simp[qa9,he]
  simp only[l_of]at h1;simp[Sl.enc,qaT,hl,h1,Sl.cut,List.map_take,List.map_drop]
 | full l =>
  have h1:=hk true;have hl:qa9 esz (l.map f)=true:=by cases l<;>simp[qa9,he]
  simp only[qlE]at h1
  by_cases hh:hi=l.length
  ·simp[Sl.enc,qaT,hl,h1,Sl.cut,hh,List.map_take,List.map_drop]
  ·simp[Sl.enc,qaT,hl,h1,Sl.cut,hh,List.map_take,List.map_drop]
theorem qav{l:List Int}{r:Nat}(h:r<l.length):(qab l)[r]?=some [.int .i64 (lat l r)]:=by
 simp[qab,qaz h]
@[simp]theorem qrZ{l:List Int}:(qab l).length=l.length:=by simp[qab]
theorem qcu{l:List Int}{r:Nat}{v:Int}:(qab l).set r [.int .i64 v]=qab (l.set r v):=by simp[qab,List.map_set]
theorem qfE{l:List Int}{r j:Nat}{v:Int}(h:j<l.length):lat (l.set r v) j=if j=r then v else lat l j:=by
 rw[lat_eq (by simpa using h),lat_eq h,List.getElem_set]
 by_cases e:j=r
 ·subst e; simp
 ·simp[e,Ne.symm e]
theorem qam{e id b n:Nat}{f:Bool}{k:IntKind}{i:Int}(h0:0<=i)(h1:i<n):qaw e (.sl id b n e f) (.int k i)=some (.ptr id (b+i.toNat) 0):=by
 simp[qaw,qey h0 h1]
def ddUp(l:List Int):Nat->List Int
 | 0=>[]
 | i+1=>if i=0\/lat l i≠lat l (i-1)then ddUp l i++[lat l i]else ddUp l i
def dd(l:List Int):List Int:=ddUp l l.length
theorem qkL(l:List Int):∀i,(ddUp l i).length<=i
 | 0=>by simp[ddUp]
 | i+1=>by have:=qkL l i; simp only[ddUp]; split<;>simp<;>omega
theorem qgl{l:List Int}:∀{i:Nat},i<=l.length->(∀j,0<j->j<i->lat l j≠lat l (j-1))->ddUp l i=l.take i
 | 0,_,_=>rfl
 | i+1,hi,h=>by
  have hlt:i<l.length:=by omega
  rw[ddUp,qgl (by omega) λj h0 h1=>h j h0 (by omega),Jab,Jap,qaz hlt]
  ·rfl
  ·by_cases e:i=0
   ·exact .inl e
   ·exact .inr (h i (by omega) (by omega))
theorem qqk{mk id lo n:Nat}{f:Bool}{x:Opd}{tm:Tm}{h:Heap}{L:List Int}(hx:x.ev tm=.sl id lo n 1 f)(hid:h.get id=some (.rows (qab L)))(hm:mk<=id)(hl:lo+n<=L.length) :
  ∃h' L',(qay (.clear [.int .i64 0] x)).run mk tm h=some ⟨.any,h'⟩/\h'.n=h.n/\(∀j,j≠id->h'.get j=h.get j)/\h'.get id=some (.rows (qab L'))/\L'.length=L.length/\L'.take lo=L.take lo:=by
 by_cases e:n=0
 ·exact⟨h,L,by simp[qay,hx,e],rfl,λ_ _=>rfl,hid,rfl,rfl⟩
 ·refine⟨h.set id (.rows (qab (L.take lo++List.replicate n 0++L.drop (lo+n)))),L.take lo++List.replicate n 0++L.drop (lo+n),?_,rfl,λj hj=>by simp[hj],by simp,by simp; omega,by rw[List.append_assoc,List.take_append_of_le_length (by simp; omega),List.take_take,Nat.min_self]⟩;simp[qay,hx,e,hid,hm,hl,qab,List.map_take,List.map_drop]
structure qo5 (id:Nat) (h:Heap) (out:List Int) (r:VH):Prop where
 n:r.h.n=h.n
 keep:∀j,j≠id->r.h.get j=h.get j
 v:∃f,r.v=.sl id 0 out.length 1 f
 rest:∃L,r.h.get id=some (.rows (qab (out++L)))
theorem qh5{d:Bool}{mk id:Nat}{f:Bool}{h:Heap}{l:List Int}(hid:h.get id=some (.rows (qab l)))(hm:mk<=id)(hl:l.length<1000000000) :
  WF PR d mk (.fn 106 [] []) [.sl id 0 l.length 1 f] h (qo5 id h (dd l)):=by
 refine WF.go f106 b106 [.tm 2] rfl rfl rfl rfl rfl rfl ?_;unfold b106;simp -dsimp;rw[qaa];refine⟨λhb=>?_,λhb=>?_⟩
 ·simp -dsimp[hb];simp at hb;have e:dd l=l:=by
   rw[dd,qgl (Jac _) (λj h0 h1=>by omega)]; simp
  rw[e];exact⟨rfl,λ_ _=>rfl,⟨f,rfl⟩,[],by simpa using hid⟩
 ·simp -dsimp[hb];simp at hb;refine qaf (λk st=>∃i:Int,1<=i/\(k:Int)=l.length-i/\(∀j:Nat,0<j->j<i.toNat->lat l j≠lat l (j-1))/\(gK 3).run st.tm=.int .i64 i/\st.h=h/\st.defs=[]) (l.length-1) ⟨1,by simp,by omega,by simp; omega,by simp⟩ ?_;rintro k ⟨tm,h',defs,round⟩ ⟨i,hi,hk,hd,h3,rfl,rfl⟩ hK;have h0:=hK 0 rfl;simp at h0 h3;clear hK;simp -dsimp[h0,h3];rw[qaa];refine⟨λhb1=>?_,λhb1=>?_⟩
  ·simp at hb1;have hlt:i.toNat<l.length:=by omega
   have hlt2:i.toNat-1<l.length:=by omega
   have hi0:0<=i:=by omega
   have hi1:0<=i-1:=by omega
   have hi2:i-1<l.length:=by omega
   simp -dsimp[h0,h3,qam hi0 hb1,fw64 (n:=i-1) (by omega) (by omega),qam (e:=1) (id:=id) (b:=0) (f:=f) (k:=.i64) hi1 hi2,hid,qav hlt,qav hlt2];rw[qaa];refine⟨λhb2=>?_,λhb2=>?_⟩
   ·simp at hb2;simp -dsimp[h0,h3,qaY (n:=i) (top:=l.length) hi0 (by omega),qdl];refine qaf (λk st=>∃(a b:Int) (L:List Int),1<=a/\1<=b/\(k:Int)=l.length-i-b/\a<=i+b-1/\L.length=l.length/\b<=l.length-i/\L.take a.toNat=ddUp l (i+b).toNat/\(∀j,(i+b-1).toNat<=j->j<l.length->lat L j=lat l j) /\
     (gK 3).run st.tm=.int .i64 a/\(gK 5).run st.tm=.int .i64 b/\st.h.n=h'.n/\(∀j,j≠id->st.h.get j=h'.get j)/\st.h.get id=some (.rows (qab L))/\st.defs=[]) (l.length-i.toNat-1) ⟨i,1,l,hi,by omega,by omega,by omega,rfl,by omega,?_,λ_ _ _=>rfl,by simp[h3],by simp,rfl,λ_ _=>rfl,hid,rfl⟩ ?_
    ·rw[show(i+1).toNat=i.toNat+1 by omega,ddUp,Jaa (by rintro (e|e); omega; exact e hb2),qgl (by omega) hd]
    ·rintro k2 ⟨tm2,h2,defs,round⟩ ⟨a,b,L,ha,hbb,hk2,hab,hLl,hble,htake,hsame,h3',h5,hn2,hkeep,hget,rfl⟩ hK;have h0':=hK 0 rfl;have h4:=hK 4 rfl;simp[h0]at h0' h4 h3' h5 hn2 hkeep hget;clear hK;have hlen:(l.length-i.toNat:Nat)=(l.length:Int)-i:=by omega
     simp -dsimp[h4,h5,hlen];rw[qaa];refine⟨λhc=>?_,λhc=>?_⟩
     ·simp at hc;have hb0:0<=b:=by omega
      have hb1':b<((l.length-i.toNat:Nat):Int):=by omega
      have hb2':0<=b-1:=by omega
      have hb3':b-1<((l.length-i.toNat:Nat):Int):=by omega
      have r1:i.toNat+b.toNat<L.length:=by omega
      have r2:i.toNat+(b.toNat-1)<L.length:=by omega
      have v1:lat L (i.toNat+b.toNat)=lat l (i+b).toNat:=by rw[show(i+b).toNat=i.toNat+b.toNat by omega]; exact hsame _ (by omega) (by omega)
      have v2:lat L (i.toNat+(b.toNat-1))=lat l ((i+b).toNat-1):=by rw[show(i+b).toNat-1=i.toNat+(b.toNat-1) by omega]; exact hsame _ (by omega) (by omega)
      have fb:fw .i64 (b+1)=b+1:=fw64 (by omega) (by omega);have fa:fw .i64 (a+1)=a+1:=fw64 (by omega) (by omega);simp -dsimp[h4,h5,qam (e:=1) hb0 hb1',fw64 (n:=b-1) (by omega) (by omega),qam (e:=1) (id:=id) (b:=i.toNat) (k:=.i64) hb2' hb3',hget,qav r1,qav r2,v1,v2];rw[qaa];refine⟨λhd2=>?_,λhd2=>?_⟩
      ·simp at hd2;have ha0:0<=a:=by omega
       have ha1:a<((l.length:Nat):Int):=by omega
       have r3:a.toNat<L.length:=by omega
       simp -dsimp[h0',h3',h4,h5,qam (e:=1) hb0 hb1',qam (e:=1) (id:=id) (b:=0) (k:=.i64) ha0 ha1,hget,qav r1,qav r3,v1,hm,fa,fb];rw[qcu];refine qah.intro (k2-1) (by omega) ⟨a+1,b+1,L.set a.toNat (lat l (i+b).toNat),by omega,by omega,by omega,by omega,by simp[hLl],by omega,?_,λj h1 h2=>?_,by simp,by simp,by simp[hn2],λj hj=>by simp[hj,hkeep],by simp,rfl⟩
       ·rw[show(i+(b+1)).toNat=(i+b).toNat+1 by omega,ddUp,Jab (.inr hd2),<-htake,show(a+1).toNat=a.toNat+1 by omega,Jap,List.getElem?_set_self (by omega),List.take_set,List.set_eq_of_length_le (by simp; omega)];rfl
       ·rw[qfE (by omega),Jaa (by omega)]; exact hsame j (by omega) h2
      ·simp at hd2;simp -dsimp[h5,fb];refine qah.intro (k2-1) (by omega) ⟨a,b+1,L,by omega,by omega,by omega,by omega,hLl,by omega,?_,λj h1 h2=>hsame j (by omega) h2,by simp[h3'],by simp,hn2,hkeep,hget,rfl⟩;rw[show(i+(b+1)).toNat=(i+b).toNat+1 by omega,ddUp,Jaa (by rintro (e|e); omega; exact e hd2),htake]
     ·simp at hc;have ha0:0<=a:=by omega
      have hend:(i+b).toNat=l.length:=by omega
      have hbl:¬b<(l.length:Int)-i:=by omega
      have htake':L.take a.toNat=dd l:=by rw[htake,hend]; rfl
      have hddl:(dd l).length=a.toNat:=by rw[<-htake']; simp; omega
      simp -dsimp[hbl,h0',h3',qaY (n:=a) (top:=l.length) ha0 (by omega),qdl];refine qBC ?_;obtain⟨h3,L',q1,q2,q3,q4,q5,q6⟩:=qqk (x:=Opd.t 56) (tm:=(sK 56).run (V.sl id a.toNat (l.length-a.toNat) 1 f) ((sK 55).run (V.int IntKind.i64 a) ((sK 54).run (V.sl id 0 l.length 1 f) ((sK 32).run (V.bool false) ((sK 31).run (V.int IntKind.i64 (↑l.length-i)) ((sK 30).run (V.sl id i.toNat (l.length-i.toNat) 1 f) ((sK 29).run (V.int IntKind.i64 b) tm2))))))) (f:=f) (lo:=a.toNat) (n:=l.length-a.toNat) (by simp) hget hm (by omega);refine⟨_,q1,?_⟩;simp -dsimp[h0',h3',qaY (n:=a) (top:=l.length) ha0 (by omega),qdl];refine⟨by rw[q2,hn2],λj hj=>by rw[q3 j hj,hkeep j hj],⟨_,by rw[hddl]⟩,L'.drop a.toNat,?_⟩;show h3.get id=_;rw[q4,<-htake',<-q6,List.take_append_drop]
   ·simp at hb2;simp -dsimp[h3,fw64 (n:=i+1) (by omega) (by omega)];refine qah.intro (k-1) (by omega) ⟨i+1,by omega,by omega,λj h1 h2=>?_,by simp,rfl,rfl⟩
    by_cases e:j=i.toNat
    ·subst e; exact hb2
    ·exact hd j h1 (by omega)
  ·simp at hb1;have hb1':decide (i<(l.length:Int))=false:=by simpa using hb1
   have e:dd l=l:=by
    rw[dd,qgl (Jac _) (λj h0 h1=>hd j h0 (by omega))]; simp
   simp -dsimp[hb1',h0,e];exact⟨rfl,λ_ _=>rfl,⟨f,rfl⟩,[],by simpa using hid⟩
def slId(v:V):Option Nat:=match v with
 | .sl id _ _ _ _=>some id
 | _=>none
def Own(h:Heap)(mk:Nat)(v:V)(esz:Nat)(rows:List (List V)):Prop :=
 (v=.nils/\rows=[])\/∃id,v=.sl id 0 rows.length esz false/\h.get id=some (.rows rows)/\mk<=id/\id<h.n/\rows≠[]
theorem Own.ext{h h':Heap}{mk esz:Nat}{v:V}{rows:List (List V)}(hO:Own h mk v esz rows)(hk:∀j,j<h.n->h'.get j=h.get j)(hn:h.n<=h'.n):Own h' mk v esz rows:=by
 rcases hO with h1|⟨id,h1,h2,h3,h4,h5⟩
 ·exact .inl h1
 ·exact .inr ⟨id,h1,by rw[hk id h4,h2],h3,by omega,h5⟩
theorem Own.slId{h:Heap}{mk esz j:Nat}{v:V}{rows:List (List V)}(hO:Own h mk v esz rows)(hj:j<mk):Go.Abs.slId v≠some j:=by
 rcases hO with ⟨rfl,_⟩|⟨id,rfl,h2,h3,h4,h5⟩<;>simp[Go.Abs.slId]
 omega
theorem qe0:∀{xs:List (List V)},(∀x∈xs,ones x=true)->qdH xs=true
 | [],_=>rfl
 | x::xs,h=>by
  have:=qe0 (xs:=xs) λy hy=>h y (List.mem_cons_of_mem _ hy);simp[qdH,h x (by simp),this]
theorem qaC{h:Heap}{mk m0 esz bytes:Nat}{v:V}{rows xs:List (List V)}(hO:Own h m0 v esz rows)(h0:mk<=m0)(hx:∀x∈xs,x.length=esz/\ones x=true)(hn:rows.length+xs.length<4294967296)(hb:bytes<1024)(hm:m0<=h.n) :
  ∃v' h',qaj mk h esz bytes v xs=some ⟨v',h'⟩/\Own h' m0 v' esz (rows++xs)/\h.n<=h'.n/\(∀j,j<h.n->slId v≠some j->h'.get j=h.get j)/\(∀j,slId v'=some j->h.n<=j\/slId v=some j):=by
 cases xs with
 | nil =>
  refine⟨v,h,?_,by simpa using hO,Jac _,λ_ _ _=>rfl,λ_ h=>.inr h⟩;rcases hO with ⟨rfl,_⟩|⟨id,rfl,_⟩<;>rfl
 | cons x xs =>
  have h1:=qe0 λy hy=>(hx y hy).2;have h2:=(hx x (by simp)).1;rcases hO with ⟨rfl,rfl⟩|⟨id,rfl,hid,hmi,hlt,hne⟩
  ·refine⟨.sl h.n 0 (x::xs).length esz false,h.push (.rows (x::xs)),?_,.inr ⟨h.n,by simp,by simp,hm,by simp,by simp⟩,by simp,λj hj _=>by simp; omega,λj hj=>.inl (by simp[slId]at hj; omega)⟩;simp at hn;simp[qaj,qal,qaI,hb,h2,h1,hn]
  ·refine⟨.sl h.n 0 (rows.length+(x::xs).length) esz false,(h.kill id).push (.rows (rows++x::xs)),?_,.inr ⟨h.n,by simp,by simp,hm,by simp,by simp⟩,by simp,λj hj hs=>?_,λj hj=>.inl (by simp[slId]at hj; omega)⟩
   ·have hmi':mk<=id:=by omega
    have hn':rows.length+(xs.length+1)<4294967296:=by simpa using hn
    simp[hmi',qaj,qal,qaI,hid,hb,h2,h1,hmi,hn']
   ·simp[slId]at hs;rw[qBq,qBG,Jaa (by omega),qBr,Jaa (Ne.symm hs)]
theorem qaE{mk esz bytes:Nat}{s x:Opd}{tm:Tm}{h:Heap}{xs:List (List V)}(hx:qal h (x.ev tm)=some xs):(qay (.append esz bytes s x)).run mk tm h=qaj mk h esz bytes (s.ev tm) xs:=by
 simp[qay,hx]
@[simp]theorem qsM{h:Heap}{rows:List (List V)}{f:Bool}:qal h (.slR rows f)=some rows:=(rfl)
@[simp]theorem qqW{esz:Nat}{rows:List (List V)}{tm:Tm}:qaV esz rows tm []=some rows:=(rfl)
@[simp]theorem qp9{esz i:Nat}{rows:List (List V)}{tm:Tm}{x:Opd}{r:List (Nat × Opd)}:qaV esz rows tm ((i,x)::r)=cond (decide ((x.ev tm).cells.length=esz)&&decide (0<esz)&&decide (i<rows.length)) (qaV esz (rows.set i (x.ev tm).cells) tm r) none:=by
 simp[qaV]
theorem qlJ(x:Int):∀l,(insI x l).length=l.length+1
 | []=>rfl
 | y::l=>by simp only[insI]; cases leB x y<;>simp[qlJ x l]
@[simp]theorem qcZ:∀l,(qa8 l).length=l.length
 | []=>rfl
 | x::l=>by simp[qa8,qlJ,qcZ l]
theorem qex:∀l:List Int,qg2 (qab l)=some l
 | []=>rfl
 | x::l=>by
  have:=qex l;simp only[qab]at this;simp[qab,qg2,this]
theorem qre{d:Bool}{mk m0:Nat}{h:Heap}{v:V}{l:List Int}(hO:Own h m0 v 1 (qab l))(h0:mk<=m0)(hl:l.length<1000000000) :
  WF PR d mk (.fn 105 [] []) [v] h λr=>r.v=.tup []/\Own r.h m0 v 1 (qab (qa8 l))/\r.h.n=h.n/\∀j,slId v≠some j->r.h.get j=h.get j:=by
 refine WF.prim (p:=qed) rfl ?_;rcases hO with ⟨rfl,e⟩|⟨id,rfl,hid,hmi,hlt,hne⟩
 ·have:l=[]:=by simpa[qab]using e
  subst this;exact W.one ⟨rfl,.inl ⟨rfl,rfl⟩,rfl,λ_ _=>rfl⟩
 ·have e:qed mk ([]++[V.sl id 0 (qab l).length 1 false]++[]) h=some [⟨.tup [],h.set id (.rows (qab (qa8 l)))⟩]:=by
   have:l.length<4294967296:=by omega
   have hmi':mk<=id:=by omega
   simp[qed,hid,hmi',qex,this]
  refine qDI e (by simp) (λ_=>rfl) ?_;intro r hr;simp at hr;subst hr;refine⟨rfl,.inr ⟨id,by simp,by simp,hmi,hlt,?_⟩,rfl,λj hj=>?_⟩
  ·intro e;have:(qa8 l).length=0:=by simpa[qab]using congrArg List.length e
   rw[qcZ]at this;exact hne (by simp[qab,List.length_eq_zero_iff.1 this])
  ·simp[slId]at hj; simp[Ne.symm hj]
theorem qkR{d:Bool}{mk:Nat}{h:Heap}:WF PR d mk (.fn 106 [] []) [.nils] h λr=>r=⟨.nils,h⟩:=by
 refine WF.go f106 b106 [.tm 2] rfl rfl rfl rfl rfl rfl ?_;unfold b106;simp -dsimp
theorem qc5{mk id lo len e:Nat}{f:Bool}{h:Heap}:freeze mk h qat (.sl id lo len e f)=cond (Nat.ble mk id) (match qal h (.sl id lo len e false)with|some rows=>(match allM (allM (freeze mk h 15)) rows with|some r=>some (.slR r false)|none=>none)|none=>none) none:=rfl
theorem qcL{mk k:Nat}{h:Heap}:∀l:List Int,allM (allM (freeze mk h (k+1))) (qab l)=some (qab l)
 | []=>rfl
 | x::l=>by
  have:=qcL (mk:=mk) (k:=k) (h:=h) l;simp only[qab]at this;have e:freeze mk h (k+1) (.int .i64 x)=some (.int .i64 x):=rfl;simp only[qab,List.map_cons,allM,e,this]
def slOf(l:List Int):Sl Int:=if l=[]then .nil else .of l
@[simp]theorem quV(l:List Int):(slOf l).l=l:=by unfold slOf; split<;>simp_all
theorem qAF{l:List Int}:dd l=[]↔l=[]:=by
 constructor
 ·intro h;cases hl:l with
  | nil=>rfl
  | cons x r =>
   have key:∀i,0<i->ddUp l i≠[]:=by
    intro i;induction i with
    | zero=>omega
    | succ i ih =>
     intro _ e;simp only[ddUp]at e;split at e
     ·simp at e
     ·rename_i hc;exact ih (by omega) e
   exact absurd h (key _ (by simp[hl]))
 ·rintro rfl; rfl
theorem qqg{d:Bool}{mk m0:Nat}{h:Heap}{v:V}{l:List Int}(hO:Own h m0 v 1 (qab l))(h0:mk<=m0)(hl:l.length<1000000000) :
  WF PR d mk (.fn 106 [] []) [v] h λr=>r.h.n=h.n/\(∀j,slId v≠some j->r.h.get j=h.get j)/\(∀n,n<=m0->freeze n r.h qat r.v=some ((slOf (dd l)).enc qaM)) /\
   ((r.v=.nils/\l=[])\/∃id f L,v=.sl id 0 l.length 1 false/\r.v=.sl id 0 (dd l).length 1 f/\r.h.get id=some (.rows (qab (dd l++L)))):=by
 rcases hO with ⟨rfl,e⟩|⟨id,rfl,hid,hmi,hlt,hne⟩
 ·have:l=[]:=by simpa[qab]using e
  subst this;refine W.mono qkR ?_;rintro r rfl;exact⟨rfl,λ_ _=>rfl,λ_ _=>rfl,.inl ⟨rfl,rfl⟩⟩
 ·have hlen:(qab l).length=l.length:=by simp
  rw[hlen];refine W.mono (qh5 hid (by omega) hl) ?_;rintro⟨v,h'⟩ ⟨c1,c2,⟨f,rfl⟩,L,c4⟩;simp only at c1 c2 c4;refine⟨c1,λj hj=>c2 j (by simp[slId]at hj; omega),λn hn=>?_,.inr ⟨id,f,L,rfl,rfl,c4⟩⟩;have hne':l≠[]:=λe=>hne (by simp[e,qab]);have hdd:dd l≠[]:=λe=>hne' (qAF.1 e);have hni:n<=id:=by omega
  have hr:qal h' (.sl id 0 (dd l).length 1 false)=some (qab (dd l)):=by
   simp[qal,c4,qab]
  rw[qc5,hr];simp only[qcL,qa3,hni,decide_true,cond];simp[slOf,hdd,Sl.enc,qab,qaM]
end Go.Abs

