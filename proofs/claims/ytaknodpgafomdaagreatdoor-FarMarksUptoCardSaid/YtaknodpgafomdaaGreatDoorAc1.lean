/- What the program's functions come to, by the evaluator's rules; the intermediate code. -/
import Derived.Test.YtaknodpgafomdaaGreatDoorAb1
set_option linter.unusedSimpArgs false
set_option linter.unusedVariables false
namespace Go.Abs
open Go
def W {α : Type}(d:Bool) (m:Nat->ND α) (Q : α->Prop):Prop :=
 ∃l N,l≠[]/\(d=true->l.length=1)/\(∀n,N<=n->m n=some l)/\∀r∈l,Q r
theorem W.one {α : Type}{d:Bool}{x : α}{Q : α->Prop}(h:Q x):W d (λ_=>some [x]) Q :=
 ⟨[x],0,by simp,λ_=>rfl,λ_ _=>rfl,by simpa using h⟩
theorem W.mono {α : Type}{d:Bool}{m:Nat->ND α}{Q R : α->Prop}(h:W d m Q) (hi:∀r,Q r->R r):W d m R:=by
 obtain⟨l,N,h0,h1,h2,h3⟩:=h;exact⟨l,N,h0,h1,h2,λr hr=>hi r (h3 r hr)⟩
theorem W.conj {α : Type}{d:Bool}{m:Nat->ND α}{Q R : α->Prop}(h:W d m Q) (hi:∀n l,m n=some l->∀r∈l,R r):W d m λr=>Q r/\R r:=by
 obtain⟨l,N,h0,h1,h2,h3⟩:=h;exact⟨l,N,h0,h1,h2,λr hr=>⟨h3 r hr,hi N l (h2 N (Jac _)) r hr⟩⟩
theorem W.congr {α : Type}{d:Bool}{m m':Nat->ND α}{Q : α->Prop}(h:W d m Q) (M:Nat) (e:∀n,M<=n->m' n=m n):W d m' Q:=by
 obtain⟨l,N,h0,h1,h2,h3⟩:=h;exact⟨l,max M N,h0,h1,λn hn=>by rw [e n (by omega),h2 n (by omega)],h3⟩
theorem W.eq {α : Type}{d:Bool}{m m':Nat->ND α}{Q : α->Prop}(h:W d m Q) (e:∀n,m' n=m n):W d m' Q:=h.congr 0 λn _=>e n
theorem W.drop {α : Type}{d:Bool}{m:Nat->ND α}{Q : α->Prop}(h:W d m Q):W false m Q:=by
 obtain⟨l,N,h0,_,h2,h3⟩:=h;exact⟨l,N,h0,(λe=>absurd e (by simp)),h2,h3⟩
theorem qDI {α : Type}{d:Bool}{m:ND α}{l:List α}{Q : α->Prop}(h:m=some l) (h0:l≠[]) (h1:d=true->l.length=1) (h2:∀r∈l,Q r):W d (λ_=>m) Q :=
 ⟨l,0,h0,h1,λ_ _=>h,h2⟩
theorem qC3 {α β : Type}{f:Nat->α->ND β}{Q : β->Prop}{d:Bool}:∀(l:List α),(∀x∈l,W d (λn=>f n x) Q) ->
  ∃k N,(l≠[]->k≠[])/\(∀n,N<=n->ND.join (l.map (f n))=some k)/\∀r∈k,Q r
 | [],_=>⟨[],0,λh=>absurd rfl h,λ_ _=>rfl,by simp⟩
 | x::l,h=>by
  obtain⟨k,N,h0,h1,h2⟩:=qC3 l λy hy=>h y (List.mem_cons_of_mem _ hy);obtain⟨k',N',g0,_,g2,g3⟩:=h x List.mem_cons_self;refine⟨k'++k,max N N',λ_=>by simp [g0],λn hn=>?_,?_⟩
  ·simp only [List.map_cons,ND.join];have e1:f n x=some k':=g2 n (by omega);rw [e1,h1 n (by omega)]
  ·intro r hr;rcases Jaj.1 hr with hr|hr
   ·exact g3 r hr
   ·exact h2 r hr
theorem W.bind {α β : Type}{d:Bool}{m:Nat->ND α}{f:Nat->α->ND β}{Q : β->Prop}(h:W d m λx=>W d (λn=>f n x) Q):W d (λn=>ND.bind (m n) (f n)) Q:=by
 obtain⟨l,N,h0,h1,h2,h3⟩:=h
 match l,h0,h1,h2,h3 with
 | [],h0,_,_,_=>exact absurd rfl h0
 | [x],_,_,h2,h3 =>
  refine W.congr (h3 x List.mem_cons_self) N λn hn=>?_;show ND.bind (m n) (f n)=f n x;rw [h2 n hn]; rfl
 | x::y::l,_,h1,h2,h3 =>
  obtain⟨k,M,g0,g1,g2⟩:=qC3 (x::y::l) h3;refine⟨k,max N M,g0 (by simp),λhd=>absurd (h1 hd) (by simp),λn hn=>?_,g2⟩;show ND.bind (m n) (f n)=_;rw [h2 n (by omega)];exact g1 n (by omega)
def Op {α : Type}(o:Option α) (Q : α->Prop):Prop:=∃v,o=.some v/\Q v
def Br (v:V) (A B:Prop):Prop:=∃t,v=.bool t/\(t=true->A)/\(t=false->B)
def Gd (v:V) (b:Bool) (A B:Prop):Prop:=(∃c,v=.bool c/\(c=b->A)/\(c≠b->B))\/(v=.tup []/\B)
variable {AP:Prog}{mk:Nat}{d:Bool}
def env (AP:Prog) (mk n:Nat):Env:=⟨evCall AP n mk,AP.meth,n,mk,AP.pureF⟩
def WF (AP:Prog) (d:Bool) (mk:Nat) (fv:V) (args:List V) (h:Heap) (Q:VH->Prop):Prop :=
 W d (λn=>evCall AP n mk fv args h) Q
def wcal (AP:Prog) (d:Bool) (mk:Nat) (c:Cal) (args:List V) (tm:Tm) (h:Heap) (Q:VH->Prop):Prop :=
 match c with
 | .dir f=>WF AP d mk (.fn f [] []) args h Q
 | .val x=>WF AP d mk (x.ev tm) args h Q
 | .inv x m=>Op (match x.ev tm with|.iface t v=>some (t,v)|_=>none) λp=>Op (AP.meth p.1 m) λf=>WF AP d mk (.fn f [] []) (p.2::args) h Q
def One (AP:Prog) (mk f:Nat) (args:List V) (h:Heap) (v:V):Prop:=∃N,∀n,N<=n->qAV (env AP mk n) f args h=some v
theorem One.of {f:Nat}{args:List V}{h h':Heap}{v:V}(hp:AP.pureF f=true) (hw:WF AP true mk (.fn f [] []) args h λr=>r=⟨v,h'⟩):One AP mk f args h v:=by
 obtain⟨l,N,h0,h1,h2,h3⟩:=hw
 match l,h0,h1 rfl,h2,h3 with
 | [x],_,_,h2,h3 =>
  refine⟨N,λn hn=>?_⟩;have e1:evCall AP n mk (.fn f [] []) args h=some [x]:=h2 n hn;have e2:=h3 x (by simp);simp only [qAV,env,hp,cond,e1,e2]
def gdP (g:Option (Nat × Bool)) (tm:Tm) (s:Prop):Prop :=
 match g with
 | none=>s
 | some g=>match (gK g.1).run tm with
  | .bool c=>c=g.2->s
  | .tup []=>True
  | _=>False
def reP (AP:Prog) (mk:Nat) (l:List Ins) (tm:Tm) (hs:List Heap) (c:Nat × Nat):Prop :=
 match l[c.1]?,hs[c.2]? with
 | some i,some h =>
  (match i.op with
  | .callP f args=>(match i.dst with
   | some d=>gdP i.guard tm (One AP mk f ((qcE args).run tm) h ((gK d).run tm))
   | none=>False)
  | _=>recheck l tm hs c=true)
 | _,_=>False
theorem qBl {g:Option (Nat × Bool)}{tm:Tm}{s:Prop}{f:Nat->Bool}(hs:s->∃N,∀n,N<=n->f n=true) (h:gdP g tm s):∃N,∀n,N<=n->gdO g tm (f n)=true:=by
 unfold gdP at h;unfold gdO;split at h
 ·exact hs h
 ·rename_i g;split at h
  ·rename_i b hb
   by_cases hcg:b=g.2
   ·obtain⟨N,hN⟩:=hs (h hcg);exact⟨N,λn hn=>by simp only [hb,hcg,beq_self_eq_true,cond,hN n hn]⟩
   ·have:(b == g.2)=false:=by simpa using hcg
    exact⟨0,λn hn=>by simp only [hb,this,cond]⟩
  ·rename_i hb;exact⟨0,λn hn=>by simp only [hb]⟩
  ·exact h.elim
theorem qBe {l:List Ins}{tm:Tm}{hs:List Heap}{c:Nat × Nat}(h:reP AP mk l tm hs c):∃N,∀n,N<=n->qAU (env AP mk n) l tm hs c=true:=by
 unfold reP at h;split at h
 ·rename_i i h' hl hk;split at h
  ·rename_i f args ho;split at h
   ·rename_i d hd;obtain⟨N,hN⟩:=qBl (f:=λn=>qA0 (qAV (env AP mk n) f ((qcE args).run tm) h') ((gK d).run tm)) (λ⟨N,hN⟩=>⟨N,λn hn=>by rw [hN n hn]; exact V.beq_refl _⟩) h;exact⟨N,λn hn=>by simp only [qAU,hl,hk,ho,hd]; exact hN n hn⟩
   ·exact h.elim
  ·rename_i hx;refine⟨0,λn hn=>?_⟩;unfold qAU;simp only [hl,hk];exact h
 ·exact h.elim
theorem qAY {l:List Ins}{tm:Tm}{hs:List Heap}:∀{chk:List (Nat × Nat)},(∀c∈chk,reP AP mk l tm hs c)->∃N,∀n,N<=n->chk.all (qAU (env AP mk n) l tm hs)=true
 | [],_=>⟨0,λ_ _=>rfl⟩
 | c::chk,h=>by
  obtain⟨N,hN⟩:=qBe (h c (by simp));obtain⟨M,hM⟩:=qAY (chk:=chk) λc hc=>h c (by simp [hc]);exact⟨max N M,λn hn=>by rw [List.all_cons,hN n (by omega),hM n (by omega)]; rfl⟩
def wop (AP:Prog) (d:Bool) (mk:Nat) (dst:Option Nat) (op:IOp) (base:Nat) (st:St) (Q:St->Prop):Prop :=
 match op with
 | .p o=>Op ((qas o).run st.tm) λv=>Q ((putK dst).run v st.h st)
 | .r o=>Op ((qbc o).run st.tm st.h) λv=>Q ((putK dst).run v st.h st)
 | .a o hole=>Op ((qbK o).run st.tm) λm=>match m with
  | .val v=>Q ((putK dst).run v st.h st)
  | .obj o f=>(match hole with
   | none=>Q ((putK dst).run (f st.h.n) (st.h.push o) st)
   | some j=>Q ((putK dst).run (f (base+j)) (st.h.set (base+j) o) st))
 | .w o=>Op ((qay o).run mk st.tm st.h) λr=>Q ((putK dst).run r.v r.h st)
 | .fz o=>Op (xV o mk st.tm st.h) λr=>Q ((putK dst).run r.v r.h st)
 | .call c args frz=>wcal AP d mk c ((qcE args).run st.tm) st.tm st.h λr=>cond frz (Op (frzV mk r) λr=>Q ((putK dst).run r.v r.h st)) (Q ((putK dst).run r.v r.h st))
 | .callP f args=>∃v,One AP mk f ((qcE args).run st.tm) st.h v/\Q ((putK dst).run v st.h st)
 | .nxtM it=>Op (qfB mk (it.ev st.tm) st.h) λl=>d=false/\l≠[]/\∀r∈l,Q ((putK dst).run r.v r.h st)
 | .defer x=>Op (match x.ev st.tm with|.fn f a c=>some (V.fn f a c)|_=>none) λv=>st.round=false/\Q ((putK dst).run .any st.h ⟨st.tm,st.h,.call v::st.defs,st.round⟩)
 | .recover=>st.round=false/\Q ((putK dst).run .nili st.h st)
 | .bad=>False
def wins (AP:Prog) (d:Bool) (mk:Nat) (i:Ins) (base:Nat) (st:St) (Q:St->Prop):Prop :=
 match i.guard with
 | none=>wop AP d mk i.dst i.op base st Q
 | some g=>Gd ((gK g.1).run st.tm) g.2 (wop AP d mk i.dst i.op base st Q) (Q ((putK i.dst).run (.tup []) st.h st))
def wl (AP:Prog) (d:Bool) (mk:Nat):List Ins->Nat->St->(St->Prop)->Prop
 | [],_,st,Q=>Q st
 | i::l,base,st,Q=>wins AP d mk i base st λst=>wl AP d mk l base st Q
def wd (AP:Prog) (mk:Nat):List Ins->Nat->St->List Heap->(St->List Heap->Prop)->Prop
 | [],_,st,hs,Q=>Q st (st.h::hs)
 | i::l,base,st,hs,Q=>wins AP true mk i base st λst'=>wd AP mk l base st' (st.h::hs) Q
def qkD (l:List Ins) (i:Nat):Bool:=l.all λx=>match x.dst with
 | some j=>!Nat.beq j i
 | none=>true
def keep:IC->Nat->Bool
 | .ops l,i=>qkD l i
 | .dops _ _ l,i=>qkD l i
 | .dopc _ l,i=>qkD l i
 | .seq a b,i=>keep a i&&keep b i
 | .cond _ a b,i=>keep a i&&keep b i
 | .block _ c,i=>keep c i
 | .loop c,i=>keep c i
 | .rangeF ..,_=>false
 | _,_=>true
def qo2 (c:IC) (s t:St):Prop:=∀i,keep c i=true->(gK i).run t.tm=(gK i).run s.tm
def wc (AP:Prog) (d:Bool) (mk:Nat):IC->St->(OS->Prop)->Prop
 | .skip,st,Q=>Q ⟨.normal,st⟩
 | .ops l,st,Q=>wl AP d mk l st.h.n st λst=>Q ⟨.normal,st⟩
 | .dops na chk l,st,Q=>wd AP mk l st.h.n ⟨st.tm,⟨st.h.n+na,st.h.os⟩,st.defs,st.round⟩ [] λst hs=>Op (cond (chk.all (recheck l st.tm hs.reverse)) (some ()) none) λ_=>Q ⟨.normal,st⟩
 | .dopc chk l,st,Q=>wd AP mk l st.h.n st [] λst hs=>(∀c∈chk,reP AP mk l st.tm hs.reverse c)/\Q ⟨.normal,st⟩
 | .seq a b,st,Q=>wc AP d mk a st λr=>match r.o with
  | .normal=>wc AP d mk b r.s Q
  | .exit i=>Q ⟨.exit i,r.s⟩
  | .ret=>Q ⟨.ret,r.s⟩
 | .cond c a b,st,Q=>Br (c.ev st.tm) (wc AP d mk a st Q) (wc AP d mk b st Q)
 | .block id c,st,Q=>wc AP d mk c st λr=>match r.o with
  | .exit i=>cond (Nat.beq i id) (Q ⟨.normal,r.s⟩) (Q ⟨.exit i,r.s⟩)
  | .normal=>Q ⟨.normal,r.s⟩
  | .ret=>Q ⟨.ret,r.s⟩
 | .loop c,st,Q=>∃I:Nat->St->Prop,(∃k,I k st)/\∀k st',I k st'->qo2 c st st'->wc AP d mk c st' λr=>match r.o with
  | .normal=>∃j,j<k/\I j r.s
  | .exit i=>Q ⟨.exit i,r.s⟩
  | .ret=>Q ⟨.ret,r.s⟩
 | .rangeF f ps asg body,st,Q=>W d (λn=>qcA (env AP mk n) (f.ev st.tm) ps asg body st) Q
 | .exit id,st,Q=>Q ⟨.exit id,st⟩
 | .ret,st,Q=>Q ⟨.ret,st⟩
 | .bad,_,_=>False
theorem qCj {β : Type}:∀{ms:List (ND β)}{l:List β},ND.join ms=some l->∀y∈l,∃m∈ms,∃k,m=some k/\y∈k
 | [],l,h,y,hy=>by simp [ND.join] at h; subst h; cases hy
 | x::r,l,h,y,hy=>by
  simp only [ND.join] at h;cases hx:x with
  | none=>simp [hx] at h
  | some a =>
   cases hr:ND.join r with
   | none=>simp [hx,hr] at h
   | some b =>
    simp [hx,hr] at h;subst h;rcases Jaj.1 hy with hy|hy
    ·exact⟨some a,by simp,a,rfl,hy⟩
    ·obtain⟨m,hm,k,hk,h2⟩:=qCj hr y hy;exact⟨m,by simp [hm],k,hk,h2⟩
theorem qBs {α β : Type}{m:ND α}{f : α->ND β}{l:List β}(h:ND.bind m f=some l):∀y∈l,∃k,m=some k/\∃x∈k,∃r,f x=some r/\y∈r:=by
 intro y hy;unfold ND.bind at h;cases m with
 | none=>simp at h
 | some k =>
  refine⟨k,rfl,?_⟩;cases k with
  | nil=>simp at h; subst h; cases hy
  | cons x r =>
   cases r with
   | nil=>exact⟨x,by simp,l,h,hy⟩
   | cons z r =>
    simp only at h;obtain⟨m,hm,k,hk,h2⟩:=qCj h y hy;obtain⟨u,hu,rfl⟩:=Jak.1 hm;exact⟨u,hu,k,hk,h2⟩
abbrev free (dst:Option Nat) (i:Nat):Prop:=(match dst with|some j=>!Nat.beq j i|none=>true)=true
theorem qdu {dst:Option Nat}{v:V}{h:Heap}{st:St}{i:Nat}(hk:free dst i):(gK i).run ((putK dst).run v h st).tm=(gK i).run st.tm:=by
 cases dst with
 | none=>rfl
 | some j =>
  simp only [putK,qgb];rw [Jaa];rintro rfl;simp at hk
theorem qbe {e:St}{l:List St}{P:St->Prop}(h:some [e]=some l) (hp:P e):∀r∈l,P r:=by
 cases h; intro r hr; simp at hr; subst hr; exact hp
theorem qnW {e:Env}{base:Nat}{dst:Option Nat}{op:IOp}{st:St}{l:List St}{i:Nat}(hk:free dst i) (h:(qaD dst op).run e base st=some l):∀r∈l,(gK i).run r.tm=(gK i).run st.tm:=by
 cases op with
 | p o =>
  simp only [qaD] at h;split at h
  ·exact qbe h (qdu hk)
  ·cases h
 | r o =>
  simp only [qaD] at h;split at h
  ·exact qbe h (qdu hk)
  ·cases h
 | a o hole =>
  simp only [qaD] at h;split at h
  ·exact qbe h (qdu hk)
  ·cases hole<;>exact qbe h (qdu hk)
  ·cases h
 | w o =>
  simp only [qaD] at h;split at h
  ·exact qbe h (qdu hk)
  ·cases h
 | fz o =>
  simp only [qaD] at h;split at h
  ·exact qbe h (qdu hk)
  ·cases h
 | call c args frz =>
  intro y hy;obtain⟨k,_,x,_,r,hr,hyr⟩:=qBs h y hy;cases frz with
  | false=>exact qbe (P:=λr=>(gK i).run r.tm=(gK i).run st.tm) hr (qdu hk) y hyr
  | true =>
   simp only [cond] at hr;split at hr
   ·exact qbe (P:=λr=>(gK i).run r.tm=(gK i).run st.tm) hr (qdu hk) y hyr
   ·cases hr
 | callP f args =>
  simp only [qaD] at h;split at h
  ·exact qbe h (qdu hk)
  ·cases h
 | nxtM it =>
  intro y hy;obtain⟨k,_,x,_,r,hr,hyr⟩:=qBs h y hy;exact qbe (P:=λr=>(gK i).run r.tm=(gK i).run st.tm) hr (qdu hk) y hyr
 | defer x =>
  simp only [qaD] at h;split at h
  ·cases hr:st.round with
   | true=>rw [hr] at h; cases h
   | false=>rw [hr] at h; exact qbe h (qdu (st:=⟨st.tm,st.h,_,_⟩) hk)
  ·cases h
 | recover =>
  simp only [qaD] at h;cases hr:st.round with
  | true=>rw [hr] at h; cases h
  | false=>rw [hr] at h; exact qbe h (qdu hk)
 | bad=>cases h
theorem qlI {e:Env}{base:Nat}{x:Ins}{st:St}{l:List St}{i:Nat}(hk:free x.dst i) (h:(qdm x).run e base st=some l):∀r∈l,(gK i).run r.tm=(gK i).run st.tm:=by
 unfold qdm at h;split at h
 ·exact qnW hk h
 ·rename_i g hg;simp only at h;split at h
  ·rename_i c hc;cases hcg:(c == g.2) with
   | true=>rw [hcg] at h; exact qnW hk h
   | false=>rw [hcg] at h; exact qbe h (qdu hk)
  ·exact qbe h (qdu hk)
  ·cases h
theorem qhV {x:Ins}{l:List Ins}{i:Nat}(h:qkD (x::l) i=true):free x.dst i/\qkD l i=true:=by
 simpa [qkD] using h
theorem qjB {e:Env}{i:Nat}{base:Nat}:∀{l:List Ins}{st:St}{k:List St},qkD l i=true->(qhj l).run e base st=some k->∀r∈k,(gK i).run r.tm=(gK i).run st.tm
 | [],st,k,_,h=>qbe h rfl
 | x::l,st,k,hk,h=>by
  intro y hy;obtain⟨h1,h2⟩:=qhV hk;obtain⟨k',e1,z,hz,r,hr,hyr⟩:=qBs h y hy;rw [qjB h2 hr y hyr,qlI h1 e1 z hz]
theorem qjq {e:Env}{i:Nat}{base:Nat}:∀{l:List Ins}{st:St}{hs:List Heap}{k:St × List Heap},qkD l i=true->opsH e base l st hs=some k->(gK i).run k.1.tm=(gK i).run st.tm
 | [],st,hs,k,_,h=>by simp [opsH] at h; subst h; rfl
 | x::l,st,hs,k,hk,h=>by
  obtain⟨h1,h2⟩:=qhV hk;simp only [opsH] at h;split at h
  ·rename_i st' hs';rw [qjq h2 h,qlI h1 (qBH hs') st' (by simp)]
  ·cases h
theorem qds {e:OS}{l:List OS}{P:OS->Prop}(h:some [e]=some l) (hp:P e):∀r∈l,P r:=by
 cases h; intro r hr; simp at hr; subst hr; exact hp
theorem qhS {c:IC}{i:Nat}{body:St->ND OS}(hb:∀st l,body st=some l->∀r∈l,(gK i).run r.s.tm=(gK i).run st.tm):∀(n:Nat) (st:St) (l:List OS),qga body n st=some l->∀r∈l,(gK i).run r.s.tm=(gK i).run st.tm
 | 0,st,l,h=>by cases h
 | n+1,st,l,h=>by
  intro y hy;obtain⟨k,e1,z,hz,r,hr,hyr⟩:=qBs h y hy;split at hr
  ·rw [qhS (c:=c) hb n _ _ hr y hyr,hb _ _ e1 z hz]
  ·exact (qds hr (P:=λr=>(gK i).run r.s.tm=(gK i).run st.tm) (hb _ _ e1 z hz)) y hyr
  ·exact (qds hr (P:=λr=>(gK i).run r.s.tm=(gK i).run st.tm) (hb _ _ e1 z hz)) y hyr
theorem qcB {e:Env}{i:Nat}:∀(c:IC) (st:St) (l:List OS),keep c i=true->(qaR c).run e st=some l->∀r∈l,(gK i).run r.s.tm=(gK i).run st.tm
 | .skip,st,l,_,h=>qds h rfl
 | .ops x,st,l,hk,h=>by
  intro y hy;obtain⟨k,e1,z,hz,r,hr,hyr⟩:=qBs h y hy;exact (qds hr (P:=λr=>(gK i).run r.s.tm=(gK i).run st.tm) (qjB hk e1 z hz)) y hyr
 | .dops na chk x,st,l,hk,h=>by
  simp only [qaR,qhd] at h;split at h
  ·rename_i st' hs he;cases hc:chk.all (recheck x st'.tm hs.reverse) with
   | false=>rw [hc] at h; cases h
   | true =>
    rw [hc] at h;have:=qjq hk he;exact qds h this
  ·cases h
 | .dopc chk x,st,l,hk,h=>by
  simp only [qaR,qAZ] at h;split at h
  ·rename_i st' hs he;cases hc:chk.all (qAU e x st'.tm hs.reverse) with
   | false=>rw [hc] at h; cases h
   | true =>
    rw [hc] at h;have:=qjq hk he;exact qds h this
  ·cases h
 | .seq a b,st,l,hk,h=>by
  simp only [keep,Jad] at hk;intro y hy;obtain⟨k,e1,z,hz,r,hr,hyr⟩:=qBs h y hy;have h1:=qcB a st k hk.1 e1 z hz;split at hr
  ·rw [qcB b _ _ hk.2 hr y hyr,h1]
  ·exact (qds hr (P:=λr=>(gK i).run r.s.tm=(gK i).run st.tm) h1) y hyr
  ·exact (qds hr (P:=λr=>(gK i).run r.s.tm=(gK i).run st.tm) h1) y hyr
 | .cond c a b,st,l,hk,h=>by
  simp only [keep,Jad] at hk;simp only [qaR] at h;split at h
  ·rename_i t ht;cases t with
   | true=>exact qcB a st l hk.1 h
   | false=>exact qcB b st l hk.2 h
  ·cases h
 | .block id c,st,l,hk,h=>by
  intro y hy;obtain⟨k,e1,z,hz,r,hr,hyr⟩:=qBs h y hy;have h1:=qcB c st k hk e1 z hz;split at hr
  ·rename_i j hj;cases hc:Nat.beq j id<;>rw [hc] at hr<;>exact (qds hr (P:=λr=>(gK i).run r.s.tm=(gK i).run st.tm) h1) y hyr
  ·exact (qds hr (P:=λr=>(gK i).run r.s.tm=(gK i).run st.tm) h1) y hyr
  ·exact (qds hr (P:=λr=>(gK i).run r.s.tm=(gK i).run st.tm) h1) y hyr
 | .loop c,st,l,hk,h=>qhS (c:=c) (λst l=>qcB c st l hk) _ st l h
 | .rangeF ..,_,_,hk,_=>by cases hk
 | .exit _,st,l,_,h=>qds h rfl
 | .ret,st,l,_,h=>qds h rfl
 | .bad,_,_,_,h=>by cases h
theorem ql8 {c:Cal}{args:List V}{tm:Tm}{h:Heap}{Q:VH->Prop}(hw:wcal AP d mk c args tm h Q):W d (λn=>(calK c).run (env AP mk n) args tm h) Q:=by
 cases c with
 | dir f=>exact hw
 | val x=>exact hw
 | inv x m =>
  obtain⟨p,e1,f,e2,hw⟩:=hw;split at e1
  ·rename_i t v e0;cases e1;refine hw.eq λn=>?_;show (match x.ev tm with|.iface t v=>(match AP.meth t m with|some f=>evCall AP n mk (.fn f [] []) (v::args) h|none=>none)|_=>none)=_;rw [e0]; dsimp only; rw [e2]
  ·cases e1
theorem qiY {dst:Option Nat}{op:IOp}{base:Nat}{st:St}{Q:St->Prop}(hw:wop AP d mk dst op base st Q):W d (λn=>(qaD dst op).run (env AP mk n) base st) Q:=by
 cases op with
 | p o=>obtain⟨v,e,hq⟩:=hw; exact (W.one hq).eq λn=>by simp only [qaD]; rw [e]
 | r o=>obtain⟨v,e,hq⟩:=hw; exact (W.one hq).eq λn=>by simp only [qaD]; rw [e]
 | a o hole =>
  obtain⟨m,e,hq⟩:=hw;cases m with
  | val v=>exact (W.one (Q:=Q) hq).eq λn=>by simp only [qaD]; rw [e]
  | obj o f =>
   cases hole with
   | none=>exact (W.one (Q:=Q) hq).eq λn=>by simp only [qaD]; rw [e]
   | some j=>exact (W.one (Q:=Q) hq).eq λn=>by simp only [qaD]; rw [e]
 | w o=>obtain⟨r,e,hq⟩:=hw; exact (W.one hq).eq λn=>by simp only [qaD,env]; rw [e]
 | fz o=>obtain⟨r,e,hq⟩:=hw; exact (W.one hq).eq λn=>by simp only [qaD,env]; rw [e]
 | call c args frz =>
  refine W.bind ((ql8 hw).mono λr hr=>?_);cases frz with
  | true=>obtain⟨r',e,hq⟩:=hr; exact (W.one hq).eq λn=>by simp only [cond,env]; rw [e]
  | false=>exact W.one hr
 | callP f args =>
  obtain⟨v,⟨N,hN⟩,hq⟩:=hw;exact (W.one (Q:=Q) hq).congr N λn hn=>by simp only [qaD]; rw [hN n hn]
 | nxtM it =>
  obtain⟨l,e,hd,h0,hq⟩:=hw;refine W.bind (qDI e h0 (λh=>by rw [hd] at h; cases h) λr hr=>W.one (hq r hr))
 | defer x =>
  obtain⟨v,e1,hr,hq⟩:=hw;split at e1
  ·rename_i f a c e;cases e1;exact (W.one hq).eq λn=>by simp only [qaD]; rw [e]; simp only [hr,cond]
  ·cases e1
 | recover =>
  obtain⟨hr,hq⟩:=hw;exact (W.one hq).eq λn=>by simp only [qaD,hr,cond]
 | bad=>exact hw.elim
theorem qhB {i:Ins}{base:Nat}{st:St}{Q:St->Prop}(hw:wins AP d mk i base st Q):W d (λn=>(qdm i).run (env AP mk n) base st) Q:=by
 unfold wins at hw;unfold qdm;split at hw
 ·rename_i hg; simp only [hg]; exact qiY hw
 ·rename_i g hg;simp only [hg];rcases hw with ⟨c,e,h1,h2⟩|⟨e,hq⟩
  ·by_cases hc:c=g.2
   ·refine (qiY (h1 hc)).eq λn=>?_;rw [e]; simp only [hc,beq_self_eq_true,cond]
   ·refine (W.one (h2 hc)).eq λn=>?_;have hc':(c == g.2)=false:=by simpa using hc
    rw [e]; simp only [hc',cond]
  ·exact (W.one hq).eq λn=>by rw [e]
theorem qk5:∀{l:List Ins}{base:Nat}{st:St}{Q:St->Prop},wl AP d mk l base st Q->W d (λn=>(qhj l).run (env AP mk n) base st) Q
 | [],_,_,_,hw=>W.one hw
 | _::_,_,_,_,hw=>W.bind ((qhB hw).mono λ_ h=>qk5 h)
theorem qk7:∀{l:List Ins}{base:Nat}{st:St}{hs:List Heap}{Q:St->List Heap->Prop},wd AP mk l base st hs Q->∃r N,(∀n,N<=n->opsH (env AP mk n) base l st hs=some r)/\Q r.1 r.2
 | [],_,st,hs,_,hw=>⟨(st,st.h::hs),0,λ_ _=>rfl,hw⟩
 | i::l,base,st,hs,Q,hw=>by
  obtain⟨k,N,h0,h1,h2,h3⟩:=qhB hw
  match k,h0,h1 rfl,h2,h3 with
  | [x],_,_,h2,h3 =>
   obtain⟨r,M,g1,g2⟩:=qk7 (h3 x (by simp));refine⟨r,max N M,λn hn=>?_,g2⟩;simp only [opsH];have e1:(qdm i).run (env AP mk n) base st=some [x]:=h2 n (by omega);rw [e1];exact g1 n (by omega)
theorem qmF {c:IC}{I:Nat->St->Prop}{st:St}{Q:OS->Prop}
  (hc:∀k st',I k st'->qo2 c st st'->W d (λn=>(qaR c).run (env AP mk n) st') λr=>match r.o with
   | .normal=>∃j,j<k/\I j r.s
   | .exit i=>Q ⟨.exit i,r.s⟩
   | .ret=>Q ⟨.ret,r.s⟩):∀k st',I k st'->qo2 c st st'->∀(f:Nat->Nat),(∃N,∀n,N<=n->k<f n)->W d (λn=>qga ((qaR c).run (env AP mk n)) (f n) st') Q:=by
 intro k;induction k using Nat.strongRecOn with
 | ind k ih =>
  intro st' hI hk f hf;obtain⟨N,hN⟩:=hf;have h1:=(hc k st' hI hk).conj (R:=λr=>qo2 c st r.s) (λn l e r hr i hi=>by rw [qcB c st' l hi e r hr]; exact hk i hi);refine W.congr (m:=λn=>ND.bind ((qaR c).run (env AP mk n) st') λr=>match r.o with
   | .normal=>qga ((qaR c).run (env AP mk n)) (f n-1) r.s
   | .exit i=>some [⟨.exit i,r.s⟩]
   | .ret=>some [⟨.ret,r.s⟩]) (W.bind (h1.mono ?_)) N λn hn=>?_
  ·rintro⟨o,s⟩ ⟨h2,h3⟩;cases o with
   | normal =>
    obtain⟨j,hj,hIj⟩:=h2;exact ih j hj s hIj h3 (λn=>f n-1) ⟨N,λn hn=>by have:=hN n hn; omega⟩
   | exit i=>exact W.one h2
   | ret=>exact W.one h2
  ·have:=hN n hn;obtain⟨m,hm⟩:∃m,f n=m+1:=⟨f n-1,by omega⟩;rw [hm]; rfl
theorem qb2:∀{c:IC}{st:St}{Q:OS->Prop},wc AP d mk c st Q->W d (λn=>(qaR c).run (env AP mk n) st) Q
 | .skip,_,_,hw=>W.one hw
 | .ops _,_,_,hw=>W.bind ((qk5 hw).mono λ_ h=>W.one h)
 | .dops na chk l,st,Q,hw=>by
  obtain⟨r,N,h1,u,h2,h3⟩:=qk7 hw;have h2:chk.all (recheck l r.1.tm r.2.reverse)=true:=by
   cases hb:chk.all (recheck l r.1.tm r.2.reverse) with
   | true=>rfl
   | false=>rw [hb] at h2; cases h2
  refine W.congr (W.one h3) N λn hn=>?_;simp only [qaR,qhd];rw [h1 n hn];simp only [h2,cond]
 | .dopc chk l,st,Q,hw=>by
  obtain⟨r,N,h1,h2,h3⟩:=qk7 hw;obtain⟨M,hM⟩:=qAY h2;refine W.congr (W.one h3) (max N M) λn hn=>?_;simp only [qaR,qAZ];rw [h1 n (by omega)];simp only [hM n (by omega),cond]
 | .seq a b,st,Q,hw=>by
  refine W.bind ((qb2 (c:=a) hw).mono ?_);rintro⟨o,s⟩ h;cases o with
  | normal=>exact qb2 (c:=b) h
  | exit i=>exact W.one h
  | ret=>exact W.one h
 | .cond c a b,st,Q,hw=>by
  obtain⟨t,e,h1,h2⟩:=hw;cases t with
  | true=>exact (qb2 (c:=a) (h1 rfl)).eq λn=>by simp only [qaR]; rw [e]; rfl
  | false=>exact (qb2 (c:=b) (h2 rfl)).eq λn=>by simp only [qaR]; rw [e]; rfl
 | .block id c,st,Q,hw=>by
  refine W.bind ((qb2 (c:=c) hw).mono ?_);rintro⟨o,s⟩ h;cases o with
  | normal=>exact W.one h
  | exit i =>
   simp only at h;cases hb:Nat.beq i id<;>rw [hb] at h<;>simp only [hb,cond]<;>exact W.one h
  | ret=>exact W.one h
 | .loop c,st,Q,hw=>by
  obtain⟨I,⟨k,hI⟩,hc⟩:=hw;exact qmF (λk st' h1 h2=>qb2 (c:=c) (hc k st' h1 h2)) k st hI (λ_ _=>rfl) (λn=>n) ⟨k+1,λn hn=>by omega⟩
 | .rangeF ..,_,_,hw=>hw
 | .exit _,_,_,hw=>W.one hw
 | .ret,_,_,hw=>W.one hw
 | .bad,_,_,hw=>hw.elim
def wun (AP:Prog) (d:Bool) (mk:Nat):List DefI->Heap->(Heap->Prop)->Prop
 | [],h,Q=>Q h
 | .mark i::r,h,Q=>h.get i=some .dfr/\mk<=i/\wun AP d mk r (h.kill i) Q
 | .call v::r,h,Q=>(∃f a c,v=.fn f a c/\AP.prim f=none)/\WF AP d mk v [] h λx=>wun AP d mk r x.h Q
theorem qgp:∀{l:List DefI}{h:Heap}{Q:Heap->Prop},wun AP d mk l h Q->W d (λn=>qa1 (qbx AP (evCall AP n mk)) mk l h) Q
 | [],_,_,hw=>W.one hw
 | .mark i::r,h,Q,hw=>by
  obtain⟨h1,h2,h3⟩:=hw;refine (qgp h3).eq λn=>?_;simp only [qa1];rw [h1];simp only [(Jat ▸ h2:Nat.ble mk i=true),cond]
 | .call v::r,h,Q,hw=>by
  obtain⟨⟨f,a,c,rfl,hp⟩,hw⟩:=hw;refine W.bind (W.eq (W.mono hw λ_ h=>qgp h) λn=>?_);simp only [qbx,hp]
def wbody (AP:Prog) (d:Bool) (mk:Nat) (F:IFn) (args:List V) (h:Heap) (Q:VH->Prop):Prop :=
 wc AP d mk F.body ⟨Tm.ofL 0 args .e,h,[],false⟩ λr=>(match r.o with|.exit _=>False|_=>True) /\
  wun AP d mk r.s.defs r.s.h λh'=>∃v,results r.s.tm h' F.res=some v/\Q ⟨v,h'⟩
theorem qem {F:IFn}{args:List V}{h:Heap}{Q:VH->Prop}(hl:args.length<=F.nt) (hw:wbody AP d mk F args h Q):W d (λn=>qeS AP (evCall AP n mk) n mk F args h) Q:=by
 have h1:W d (λn=>ND.bind ((qaR F.body).run (env AP mk n) ⟨Tm.ofL 0 args .e,h,[],false⟩) λr =>
   match r.o with
   | .exit _=>none
   | _=>ND.bind (qa1 (qbx AP (evCall AP n mk)) mk r.s.defs r.s.h) λh' =>
     match results r.s.tm h' F.res with
     | some v=>some [⟨v,h'⟩]
     | none=>none) Q:=by
  refine W.bind ((qb2 hw).mono ?_);rintro ⟨o, s⟩ ⟨ho, hu⟩;have h2 : W d (fun n => ND.bind (qa1 (qbx AP (evCall AP n mk)) mk s.defs s.h) fun h' =>
     match results s.tm h' F.res with
     | some v=>some [⟨v,h'⟩]
     | none=>none) Q:=by
   refine W.bind ((qgp hu).mono ?_);rintro h' ⟨v,e,hq⟩;exact (W.one hq).eq λn=>by rw [e]
  cases o with
  | normal=>exact h2
  | exit i=>exact ho.elim
  | ret=>exact h2
 refine h1.eq λn=>?_;simp only [qeS,(Jat ▸ hl:Nat.ble args.length F.nt=true),cond];rfl
theorem WF.fn {f:Nat}{first cap args:List V}{F:IFn}{h:Heap}{Q:VH->Prop}(hp:AP.prim f=none) (hF:AP.fn f=some F) (hpure:F.pure=false) (hl:(first++args++cap).length<=F.nt)
  (hw:wbody AP d mk F (first++args++cap) h Q):WF AP d mk (.fn f first cap) args h Q:=by
 obtain⟨l,N,h0,h1,h2,h3⟩:=qem hl hw;refine⟨l,N+1,h0,h1,λn hn=>?_,h3⟩;obtain⟨m,rfl⟩:∃m,n=m+1:=⟨n-1,by omega⟩;simp only [evCall,hp,hF,hpure,cond];exact h2 m (by omega)
theorem WF.prim {f:Nat}{first cap args:List V}{p:Nat->List V->Heap->ND VH}{h:Heap}{Q:VH->Prop}(hp:AP.prim f=some p) (hw:W d (λ_=>p mk (first++args++cap) h) Q):WF AP d mk (.fn f first cap) args h Q:=by
 obtain⟨l,N,h0,h1,h2,h3⟩:=hw;refine⟨l,N+1,h0,h1,λn hn=>?_,h3⟩;obtain⟨m,rfl⟩:∃m,n=m+1:=⟨n-1,by omega⟩;simp only [evCall,hp];exact h2 m (by omega)
theorem qhg {h:Heap}{l:List V}{m:List VH}(e:dedup h (some l)=some m):∀r∈m,r.h=h/\r.v∈l:=by
 unfold dedup at e;simp only at e;split at e
 ·cases e; simp
 ·split at e
  ·cases e; simp
  ·rename_i x r y r';cases hb:(y::r').all (V.beq x) with
   | true=>rw [hb] at e; cases e; simp
   | false =>
    rw [hb] at e; cases e;intro r hr;obtain⟨v,hv,rfl⟩:=Jak.1 hr;exact⟨rfl,hv⟩
theorem qh3 (h:Heap) (l:List V):∃m,dedup h (some l)=some m/\(l≠[]->m≠[])/\(l.length=1->m.length=1)/\(∀v,(∀x∈l,x=v)->l≠[]->m.length=1):=by
 unfold dedup;simp only;split
 ·exact⟨[],rfl,by simp,by simp,by simp⟩
 ·split
  ·exact⟨_,rfl,by simp,by simp,by simp⟩
  ·rename_i x r y r';cases hb:(y::r').all (V.beq x) with
   | true=>exact⟨_,rfl,by simp,by simp,by simp⟩
   | false =>
    refine⟨_,rfl,by simp,by simp,λv hv=>?_⟩;exfalso;have:(y::r').all (V.beq x)=true:=by
     rw [List.all_eq_true];intro z hz;rw [hv x (by simp),hv z (List.mem_cons_of_mem _ hz)];exact V.beq_refl v
    rw [hb] at this; cases this
theorem qBE {f:Nat}{first cap args:List V}{F:IFn}{h:Heap}{Q:V->Prop}(hp:AP.prim f=none) (hF:AP.fn f=some F) (hpure:F.pure=true) (hl:(first++args++cap).length<=F.nt)
  (hw:wbody AP d h.n F (first++args++cap) h λr=>∃v,freeze h.n r.h qat r.v=some v/\Q v):WF AP d mk (.fn f first cap) args h λr=>r.h=h/\Q r.v:=by
 have h1:=qem (AP:=AP) hl hw;have h2:W d (λn=>ND.bind (qeS AP (evCall AP n h.n) n h.n F (first++args++cap) h) λr=>match freeze h.n r.h qat r.v with
  | some v=>some [v]
  | none=>none) Q:=by
  refine W.bind (h1.mono ?_);rintro r ⟨v,e,hq⟩;exact (W.one hq).eq λn=>by rw [e]
 obtain⟨l,N,g0,g1,g2,g3⟩:=h2;obtain⟨m,e,k0,k1,_⟩:=qh3 h l;refine⟨m,N+1,k0 g0,λhd=>k1 (g1 hd),λn hn=>?_,λr hr=>?_⟩
 ·obtain⟨n,rfl⟩:∃m,n=m+1:=⟨n-1,by omega⟩;simp only [evCall,hp,hF,hpure,cond,qeq];exact (congrArg (dedup h) (g2 n (by omega))).trans e
 ·obtain⟨e1,e2⟩:=qhg e r hr;exact⟨e1,g3 _ e2⟩
theorem qBS {f:Nat}{first cap args:List V}{F:IFn}{h:Heap}{v:V}(hp:AP.prim f=none) (hF:AP.fn f=some F) (hpure:F.pure=true) (hl:(first++args++cap).length<=F.nt)
  (hw:wbody AP false h.n F (first++args++cap) h λr=>freeze h.n r.h qat r.v=some v):WF AP d mk (.fn f first cap) args h λr=>r=⟨v,h⟩:=by
 have h1:=qem (AP:=AP) hl hw;have h2:W false (λn=>ND.bind (qeS AP (evCall AP n h.n) n h.n F (first++args++cap) h) λr=>match freeze h.n r.h qat r.v with
  | some v=>some [v]
  | none=>none) λx=>x=v:=by
  refine W.bind (h1.mono ?_);intro r e;exact (W.one (x:=v) (Q:=λx=>x=v) rfl).eq λn=>by rw [e]
 obtain⟨l,N,g0,g1,g2,g3⟩:=h2;obtain⟨m,e,k0,_,k1⟩:=qh3 h l;refine⟨m,N+1,k0 g0,λ_=>k1 v g3 g0,λn hn=>?_,λr hr=>?_⟩
 ·obtain⟨n,rfl⟩:∃m,n=m+1:=⟨n-1,by omega⟩;simp only [evCall,hp,hF,hpure,cond,qeq];exact (congrArg (dedup h) (g2 n (by omega))).trans e
 ·obtain⟨e1,e2⟩:=qhg e r hr;obtain⟨rv,rh⟩:=r;simp only at e1 e2;subst e1;rw [g3 _ e2]
end Go.Abs

universe u
namespace Go.Abs
open Go
variable {AP:Prog}{mk:Nat}{d:Bool}
theorem qng {c:Cal}{args:List V}{tm:Tm}{h:Heap}{Q R:VH->Prop}(hw:wcal AP d mk c args tm h Q) (hi:∀r,Q r->R r):wcal AP d mk c args tm h R:=by
 cases c with
 | dir f=>exact W.mono hw hi
 | val x=>exact W.mono hw hi
 | inv x m=>obtain⟨p,e,f,e2,hw⟩:=hw; exact⟨p,e,f,e2,W.mono hw hi⟩
theorem qk4 {t:Option Nat}{o:IOp}{b:Nat}{st:St}{Q R:St->Prop}(hw:wop AP d mk t o b st Q) (hi:∀r,Q r->R r):wop AP d mk t o b st R:=by
 cases o with
 | p o=>obtain⟨v,e,h⟩:=hw; exact⟨v,e,hi _ h⟩
 | r o=>obtain⟨v,e,h⟩:=hw; exact⟨v,e,hi _ h⟩
 | a o hole =>
  obtain⟨m,e,h⟩:=hw;refine⟨m,e,?_⟩;cases m with
  | val v=>exact hi _ h
  | obj o f=>cases hole<;>exact hi _ h
 | w o=>obtain⟨v,e,h⟩:=hw; exact⟨v,e,hi _ h⟩
 | fz o=>obtain⟨v,e,h⟩:=hw; exact⟨v,e,hi _ h⟩
 | call c args frz =>
  refine qng hw λr h=>?_;cases frz with
  | true=>obtain⟨v,e,h⟩:=h; exact⟨v,e,hi _ h⟩
  | false=>exact hi _ h
 | callP f args=>obtain⟨v,e,h⟩:=hw; exact⟨v,e,hi _ h⟩
 | nxtM it=>obtain⟨l,e,h1,h2,h3⟩:=hw; exact⟨l,e,h1,h2,λr hr=>hi _ (h3 r hr)⟩
 | defer x=>obtain⟨v,e,h1,h2⟩:=hw; exact⟨v,e,h1,hi _ h2⟩
 | recover=>exact⟨hw.1,hi _ hw.2⟩
 | bad=>exact hw
theorem qi0 {x:Ins}{b:Nat}{st:St}{Q R:St->Prop}(hw:wins AP d mk x b st Q) (hi:∀r,Q r->R r):wins AP d mk x b st R:=by
 unfold wins at hw ⊢;split at hw
 ·exact qk4 hw hi
 ·rename_i g hg;rcases hw with ⟨c,e,h1,h2⟩|⟨e,h⟩
  ·exact .inl ⟨c,e,λk=>qk4 (h1 k) hi,λk=>hi _ (h2 k)⟩
  ·exact .inr ⟨e,hi _ h⟩
theorem qna:∀{l:List Ins}{b:Nat}{st:St}{Q R:St->Prop},wl AP d mk l b st Q->(∀r,Q r->R r)->wl AP d mk l b st R
 | [],_,_,_,_,hw,hi=>hi _ hw
 | _::_,_,_,_,_,hw,hi=>qi0 hw λ_ h=>qna h hi
theorem qnf:∀{l:List Ins}{b:Nat}{st:St}{hs:List Heap}{Q R:St->List Heap->Prop},wd AP mk l b st hs Q->(∀r s,Q r s->R r s)->wd AP mk l b st hs R
 | [],_,_,_,_,_,hw,hi=>hi _ _ hw
 | _::_,_,_,_,_,_,hw,hi=>qi0 hw λ_ h=>qnf h hi
theorem qcR:∀(c:IC) {st:St}{Q R:OS->Prop},wc AP d mk c st Q->(∀r,Q r->R r)->wc AP d mk c st R
 | .skip,_,_,_,hw,hi=>hi _ hw
 | .ops _,_,_,_,hw,hi=>qna hw λ_ h=>hi _ h
 | .dops ..,_,_,_,hw,hi=>qnf hw λ_ _ h=>let ⟨v,e,k⟩:=h; ⟨v,e,hi _ k⟩
 | .dopc ..,_,_,_,hw,hi=>qnf hw λ_ _ h=>⟨h.1,hi _ h.2⟩
 | .seq a b,_,_,_,hw,hi=>qcR a hw λr h=>by
  obtain⟨o,s⟩:=r;cases o with
  | normal=>exact qcR b h hi
  | exit i=>exact hi _ h
  | ret=>exact hi _ h
 | .cond c a b,_,_,_,hw,hi=>let ⟨t,e,h1,h2⟩:=hw; ⟨t,e,λk=>qcR a (h1 k) hi,λk=>qcR b (h2 k) hi⟩
 | .block id c,_,_,_,hw,hi=>qcR c hw λr h=>by
  obtain⟨o,s⟩:=r;cases o with
  | normal=>exact hi _ h
  | exit i=>simp only at h ⊢; cases hb:Nat.beq i id<;>rw [hb] at h<;>exact hi _ h
  | ret=>exact hi _ h
 | .loop c,_,_,_,hw,hi=>by
  obtain⟨I,hI,hc⟩:=hw;refine⟨I,hI,λk st' h1 h2=>qcR c (hc k st' h1 h2) λr h=>?_⟩;obtain⟨o,s⟩:=r;cases o with
  | normal=>exact h
  | exit i=>exact hi _ h
  | ret=>exact hi _ h
 | .rangeF ..,_,_,_,hw,hi=>W.mono hw hi
 | .exit _,_,_,_,hw,hi=>hi _ hw
 | .ret,_,_,_,hw,hi=>hi _ hw
 | .bad,_,_,_,hw,_=>hw
def Heap.grow (h:Heap) (na:Nat):Heap:=⟨h.n+na,h.os⟩
@[simp] theorem qC8 (h:Heap):h.grow 0=h:=(rfl)
@[simp] theorem qDK (h:Heap) (na:Nat):(h.grow na).n=h.n+na:=(rfl)
@[simp] theorem qDu (h:Heap) (na i:Nat):(h.grow na).get i=h.get i:=(rfl)
structure Ps {α : Sort u}(a : α):Type where it ::
def OpS {α : Type}(o:Option α) (Q : α->Prop) (_:Ps Q):Prop:=Op o Q
def BrS (v:V) (A B:Prop) (_:Ps (A/\B)):Prop:=Br v A B
def GdS (v:V) (b:Bool) (A B:Prop) (_:Ps (A/\B)):Prop:=Gd v b A B
def WFS (AP:Prog) (d:Bool) (mk:Nat) (fv:V) (args:List V) (h:Heap) (Q:VH->Prop) (_:Ps Q):Prop:=WF AP d mk fv args h Q
inductive Fr where
 | seq (b:IC)
 | block (id:Nat)
def through (AP:Prog) (d:Bool) (mk:Nat):List Fr->(OS->Prop)->OS->Prop
 | [],Q,r=>Q r
 | .seq b::fs,Q,r=>match r.o with
  | .normal=>wc AP d mk b r.s (through AP d mk fs Q)
  | .exit i=>through AP d mk fs Q ⟨.exit i,r.s⟩
  | .ret=>through AP d mk fs Q ⟨.ret,r.s⟩
 | .block id::fs,Q,r=>match r.o with
  | .exit i=>cond (Nat.beq i id) (through AP d mk fs Q ⟨.normal,r.s⟩) (through AP d mk fs Q ⟨.exit i,r.s⟩)
  | .normal=>through AP d mk fs Q ⟨.normal,r.s⟩
  | .ret=>through AP d mk fs Q ⟨.ret,r.s⟩
def wk (AP:Prog) (d:Bool) (mk:Nat) (c:IC) (fs:List Fr) (st:St) (Q:OS->Prop) (_:Ps (c,fs,Q)):Prop:=wc AP d mk c st (through AP d mk fs Q)
def nx (AP:Prog) (d:Bool) (mk:Nat) (fs:List Fr) (o:Out) (st:St) (Q:OS->Prop) (_:Ps (fs,Q)):Prop:=through AP d mk fs Q ⟨o,st⟩
def wlS (AP:Prog) (d:Bool) (mk:Nat) (l:List Ins) (b:Nat) (fs:List Fr) (st:St) (Q:OS->Prop) (_:Ps (l,fs,Q)):Prop:=wl AP d mk l b st λst=>through AP d mk fs Q ⟨.normal,st⟩
def wdS (AP:Prog) (d:Bool) (mk:Nat) (l:List Ins) (b:Nat) (chk:List (Nat × Nat)) (l0:List Ins) (fs:List Fr) (st:St) (hs:List Heap) (Q:OS->Prop) (_:Ps (l,chk,l0,fs,Q)):Prop :=
 wd AP mk l b st hs λst hs=>Op (cond (chk.all (recheck l0 st.tm hs.reverse)) (some ()) none) λ_=>through AP d mk fs Q ⟨.normal,st⟩
def qA4 (AP:Prog) (mk:Nat) (chk:List (Nat × Nat)) (l:List Ins) (tm:Tm) (hs:List Heap):Prop:=∀c∈chk,reP AP mk l tm hs c
def wdcS (AP:Prog) (d:Bool) (mk:Nat) (l:List Ins) (b:Nat) (chk:List (Nat × Nat)) (l0:List Ins) (fs:List Fr) (st:St) (hs:List Heap) (Q:OS->Prop) (_:Ps (l,chk,l0,fs,Q)):Prop :=
 wd AP mk l b st hs λst hs=>qA4 AP mk chk l0 st.tm hs.reverse/\through AP d mk fs Q ⟨.normal,st⟩
def OneS (AP:Prog) (mk f:Nat) (args:List V) (h:Heap) (Q:V->Prop) (_:Ps Q):Prop:=∃v,One AP mk f args h v/\Q v
theorem OneS.by {f:Nat}{args:List V}{h:Heap}{Q:V->Prop}{v:V}(h1:One AP mk f args h v) (h2:Q v):OneS AP mk f args h Q ⟨⟩:=⟨v,h1,h2⟩
def qne (AP:Prog) (d:Bool) (mk:Nat) (i:Ins) (b:Nat) (st:St) (Q:St->Prop) (_:Ps (i,Q)):Prop:=wins AP d mk i b st Q
def wopS (AP:Prog) (d:Bool) (mk:Nat) (t:Option Nat) (o:IOp) (b:Nat) (st:St) (Q:St->Prop) (_:Ps (o,Q)):Prop:=wop AP d mk t o b st Q
def qnh (AP:Prog) (d:Bool) (mk:Nat) (c:Cal) (args:List V) (tm:Tm) (h:Heap) (Q:VH->Prop) (_:Ps (c,Q)):Prop:=wcal AP d mk c args tm h Q
def wunS (AP:Prog) (d:Bool) (mk:Nat) (l:List DefI) (h:Heap) (Q:Heap->Prop) (_:Ps Q):Prop:=wun AP d mk l h Q
@[simp] theorem Op_some {α : Type}{x : α}{Q : α->Prop}:OpS (some x) Q ⟨⟩=Q x:=by
 simp [OpS,Op]
@[simp] theorem Op_none {α : Type}{Q : α->Prop}:OpS (none:Option α) Q ⟨⟩=False:=by
 simp [OpS,Op]
theorem qBC {α : Type}{o:Option α}{Q : α->Prop}(h:∃x,o=some x/\Q x):OpS o Q ⟨⟩:=h
theorem OpS.intro {α : Type}{o:Option α}{x : α}{Q : α->Prop}(h:o=some x) (hq:Q x):OpS o Q ⟨⟩:=⟨x,h,hq⟩
section
variable {A B:Prop}{b:Bool}
@[simp] theorem Br_true:BrS (.bool true) A B ⟨⟩=A:=by simp [BrS,Br]
@[simp] theorem Br_false:BrS (.bool false) A B ⟨⟩=B:=by simp [BrS,Br]
theorem qaa:BrS (.bool b) A B ⟨⟩=((b=true->A)/\(b=false->B)):=by simp [BrS,Br]
@[simp] theorem Gd_tt:GdS (.bool true) true A B ⟨⟩=A:=by simp [GdS,Gd]
@[simp] theorem Gd_ft:GdS (.bool false) true A B ⟨⟩=B:=by simp [GdS,Gd]
@[simp] theorem Gd_tf:GdS (.bool true) false A B ⟨⟩=B:=by simp [GdS,Gd]
@[simp] theorem Gd_ff:GdS (.bool false) false A B ⟨⟩=A:=by simp [GdS,Gd]
theorem Gd_t:GdS (.bool b) true A B ⟨⟩=((b=true->A)/\(b=false->B)):=by cases b<;>simp [GdS,Gd]
theorem Gd_f:GdS (.bool b) false A B ⟨⟩=((b=false->A)/\(b=true->B)):=by cases b<;>simp [GdS,Gd]
@[simp] theorem Gd_u:GdS (.tup []) b A B ⟨⟩=B:=by simp [GdS,Gd]
end
def qob (AP:Prog) (d:Bool) (mk:Nat) (I:Nat->St->Prop) (k:Nat) (fs:List Fr) (Q:OS->Prop) (_:Ps (I,k,fs,Q)) (r:OS):Prop:=match r.o with
 | .normal=>∃j,j<k/\I j r.s
 | .exit i=>nx AP d mk fs (.exit i) r.s Q ⟨⟩
 | .ret=>nx AP d mk fs .ret r.s Q ⟨⟩
def qah (I:Nat->St->Prop) (k:Nat) (st:St) (_:Ps (I,k)):Prop:=∃j,j<k/\I j st
theorem qah.intro {I:Nat->St->Prop}{k:Nat}{st:St}(j:Nat) (h:j<k) (hi:I j st):qah I k st ⟨⟩:=⟨j,h,hi⟩
section
variable {st:St}{Q:OS->Prop}{fs:List Fr}{b:Nat}
@[simp] theorem wk_skip:wk AP d mk .skip fs st Q ⟨⟩=nx AP d mk fs .normal st Q ⟨⟩:=(rfl)
@[simp] theorem qar {l:List Ins}:wk AP d mk (.ops l) fs st Q ⟨⟩=wlS AP d mk l st.h.n fs st Q ⟨⟩:=(rfl)
@[simp] theorem qnc {na:Nat}{chk:List (Nat × Nat)}{l:List Ins}:wk AP d mk (.dops na chk l) fs st Q ⟨⟩=wdS AP d mk l st.h.n chk l fs ⟨st.tm,st.h.grow na,st.defs,st.round⟩ [] Q ⟨⟩:=(rfl)
@[simp] theorem wk_dopc {chk:List (Nat × Nat)}{l:List Ins}:wk AP d mk (.dopc chk l) fs st Q ⟨⟩=wdcS AP d mk l st.h.n chk l fs st [] Q ⟨⟩:=(rfl)
@[simp] theorem qgq {a b:IC}:wk AP d mk (.seq a b) fs st Q ⟨⟩=wk AP d mk a (.seq b::fs) st Q ⟨⟩:=(rfl)
@[simp] theorem wk_cond {c:Opd}{a b:IC}:wk AP d mk (.cond c a b) fs st Q ⟨⟩=BrS (c.ev st.tm) (wk AP d mk a fs st Q ⟨⟩) (wk AP d mk b fs st Q ⟨⟩) ⟨⟩:=(rfl)
@[simp] theorem wk_block {id:Nat}{c:IC}:wk AP d mk (.block id c) fs st Q ⟨⟩=wk AP d mk c (.block id::fs) st Q ⟨⟩:=(rfl)
@[simp] theorem wk_exit {id:Nat}:wk AP d mk (.exit id) fs st Q ⟨⟩=nx AP d mk fs (.exit id) st Q ⟨⟩:=(rfl)
@[simp] theorem wk_ret:wk AP d mk .ret fs st Q ⟨⟩=nx AP d mk fs .ret st Q ⟨⟩:=(rfl)
@[simp] theorem wk_bad:wk AP d mk .bad fs st Q ⟨⟩=False:=(rfl)
@[simp] theorem nx_nil {o:Out}:nx AP d mk [] o st Q ⟨⟩=Q ⟨o,st⟩:=(rfl)
@[simp] theorem nx_seq {b:IC}:nx AP d mk (.seq b::fs) .normal st Q ⟨⟩=wk AP d mk b fs st Q ⟨⟩:=(rfl)
@[simp] theorem nx_seqX {b:IC}{i:Nat}:nx AP d mk (.seq b::fs) (.exit i) st Q ⟨⟩=nx AP d mk fs (.exit i) st Q ⟨⟩:=(rfl)
@[simp] theorem nx_seqR {b:IC}:nx AP d mk (.seq b::fs) .ret st Q ⟨⟩=nx AP d mk fs .ret st Q ⟨⟩:=(rfl)
@[simp] theorem nx_block {i:Nat}:nx AP d mk (.block i::fs) .normal st Q ⟨⟩=nx AP d mk fs .normal st Q ⟨⟩:=(rfl)
@[simp] theorem nx_blockE {i:Nat}:nx AP d mk (.block i::fs) (.exit i) st Q ⟨⟩=nx AP d mk fs .normal st Q ⟨⟩:=by simp [nx,through]
@[simp] theorem nx_blockX {i j:Nat}(h:j≠i):nx AP d mk (.block i::fs) (.exit j) st Q ⟨⟩=nx AP d mk fs (.exit j) st Q ⟨⟩:=by
 have:Nat.beq j i=false:=by cases hb:Nat.beq j i<;>simp at hb ⊢; exact h hb
 simp [nx,through,this]
@[simp] theorem nx_blockR {i:Nat}:nx AP d mk (.block i::fs) .ret st Q ⟨⟩=nx AP d mk fs .ret st Q ⟨⟩:=(rfl)
@[simp] theorem loopQ_n {I:Nat->St->Prop}{k:Nat}:qob AP d mk I k fs Q ⟨⟩ ⟨.normal,st⟩=qah I k st ⟨⟩:=(rfl)
@[simp] theorem loopQ_x {I:Nat->St->Prop}{k i:Nat}:qob AP d mk I k fs Q ⟨⟩ ⟨.exit i,st⟩=nx AP d mk fs (.exit i) st Q ⟨⟩:=(rfl)
@[simp] theorem loopQ_r {I:Nat->St->Prop}{k:Nat}:qob AP d mk I k fs Q ⟨⟩ ⟨.ret,st⟩=nx AP d mk fs .ret st Q ⟨⟩:=(rfl)
theorem qaf {c:IC}(I:Nat->St->Prop) (k:Nat) (h0:I k st) (h:∀k st',I k st'->qo2 c st st'->wk AP d mk c [] st' (qob AP d mk I k fs Q ⟨⟩) ⟨⟩):wk AP d mk (.loop c) fs st Q ⟨⟩ :=
 ⟨I,⟨k,h0⟩,λk st' h1 h2=>by
  have:=h k st' h1 h2;have e:(through AP d mk [] (qob AP d mk I k fs Q ⟨⟩))=λr=>match r.o with
   | .normal=>∃j,j<k/\I j r.s
   | .exit i=>through AP d mk fs Q ⟨.exit i,r.s⟩
   | .ret=>through AP d mk fs Q ⟨.ret,r.s⟩:=by
   funext r; rfl
  unfold wk at this;rw [e] at this;exact this⟩
theorem qgr {c:IC}(P:St->Prop) (hP:P st) (h:∀st,P st->wk AP d mk c fs st Q ⟨⟩):wk AP d mk c fs st Q ⟨⟩:=h st hP
theorem qk6 {c:IC}(M:Out->St->Prop) (h1:wk AP d mk c [] st (λr=>M r.o r.s) ⟨⟩) (h2:∀o s,M o s->nx AP d mk fs o s Q ⟨⟩):wk AP d mk c fs st Q ⟨⟩:=qcR c h1 λr h=>h2 r.o r.s h
end
section
variable {st:St}{Q:OS->Prop}{fs:List Fr}{b:Nat}
@[simp] theorem wl_nil:wlS AP d mk [] b fs st Q ⟨⟩=nx AP d mk fs .normal st Q ⟨⟩:=(rfl)
@[simp] theorem wl_cons {x:Ins}{l:List Ins}:wlS AP d mk (x::l) b fs st Q ⟨⟩=qne AP d mk x b st (λst=>wlS AP d mk l b fs st Q ⟨⟩) ⟨⟩:=(rfl)
@[simp] theorem wd_nil {chk:List (Nat × Nat)}{l0:List Ins}{hs:List Heap}:wdS AP d mk [] b chk l0 fs st hs Q ⟨⟩=OpS (cond (chk.all (recheck l0 st.tm (st.h::hs).reverse)) (some ()) none) (λ_=>nx AP d mk fs .normal st Q ⟨⟩) ⟨⟩:=(rfl)
@[simp] theorem wdc_nil {chk:List (Nat × Nat)}{l0:List Ins}{hs:List Heap}:wdcS AP d mk [] b chk l0 fs st hs Q ⟨⟩=(qA4 AP mk chk l0 st.tm (st.h::hs).reverse/\nx AP d mk fs .normal st Q ⟨⟩):=(rfl)
@[simp] theorem wdc_cons {chk:List (Nat × Nat)}{l0:List Ins}{x:Ins}{l:List Ins}{hs:List Heap}:wdcS AP d mk (x::l) b chk l0 fs st hs Q ⟨⟩=qne AP true mk x b st (λst'=>wdcS AP d mk l b chk l0 fs st' (st.h::hs) Q ⟨⟩) ⟨⟩:=(rfl)
@[simp] theorem wd_cons {chk:List (Nat × Nat)}{l0:List Ins}{x:Ins}{l:List Ins}{hs:List Heap}:wdS AP d mk (x::l) b chk l0 fs st hs Q ⟨⟩=qne AP true mk x b st (λst'=>wdS AP d mk l b chk l0 fs st' (st.h::hs) Q ⟨⟩) ⟨⟩:=(rfl)
end
section
variable {st:St}{Q:St->Prop}{b:Nat}{t:Option Nat}
@[simp] theorem wins_i {t:Nat}{o:IOp}:qne AP d mk (Pr.i t o) b st Q ⟨⟩=wopS AP d mk (some t) o b st Q ⟨⟩:=(rfl)
@[simp] theorem wins_n {o:IOp}:qne AP d mk (Pr.n o) b st Q ⟨⟩=wopS AP d mk none o b st Q ⟨⟩:=(rfl)
@[simp] theorem wins_g {g:Nat × Bool}{o:IOp}:qne AP d mk ⟨t,some g,o⟩ b st Q ⟨⟩=GdS ((gK g.1).run st.tm) g.2 (wopS AP d mk t o b st Q ⟨⟩) (Q ((putK t).run (.tup []) st.h st)) ⟨⟩:=(rfl)
@[simp] theorem put_some {t:Nat}{v:V}{h:Heap}:(putK (some t)).run v h st=⟨(sK t).run v st.tm,h,st.defs,st.round⟩:=(rfl)
@[simp] theorem put_none {v:V}{h:Heap}:(putK none).run v h st=⟨st.tm,h,st.defs,st.round⟩:=(rfl)
@[simp] theorem wop_p {o:PO}:wopS AP d mk t (.p o) b st Q ⟨⟩=OpS ((qas o).run st.tm) (λv=>Q ((putK t).run v st.h st)) ⟨⟩:=(rfl)
@[simp] theorem wop_r {o:RdO}:wopS AP d mk t (.r o) b st Q ⟨⟩=OpS ((qbc o).run st.tm st.h) (λv=>Q ((putK t).run v st.h st)) ⟨⟩:=(rfl)
@[simp] theorem wop_a {o:AO}{hole:Option Nat}:wopS AP d mk t (.a o hole) b st Q ⟨⟩=OpS ((qbK o).run st.tm) (λm=>match m with
  | .val v=>Q ((putK t).run v st.h st)
  | .obj o f=>(match hole with
   | none=>Q ((putK t).run (f st.h.n) (st.h.push o) st)
   | some j=>Q ((putK t).run (f (b+j)) (st.h.set (b+j) o) st))) ⟨⟩:=(rfl)
@[simp] theorem wop_fz {o:XO}:wopS AP d mk t (.fz o) b st Q ⟨⟩=OpS (xV o mk st.tm st.h) (λr=>Q ((putK t).run r.v r.h st)) ⟨⟩:=(rfl)
@[simp] theorem wop_w {o:WO}:wopS AP d mk t (.w o) b st Q ⟨⟩=OpS ((qay o).run mk st.tm st.h) (λr=>Q ((putK t).run r.v r.h st)) ⟨⟩:=(rfl)
@[simp] theorem wop_callP {f:Nat}{args:List Opd}:wopS AP d mk t (.callP f args) b st Q ⟨⟩=OneS AP mk f ((qcE args).run st.tm) st.h (λv=>Q ((putK t).run v st.h st)) ⟨⟩:=(rfl)
@[simp] theorem wop_call {c:Cal}{args:List Opd}:wopS AP d mk t (.call c args false) b st Q ⟨⟩=qnh AP d mk c ((qcE args).run st.tm) st.tm st.h (λr=>Q ((putK t).run r.v r.h st)) ⟨⟩:=(rfl)
@[simp] theorem wop_callF {c:Cal}{args:List Opd}:wopS AP d mk t (.call c args true) b st Q ⟨⟩=qnh AP d mk c ((qcE args).run st.tm) st.tm st.h (λr=>OpS (frzV mk r) (λr=>Q ((putK t).run r.v r.h st)) ⟨⟩) ⟨⟩:=(rfl)
@[simp] theorem wop_nxtM {x:Opd}:wopS AP d mk t (.nxtM x) b st Q ⟨⟩=OpS (qfB mk (x.ev st.tm) st.h) (λl=>d=false/\l≠[]/\∀r∈l,Q ((putK t).run r.v r.h st)) ⟨⟩:=(rfl)
@[simp] theorem wop_defer {x:Opd}:wopS AP d mk t (.defer x) b st Q ⟨⟩=OpS (match x.ev st.tm with|.fn f a c=>some (V.fn f a c)|_=>none) (λv=>st.round=false/\Q ((putK t).run .any st.h ⟨st.tm,st.h,.call v::st.defs,st.round⟩)) ⟨⟩:=(rfl)
@[simp] theorem qq6:wopS AP d mk t .recover b st Q ⟨⟩=(st.round=false/\Q ((putK t).run .nili st.h st)):=(rfl)
end
section
variable {args:List V}{tm:Tm}{h:Heap}{Q:VH->Prop}
@[simp] theorem wcal_dir {f:Nat}:qnh AP d mk (.dir f) args tm h Q ⟨⟩=WFS AP d mk (.fn f [] []) args h Q ⟨⟩:=(rfl)
@[simp] theorem wcal_val {x:Opd}:qnh AP d mk (.val x) args tm h Q ⟨⟩=WFS AP d mk (x.ev tm) args h Q ⟨⟩:=(rfl)
@[simp] theorem wcal_inv {x:Opd}{m:String}:qnh AP d mk (.inv x m) args tm h Q ⟨⟩=OpS (match x.ev tm with|.iface t v=>some (t,v)|_=>none) (λp=>OpS (AP.meth p.1 m) (λf=>WFS AP d mk (.fn f [] []) (p.2::args) h Q ⟨⟩) ⟨⟩) ⟨⟩:=(rfl)
theorem WFS.by {fv:V}{R:VH->Prop}(h1:WF AP d mk fv args h R) (h2:∀v h',R ⟨v,h'⟩->Q ⟨v,h'⟩):WFS AP d mk fv args h Q ⟨⟩:=W.mono h1 λr=>h2 r.v r.h
@[simp] theorem wun_nil {Q:Heap->Prop}:wunS AP d mk [] h Q ⟨⟩=Q h:=(rfl)
@[simp] theorem qo7 {i:Nat}{r:List DefI}{Q:Heap->Prop}:wunS AP d mk (.mark i::r) h Q ⟨⟩=(h.get i=some .dfr/\mk<=i/\wunS AP d mk r (h.kill i) Q ⟨⟩):=(rfl)
def qm3 (AP:Prog) (d:Bool) (mk:Nat) (rs:List Res) (Q:VH->Prop) (_:Ps (rs,Q)) (r:OS):Prop:=match r.o with
 | .exit _=>False
 | _=>wunS AP d mk r.s.defs r.s.h (λh'=>OpS (results r.s.tm h' rs) (λv=>Q ⟨v,h'⟩) ⟨⟩) ⟨⟩
@[simp] theorem bodyQ_n {rs:List Res}{st:St}:qm3 AP d mk rs Q ⟨⟩ ⟨.normal,st⟩=wunS AP d mk st.defs st.h (λh'=>OpS (results st.tm h' rs) (λv=>Q ⟨v,h'⟩) ⟨⟩) ⟨⟩:=(rfl)
@[simp] theorem bodyQ_r {rs:List Res}{st:St}:qm3 AP d mk rs Q ⟨⟩ ⟨.ret,st⟩=wunS AP d mk st.defs st.h (λh'=>OpS (results st.tm h' rs) (λv=>Q ⟨v,h'⟩) ⟨⟩) ⟨⟩:=(rfl)
theorem qef {F:IFn}(c:IC) (rs:List Res) (hc:F.body=c) (hr:F.res=rs) (h1:wk AP d mk c [] ⟨Tm.ofL 0 args .e,h,[],false⟩ (qm3 AP d mk rs Q ⟨⟩) ⟨⟩):wbody AP d mk F args h Q:=by
 subst hc hr;refine qcR F.body h1 λr h=>?_;unfold through qm3 at h;split at h
 ·exact h.elim
 ·rename_i hx;refine⟨?_,h⟩;cases e:r.o with
  | exit i=>exact (hx i e).elim
  | normal=>trivial
  | ret=>trivial
theorem WF.go {f:Nat}{first cap args:List V}{h:Heap}{Q:VH->Prop}(F:IFn) (c:IC) (rs:List Res) (hp:AP.prim f=none) (hF:AP.fn f=some F) (hpure:F.pure=false) (hl:Nat.ble (first++args++cap).length F.nt=true) (hc:F.body=c) (hr:F.res=rs)
  (h1:wk AP d mk c [] ⟨Tm.ofL 0 (first++args++cap) .e,h,[],false⟩ (qm3 AP d mk rs Q ⟨⟩) ⟨⟩):WF AP d mk (.fn f first cap) args h Q:=WF.fn hp hF hpure (Nat.le_of_ble_eq_true hl) (qef c rs hc hr h1)
theorem qBt {f:Nat}{first cap args:List V}{h:Heap}{v:V}(F:IFn) (c:IC) (rs:List Res) (hp:AP.prim f=none) (hF:AP.fn f=some F) (hpure:F.pure=true) (hl:Nat.ble (first++args++cap).length F.nt=true) (hc:F.body=c) (hr:F.res=rs)
  (h1:wk AP false h.n c [] ⟨Tm.ofL 0 (first++args++cap) .e,h,[],false⟩ (qm3 AP false h.n rs (λr=>freeze h.n r.h qat r.v=some v) ⟨⟩) ⟨⟩):WF AP d mk (.fn f first cap) args h λr=>r=⟨v,h⟩:=qBS hp hF hpure (Nat.le_of_ble_eq_true hl) (qef c rs hc hr h1)
end
@[simp] theorem ev_t {i:Nat}{tm:Tm}:(Opd.t i).ev tm=(gK i).run tm:=(rfl)
@[simp] theorem ev_c {v:V}{tm:Tm}:(Opd.c v).ev tm=v:=(rfl)
@[simp] theorem opds_nil {tm:Tm}:(qcE []).run tm=[]:=(rfl)
@[simp] theorem opds_cons {x:Opd}{l:List Opd}{tm:Tm}:(qcE (x::l)).run tm=x.ev tm::(qcE l).run tm:=(rfl)
attribute [simp] qgb gK_e
@[simp] theorem ofL_nil {i:Nat}{tm:Tm}:Tm.ofL i [] tm=tm:=(rfl)
@[simp] theorem ofL_cons {i:Nat}{v:V}{l:List V}{tm:Tm}:Tm.ofL i (v::l) tm=Tm.ofL (i+1) l ((sK i).run v tm):=(rfl)
@[simp] theorem qq5 {p:Nat}{ps:List Nat}{a:V}{l:List V}{tm:Tm}:qdr tm (p::ps) (a::l)=qdr ((sK p).run a tm) ps l:=(rfl)
@[simp] theorem qsJ {l:List V}{tm:Tm}:qdr tm [] l=tm:=by cases l<;>rfl
attribute [simp] Nat.add_assoc
attribute [simp] qBp qBr qBq
theorem fw64 {n:Int}(h : -9223372036854775808<=n) (h':n<=9223372036854775807):fw .i64 n=n:=by
 rw [qiI]; exact qij _ _ h h'
theorem fw8 {n:Int}(h:0<=n) (h':n<=255):fw .u8 n=n:=by
 rw [qiI]; exact qij _ _ h h'
attribute [simp] qgZ qgP qek qf0
theorem qqo {a b:Nat}(h:a<b):Nat.blt a b=true:=by rw [Nat.blt_eq]; exact h
theorem qqp {a b:Nat}(h:a<=b):Nat.ble a b=true:=by rw [Jat]; exact h
theorem qqe (m n:Int):cond (ltB m n) m n=min m n:=by rw [qgP,cond_eq_ite,Int.min_def]; simp only [Jai]; split<;>split<;>omega
theorem qqf (m n:Int):cond (ltB n m) m n=max n m:=by rw [qgP,cond_eq_ite,Int.max_def]; simp only [Jai]; split<;>split<;>omega
@[simp] theorem qss {a b:Nat}:Nat.blt a b=decide (a<b):=by rw [Bool.eq_iff_iff,Nat.blt_eq]; simp
@[simp] theorem qa3 {a b:Nat}:Nat.ble a b=decide (a<=b):=by rw [Bool.eq_iff_iff,Jat]; simp
@[simp] theorem qkY {a b:Nat}:Nat.beq a b=decide (a=b):=by rw [Bool.eq_iff_iff,Jas]; simp
theorem qey {k:IntKind}{n:Int}{len:Nat}(h:0<=n) (h':n<len):idx (.int k n) len=some n.toNat:=by
 obtain⟨m,rfl⟩:=Int.eq_ofNat_of_zero_le h;have:m<len:=by omega
 show cond (Nat.blt m len) (some m) none=_;rw [qqo this]; rfl
theorem qaY {n:Int}{top:Nat}(h:0<=n) (h':n<=top):bnd n top=some n.toNat:=by
 obtain⟨m,rfl⟩:=Int.eq_ofNat_of_zero_le h;have:m<=top:=by omega
 show cond (Nat.ble m top) (some m) none=_;rw [qqp this]; rfl
section
variable {k l:IntKind}{a b:Int}
@[simp] theorem bin_add {k:IntKind}{a b:Int}:(binK .add).run (.int k a) (.int k b)=some (.int k (fw k (a+b))):=by
 simp [binK,addV]
@[simp] theorem bin_sub:(binK .sub).run (.int k a) (.int k b)=some (.int k (fw k (a-b))):=by
 simp [binK,ariV]
@[simp] theorem bin_mul:(binK .mul).run (.int k a) (.int k b)=some (.int k (fw k (a * b))):=by
 simp [binK,ariV]
theorem qsu (h:b≠0):(binK .quo).run (.int k a) (.int k b)=some (.int k (fw k (a.tdiv b))):=by
 simp [binK,ariV,h]
theorem qst (h:b≠0):(binK .rem).run (.int k a) (.int k b)=some (.int k (a.tmod b)):=by
 simp [binK,ariV,h]
@[simp] theorem qeG:(binK .and).run (.int k a) (.int k b)=some (.int k (fw k (BitVec.ofInt k.bits a &&& BitVec.ofInt k.bits b).toNat)):=by
 simp [binK,ariV]
@[simp] theorem qia:(binK .or).run (.int k a) (.int k b)=some (.int k (fw k (BitVec.ofInt k.bits a ||| BitVec.ofInt k.bits b).toNat)):=by
 simp [binK,ariV]
@[simp] theorem qea:(binK .andNot).run (.int k a) (.int k b)=some (.int k (fw k (BitVec.ofInt k.bits a &&& ~~~ BitVec.ofInt k.bits b).toNat)):=by
 simp [binK,ariV]
@[simp] theorem bin_eql:(binK .eql).run (.int k a) (.int k b)=some (.bool (decide (a=b))):=by
 simp [binK,eqV]
@[simp] theorem bin_neq:(binK .neq).run (.int k a) (.int k b)=some (.bool (decide (a≠b))):=by
 simp [binK,eqV]
@[simp] theorem bin_lss:(binK .lss).run (.int k a) (.int k b)=some (.bool (decide (a<b))):=by
 simp [binK,cmpV]
@[simp] theorem bin_leq:(binK .leq).run (.int k a) (.int k b)=some (.bool (decide (a<=b))):=by
 simp [binK,cmpV]
@[simp] theorem bin_gtr:(binK .gtr).run (.int k a) (.int k b)=some (.bool (decide (b<a))):=by
 simp [binK,cmpV]
@[simp] theorem bin_geq:(binK .geq).run (.int k a) (.int k b)=some (.bool (decide (b<=a))):=by
 simp [binK,cmpV]
@[simp] theorem un_not {c:Bool}:unV .not (.bool c)=some (.bool !c):=(rfl)
@[simp] theorem un_neg:unV .neg (.int k a)=some (.int k (fw k (0-a))):=(rfl)
end
section
variable {x y i c a:Opd}{tm:Tm}{h:Heap}
def pickV (c a b:V):Option V:=match c with
 | .bool t=>cond t (some a) (some b)
 | _=>none
@[simp] theorem qsR {t:Bool}{u v:V}:pickV (.bool t) u v=some (cond t u v):=by cases t<;>rfl
def ciV (k:IntKind) (v:V):Option V:=match v with
 | .int _ n=>some (.int k (fw k n))
 | _=>none
@[simp] theorem ciV_int {k l:IntKind}{n:Int}:ciV k (.int l n)=some (.int k (fw k n)):=(rfl)
def qoF (off:Nat) (v:V):Option V:=match v with
 | .ptr i r o=>some (.ptr i r (o+off))
 | .ptrR r o=>some (.ptrR r (o+off))
 | _=>none
@[simp] theorem qs0 {off i r o:Nat}:qoF off (.ptr i r o)=some (.ptr i r (o+off)):=(rfl)
@[simp] theorem qsf {off o:Nat}{r:List V}:qoF off (.ptrR r o)=some (.ptrR r (o+off)):=(rfl)
def fldV (off:Nat) (n:Option Nat) (v:V):Option V:=match v with
 | .agg cs=>qca cs off n
 | _=>none
@[simp] theorem fldV_agg {off:Nat}{n:Option Nat}{cs:List V}:fldV off n (.agg cs)=qca cs off n:=(rfl)
def qaw (esz:Nat) (v i:V):Option V:=match v with
 | .sl id lo len e _=>cond (Nat.beq e esz) (match idx i len with
  | some j=>some (.ptr id (lo+j) 0)
  | none=>none) none
 | .slR rows _=>(match idx i rows.length with
  | some j=>(match nthR j rows with
   | some r=>cond (Nat.beq r.length esz) (some (.ptrR r 0)) none
   | none=>none)
  | none=>none)
 | _=>none
def qez (len esz:Nat) (v i:V):Option V:=match idx i len with
 | some j=>(match v with
  | .ptr id r o=>some (.ptr id r (o+j * esz))
  | .ptrR r o=>some (.ptrR r (o+j * esz))
  | _=>none)
 | none=>none
def qfF (len esz:Nat) (ag:Bool) (v i:V):Option V:=match v with
 | .agg cs=>(match idx i len with
  | some j=>qca cs (j * esz) (cond ag (some esz) none)
  | none=>none)
 | _=>none
def qp3 (v i:V):Option V:=match v with
 | .str s=>(match idx i s.length with
  | some j=>(match s[j]? with
   | some c=>some (.int .u8 (.ofNat c.toNat))
   | none=>none)
  | none=>none)
 | _=>none
def extV (i:Nat) (v:V):Option V:=match v with
 | .tup vs=>nth i vs
 | _=>none
@[simp] theorem extV_tup {i:Nat}{vs:List V}:extV i (.tup vs)=nth i vs:=(rfl)
def asrtV (t:Nat) (ok:Bool) (zero v:V):Option V:=match v with
 | .iface u v=>cond (Nat.beq t u) (some (cond ok (.tup [v,.bool true]) v)) (cond ok (some (.tup [zero,.bool false])) none)
 | .nili=>cond ok (some (.tup [zero,.bool false])) none
 | _=>none
@[simp] theorem qsw {t u:Nat}{ok:Bool}{zero v:V}:asrtV t ok zero (.iface u v)=cond (Nat.beq t u) (some (cond ok (.tup [v,.bool true]) v)) (cond ok (some (.tup [zero,.bool false])) none):=(rfl)
def eqoV (neg:Bool) (o:Option Bool):Option V:=match o with
 | some b=>some (.bool (neg != b))
 | none=>none
@[simp] theorem eqoV_some {neg b:Bool}:eqoV neg (some b)=some (.bool (neg != b)):=(rfl)
def qqY (o:Option (List V)):Option V:=match o with
 | some l=>some (.agg l)
 | none=>none
@[simp] theorem qsq {l:List V}:qqY (some l)=some (.agg l):=(rfl)
def minV (v:V) (tm:Tm) (xs:List Opd):Option V:=match v with
 | .int k n=>qbS k tm n xs
 | _=>none
@[simp] theorem minV_int {k:IntKind}{n:Int}{xs:List Opd}:minV (.int k n) tm xs=qbS k tm n xs:=(rfl)
def maxV (v:V) (tm:Tm) (xs:List Opd):Option V:=match v with
 | .int k n=>qco k tm n xs
 | _=>none
@[simp] theorem maxV_int {k:IntKind}{n:Int}{xs:List Opd}:maxV (.int k n) tm xs=qco k tm n xs:=(rfl)
@[simp] theorem qsS {k:IntKind}{n:Int}:qbS k tm n []=some (.int k n):=(rfl)
@[simp] theorem qsT {k:IntKind}{n:Int}:qco k tm n []=some (.int k n):=(rfl)
def qol (v:V):Option Int:=match v with
 | .int _ n=>some n
 | _=>none
@[simp] theorem intOf_int {k:IntKind}{n:Int}:qol (.int k n)=some n:=(rfl)
theorem qer {k:IntKind}{n m:Int}{y:Opd}{r:List Opd}(h:qol (y.ev tm)=some m):qbS k tm n (y::r)=qbS k tm (min m n) r:=by
 show (match y.ev tm with|.int _ m=>qbS k tm (cond (ltB m n) m n) r|_=>none)=_;split
 ·rename_i e; rw [e] at h; cases h;rw [qqe]
 ·rename_i h1; exfalso; revert h h1; cases (y.ev tm)<;>simp [qol]
theorem qkw {k:IntKind}{n m:Int}{y:Opd}{r:List Opd}(h:qol (y.ev tm)=some m):qco k tm n (y::r)=qco k tm (max n m) r:=by
 show (match y.ev tm with|.int _ m=>qco k tm (cond (ltB n m) m n) r|_=>none)=_;split
 ·rename_i e; rw [e] at h; cases h;rw [qqf]
 ·rename_i h1; exfalso; revert h h1; cases (y.ev tm)<;>simp [qol]
@[simp] theorem P_mov:(qas (.mov x)).run tm=some (x.ev tm):=(rfl)
@[simp] theorem P_pick {b:Opd}:(qas (.pick c a b)).run tm=pickV (c.ev tm) (a.ev tm) (b.ev tm):=(rfl)
@[simp] theorem P_build {z:List V}{ps:List (Nat × Nat × Opd)}:(qas (.build z ps)).run tm=qqY (qbI z tm ps):=(rfl)
@[simp] theorem P_nilc:(qas (.nilc x)).run tm=qcT (x.ev tm):=(rfl)
@[simp] theorem P_bin {op:BinOp}:(qas (.bin op x y)).run tm=(binK op).run (x.ev tm) (y.ev tm):=(rfl)
@[simp] theorem P_eqo {neg:Bool}{k:EqK}:(qas (.eqo neg k x y)).run tm=eqoV neg (eqv k (x.ev tm) (y.ev tm)):=(rfl)
@[simp] theorem P_un {op:UnOp}:(qas (.un op x)).run tm=unV op (x.ev tm):=(rfl)
@[simp] theorem P_ci {k:IntKind}:(qas (.ci k x)).run tm=ciV k (x.ev tm):=(rfl)
@[simp] theorem P_mki {t:Nat}:(qas (.mki t x)).run tm=some (.iface t (x.ev tm)):=(rfl)
@[simp] theorem P_asrt {t:Nat}{ok:Bool}{z:V}:(qas (.asrt t ok z x)).run tm=asrtV t ok z (x.ev tm):=(rfl)
@[simp] theorem P_mkf {f:Nat}{p q:List Opd}:(qas (.mkf f p q)).run tm=some (.fn f ((qcE p).run tm) ((qcE q).run tm)):=(rfl)
@[simp] theorem P_slice {esz:Nat}{lo hi mx:Option Opd}:(qas (.slice esz x lo hi mx)).run tm=qaT esz (cutK lo hi mx) tm (x.ev tm):=(rfl)
@[simp] theorem P_faddr {off:Nat}:(qas (.faddr off a)).run tm=qoF off (a.ev tm):=(rfl)
@[simp] theorem P_fld {off:Nat}{n:Option Nat}:(qas (.fld off n x)).run tm=fldV off n (x.ev tm):=(rfl)
@[simp] theorem P_iaddr {esz:Nat}:(qas (.iaddr esz x i)).run tm=qaw esz (x.ev tm) (i.ev tm):=(rfl)
@[simp] theorem P_iaddrA {len esz:Nat}:(qas (.iaddrA len esz x i)).run tm=qez len esz (x.ev tm) (i.ev tm):=(rfl)
@[simp] theorem P_idxA {len esz:Nat}{ag:Bool}:(qas (.idxA len esz ag x i)).run tm=qfF len esz ag (x.ev tm) (i.ev tm):=(rfl)
@[simp] theorem P_idxS:(qas (.idxS x i)).run tm=qp3 (x.ev tm) (i.ev tm):=(rfl)
@[simp] theorem P_ext {j:Nat}:(qas (.ext j x)).run tm=extV j (x.ev tm):=(rfl)
@[simp] theorem P_min {xs:List Opd}:(qas (.min x xs)).run tm=minV (x.ev tm) tm xs:=(rfl)
@[simp] theorem P_max {xs:List Opd}:(qas (.max x xs)).run tm=maxV (x.ev tm) tm xs:=(rfl)
def qcp (n:Option Nat) (v:V) (h:Heap):Option V:=match v with
 | .ptr i r o=>(match h.get i with
  | some (.rows rs)=>(match nthR r rs with
   | some row=>qca row o n
   | none=>none)
  | _=>none)
 | .ptrR row o=>qca row o n
 | _=>none
@[simp] theorem qsU {n:Option Nat}{row:List V}{o:Nat}:qcp n (.ptrR row o) h=qca row o n:=(rfl)
def rowN (n:Option Nat) (o:Nat) (x:Option (List V)):Option V:=match x with
 | some row=>qca row o n
 | none=>none
@[simp] theorem rowN_some {n:Option Nat}{o:Nat}{row:List V}:rowN n o (some row)=qca row o n:=(rfl)
def loadAt (n:Option Nat) (r o:Nat) (x:Option Obj):Option V:=match x with
 | some (.rows rs)=>rowN n o rs[r]?
 | _=>none
@[simp] theorem qcq {n:Option Nat}{r o:Nat}{rs:List (List V)}:loadAt n r o (some (.rows rs))=rowN n o rs[r]?:=(rfl)
@[simp] theorem qdL {n:Option Nat}{i r o:Nat}:qcp n (.ptr i r o) h=loadAt n r o (h.get i):=by
 simp only [qcp];cases h.get i with
 | none=>rfl
 | some x=>cases x with
  | rows rs=>simp only [loadAt,qcS]; rfl
  | _=>rfl
def lenV (k:LK) (v:V) (h:Heap):Option V:=match k with
 | .str=>(match v with
  | .str s=>some (.int .i64 (.ofNat s.length))
  | _=>none)
 | .sl=>(match v with
  | .nils=>some (.int .i64 0)
  | .sl _ _ n _ _=>some (.int .i64 (.ofNat n))
  | .slR r _=>some (.int .i64 (.ofNat r.length))
  | _=>none)
 | .map=>(match v with
  | .nilm=>some (.int .i64 0)
  | .map i=>(match h.get i with
   | some (.map es _)=>some (.int .i64 (.ofNat es.length))
   | _=>none)
  | _=>none)
@[simp] theorem lenV_nils:lenV .sl .nils h=some (.int .i64 0):=(rfl)
@[simp] theorem lenV_sl {id lo n e:Nat}{f:Bool}:lenV .sl (.sl id lo n e f) h=some (.int .i64 n):=(rfl)
@[simp] theorem lenV_slR {rs:List (List V)}{f:Bool}:lenV .sl (.slR rs f) h=some (.int .i64 rs.length):=(rfl)
@[simp] theorem lenV_str {s:List UInt8}:lenV .str (.str s) h=some (.int .i64 s.length):=(rfl)
def qmG (kn:KK) (zero:V) (ok:Bool) (m k:V) (h:Heap):Option V:=cond (qbX kn k) (match m with
  | .nilm=>some (cond ok (.tup [zero,.bool false]) zero)
  | .map i=>(match h.get i with
   | some (.map es _)=>(match qcz k es 0 with
    | some (some r)=>some (cond ok (.tup [r.2,.bool true]) r.2)
    | some none=>some (cond ok (.tup [zero,.bool false]) zero)
    | none=>none)
   | _=>none)
  | _=>none) none
@[simp] theorem R_load {n:Option Nat}:(qbc (.load n a)).run tm h=qcp n (a.ev tm) h:=(rfl)
@[simp] theorem R_len {k:LK}:(qbc (.len k x)).run tm h=lenV k (x.ev tm) h:=(rfl)
@[simp] theorem R_lookup {kn:KK}{z:V}{ok:Bool}{m k:Opd}:(qbc (.lookup kn z ok m k)).run tm h=qmG kn z ok (m.ev tm) (k.ev tm) h:=(rfl)
end
section
variable {tm:Tm}
@[simp] def boxM (n:Nat) (vs:List V):Option Made:=cond (decide (vs.length=n)&&decide (0<n)) (some (.obj (.rows [vs]) λi=>.ptr i 0 0)) none
@[simp] theorem A_alloc {cells:List V}:(qbK (.alloc cells)).run tm=some (.obj (.rows [cells]) λi=>.ptr i 0 0):=(rfl)
@[simp] theorem A_box {n:Nat}{x:Opd}:(qbK (.box n x)).run tm=boxM n (x.ev tm).cells:=by simp [qbK,boxM]
@[simp] theorem A_mkm:(qbK .mkm).run tm=some (.obj (.map [] 0) .map):=(rfl)
@[simp] theorem A_bslice {ro:Bool}{zero:List V}{len:Nat}{ps:List (Nat × Opd)}:(qbK (.bslice ro zero len ps)).run tm=(match qaV zero.length (List.replicate len zero) tm ps with
  | some rows=>cond ro (some (.val (.slR rows true))) (some (.obj (.rows rows) λi=>.sl i 0 len zero.length true))
  | none=>none):=(rfl)
end
section
variable {tm:Tm}{h:Heap}{mk:Nat}{a x:Opd}
def qim (mk n i r o:Nat) (vs:List V) (h:Heap) (rs:List (List V)) (row:Option (List V)):Option VH:=match row with
 | some row=>cond (decide (mk<=i)&&decide (vs.length=n)&&decide (0<n)&&decide (o+n<=row.length)&&ones vs) (some ⟨.any,h.set i (.rows (rs.set r (qbW row o vs)))⟩) none
 | none=>none
@[simp] theorem qpc {n i r o:Nat}{vs:List V}{rs:List (List V)}{row:List V}:qim mk n i r o vs h rs (some row)=cond (decide (mk<=i)&&decide (vs.length=n)&&decide (0<n)&&decide (o+n<=row.length)&&ones vs) (some ⟨.any,h.set i (.rows (rs.set r (qbW row o vs)))⟩) none:=(rfl)
def storeAt (mk n i r o:Nat) (vs:List V) (h:Heap) (ob:Option Obj):Option VH:=match ob with
 | some (.rows rs)=>qim mk n i r o vs h rs rs[r]?
 | _=>none
@[simp] theorem qqH {n i r o:Nat}{vs:List V}{rs:List (List V)}:storeAt mk n i r o vs h (some (.rows rs))=qim mk n i r o vs h rs rs[r]?:=(rfl)
def qqG (mk n:Nat) (a:V) (vs:List V) (h:Heap):Option VH:=match a with
 | .ptr i r o=>storeAt mk n i r o vs h (h.get i)
 | _=>none
@[simp] theorem qmc {n i r o:Nat}{vs:List V}:qqG mk n (.ptr i r o) vs h=storeAt mk n i r o vs h (h.get i):=(rfl)
@[simp] theorem W_store {n:Nat}:(qay (.store n a x)).run mk tm h=qqG mk n (a.ev tm) (x.ev tm).cells h:=by
 simp only [qay];cases a.ev tm with
 | ptr i r o =>
  simp only [qmc];cases h.get i with
  | none=>rfl
  | some ob=>cases ob with
   | rows rs =>
    simp only [storeAt,qcS,qss,qa3,qkY];cases rs[r]?<;>rfl
   | _=>rfl
 | _=>rfl
@[simp] theorem ones_nil:ones []=true:=(rfl)
@[simp] theorem ones_cons {v:V}{l:List V}:ones (v::l)=(v.one&&ones l):=(rfl)
@[simp] theorem one_int {k:IntKind}{n:Int}:(V.int k n).one=true:=(rfl)
@[simp] theorem one_bool {b:Bool}:(V.bool b).one=true:=(rfl)
@[simp] theorem one_str {b:List UInt8}:(V.str b).one=true:=(rfl)
@[simp] theorem one_nils:V.nils.one=true:=(rfl)
@[simp] theorem one_sl {id lo n e:Nat}{f:Bool}:(V.sl id lo n e f).one=true:=(rfl)
@[simp] theorem one_slR {rs:List (List V)}{f:Bool}:(V.slR rs f).one=true:=(rfl)
@[simp] theorem one_ptr {i r o:Nat}:(V.ptr i r o).one=true:=(rfl)
@[simp] theorem one_map {i:Nat}:(V.map i).one=true:=(rfl)
@[simp] theorem one_fn {f:Nat}{p q:List V}:(V.fn f p q).one=true:=(rfl)
@[simp] theorem one_yld {i:Nat}:(V.yld i).one=true:=(rfl)
@[simp] theorem one_nilf:V.nilf.one=true:=(rfl)
end
@[simp] theorem nth_zero {v:V}{l:List V}:nth 0 (v::l)=some v:=(rfl)
@[simp] theorem nth_succ {i:Nat}{v:V}{l:List V}:nth (i+1) (v::l)=nth i l:=(rfl)
@[simp] theorem qsW {row:List V}{o:Nat}:qca row o none=nth o row:=(rfl)
@[simp] theorem qsV {row:List V}{o n:Nat}:qca row o (some n)=cond (decide (o+n<=row.length)) (some (.agg ((row.drop o).take n))) none:=by
 simp [qca]
@[simp] theorem qse {cells:List V}{tm:Tm}:qbI cells tm []=some cells:=(rfl)
@[simp] theorem qqX {cells:List V}{tm:Tm}{off size:Nat}{x:Opd}{r:List (Nat × Nat × Opd)}:qbI cells tm ((off,size,x)::r)=cond (decide ((x.ev tm).cells.length=size)&&decide (0<size)&&decide (off+size<=cells.length)) (qbI (qbW cells off (x.ev tm).cells) tm r) none:=by simp [qbI]
@[simp] theorem cells_agg {cs:List V}:(V.agg cs).cells=cs:=(rfl)
@[simp] theorem cells_int {k:IntKind}{n:Int}:(V.int k n).cells=[.int k n]:=(rfl)
@[simp] theorem qs2 {b:Bool}:(V.bool b).cells=[.bool b]:=(rfl)
@[simp] theorem cells_str {s:List UInt8}:(V.str s).cells=[.str s]:=(rfl)
@[simp] theorem qs1:V.nils.cells=[.nils]:=(rfl)
@[simp] theorem cells_sl {id lo n e:Nat}{f:Bool}:(V.sl id lo n e f).cells=[.sl id lo n e f]:=(rfl)
@[simp] theorem cells_slR {rs:List (List V)}{f:Bool}:(V.slR rs f).cells=[.slR rs f]:=(rfl)
@[simp] theorem cells_ptr {i r o:Nat}:(V.ptr i r o).cells=[.ptr i r o]:=(rfl)
@[simp] theorem cells_map {i:Nat}:(V.map i).cells=[.map i]:=(rfl)
@[simp] theorem cells_fn {f:Nat}{a b:List V}:(V.fn f a b).cells=[.fn f a b]:=(rfl)
@[simp] theorem cells_yld {i:Nat}:(V.yld i).cells=[.yld i]:=(rfl)
@[simp] theorem qsn {t:Nat}{v:V}:(V.iface t v).cells=[.iface t v]:=(rfl)
@[simp] theorem putAt_nil {row:List V}{o:Nat}:qbW row o []=row:=by cases row<;>rfl
@[simp] theorem qsQ {row:List V}{o:Nat}{v:V}{vs:List V}:qbW row o (v::vs)=qbW (row.set o v) (o+1) vs:=by cases row<;>rfl
def qpi (o:Option V) (w:V):Bool:=match o with
 | some v=>V.beq v w
 | none=>false
@[simp] theorem qsL {v w:V}:qpi (some v) w=V.beq v w:=(rfl)
def qgg (i:Option Ins) (h:Option Heap) (tm:Tm):Bool:=match i,h with
 | some i,some h =>
  match i.op,i.dst with
  | .r o,some d =>
   let same:=match (qbc o).run tm h with
    | some v=>V.beq v ((gK d).run tm)
    | none=>false
   (match i.guard with
   | none=>same
   | some g=>match (gK g.1).run tm with
    | .bool c=>cond (c == g.2) same true
    | .tup []=>true
    | _=>false)
  | _,_=>false
 | _,_=>false
@[simp] theorem qsN {l:List Ins}{tm:Tm}{hs:List Heap}{c:Nat × Nat}:recheck l tm hs c=qgg l[c.1]? hs[c.2]? tm:=(rfl)
@[simp] theorem qsO {d:Nat}{o:RdO}{h:Heap}{tm:Tm}:qgg (some (Pr.i d (.r o))) (some h) tm=qpi ((qbc o).run tm h) ((gK d).run tm):=(rfl)
attribute [simp] V.beq_refl
section
variable {l:List Ins}{tm:Tm}{hs:List Heap}{c:Nat × Nat}{chk:List (Nat × Nat)}
@[simp] theorem reAll_nil:qA4 AP mk [] l tm hs=True:=by simp [qA4]
@[simp] theorem qBo:qA4 AP mk (c::chk) l tm hs=(reP AP mk l tm hs c/\qA4 AP mk chk l tm hs):=by simp [qA4]
theorem qBj {f d:Nat}{args:List Opd}{h:Heap}(hl:l[c.1]?=some (Pr.i d (.callP f args))) (hh:hs[c.2]?=some h) (h1:One AP mk f ((qcE args).run tm) h ((gK d).run tm)):reP AP mk l tm hs c:=by
 unfold reP; rw [hl,hh]; exact h1
theorem qA6 {d:Nat}{o:RdO}{h:Heap}{v:V}(hl:l[c.1]?=some (Pr.i d (.r o))) (hh:hs[c.2]?=some h) (h1:(qbc o).run tm h=some v) (h2:(gK d).run tm=v):reP AP mk l tm hs c:=by
 unfold reP; rw [hl,hh]; show recheck l tm hs c=true; rw [qsN,hl,hh,qsO,h1,h2]; exact V.beq_refl v
end
section
variable {tm:Tm}{h:Heap}{mk:Nat}
@[simp] theorem qrG:results tm h []=some (.tup []):=(rfl)
@[simp] theorem qrF {t:Nat}:results tm h [.tm t]=some ((gK t).run tm):=(rfl)
@[simp] theorem qrE {t s:Nat}:results tm h [.tm t,.tm s]=some (.tup [(gK t).run tm,(gK s).run tm]):=(rfl)
@[simp] theorem qpu {t s u:Nat}:results tm h [.tm t,.tm s,.tm u]=some (.tup [(gK t).run tm,(gK s).run tm,(gK u).run tm]):=(rfl)
@[simp] theorem qsb {b:Bool}:freeze mk h qat (.bool b)=some (.bool b):=(rfl)
@[simp] theorem qsZ {k:IntKind}{n:Int}:freeze mk h qat (.int k n)=some (.int k n):=(rfl)
@[simp] theorem qsY {s:List UInt8}:freeze mk h qat (.str s)=some (.str s):=(rfl)
@[simp] theorem qr8:freeze mk h qat .nils=some .nils:=(rfl)
@[simp] theorem qr7:freeze mk h qat (.tup [])=some (.tup []):=(rfl)
@[simp] theorem qsa {k l:IntKind}{n m:Int}:freeze mk h qat (.tup [.int k n,.int l m])=some (.tup [.int k n,.int l m]):=(rfl)
@[simp] theorem qr9 {k:IntKind}{n:Int}{b:Bool}:freeze mk h qat (.tup [.int k n,.bool b])=some (.tup [.int k n,.bool b]):=(rfl)
end
def lat {α : Type} [Inhabited α] (l:List α) (i:Nat) : α:=l[i]!
inductive Sl (α : Type) where
 | nil
 | of (l:List α)
 | full (l:List α)
def Sl.l {α : Type}:Sl α->List α
 | .nil=>[]
 | .of l=>l
 | .full l=>l
def Sl.enc {α : Type}(f : α->List V):Sl α->V
 | .nil=>.nils
 | .of l=>.slR (l.map f) false
 | .full l=>.slR (l.map f) true
instance {α : Type}:Inhabited (Sl α):=⟨.nil⟩
structure Rg where
 lo:Int
 hi:Int
instance:Inhabited Rg:=⟨0,0⟩
def Rg.cells (r:Rg):List V:=[.int .i64 r.lo,.int .i64 r.hi]
structure Sy where
 kind:Int
 r:Sl Rg
 n:Int
instance:Inhabited Sy:=⟨0,.nil,0⟩
def Sy.cells (s:Sy):List V:=[.int .i64 s.kind,s.r.enc Rg.cells,.int .i64 s.n]
structure Pd where
 a:Sl (Sl Sy)
 marks:Int
 no:Sl Rg
instance:Inhabited Pd:=⟨.nil,0,.nil⟩
def qaK (l:Sl Sy):List V:=[l.enc Sy.cells]
def Pd.cells (p:Pd):List V:=[p.a.enc qaK,.int .i64 p.marks,p.no.enc Rg.cells]
structure Gr where
 p:Sl Pd
 keys:Sl (List UInt8)
def qac (s:List UInt8):List V:=[.str s]
def Gr.cells (g:Gr):List V:=[g.p.enc Pd.cells,g.keys.enc qac]
def qak (c:UInt8):List V:=[.int .u8 c.toNat]
def qaM (n:Int):List V:=[.int .i64 n]
@[simp] theorem len_Rg {r:Rg}:r.cells.length=2:=(rfl)
@[simp] theorem len_Sy {r:Sy}:r.cells.length=3:=(rfl)
@[simp] theorem len_alt {r:Sl Sy}:(qaK r).length=1:=(rfl)
@[simp] theorem len_Pd {r:Pd}:r.cells.length=3:=(rfl)
@[simp] theorem len_Gr {r:Gr}:r.cells.length=2:=(rfl)
@[simp] theorem len_byte {r:UInt8}:(qak r).length=1:=(rfl)
@[simp] theorem len_int {r:Int}:(qaM r).length=1:=(rfl)
@[simp] theorem cells_enc {α : Type}{f : α->List V}{s:Sl α}:(s.enc f).cells=[s.enc f]:=by cases s<;>rfl
@[simp] theorem qtx {α : Type}{f : α->List V}{s:Sl α}:(s.enc f).one=true:=by cases s<;>rfl
@[simp] theorem l_nil {α : Type}:(Sl.nil:Sl α).l=[]:=(rfl)
@[simp] theorem l_of {α : Type}{l:List α}:(Sl.of l).l=l:=(rfl)
@[simp] theorem qlE {α : Type}{l:List α}:(Sl.full l).l=l:=(rfl)
@[simp] theorem lenV_enc {α : Type}{f : α->List V}{s:Sl α}{h:Heap}:lenV .sl (s.enc f) h=some (.int .i64 s.l.length):=by
 cases s<;>simp [Sl.enc]
theorem qap {α : Type} [Inhabited α] {f : α->List V}{s:Sl α}{k:IntKind}{n:Int}{esz:Nat}(h0:0<=n) (h1:n<s.l.length) (he:∀a,(f a).length=esz) :
  qaw esz (s.enc f) (.int k n)=some (.ptrR (f (lat s.l n.toNat)) 0):=by
 cases s with
 | nil=>simp at h1; omega
 | of l =>
  simp only [l_of] at h1;have h2:n.toNat<l.length:=by omega
  have h3:idx (.int k n) l.length=some n.toNat:=qey h0 h1;simp only [Sl.enc,qaw,List.length_map,h3,qcS,List.getElem?_map,l_of];rw [Jal h2];simp [he,lat,getElem!_pos,h2]
 | full l =>
  simp only [qlE] at h1;have h2:n.toNat<l.length:=by omega
  have h3:idx (.int k n) l.length=some n.toNat:=qey h0 h1;simp only [Sl.enc,qaw,List.length_map,h3,qcS,List.getElem?_map,qlE];rw [Jal h2];simp [he,lat,getElem!_pos,h2]
@[simp] theorem rows_enc {α : Type}{f : α->List V}{s:Sl α}{h:Heap}:qal h (s.enc f)=some (s.l.map f):=by
 cases s<;>simp [Sl.enc,qal]
section
variable {k:IntKind}{n:Int}
@[simp] theorem qe7 {s:Sl Rg}(h0:0<=n) (h1:n<s.l.length):qaw 2 (s.enc Rg.cells) (.int k n)=some (.ptrR (lat s.l n.toNat).cells 0):=qap h0 h1 λ_=>rfl
@[simp] theorem qz7 {s:Sl Sy}(h0:0<=n) (h1:n<s.l.length):qaw 3 (s.enc Sy.cells) (.int k n)=some (.ptrR (lat s.l n.toNat).cells 0):=qap h0 h1 λ_=>rfl
@[simp] theorem qoq {s:Sl (Sl Sy)}(h0:0<=n) (h1:n<s.l.length):qaw 1 (s.enc qaK) (.int k n)=some (.ptrR (qaK (lat s.l n.toNat)) 0):=qap h0 h1 λ_=>rfl
@[simp] theorem qbg {s:Sl Pd}(h0:0<=n) (h1:n<s.l.length):qaw 3 (s.enc Pd.cells) (.int k n)=some (.ptrR (lat s.l n.toNat).cells 0):=qap h0 h1 λ_=>rfl
@[simp] theorem qmM {s:Sl UInt8}(h0:0<=n) (h1:n<s.l.length):qaw 1 (s.enc qak) (.int k n)=some (.ptrR (qak (lat s.l n.toNat)) 0):=qap h0 h1 λ_=>rfl
@[simp] theorem qe6 {s:Sl Int}(h0:0<=n) (h1:n<s.l.length):qaw 1 (s.enc qaM) (.int k n)=some (.ptrR (qaM (lat s.l n.toNat)) 0):=qap h0 h1 λ_=>rfl
end
theorem qai {α : Type} [Inhabited α] {l:List α}{i:Nat}(h:i<l.length):lat l i∈l:=by
 unfold lat; rw [getElem!_pos l i h]; exact List.getElem_mem h
theorem qBu {α : Type} [Inhabited α] {l:List α}{i:Nat}(h:i<l.length):lat l i=l[i]:=by
 unfold lat; rw [getElem!_pos l i h]
theorem qaz {α : Type} [Inhabited α] {l:List α}{i:Nat}(h:i<l.length):l[i]?=some (lat l i):=by
 rw [qBu h,Jal h]
def IsI (v:V):Prop:=∃n,v=.int .i64 n
@[simp] theorem isI_int {n:Int}:IsI (.int .i64 n):=⟨n,rfl⟩
end Go.Abs

namespace Go.Abs.Pr
open Go Go.Abs
def b4:IC :=(sq [bx 2 5 0,bf 4] (sq [ca 13 5 [],mv 5 13] (sq [lg 14 5 2,ca 15 6 [.t 14],mv 6 15] (sq [fa 16 0 2,lg 17 2 16,fa 18 2 2,ld 19 18,i 20 (.p (.build [.nils,.nils,.nils,.int .i64 0,.bool false] [(0,2,(.t 17)),(2,1,(.t 19)),(3,1,(.c (.int .i64 1)))])),ca 21 8 [.t 20],mv 7 21] (.seq (sq [mv 22 5,nt 23 22,mv 24 23,eM 25 24 6,eX 26 24 25,oP 27 24 26,mv 28 27,eM 29 28 7,eX 30 28 29,oP 31 28 30] (cd 31 (sq [mv 32 5,mv 4 32] .ret) .skip)) (sq [fa 33 0 2,lg 34 2 33,i 8 (.a (.alloc [.nils,.nils]) none),sT 2 8 34] (sq [fa 35 0 2,fa 36 0 35,ld 37 36,i 38 (.w (.append 3 56 (.c .nils) (.t 37))),fa 39 0 8,sT 1 39 38] (.seq (sq [ki 9 0] (.block 0 (.loop (.seq (sq [mv 40 9,fa 41 0 8,ld 42 41,ln 43 42,b2 44 .lss 40 43] (cd 44 .skip (.exit 0))) (.seq (.block 1 (sq [fa 47 0 8,ld 48 47,mv 49 9,ia 50 3 48 49,fa 51 1 50,n (.w (.store 1 (.t 51) (.c (.int .i64 0))))] (.ops [fa 52 0 8,ld 53 52,mv 54 9,ia 55 3 53 54,fa 56 2 55,n (.w (.store 1 (.t 56) (.c .nils)))]))) (.ops [mv 45 9,bk 46 .add 45 1,mv 9 46])))))) (sq [fa 57 0 2,lg 58 2 57,fa 59 2 2,ld 60 59,mv 61 1,ca 62 9 [.t 58,.t 60,.t 61],mv 10 62] (sq [i 63 (.fz (.ldF 2 (.t 8) 0)),fa 64 2 2,ld 65 64,mv 66 1,ca 67 9 [.t 63,.t 65,.t 66],mv 11 67] (.seq (sq [mv 68 10,ln 69 68,mv 70 11,ln 71 70,b2 72 .neq 69 71] (cd 72 (sq [bf 4] .ret) .skip)) (.seq (sq [ki 12 0] (.block 2 (.loop (.seq (sq [mv 73 12,mv 74 10,ln 75 74,b2 76 .lss 73 75] (cd 76 .skip (.exit 2))) (.seq (.block 3 (.seq (.dops 0 [] [mv 79 10,mv 80 12,ia 81 1 79 80,ld 82 81,mv 83 11,mv 84 12,ia 85 1 83 84,ld 86 85,b2 87 .neq 82 86,mv 88 87,eM 89 88 12,eC 90 88 .gtr 89 0,eM 91 88 90,gM 92 91 10,gM 93 91 12,gI 94 91 1 92 93,gL 95 91 94,gM 96 91 10,gM 97 91 12,gC 98 91 .sub 97 1,gI 99 91 1 96 98,gL 100 91 99,gB 101 91 .leq 95 100,gf 102 88 (.p (.pick (.t 91) (.t 101) (.c (.bool false)))),oP 103 88 102]) (cd 103 (sq [bf 4] .ret) .skip))) (.ops [mv 77 12,bk 78 .add 77 1,mv 12 78])))))) (.seq (.dopc [(1,6),(3,6),(4,6),(7,5)] [fa 104 0 2,lg 105 2 104,fa 106 2 2,ld 107 106,i 108 (.callP 7 [.t 105,.t 107]),i 109 (.fz (.ldF 2 (.t 8) 0)),fa 110 2 2,ld 111 110,ca 112 7 [.t 109,.t 111],b2 113 .eql 108 112,mv 4 113]) .ret)))))))))))))
def f4:IFn:=⟨false,114,[.tm 4],b4⟩
def b5:IC :=(sq [bf 0] (sq [i 6 (.call (.dir 10) [(.c (.str [97,32,61,32,34,105,102,34,32,124,32,34,105,110,34,59]))] false),mv 5 6,ex 7 0 5,ex 8 1 5,ex 9 2 5,i 1 (.a (.alloc [.nils,.nils]) none),sT 2 1 7,mv 2 8,mv 3 9] (sq [lg 10 2 1,ca 11 9 [.t 10,(.c .nils),(.c (.int .i64 0))],i 12 (.a (.bslice false [.int .i64 0] 1 [(0,(.c (.int .i64 0)))]) none),ca 13 11 [.t 11,.t 12],mv 4 13] (sq [mv 14 4,mv 15 14,gG 16 15 2 1,gt 17 15 (.a (.bslice false [.int .u8 0] 2 [(0,(.c (.int .u8 105))),(1,(.c (.int .u8 120)))]) none),gt 18 15 (.w (.same (.t 17))),gt 19 15 (.call (.dir 7) [.t 16,.t 18] false),gC 20 15 .eql 19 1,aP 21 15 20,mv 22 21,gG 23 22 2 1,gt 24 22 (.a (.bslice false [.int .u8 0] 2 [(0,(.c (.int .u8 105))),(1,(.c (.int .u8 110)))]) none),gt 25 22 (.w (.same (.t 24))),gt 26 22 (.call (.dir 7) [.t 23,.t 25] false),gC 27 22 .eql 26 2,aP 28 22 27,mv 29 28,gG 30 29 2 1,gt 31 29 (.a (.bslice false [.int .u8 0] 2 [(0,(.c (.int .u8 120))),(1,(.c (.int .u8 120)))]) none),gt 32 29 (.w (.same (.t 31))),gt 33 29 (.call (.dir 7) [.t 30,.t 32] false),gC 34 29 .eql 33 0,aP 35 29 34,mv 0 35] .ret))))
def f5:IFn:=⟨true,36,[.tm 0],b5⟩
def b6:IC :=(sq [bx 1 5 0,bf 2] (sq [fa 4 0 1,lg 5 2 4,ca 6 12 [.t 5],mv 3 6] (sq [mv 7 3,mv 8 7,gF 9 8 0 1,gF 10 8 0 9,gL 11 8 10,gN 12 8 11,gC 13 8 .leq 12 16,aP 14 8 13,mv 15 14,gF 16 15 2 1,gL 17 15 16,gN 18 15 17,gC 19 15 .leq 18 16,aP 20 15 19,mv 2 20] .ret)))
def f6:IFn:=⟨true,21,[.tm 2],b6⟩
def b8:IC :=(sq [bx 1 5 0,bf 2] (sq [fa 6 0 1,lg 7 2 6,ca 8 14 [.t 7],mv 5 8,ex 9 0 5,ex 10 1 5,mv 3 9,mv 4 10] (sq [mv 11 4,bk 12 .eql 11 0,mv 13 12,gF 14 13 2 1,gL 15 13 14,gN 16 13 15,gC 17 13 .leq 16 200,aP 18 13 17,mv 19 18,gF 20 19 3 1,gL 21 19 20,gC 22 19 .geq 21 1,aP 23 19 22,mv 24 23,gF 25 24 3 1,gL 26 24 25,gC 27 24 .leq 26 16,aP 28 24 27,mv 2 28] .ret)))
def f8:IFn:=⟨true,29,[.tm 2],b8⟩
def b9:IC :=(sq [bx 3 2 0,ns 6] (sq [lg 10 2 3,mv 11 1,ca 12 13 [.t 10,.t 11],mv 7 12] (sq [ns 8] (.seq (sq [fa 13 0 3,ld 14 13,ln 15 14,ki 16 0] (.block 0 (.loop (sq [b2 17 .lss 16 15] (.seq (cd 17 .skip (.exit 0)) (.seq (.block 1 (sq [mv 18 16,mv 9 18] (sq [mv 19 7,nc 20 19,fa 21 4 20,ld 22 21,mv 23 9,mv 24 2,i 25 (.p (.build [.int .i64 0,.int .i64 0] [(0,1,(.t 23)),(1,1,(.t 24))])),i 26 (.r (.lookup (.agg [.int,.int]) (.bool false) false (.t 22) (.t 25)))] (cd 26 (.ops [mv 27 8,mv 28 9,i 29 (.a (.bslice true [.int .i64 0] 1 [(0,(.t 28))]) none),aD 30 1 8 27 29,mv 8 30]) .skip)))) (.ops [bk 31 .add 16 1,mv 16 31]))))))) (sq [mv 32 8,mv 6 32] .ret)))))
def f9:IFn:=⟨true,33,[.tm 6],b9⟩
def b7:IC :=(sq [bx 2 2 0,ki 4 0] (sq [lg 5 2 2,mv 6 1,ca 7 13 [.t 5,.t 6],nc 8 7,fa 9 5 8,ld 10 9,mv 4 10] .ret))
def f7:IFn:=⟨true,11,[.tm 4],b7⟩
def b10:IC :=(sq [i 2 (.a (.alloc [.nils,.nils]) none),ki 3 0,ki 4 0] (sq [mv 11 0,ca 12 15 [.t 11],mv 10 12,ex 13 0 10,ex 14 1 10,ex 15 2 10,i 5 (.a (.alloc [.nils,.nils]) none),sT 2 5 13,mv 6 14,mv 7 15] (.seq (sq [mv 16 7,bk 17 .neq 16 0] (cd 17 (sq [i 18 (.p (.build [.nils,.nils] [])),mv 19 6,mv 20 7,sT 2 2 18,mv 3 19,mv 4 20] .ret) .skip)) (sq [lg 22 2 5,ca 23 16 [.t 22],mv 21 23,ex 24 0 21,ex 25 1 21,ex 26 2 21,i 8 (.a (.alloc [.nils,.nils]) none),sT 2 8 24,mv 6 25,mv 7 26] (.seq (sq [mv 27 7,bk 28 .neq 27 0] (cd 28 (sq [i 29 (.p (.build [.nils,.nils] [])),mv 30 6,mv 31 7,sT 2 2 29,mv 3 30,mv 4 31] .ret) .skip)) (sq [lg 33 2 8,ca 34 17 [.t 33],mv 32 34,ex 35 0 32,ex 36 1 32,mv 9 35,mv 7 36] (.seq (.block 0 (sq [mv 38 7,bk 39 .eql 38 0,mv 37 39] (cd 37 (sq [lg 40 2 8,mv 41 0,lS 42 41,sT 2 2 40,mv 3 42,ki 4 0] .ret) (sq [mv 44 9,fa 45 1 5,ld 46 45,ln 47 46,b2 48 .lss 44 47,mv 43 48] (cd 43 (.seq (.dops 0 [(2,9),(6,9)] [i 49 (.p (.build [.nils,.nils] [])),fa 50 1 5,ld 51 50,mv 52 9,ia 53 9 51 52,fa 54 8 53,ld 55 54,mv 56 7,sT 2 2 49,mv 3 55,mv 4 56]) .ret) .skip))))) (sq [i 57 (.p (.build [.nils,.nils] [])),mv 58 7,sT 2 2 57,ki 3 0,mv 4 58] .ret))))))))
def f10:IFn:=⟨true,59,[.cell (some 2) 2,.tm 3,.tm 4],b10⟩
def b11:IC :=(sq [bf 4] (.seq (sq [mv 6 0,ln 7 6,mv 8 1,ln 9 8,b2 10 .neq 7 9] (cd 10 (sq [bf 4] .ret) .skip)) (.seq (sq [ki 5 0] (.block 0 (.loop (.seq (sq [mv 11 5,mv 12 0,ln 13 12,b2 14 .lss 11 13] (cd 14 .skip (.exit 0))) (.seq (.block 1 (.seq (.dops 0 [] [mv 17 0,mv 18 5,ia 19 1 17 18,ld 20 19,mv 21 1,mv 22 5,ia 23 1 21 22,ld 24 23,b2 25 .neq 20 24]) (cd 25 (sq [bf 4] .ret) .skip))) (.ops [mv 15 5,bk 16 .add 15 1,mv 5 16])))))) (sq [bt 4] .ret))))
def f11:IFn:=⟨false,26,[.tm 4],b11⟩
def b12:IC :=(sq [bx 1 2 0,bf 2] (.seq (sq [fa 7 0 1,ld 8 7,ln 9 8,bk 10 .gtr 9 62,mv 11 10,eF 12 11 1 1,eL 13 11 12,eN 14 11 13,eC 15 11 .gtr 14 12,oP 16 11 15] (cd 16 (sq [bf 2] .ret) .skip)) (sq [ki 3 0] (.seq (sq [ki 4 0] (.block 0 (.loop (.seq (sq [mv 17 4,fa 18 0 1,ld 19 18,ln 20 19,b2 21 .lss 17 20] (cd 21 .skip (.exit 0))) (.seq (.block 1 (.seq (sq [ki 5 0] (.block 2 (.loop (.seq (sq [mv 24 5,fa 25 0 1,ld 26 25,mv 27 4,ia 28 3 26 27,fa 29 0 28,ld 30 29,ln 31 30,b2 32 .lss 24 31] (cd 32 .skip (.exit 2))) (.seq (.block 3 (sq [mv 35 3,bk 36 .add 35 1,fa 37 0 1,ld 38 37,mv 39 4,ia 40 3 38 39,fa 41 0 40,ld 42 41,mv 43 5,ia 44 1 42 43,ld 45 44,ln 46 45,b2 47 .add 36 46,mv 3 47] (sq [ki 6 0] (.block 4 (.loop (.seq (sq [mv 48 6,fa 49 0 1,ld 50 49,mv 51 4,ia 52 3 50 51,fa 53 0 52,ld 54 53,mv 55 5,ia 56 1 54 55,ld 57 56,ln 58 57,b2 59 .lss 48 58,mv 60 59,gM 61 60 3,gC 62 60 .lss 61 1000,aP 63 60 62] (cd 63 .skip (.exit 4))) (.seq (.block 5 (.ops [mv 66 3,fa 67 0 1,ld 68 67,mv 69 4,ia 70 3 68 69,fa 71 0 70,ld 72 71,mv 73 5,ia 74 1 72 73,ld 75 74,mv 76 6,ia 77 3 75 76,fa 78 1 77,ld 79 78,ln 80 79,b2 81 .add 66 80,mv 3 81])) (.ops [mv 64 6,bk 65 .add 64 1,mv 6 65])))))))) (.ops [mv 33 5,bk 34 .add 33 1,mv 5 34])))))) (sq [mv 82 3,fa 83 0 1,ld 84 83,mv 85 4,ia 86 3 84 85,fa 87 2 86,ld 88 87,ln 89 88,b2 90 .add 82 89,mv 3 90] (sq [mv 91 3,bk 92 .geq 91 1000] (cd 92 (sq [bf 2] .ret) .skip))))) (.ops [mv 22 4,bk 23 .add 22 1,mv 4 23])))))) (sq [bt 2] .ret)))))
def f12:IFn:=⟨true,93,[.tm 2],b12⟩
def b14:IC :=(sq [bx 1 2 0,ki 2 0,ki 3 0] (sq [lg 6 2 1,ca 7 19 [.t 6],mv 4 7] (.seq (sq [mv 8 4,nt 9 8] (cd 9 (sq [ki 2 0,ki 3 1] .ret) .skip)) (sq [lg 10 2 1,ca 11 20 [.t 10],mv 5 11] (.seq (sq [mv 12 5,bk 13 .geq 12 0] (cd 13 (sq [mv 14 5,mv 2 14,ki 3 8] .ret) .skip)) (sq [lg 15 2 1,ca 16 21 [.t 15],mv 5 16] (.seq (sq [mv 17 5,bk 18 .geq 17 0] (cd 18 (sq [mv 19 5,mv 2 19,ki 3 9] .ret) .skip)) (sq [lg 20 2 1,ca 21 22 [.t 20],mv 5 21] (.seq (sq [mv 22 5,bk 23 .geq 22 0] (cd 23 (sq [mv 24 5,mv 2 24,ki 3 10] .ret) .skip)) (sq [lg 25 2 1,ca 26 23 [.t 25],mv 5 26] (.seq (sq [mv 27 5,bk 28 .geq 27 0] (cd 28 (sq [mv 29 5,mv 2 29,ki 3 11] .ret) .skip)) (sq [lg 30 2 1,ca 31 24 [.t 30],mv 5 31] (.seq (sq [mv 32 5,bk 33 .geq 32 0] (cd 33 (sq [mv 34 5,mv 2 34,ki 3 12] .ret) .skip)) (sq [ki 2 (-1),ki 3 0] .ret))))))))))))))
def f14:IFn:=⟨true,35,[.tm 2,.tm 3],b14⟩
def b13:IC :=(sq [bx 2 2 0,i 4 (.p (.mov (.c .nilp)))] (sq [lg 8 2 2,mv 9 1,i 10 (.a (.mkm) none),i 11 (.a (.mkm) none),i 12 (.p (.build [.nils,.nils,.nils,.nilm,.nilm,.int .i64 0] [(0,2,(.t 8)),(2,1,(.t 9)),(3,1,(.t 10)),(4,1,(.t 11)),(5,1,(.c (.int .i64 0)))])),bx 13 6 12,mv 5 13] (.seq (sq [lg 15 2 2,ca 16 17 [.t 15],mv 14 16,ex 17 0 14,ex 18 1 14,mv 6 17,mv 7 18] (sq [mv 19 7,bk 20 .eql 19 0,mv 21 20,gM 22 21 1,gN 23 21 22,gC 24 21 .leq 23 200,aP 25 21 24] (cd 25 (.ops [mv 26 5,i 27 (.p (.build [.int .i64 0,.int .i64 0] [])),ca 28 18 [.t 26,.t 27]]) .skip))) (sq [mv 29 5,mv 4 29] .ret))))
def f13:IFn:=⟨false,30,[.tm 4],b13⟩
def b15:IC :=(sq [i 2 (.a (.alloc [.nils,.nils]) none),i 3 (.a (.alloc [.int .i64 0]) none),i 4 (.a (.alloc [.int .i64 0]) none)] (sq [mv 8 0,ca 9 25 [.t 8],mv 7 9,ex 10 0 7,ex 11 1 7,ex 12 2 7,mv 5 10,sT 1 3 11,sT 1 4 12] (.seq (sq [ld 13 4,bk 14 .neq 13 0] (cd 14 (.seq (.dops 0 [(1,4),(2,4),(2,5)] [lg 15 2 2,ld 16 3,ld 17 4,sT 2 2 15,sT 1 3 16,sT 1 4 17]) .ret) .skip)) (sq [i 18 (.p (.mkf 26 [] [.t 2,.t 3,.t 4])),n (.defer (.t 18))] (sq [mv 19 5,mv 20 0,lS 21 20,i 22 (.p (.build [.nils,.int .i64 0,.int .i64 0] [(0,1,(.t 19)),(1,1,(.t 21))])),bx 23 3 22,mv 6 23] (sq [mv 24 6,ca 25 27 [.t 24],fa 26 0 2,sT 1 26 25] (.seq (.block 0 (.loop (.seq (sq [fa 27 1 2,ld 28 27,ln 29 28,bk 30 .eql 29 0,mv 31 30,eM 32 31 6,gf 33 31 (.p (.nilc (.t 32))),eF 34 31 0 33,eL 35 31 34,eN 36 31 35,eC 37 31 .gtr 36 0,oP 38 31 37] (cd 38 .skip (.exit 0))) (.block 1 (.dops 0 [(1,7)] [fa 39 1 2,ld 40 39,mv 41 6,fa 42 1 2,ld 43 42,ln 44 43,ca 45 28 [.t 41,.t 44],i 46 (.a (.bslice true [.str [],.int .i64 0,.int .i64 0,.str [],.nils,.nils,.int .i64 0,.nils,.int .i64 0] 1 [(0,(.t 45))]) none),aD 47 9 136 40 46,fa 48 1 2,sT 1 48 47]))))) (sq [lg 49 2 2,mv 50 0,lS 51 50,sT 2 2 49,sT 1 3 51,n (.w (.store 1 (.t 4) (.c (.int .i64 0))))] .ret))))))))
def f15:IFn:=⟨false,52,[.cell (some 2) 2,.cell none 3,.cell none 4],b15⟩
def b16:IC :=(sq [bx 1 2 0,i 2 (.a (.alloc [.nils,.nils]) none),ki 3 0,ki 4 0] (sq [i 12 (.a (.mkm) none),i 13 (.p (.build [.nilm,.nils,.nilp] [(0,1,(.t 12))])),bx 14 3 13,mv 5 14] (.seq (sq [fa 15 1 1,ld 16 15,ln 17 16,ki 18 0] (.block 0 (.loop (sq [b2 19 .lss 18 17] (.seq (cd 19 .skip (.exit 0)) (.seq (.block 1 (sq [mv 20 18,ia 21 9 16 18,lg 22 9 21,i 7 (.a (.alloc [.str [],.int .i64 0,.int .i64 0,.str [],.nils,.nils,.int .i64 0,.nils,.int .i64 0]) none),mv 6 20,sT 9 7 22] (.seq (.seq (.dops 0 [] [mv 24 5,nc 25 24,fa 26 0 25,ld 27 26,fa 28 0 7,ld 29 28,i 30 (.r (.lookup (.one .str) (.int .i64 0) true (.t 27) (.t 29))),mv 23 30,ex 31 0 23,ex 32 1 23,mv 8 31,mv 9 32]) (sq [mv 33 9] (cd 33 (.seq (.dops 0 [(2,4)] [i 34 (.p (.build [.nils,.nils] [])),fa 35 8 7,ld 36 35,sT 2 2 34,mv 3 36,ki 4 6]) .ret) .skip))) (.seq (.dops 0 [] [mv 37 5,nc 38 37,fa 39 0 38,ld 40 39,fa 41 0 7,ld 42 41,mv 43 6,n (.w (.mupd (.one .str) (.t 40) (.t 42) (.t 43)))]) (.dops 0 [(4,10),(6,10)] [mv 44 5,mv 45 5,nc 46 45,fa 47 1 46,ld 48 47,fa 49 1 7,ld 50 49,fa 51 7 7,ld 52 51,ca 53 29 [.t 52],i 54 (.p (.build [.nils,.int .i64 0,.nils] [(1,1,(.t 50)),(2,1,(.t 53))])),i 55 (.a (.bslice true [.nils,.int .i64 0,.nils] 1 [(0,(.t 54))]) none),aD 56 3 56 48 55,nc 57 44,fa 58 1 57,sT 1 58 56]))))) (.ops [bk 59 .add 18 1,mv 18 59]))))))) (.seq (sq [fa 60 1 1,ld 61 60,ln 62 61,bk 63 .eql 62 0,mv 64 63,eF 65 64 1 1,eL 66 64 65,eN 67 64 66,eC 68 64 .gtr 67 60,oP 69 64 68] (cd 69 (sq [i 70 (.p (.build [.nils,.nils] [])),sT 2 2 70,ki 3 0,ki 4 7] .ret) .skip)) (.seq (sq [fa 71 1 1,ld 72 71,ln 73 72,ki 74 0] (.block 2 (.loop (sq [b2 75 .lss 74 73] (.seq (cd 75 .skip (.exit 2)) (.seq (.block 3 (sq [mv 76 74,ia 77 9 72 74,lg 78 9 77,i 11 (.a (.alloc [.str [],.int .i64 0,.int .i64 0,.str [],.nils,.nils,.int .i64 0,.nils,.int .i64 0]) none),mv 10 76,sT 9 11 78] (sq [mv 79 5,nc 80 79,fa 81 2 80,ld 82 81,i 83 (.p (.eqo false .ptr (.t 82) (.c .nilp)))] (cd 83 (.ops [mv 84 5,mv 85 10,fa 86 2 11,lg 87 5 86,ca 88 30 [.t 84,.t 85,.t 87]]) .skip)))) (.ops [bk 89 .add 74 1,mv 74 89]))))))) (.seq (sq [mv 90 5,nc 91 90,fa 92 2 91,ld 93 92,i 94 (.p (.eqo true .ptr (.t 93) (.c .nilp)))] (cd 94 (.seq (.dops 0 [(4,16),(7,16),(11,16),(14,16)] [i 95 (.p (.build [.nils,.nils] [])),mv 96 5,nc 97 96,fa 98 2 97,ld 99 98,nc 100 99,fa 101 1 100,ld 102 101,mv 103 5,nc 104 103,fa 105 2 104,ld 106 105,nc 107 106,fa 108 0 107,ld 109 108,sT 2 2 95,mv 3 102,mv 4 109]) .ret) .skip)) (.seq (.dops 0 [(3,7)] [mv 110 5,nc 111 110,fa 112 1 111,ld 113 112,fa 114 0 1,ld 115 114,ca 116 31 [.t 115],i 117 (.p (.build [.nils,.nils] [(0,1,(.t 113)),(1,1,(.t 116))])),sT 2 2 117,ki 3 0,ki 4 0]) .ret)))))))
def f16:IFn:=⟨false,118,[.cell (some 2) 2,.tm 3,.tm 4],b16⟩
def b17:IC :=(sq [bx 1 2 0,i 2 (.a (.alloc [.int .i64 0]) none),i 3 (.a (.alloc [.int .i64 0]) none)] (.seq (sq [lg 6 2 1,ca 7 32 [.t 6],nt 8 7] (cd 8 (sq [n (.w (.store 1 (.t 2) (.c (.int .i64 0)))),n (.w (.store 1 (.t 3) (.c (.int .i64 1))))] .ret) .skip)) (.seq (sq [lg 9 2 1,ca 10 33 [.t 9]] (.block 0 (.rangeF (.t 10) [11,12] (sq [mv 4 11] (.ops [mv 5 12])) (.block 1 (sq [mv 13 4,mv 14 5,sT 1 2 13,sT 1 3 14] .ret))))) (sq [n (.w (.store 1 (.t 2) (.c (.int .i64 (-1))))),n (.w (.store 1 (.t 3) (.c (.int .i64 0))))] .ret))))
def f17:IFn:=⟨true,15,[.cell none 2,.cell none 3],b17⟩
def b19:IC :=(sq [bx 1 2 0,bf 2] (.seq (sq [ki 3 0] (.block 0 (.loop (.seq (sq [mv 9 3,fa 10 0 1,ld 11 10,ln 12 11,b2 13 .lss 9 12] (cd 13 .skip (.exit 0))) (.seq (.block 1 (sq [fa 16 0 1,ld 17 16,mv 18 3,ia 19 3 17 18,lg 20 3 19,i 4 (.a (.alloc [.nils,.int .i64 0,.nils]) none),sT 3 4 20] (sq [fa 21 2 4,ld 22 21,ca 23 35 [.t 22],mv 5 23] (.seq (sq [mv 24 5,nt 25 24,mv 26 25,eF 27 26 0 4,eL 28 26 27,eN 29 26 28,eC 30 26 .lss 29 1,oP 31 26 30,mv 32 31,eF 33 32 0 4,eL 34 32 33,eN 35 32 34,eC 36 32 .gtr 35 8,oP 37 32 36,mv 38 37,eF 39 38 1 4,eL 40 38 39,eC 41 38 .lss 40 0,oP 42 38 41,mv 43 42,eF 44 43 1 4,eL 45 43 44,eC 46 43 .gtr 45 63,oP 47 43 46] (cd 47 (sq [bf 2] .ret) .skip)) (sq [ki 6 0] (.block 2 (.loop (.seq (sq [mv 48 6,fa 49 0 4,ld 50 49,ln 51 50,b2 52 .lss 48 51] (cd 52 .skip (.exit 2))) (.seq (.block 3 (.seq (sq [fa 55 0 4,ld 56 55,mv 57 6,ia 58 1 56 57,ld 59 58,ln 60 59,bk 61 .gtr 60 40] (cd 61 (sq [bf 2] .ret) .skip)) (sq [ki 7 0] (.block 4 (.loop (.seq (sq [mv 62 7,fa 63 0 4,ld 64 63,mv 65 6,ia 66 1 64 65,ld 67 66,ln 68 67,b2 69 .lss 62 68] (cd 69 .skip (.exit 4))) (.seq (.block 5 (.seq (.dops 0 [] [fa 72 0 4,ld 73 72,mv 74 6,ia 75 1 73 74,ld 76 75,mv 77 7,ia 78 3 76 77,lg 79 3 78,fa 80 0 1,ld 81 80,ln 82 81,ca 83 36 [.t 79,.t 82],mv 8 83]) (sq [mv 84 8,nt 85 84] (cd 85 (sq [bf 2] .ret) .skip)))) (.ops [mv 70 7,bk 71 .add 70 1,mv 7 71])))))))) (.ops [mv 53 6,bk 54 .add 53 1,mv 6 54])))))))))) (.ops [mv 14 3,bk 15 .add 14 1,mv 3 15])))))) (sq [fa 86 0 1,ld 87 86,ln 88 87,bk 89 .geq 88 1,mv 90 89,gF 91 90 0 1,gL 92 90 91,gN 93 90 92,gC 94 90 .leq 93 60,aP 95 90 94,mv 2 95] .ret)))
def f19:IFn:=⟨true,96,[.tm 2],b19⟩
def b20:IC :=(sq [bx 1 2 0,ki 2 0] (sq [lg 7 2 1,ca 8 19 [.t 7],mv 3 8] (sq [lg 9 2 1,ca 10 37 [.t 9],mv 4 10] (.seq (sq [ki 5 0] (.block 0 (.loop (.seq (sq [mv 11 5,mv 12 4,ln 13 12,b2 14 .lss 11 13,mv 15 14,gM 16 15 3,aP 17 15 16] (cd 17 .skip (.exit 0))) (.seq (.block 1 (sq [mv 20 4,mv 21 5,ca 22 38 [.t 20,.t 21],mv 6 22] (sq [mv 23 6,mv 24 5,ia 25 1 23 24,ld 26 25] (cd 26 (sq [mv 27 5,mv 2 27] .ret) .skip)))) (.ops [mv 18 5,bk 19 .add 18 1,mv 5 19])))))) (sq [ki 2 (-1)] .ret)))))
def f20:IFn:=⟨true,28,[.tm 2],b20⟩
def b21:IC :=(sq [bx 1 2 0,ki 2 0] (sq [lg 5 2 1,ca 6 39 [.t 5,(.c (.int .i64 0))],mv 3 6] (.seq (sq [ki 4 1] (.block 0 (.loop (.seq (sq [mv 7 4,mv 8 3,ln 9 8,b2 10 .lss 7 9] (cd 10 .skip (.exit 0))) (.seq (.block 1 (sq [mv 13 3,mv 14 4,ia 15 1 13 14,ld 16 15,nt 17 16] (cd 17 (sq [mv 18 4,mv 2 18] .ret) .skip))) (.ops [mv 11 4,bk 12 .add 11 1,mv 4 12])))))) (sq [ki 2 (-1)] .ret))))
def f21:IFn:=⟨true,19,[.tm 2],b21⟩
def b22:IC :=(sq [bx 1 2 0,ki 2 0] (sq [lg 5 2 1,ca 6 40 [.t 5],mv 3 6] (.seq (sq [ki 4 0] (.block 0 (.loop (.seq (sq [mv 7 4,mv 8 3,ln 9 8,b2 10 .lss 7 9] (cd 10 .skip (.exit 0))) (.seq (.block 1 (sq [mv 13 3,mv 14 4,ia 15 1 13 14,ld 16 15,nt 17 16] (cd 17 (sq [mv 18 4,mv 2 18] .ret) .skip))) (.ops [mv 11 4,bk 12 .add 11 1,mv 4 12])))))) (sq [ki 2 (-1)] .ret))))
def f22:IFn:=⟨true,19,[.tm 2],b22⟩
def b23:IC :=(sq [bx 1 2 0,ki 2 0] (sq [lg 9 2 1,ca 10 19 [.t 9],mv 3 10] (.seq (sq [ki 4 0] (.block 0 (.loop (.seq (sq [mv 11 4,fa 12 0 1,ld 13 12,ln 14 13,b2 15 .lss 11 14,mv 16 15,gM 17 16 3,aP 18 16 17] (cd 18 .skip (.exit 0))) (.seq (.block 1 (sq [fa 21 0 1,ld 22 21,mv 23 4,ia 24 3 22 23,lg 25 3 24,ca 26 41 [.t 25],mv 5 26] (sq [lg 27 2 1,mv 28 4,ca 29 39 [.t 27,.t 28],mv 6 29] (.seq (sq [mv 30 5,mv 31 30,gM 32 31 6,gM 33 31 4,gI 34 31 1 32 33,gL 35 31 34,aP 36 31 35] (cd 36 (sq [mv 37 4,mv 2 37] .ret) .skip)) (sq [ki 7 0] (.block 2 (.loop (.seq (sq [mv 38 7,fa 39 0 1,ld 40 39,ln 41 40,b2 42 .lss 38 41,mv 43 42,gM 44 43 5,aP 45 43 44] (cd 45 .skip (.exit 2))) (.seq (.block 3 (sq [fa 48 0 1,ld 49 48,mv 50 7,ia 51 3 49 50,fa 52 1 51,ld 53 52,ca 54 42 [.t 53,(.c (.int .i64 32))],mv 8 54] (sq [mv 55 6,mv 56 7,ia 57 1 55 56,ld 58 57,mv 59 58,gM 60 59 8,aP 61 59 60] (cd 61 (sq [mv 62 4,mv 2 62] .ret) .skip)))) (.ops [mv 46 7,bk 47 .add 46 1,mv 7 47])))))))))) (.ops [mv 19 4,bk 20 .add 19 1,mv 4 20])))))) (sq [ki 2 (-1)] .ret))))
def f23:IFn:=⟨true,63,[.tm 2],b23⟩
def b24:IC :=(sq [bx 1 2 0,ki 2 0] (sq [lg 9 2 1,ca 10 19 [.t 9],mv 3 10] (.seq (sq [ki 4 0] (.block 0 (.loop (.seq (sq [mv 11 4,fa 12 0 1,ld 13 12,ln 14 13,b2 15 .lss 11 14,mv 16 15,gM 17 16 3,aP 18 16 17] (cd 18 .skip (.exit 0))) (.seq (.block 1 (sq [fa 21 0 1,ld 22 21,mv 23 4,ia 24 3 22 23,lg 25 3 24,ca 26 41 [.t 25],mv 5 26] (sq [lg 27 2 1,mv 28 4,ca 29 39 [.t 27,.t 28],mv 6 29] (sq [ki 7 0] (.block 2 (.loop (.seq (sq [mv 30 7,fa 31 0 1,ld 32 31,ln 33 32,b2 34 .lss 30 33,mv 35 34,gM 36 35 5,aP 37 35 36] (cd 37 .skip (.exit 2))) (.seq (.block 3 (sq [fa 40 0 1,ld 41 40,mv 42 7,ia 43 3 41 42,lg 44 3 43,ca 45 43 [.t 44],mv 8 45] (sq [mv 46 8,mv 47 46,gM 48 47 7,gM 49 47 4,gB 50 47 .eql 48 49,gM 51 47 50,eM 52 51 6,eM 53 51 7,eI 54 51 1 52 53,eL 55 51 54,gt 56 47 (.p (.pick (.t 51) (.c (.bool true)) (.t 55))),aP 57 47 56] (cd 57 (sq [mv 58 4,mv 2 58] .ret) .skip)))) (.ops [mv 38 7,bk 39 .add 38 1,mv 7 39]))))))))) (.ops [mv 19 4,bk 20 .add 19 1,mv 4 20])))))) (sq [ki 2 (-1)] .ret))))
def f24:IFn:=⟨true,59,[.tm 2],b24⟩
def b18:IC :=(sq [bx 2 1 0,bx 3 2 1] (.seq (.seq (.dops 0 [] [ld 5 2,nc 6 5,fa 7 4 6,ld 8 7,lg 9 2 3,i 10 (.r (.lookup (.agg [.int,.int]) (.bool false) false (.t 8) (.t 9)))]) (cd 10 .ret .skip)) (.seq (.dops 0 [] [ld 11 2,nc 12 11,fa 13 4 12,ld 14 13,lg 15 2 3,n (.w (.mupd (.agg [.int,.int]) (.t 14) (.t 15) (.c (.bool true))))]) (sq [ld 16 2,lg 17 2 3,ca 18 34 [.t 16,.t 17]] (.block 0 (.rangeF (.t 18) [19] (.ops [i 4 (.a (.alloc [.int .i64 0,.int .i64 0]) none),sT 2 4 19]) (.block 1 (.ops [ld 20 2,lg 21 2 4,ca 22 18 [.t 20,.t 21]]))))))))
def f18:IFn:=⟨false,23,[],b18⟩
def b25:IC :=(sq [ns 2,ki 3 0,ki 4 0] (.seq (sq [mv 12 0,lS 13 12,bk 14 .gtr 13 3000] (cd 14 (sq [ns 2,ki 3 0,ki 4 7] .ret) .skip)) (sq [mv 15 0,i 16 (.p (.build [.str [],.int .i64 0] [(0,1,(.t 15))])),bx 17 2 16,mv 5 17] (sq [ca 18 44 [],mv 6 18] (sq [ns 7] (.block 0 (.loop (.block 1 (sq [mv 19 5,mv 20 0,lS 21 20,mv 22 0,mv 23 5,nc 24 23,fa 25 1 24,ld 26 25,i 27 (.p (.sliceS (.t 22) (some (.t 26)) none)),i 28 (.call (.dir 45) [.t 27,(.c (.str [32,9,10,13]))] false),lS 29 28,b2 30 .sub 21 29,nc 31 19,fa 32 1 31,sT 1 32 30] (sq [mv 33 5,nc 34 33,fa 35 1 34,ld 36 35,mv 8 36] (.seq (sq [mv 37 8,mv 38 0,lS 39 38,b2 40 .eql 37 39] (cd 40 (sq [mv 41 7,mv 42 0,lS 43 42,mv 2 41,mv 3 43,ki 4 0] .ret) .skip)) (sq [mv 44 6,mv 45 0,mv 46 8,i 47 (.p (.idxS (.t 45) (.t 46))),i 48 (.r (.lookup (.one .int) .nilf false (.t 44) (.t 47))),mv 9 48] (.seq (sq [mv 49 9,i 50 (.p (.eqo false .func (.t 49) (.c .nilf)))] (cd 50 (.ops [i 9 (.p (.mov (.c (.fn 46 [] []))))]) .skip)) (sq [mv 52 9,mv 53 5,i 54 (.call (.val (.t 52)) [.t 53] false),mv 51 54,ex 55 0 51,ex 56 1 51,i 10 (.a (.alloc [.int .i64 0,.str [],.nils,.int .i64 0]) none),sT 4 10 55,mv 11 56] (.seq (.block 2 (sq [mv 58 11,nt 59 58,mv 57 59] (cd 57 (sq [mv 60 8,ns 2,mv 3 60,ki 4 2] .ret) (sq [mv 62 7,ln 63 62,bk 64 .eql 63 600,mv 61 64] (cd 61 (sq [mv 65 8,ns 2,mv 3 65,ki 4 7] .ret) .skip))))) (sq [mv 66 8,fa 67 3 10,sT 1 67 66] (.ops [mv 68 7,lg 69 4 10,i 70 (.a (.bslice true [.int .i64 0,.str [],.nils,.int .i64 0] 1 [(0,(.t 69))]) none),aD 71 4 56 68 70,mv 7 71])))))))))))))))))
def f25:IFn:=⟨false,72,[.tm 2,.tm 3,.tm 4],b25⟩
def b26:IC :=(sq [i 6 (.recover)] (.block 0 (sq [i 8 (.p (.eqo false .iface (.t 6) (.c .nili)))] (cd 8 (.ops [mv 3 6]) (sq [i 9 (.p (.asrt 0 true (.agg [.int .i64 0,.int .i64 0]) (.t 6))),ex 10 1 9,ex 11 0 9] (cd 10 (sq [i 4 (.a (.alloc [.int .i64 0,.int .i64 0]) none),sT 2 4 11] (.dops 0 [(2,6),(4,6),(4,7)] [i 12 (.p (.build [.nils,.nils] [])),fa 13 1 4,ld 14 13,fa 15 0 4,ld 16 15,sT 2 0 12,sT 1 1 14,sT 1 2 16])) (sq [mv 5 6] (.ops [mv 7 5,n (.bad)]))))))))
def f26:IFn:=⟨false,17,[],b26⟩
def b27:IC :=(sq [ns 2] (sq [ns 3] (.seq (sq [mv 4 0,i 5 (.call (.dir 47) [.t 4,(.c (.str [37]))] false),nt 6 5] (cd 6 (sq [mv 7 3,mv 2 7] .ret) .skip)) (sq [mv 8 3,mv 9 0,i 10 (.call (.dir 48) [.t 9,(.c (.int .i64 1)),(.c (.str []))] false),i 11 (.p (.fld 1 none (.t 10))),i 12 (.a (.bslice true [.str []] 1 [(0,(.t 11))]) none),aD 13 1 16 8 12,mv 3 13] (.seq (.block 0 (.loop (.seq (sq [mv 14 0,i 15 (.call (.dir 49) [.t 14,(.c (.int .i64 1)),(.c (.str []))] false)] (cd 15 .skip (.exit 0))) (.block 1 (.seq (sq [mv 16 3,ln 17 16,bk 18 .eql 17 8] (cd 18 (.ops [mv 19 0,ca 20 50 [.t 19,(.c (.int .i64 7))]]) .skip)) (.ops [mv 21 3,mv 22 0,i 23 (.call (.dir 48) [.t 22,(.c (.int .i64 1)),(.c (.str []))] false),i 24 (.p (.fld 1 none (.t 23))),i 25 (.a (.bslice true [.str []] 1 [(0,(.t 24))]) none),aD 26 1 16 21 25,mv 3 26])))))) (sq [mv 27 0,i 28 (.call (.dir 48) [.t 27,(.c (.int .i64 4)),(.c (.str [59]))] false)] (sq [mv 29 3,mv 2 29] .ret)))))))
def f27:IFn:=⟨false,30,[.tm 2],b27⟩
def b28:IC :=(sq [i 4 (.a (.alloc [.str [],.int .i64 0,.int .i64 0,.str [],.nils,.nils,.int .i64 0,.nils,.int .i64 0]) none)] (sq [i 5 (.a (.alloc [.str [],.int .i64 0,.int .i64 0,.str [],.nils,.nils,.int .i64 0,.nils,.int .i64 0]) none)] (.seq (.block 0 (.loop (.seq (sq [mv 7 0,i 8 (.call (.dir 49) [.t 7,(.c (.int .i64 5)),(.c (.str []))] false)] (cd 8 .skip (.exit 0))) (.block 1 (.dops 0 [(1,3),(1,5)] [fa 9 1 5,ld 10 9,ca 11 51 [],mv 12 0,i 13 (.call (.dir 48) [.t 12,(.c (.int .i64 5)),(.c (.str []))] false),i 14 (.p (.fld 1 none (.t 13))),i 15 (.r (.lookup (.one .str) (.int .i64 0) false (.t 11) (.t 14))),b2 16 .or 10 15,fa 17 1 5,sT 1 17 16]))))) (.seq (sq [mv 18 0,i 19 (.call (.dir 49) [.t 18,(.c (.int .i64 0)),(.c (.str []))] false),mv 20 19,gM 21 20 1,gC 22 20 .eql 21 16,aP 23 20 22] (cd 23 (.ops [mv 24 0,ca 25 50 [.t 24,(.c (.int .i64 7))]]) .skip)) (sq [mv 26 0,i 27 (.call (.dir 48) [.t 26,(.c (.int .i64 0)),(.c (.str []))] false),i 6 (.a (.alloc [.int .i64 0,.str [],.nils,.int .i64 0]) none),sT 4 6 27] (.seq (.dops 0 [(3,6)] [fa 28 1 6,ld 29 28,fa 30 3 6,ld 31 30,fa 32 0 5,sT 1 32 29,fa 33 8 5,sT 1 33 31]) (sq [mv 34 0,i 35 (.call (.dir 48) [.t 34,(.c (.int .i64 4)),(.c (.str [61]))] false)] (sq [mv 36 0,ca 37 52 [.t 36],fa 38 2 5,sT 5 38 37] (.seq (sq [mv 39 0,i 40 (.call (.dir 47) [.t 39,(.c (.str [47]))] false)] (cd 40 (.ops [mv 41 0,i 42 (.call (.dir 48) [.t 41,(.c (.int .i64 2)),(.c (.str []))] false),i 43 (.p (.fld 2 none (.t 42))),fa 44 7 5,sT 1 44 43]) .skip)) (sq [mv 45 0,i 46 (.call (.dir 48) [.t 45,(.c (.int .i64 4)),(.c (.str [59]))] false)] (sq [lg 47 9 5,sT 9 4 47] .ret)))))))))))
def f28:IFn:=⟨false,48,[.cell (some 9) 4],b28⟩
def b29:IC :=(sq [ns 2] (.seq (sq [mv 3 0,i 4 (.p (.eqo false .slice (.t 3) (.c .nils)))] (cd 4 (sq [ns 2] .ret) .skip)) (sq [i 5 (.a (.bslice true [.int .i64 0,.int .i64 0] 0 []) none),mv 6 0,aD 7 2 16 5 6,mv 2 7] .ret)))
def f29:IFn:=⟨false,8,[.tm 2],b29⟩
def b30:IC :=(sq [bx 5 5 2] (.seq (sq [fa 6 0 5,ld 7 6,bk 8 .neq 7 5] (cd 8 (.ops [lg 9 5 5,i 10 (.a (.bslice true [.int .i64 0,.str [],.nils,.nils,.int .i64 0] 1 [(0,(.t 9))]) none),fa 11 4 5,ld 12 11,i 13 (.p (.build [.int .i64 0,.str [],.nils,.nils,.int .i64 0] [(0,1,(.c (.int .i64 5))),(3,1,(.t 10)),(4,1,(.t 12))])),sT 5 5 13]) .skip)) (.ops [mv 14 0,mv 15 1,lg 16 5 5,ca 17 53 [.t 14,.t 15,.t 16]])))
def f30:IFn:=⟨false,18,[],b30⟩
def b31:IC :=(sq [ns 2] (.seq (sq [mv 3 0,i 4 (.p (.eqo false .slice (.t 3) (.c .nils)))] (cd 4 (sq [ns 2] .ret) .skip)) (sq [i 5 (.a (.bslice true [.str []] 0 []) none),mv 6 0,aD 7 1 16 5 6,mv 2 7] .ret)))
def f31:IFn:=⟨false,8,[.tm 2],b31⟩
def b32:IC :=(sq [bx 1 2 0,bf 2] (sq [fa 8 0 1,ld 9 8,ln 10 9,i 3 (.a (.alloc [.int .i64 0]) none),sT 1 3 10] (sq [i 11 (.p (.mkf 54 [] [.t 3])),i 4 (.a (.alloc [.nilf]) none),sT 1 4 11] (sq [i 12 (.p (.mkf 56 [] [.t 4])),mv 5 12] (.seq (sq [fa 13 0 1,ld 14 13,ln 15 14,ki 16 0] (.block 0 (.loop (sq [b2 17 .lss 16 15] (.seq (cd 17 .skip (.exit 0)) (.seq (.block 1 (sq [ia 18 3 14 16,lg 19 3 18,i 7 (.a (.alloc [.nils,.int .i64 0,.nils]) none),sT 3 7 19] (sq [fa 20 0 7,ld 21 20,ln 22 21,bk 23 .eql 22 0,mv 24 23,eF 25 24 0 7,eL 26 24 25,eN 27 24 26,eC 28 24 .gtr 27 8,oP 29 24 28,mv 30 29,eF 31 30 1 7,eL 32 30 31,eC 33 30 .lss 32 0,oP 34 30 33,mv 35 34,eF 36 35 1 7,eL 37 35 36,eC 38 35 .gtr 37 63,oP 39 35 38,mv 40 39,eF 41 40 2 7,eL 42 40 41,gf 43 40 (.call (.dir 58) [.t 42] false),eX 44 40 43,oP 45 40 44,mv 46 45,eF 47 46 0 7,eL 48 46 47,eM 49 46 5,gf 50 46 (.call (.dir 59) [.t 48,.t 49] false),oP 51 46 50] (cd 51 (sq [bf 2] .ret) .skip)))) (.ops [bk 52 .add 16 1,mv 16 52]))))))) (sq [ld 53 3,bk 54 .gtr 53 0,mv 55 54,gL 56 55 3,gC 57 55 .leq 56 60,aP 58 55 57,mv 2 58] .ret))))))
def f32:IFn:=⟨true,59,[.tm 2],b32⟩
def b33:IC :=(sq [bx 1 2 0,i 2 (.p (.mov (.c .nilf)))] (sq [i 4 (.p (.build [.nilf,.int .i64 0] [(0,1,(.c (.fn 60 [] []))),(1,1,(.c (.int .i64 8)))])),i 5 (.p (.build [.nilf,.int .i64 0] [(0,1,(.c (.fn 61 [] []))),(1,1,(.c (.int .i64 9)))])),i 6 (.p (.build [.nilf,.int .i64 0] [(0,1,(.c (.fn 62 [] []))),(1,1,(.c (.int .i64 10)))])),i 7 (.p (.build [.nilf,.int .i64 0] [(0,1,(.c (.fn 63 [] []))),(1,1,(.c (.int .i64 11)))])),i 8 (.p (.build [.nilf,.int .i64 0] [(0,1,(.c (.fn 64 [] []))),(1,1,(.c (.int .i64 12)))])),i 9 (.a (.bslice true [.nilf,.int .i64 0] 5 [(0,(.t 4)),(1,(.t 5)),(2,(.t 6)),(3,(.t 7)),(4,(.t 8))]) none),i 3 (.a (.alloc [.nils]) none),sT 1 3 9] (sq [i 10 (.p (.mkf 65 [] [.t 3,.t 1])),mv 2 10] .ret)))
def f33:IFn:=⟨false,11,[.tm 2],b33⟩
def b35:IC :=(sq [bf 2] (.seq (sq [ki 3 0] (.block 0 (.loop (.seq (sq [mv 4 3,mv 5 0,ln 6 5,b2 7 .lss 4 6] (cd 7 .skip (.exit 0))) (.seq (.block 1 (.seq (.dops 0 [] [mv 10 0,mv 11 3,ia 12 2 10 11,fa 13 0 12,ld 14 13,mv 15 0,mv 16 3,ia 17 2 15 16,fa 18 1 17,ld 19 18,b2 20 .gtr 14 19,mv 21 20,eM 22 21 0,eM 23 21 3,eI 24 21 2 22 23,eF 25 21 0 24,eL 26 21 25,eC 27 21 .lss 26 0,oP 28 21 27,mv 29 28,eM 30 29 0,eM 31 29 3,eI 32 29 2 30 31,eF 33 29 1 32,eL 34 29 33,eC 35 29 .gtr 34 1114111,oP 36 29 35,mv 37 36,eM 38 37 3,eC 39 37 .gtr 38 0,eM 40 37 39,gM 41 40 0,gM 42 40 3,gI 43 40 2 41 42,gF 44 40 0 43,gL 45 40 44,gM 46 40 0,gM 47 40 3,gC 48 40 .sub 47 1,gI 49 40 2 46 48,gF 50 40 1 49,gL 51 40 50,gC 52 40 .add 51 2,gB 53 40 .lss 45 52,gf 54 37 (.p (.pick (.t 40) (.t 53) (.c (.bool false)))),oP 55 37 54]) (cd 55 (sq [bf 2] .ret) .skip))) (.ops [mv 8 3,bk 9 .add 8 1,mv 3 9])))))) (sq [bt 2] .ret)))
def f35:IFn:=⟨true,56,[.tm 2],b35⟩
def b36:IC :=(sq [bx 2 3 0,bf 4] (sq [fa 7 1 2,ld 8 7,ca 9 35 [.t 8],mv 5 9] (.seq (sq [fa 10 0 2,ld 11 10,bk 12 .eql 11 2] (cd 12 (sq [fa 13 2 2,ld 14 13,bk 15 .geq 14 0,mv 16 15,gF 17 16 2 2,gL 18 16 17,gM 19 16 1,gB 20 16 .lss 18 19,aP 21 16 20,mv 22 21,gF 23 22 1 2,gL 24 22 23,gN 25 22 24,gC 26 22 .eql 25 0,aP 27 22 26,mv 4 27] .ret) .skip)) (.seq (sq [ki 6 0] (.block 0 (.loop (.seq (sq [mv 28 6,fa 29 1 2,ld 30 29,ln 31 30,b2 32 .lss 28 31] (cd 32 .skip (.exit 0))) (.seq (.block 1 (sq [fa 35 0 2,ld 36 35,bk 37 .eql 36 0,mv 38 37,gF 39 38 1 2,gL 40 38 39,gM 41 38 6,gI 42 38 2 40 41,gF 43 38 1 42,gL 44 38 43,gC 45 38 .gtr 44 255,aP 46 38 45] (cd 46 (sq [bf 4] .ret) .skip))) (.ops [mv 33 6,bk 34 .add 33 1,mv 6 34])))))) (sq [fa 47 0 2,ld 48 47,bk 49 .eql 48 0,mv 50 49,eF 51 50 0 2,eL 52 50 51,eC 53 50 .eql 52 1,oP 54 50 53,mv 55 54,gM 56 55 5,aP 57 55 56,mv 58 57,gF 59 58 2 2,gL 60 58 59,gC 61 58 .eql 60 0,aP 62 58 61,mv 4 62] .ret)))))
def f36:IFn:=⟨true,63,[.tm 4],b36⟩
def b37:IC :=(sq [bx 1 2 0,ns 2] (sq [ns 3] (.seq (sq [ki 4 0] (.block 0 (.loop (.seq (sq [mv 5 4,fa 6 0 1,ld 7 6,ln 8 7,b2 9 .lss 5 8] (cd 9 .skip (.exit 0))) (.seq (.block 1 (.ops [mv 12 3,lg 13 2 1,mv 14 4,ca 15 69 [.t 13,.t 14],i 16 (.a (.bslice true [.nils] 1 [(0,(.t 15))]) none),aD 17 1 24 12 16,mv 3 17])) (.ops [mv 10 4,bk 11 .add 10 1,mv 4 11])))))) (sq [mv 18 3,mv 2 18] .ret))))
def f37:IFn:=⟨true,19,[.tm 2],b37⟩
def b38:IC :=(sq [ns 4] (sq [mv 9 0,ln 10 9,i 11 (.a (.mks [.bool false] 1 (.t 10) (.t 10)) none),mv 5 11] (.seq (sq [ki 6 0] (.block 0 (.loop (.seq (sq [mv 12 6,mv 13 0,ln 14 13,b2 15 .lss 12 14] (cd 15 .skip (.exit 0))) (.seq (.block 1 (sq [ki 7 0] (.block 2 (.loop (.seq (sq [mv 18 7,mv 19 0,ln 20 19,b2 21 .lss 18 20] (cd 21 .skip (.exit 2))) (.seq (.block 3 (sq [mv 24 7,mv 25 1,b2 26 .eql 24 25,mv 27 26,eM 28 27 5,eM 29 27 7,eI 30 27 1 28 29,eL 31 27 30,oP 32 27 31] (cd 32 (sq [ki 8 0] (.block 4 (.loop (.seq (sq [mv 33 8,mv 34 0,mv 35 7,ia 36 1 34 35,ld 37 36,ln 38 37,b2 39 .lss 33 38] (cd 39 .skip (.exit 4))) (.seq (.block 5 (.ops [mv 42 5,mv 43 0,mv 44 7,ia 45 1 43 44,ld 46 45,mv 47 8,ia 48 1 46 47,ld 49 48,ia 50 1 42 49,n (.w (.store 1 (.t 50) (.c (.bool true))))])) (.ops [mv 40 8,bk 41 .add 40 1,mv 8 41])))))) .skip))) (.ops [mv 22 7,bk 23 .add 22 1,mv 7 23]))))))) (.ops [mv 16 6,bk 17 .add 16 1,mv 6 17])))))) (sq [mv 51 5,mv 4 51] .ret))))
def f38:IFn:=⟨true,52,[.tm 4],b38⟩
def b39:IC :=(sq [bx 2 2 0,ns 4] (sq [lg 11 2 2,ca 12 19 [.t 11],mv 5 12] (.seq (sq [mv 13 5,nt 14 13,mv 15 14,eM 16 15 1,eC 17 15 .lss 16 0,oP 18 15 17,mv 19 18,eM 20 19 1,eF 21 19 0 2,eL 22 19 21,eN 23 19 22,eB 24 19 .geq 20 23,oP 25 19 24] (cd 25 (sq [ns 4] .ret) .skip)) (sq [fa 26 0 2,ld 27 26,ln 28 27,i 29 (.a (.mks [.bool false] 1 (.t 28) (.t 28)) none),mv 6 29] (.seq (sq [ki 7 0] (.block 0 (.loop (.seq (sq [mv 30 7,fa 31 0 2,ld 32 31,ln 33 32,b2 34 .lss 30 33] (cd 34 .skip (.exit 0))) (.seq (.block 1 (sq [ki 8 0] (.block 2 (.loop (.seq (sq [mv 37 8,fa 38 0 2,ld 39 38,ln 40 39,b2 41 .lss 37 40] (cd 41 .skip (.exit 2))) (.seq (.block 3 (sq [ki 9 0] (.block 4 (.loop (.seq (sq [mv 44 9,fa 45 0 2,ld 46 45,mv 47 8,ia 48 3 46 47,fa 49 0 48,ld 50 49,ln 51 50,b2 52 .lss 44 51,mv 53 52,gM 54 53 8,gM 55 53 1,gB 56 53 .eql 54 55,gM 57 53 56,eM 58 57 6,eM 59 57 8,eI 60 57 1 58 59,eL 61 57 60,gt 62 53 (.p (.pick (.t 57) (.c (.bool true)) (.t 61))),aP 63 53 62] (cd 63 .skip (.exit 4))) (.seq (.block 5 (sq [ki 10 0] (.block 6 (.loop (.seq (sq [mv 66 10,fa 67 0 2,ld 68 67,mv 69 8,ia 70 3 68 69,fa 71 0 70,ld 72 71,mv 73 9,ia 74 1 72 73,ld 75 74,ln 76 75,b2 77 .lss 66 76] (cd 77 .skip (.exit 6))) (.seq (.block 7 (sq [fa 80 0 2,ld 81 80,mv 82 8,ia 83 3 81 82,fa 84 0 83,ld 85 84,mv 86 9,ia 87 1 85 86,ld 88 87,mv 89 10,ia 90 3 88 89,fa 91 0 90,ld 92 91,bk 93 .eql 92 2] (cd 93 (.ops [mv 94 6,fa 95 0 2,ld 96 95,mv 97 8,ia 98 3 96 97,fa 99 0 98,ld 100 99,mv 101 9,ia 102 1 100 101,ld 103 102,mv 104 10,ia 105 3 103 104,fa 106 2 105,ld 107 106,ia 108 1 94 107,n (.w (.store 1 (.t 108) (.c (.bool true))))]) .skip))) (.ops [mv 78 10,bk 79 .add 78 1,mv 10 79]))))))) (.ops [mv 64 9,bk 65 .add 64 1,mv 9 65]))))))) (.ops [mv 42 8,bk 43 .add 42 1,mv 8 43]))))))) (.ops [mv 35 7,bk 36 .add 35 1,mv 7 36])))))) (sq [mv 109 6,mv 4 109] .ret))))))
def f39:IFn:=⟨true,110,[.tm 4],b39⟩
def b40:IC :=(sq [bx 1 2 0,ns 2] (sq [lg 11 2 1,ca 12 19 [.t 11],mv 3 12] (.seq (sq [mv 13 3,nt 14 13] (cd 14 (sq [ns 2] .ret) .skip)) (sq [fa 15 0 1,ld 16 15,ln 17 16,i 18 (.a (.mks [.bool false] 1 (.t 17) (.t 17)) none),mv 4 18] (.seq (sq [ki 5 0] (.block 0 (.loop (.seq (sq [mv 19 5,fa 20 0 1,ld 21 20,ln 22 21,b2 23 .lss 19 22] (cd 23 .skip (.exit 0))) (.seq (.block 1 (sq [ki 6 0] (.block 2 (.loop (.seq (sq [mv 26 6,fa 27 0 1,ld 28 27,ln 29 28,b2 30 .lss 26 29] (cd 30 .skip (.exit 2))) (.seq (.block 3 (sq [ki 7 0] (.block 4 (.loop (.seq (sq [mv 33 7,fa 34 0 1,ld 35 34,mv 36 6,ia 37 3 35 36,fa 38 0 37,ld 39 38,ln 40 39,b2 41 .lss 33 40] (cd 41 .skip (.exit 4))) (.seq (.block 5 (sq [bt 8] (.seq (sq [ki 9 0] (.block 6 (.loop (.seq (sq [mv 44 9,fa 45 0 1,ld 46 45,mv 47 6,ia 48 3 46 47,fa 49 0 48,ld 50 49,mv 51 7,ia 52 1 50 51,ld 53 52,ln 54 53,b2 55 .lss 44 54] (cd 55 .skip (.exit 6))) (.seq (.block 7 (sq [mv 58 4,fa 59 0 1,ld 60 59,mv 61 6,ia 62 3 60 61,fa 63 0 62,ld 64 63,mv 65 7,ia 66 1 64 65,ld 67 66,mv 68 9,ia 69 3 67 68,lg 70 3 69,ca 71 70 [.t 58,.t 70],mv 10 71] (.ops [mv 72 8,mv 73 72,gM 74 73 10,aP 75 73 74,mv 8 75]))) (.ops [mv 56 9,bk 57 .add 56 1,mv 9 57])))))) (.ops [mv 76 4,mv 77 6,mv 78 4,mv 79 6,ia 80 1 78 79,ld 81 80,mv 82 81,eM 83 82 8,oP 84 82 83,ia 85 1 76 77,sT 1 85 84])))) (.ops [mv 42 7,bk 43 .add 42 1,mv 7 43]))))))) (.ops [mv 31 6,bk 32 .add 31 1,mv 6 32]))))))) (.ops [mv 24 5,bk 25 .add 24 1,mv 5 25])))))) (sq [mv 86 4,mv 2 86] .ret))))))
def f40:IFn:=⟨true,87,[.tm 2],b40⟩
def b41:IC :=(sq [bx 1 3 0,bf 2] (sq [fa 5 1 1,ld 6 5,ca 7 42 [.t 6,(.c (.int .i64 1))],mv 3 7] (sq [fa 8 1 1,ld 9 8,ca 10 42 [.t 9,(.c (.int .i64 2))],mv 4 10] (sq [mv 11 3,mv 12 11,eM 13 12 4,oP 14 12 13,mv 15 14,eF 16 15 2 1,eL 17 15 16,eN 18 15 17,eC 19 15 .gtr 18 0,oP 20 15 19,mv 2 20] .ret))))
def f41:IFn:=⟨true,21,[.tm 2],b41⟩
def b42:IC :=(sq [bf 4] (sq [mv 5 0,mv 6 1,b2 7 .quo 5 6,bk 8 .rem 7 2,bk 9 .eql 8 1,mv 4 9] .ret))
def f42:IFn:=⟨true,10,[.tm 4],b42⟩
def b43:IC :=(sq [bx 1 3 0,bf 2] (sq [fa 6 1 1,ld 7 6,ca 8 42 [.t 7,(.c (.int .i64 4))],mv 3 8] (sq [fa 9 1 1,ld 10 9,ca 11 42 [.t 10,(.c (.int .i64 8))],mv 4 11] (sq [fa 12 1 1,ld 13 12,ca 14 42 [.t 13,(.c (.int .i64 16))],mv 5 14] (sq [mv 15 3,mv 16 15,eM 17 16 4,oP 18 16 17,mv 19 18,eM 20 19 5,oP 21 19 20,mv 2 21] .ret)))))
def f43:IFn:=⟨true,22,[.tm 2],b43⟩
def b34:IC :=(sq [bx 2 1 0,bx 3 2 1,i 4 (.p (.mov (.c .nilf)))] (sq [i 5 (.p (.mkf 66 [] [.t 2,.t 3])),mv 4 5] .ret))
def f34:IFn:=⟨false,6,[.tm 4],b34⟩
def b44:IC :=(sq [i 0 (.p (.mov (.c .nilm)))] (sq [i 3 (.a (.mkm) none),n (.w (.mupd (.one .int) (.t 3) (.c (.int .u8 64)) (.c (.fn 71 [] [])))),n (.w (.mupd (.one .int) (.t 3) (.c (.int .u8 34)) (.c (.fn 72 [] [])))),n (.w (.mupd (.one .int) (.t 3) (.c (.int .u8 91)) (.c (.fn 73 [] [])))),n (.w (.mupd (.one .int) (.t 3) (.c (.int .u8 60)) (.c (.fn 74 [] [])))),mv 4 3,mv 1 4] (.seq (sq [ki 5 0] (.block 0 (.loop (sq [bk 6 .lss 5 10] (.seq (cd 6 .skip (.exit 0)) (.seq (.block 1 (sq [mv 7 5,mv 2 7] (.ops [mv 8 1,mv 9 2,i 10 (.p (.idxS (.c (.str [61,124,59,40,41,42,43,63,47,37])) (.t 9))),n (.w (.mupd (.one .int) (.t 8) (.t 10) (.c (.fn 75 [] []))))]))) (.ops [bk 11 .add 5 1,mv 5 11]))))))) (sq [mv 12 1,mv 0 12] .ret))))
def f44:IFn:=⟨false,13,[.tm 0],b44⟩
def b45:IC :=(sq [i 4 (.p (.mov (.c (.str []))))] (.seq (sq [mv 7 0,i 8 (.p (.bin .eql (.t 7) (.c (.str [])))),mv 9 8,eM 10 9 1,gf 11 9 (.p (.bin .eql (.t 10) (.c (.str [])))),oP 12 9 11] (cd 12 (sq [mv 13 0,mv 4 13] .ret) .skip)) (.seq (sq [mv 14 1,lS 15 14,bk 16 .eql 15 1,mv 17 16,gM 18 17 1,gt 19 17 (.p (.idxS (.t 18) (.c (.int .i64 0)))),gt 20 17 (.p (.bin .lss (.t 19) (.c (.int .u8 128)))),aP 21 17 20] (cd 21 (sq [mv 22 0,mv 23 1,i 24 (.p (.idxS (.t 23) (.c (.int .i64 0)))),ca 25 76 [.t 22,.t 24],mv 4 25] .ret) .skip)) (.seq (sq [mv 27 1,ca 28 77 [.t 27],mv 26 28,ex 29 0 26,ex 30 1 26,i 5 (.a (.alloc (List.replicate 256 (.bool false))) none),sT 256 5 29,mv 6 30] (sq [mv 31 6] (cd 31 (sq [mv 32 0,ca 33 78 [.t 32,.t 5],mv 4 33] .ret) .skip))) (sq [mv 34 0,mv 35 1,ca 36 79 [.t 34,.t 35],mv 4 36] .ret)))))
def f45:IFn:=⟨false,37,[.tm 4],b45⟩
def b46:IC :=(sq [i 2 (.a (.alloc [.int .i64 0,.str [],.nils,.int .i64 0]) none),bf 3] (sq [mv 5 0,ca 6 80 [.t 5],mv 4 6] (sq [mv 7 4,i 8 (.p (.build [.int .i64 0,.str [],.nils,.int .i64 0] [(0,1,(.c (.int .i64 0))),(1,1,(.t 7))])),mv 9 4,i 10 (.p (.bin .neq (.t 9) (.c (.str [])))),mv 11 10,gM 12 11 4,gt 13 11 (.r (.len .str (.t 12))),gC 14 11 .leq 13 12,aP 15 11 14,sT 4 2 8,mv 3 15] .ret)))
def f46:IFn:=⟨false,16,[.cell (some 4) 2,.tm 3],b46⟩
def b47:IC :=(sq [bf 4] (sq [mv 6 0,mv 7 1,ca 8 49 [.t 6,(.c (.int .i64 4)),.t 7],mv 5 8] (.seq (sq [mv 9 5] (cd 9 (.ops [mv 10 0,mv 11 0,nc 12 11,fa 13 0 12,ld 14 13,i 15 (.p (.slice 4 (.t 14) (some (.c (.int .i64 1))) none none)),nc 16 10,fa 17 0 16,sT 1 17 15]) .skip)) (sq [mv 18 5,mv 4 18] .ret))))
def f47:IFn:=⟨false,19,[.tm 4],b47⟩
def b48:IC :=(sq [i 6 (.a (.alloc [.int .i64 0,.str [],.nils,.int .i64 0]) none)] (.seq (sq [mv 8 0,mv 9 1,mv 10 2,ca 11 49 [.t 8,.t 9,.t 10],nt 12 11] (cd 12 (.ops [mv 13 0,ca 14 50 [.t 13,(.c (.int .i64 3))]]) .skip)) (sq [mv 15 0,nc 16 15,fa 17 0 16,ld 18 17,iX 19 4 18 0,lg 20 4 19,i 7 (.a (.alloc [.int .i64 0,.str [],.nils,.int .i64 0]) none),sT 4 7 20] (sq [mv 21 0,mv 22 0,nc 23 22,fa 24 0 23,ld 25 24,i 26 (.p (.slice 4 (.t 25) (some (.c (.int .i64 1))) none none)),nc 27 21,fa 28 0 27,sT 1 28 26] (sq [lg 29 4 7,sT 4 6 29] .ret)))))
def f48:IFn:=⟨false,30,[.cell (some 4) 6],b48⟩
def b49:IC :=(sq [bf 6] (sq [mv 7 0,nc 8 7,fa 9 0 8,ld 10 9,ln 11 10,bk 12 .gtr 11 0,mv 13 12,gM 14 13 0,gt 15 13 (.p (.nilc (.t 14))),gF 16 13 0 15,gL 17 13 16,gt 18 13 (.p (.iaddr 4 (.t 17) (.c (.int .i64 0)))),gF 19 13 0 18,gL 20 13 19,gM 21 13 1,gB 22 13 .eql 20 21,aP 23 13 22,mv 24 23,gM 25 24 2,gt 26 24 (.p (.bin .eql (.t 25) (.c (.str [])))),gM 27 24 26,eM 28 27 0,gf 29 27 (.p (.nilc (.t 28))),eF 30 27 0 29,eL 31 27 30,gf 32 27 (.p (.iaddr 4 (.t 31) (.c (.int .i64 0)))),eF 33 27 1 32,eL 34 27 33,eM 35 27 2,eB 36 27 .eql 34 35,gt 37 24 (.p (.pick (.t 27) (.c (.bool true)) (.t 36))),aP 38 24 37,mv 6 38] .ret))
def f49:IFn:=⟨false,39,[.tm 6],b49⟩
def b50:IC :=(.ops [mv 4 1,mv 5 0,ca 6 81 [.t 5],i 7 (.p (.build [.int .i64 0,.int .i64 0] [(0,1,(.t 4)),(1,1,(.t 6))])),i 8 (.p (.mki 0 (.t 7))),n (.bad)])
def f50:IFn:=⟨false,9,[],b50⟩
def b51:IC :=(sq [i 0 (.p (.mov (.c .nilm)))] (sq [i 1 (.a (.mkm) none),n (.w (.mupd (.one .str) (.t 1) (.c (.str [108,111,110,103])) (.c (.int .i64 1)))),n (.w (.mupd (.one .str) (.t 1) (.c (.str [114,101,115])) (.c (.int .i64 2)))),n (.w (.mupd (.one .str) (.t 1) (.c (.str [111,102,102])) (.c (.int .i64 4)))),n (.w (.mupd (.one .str) (.t 1) (.c (.str [98,108,111,99,107])) (.c (.int .i64 8)))),n (.w (.mupd (.one .str) (.t 1) (.c (.str [97,108,105,103,110])) (.c (.int .i64 16)))),n (.w (.mupd (.one .str) (.t 1) (.c (.str [115,121,110,99])) (.c (.int .i64 32)))),mv 2 1,mv 0 2] .ret))
def f51:IFn:=⟨false,3,[.tm 0],b51⟩
def b52:IC :=(sq [i 2 (.a (.alloc [.int .i64 0,.str [],.nils,.nils,.int .i64 0]) none)] (sq [mv 4 0,ca 5 82 [.t 4],i 6 (.a (.bslice true [.int .i64 0,.str [],.nils,.nils,.int .i64 0] 1 [(0,(.t 5))]) none),mv 3 6] (.seq (.block 0 (.loop (.seq (sq [mv 7 0,i 8 (.call (.dir 47) [.t 7,(.c (.str [124]))] false)] (cd 8 .skip (.exit 0))) (.block 1 (.ops [mv 9 3,mv 10 0,ca 11 82 [.t 10],i 12 (.a (.bslice true [.int .i64 0,.str [],.nils,.nils,.int .i64 0] 1 [(0,(.t 11))]) none),aD 13 5 80 9 12,mv 3 13]))))) (sq [mv 14 3,iX 15 5 14 0,fa 16 4 15,ld 17 16,mv 18 3,ca 19 83 [(.c (.int .i64 5)),.t 17,.t 18],sT 5 2 19] .ret))))
def f52:IFn:=⟨false,20,[.cell (some 5) 2],b52⟩
def b53:IC :=(sq [bx 3 1 0,bx 5 5 2] (sq [ns 6] (sq [mv 12 1,i 13 (.p (.build [.int .i64 0,.nils,.int .i64 0] [(0,1,(.c (.int .i64 2))),(2,1,(.t 12))])),i 7 (.a (.alloc [.int .i64 0,.nils,.int .i64 0]) none),sT 3 7 13] (sq [i 14 (.p (.mkf 84 [] [.t 3,.t 5])),mv 8 14] (.seq (sq [fa 15 0 5,ld 16 15] (.block 0 (sq [bk 22 .eql 16 5,mv 21 22] (cd 21 (sq [fa 23 3 5,ld 24 23,ln 25 24,ki 26 0] (.block 1 (.loop (sq [b2 27 .lss 26 25] (.seq (cd 27 .skip (.exit 1)) (.seq (.block 2 (sq [mv 28 26,mv 9 28] (.ops [mv 29 6,mv 30 8,mv 31 9,i 32 (.call (.val (.t 30)) [.t 31] false),i 33 (.a (.bslice true [.nils] 1 [(0,(.t 32))]) none),aD 34 1 24 29 33,mv 6 34]))) (.ops [bk 35 .add 26 1,mv 26 35]))))))) (sq [bk 37 .eql 16 6,mv 36 37] (cd 36 (.dops 0 [(2,1)] [mv 38 8,i 39 (.call (.val (.t 38)) [(.c (.int .i64 0))] false),lg 40 3 7,i 41 (.a (.bslice true [.int .i64 0,.nils,.int .i64 0] 1 [(0,(.t 40))]) none),aD 42 3 40 39 41,i 43 (.a (.bslice true [.nils] 2 [(0,(.t 42)),(1,(.c .nils))]) none),mv 6 43]) (sq [bk 45 .eql 16 7,mv 44 45] (cd 44 (sq [mv 46 8,i 47 (.call (.val (.t 46)) [(.c (.int .i64 0))] false),mv 10 47] (.dops 0 [(2,1)] [mv 48 10,ca 49 86 [.t 48],lg 50 3 7,i 51 (.a (.bslice true [.int .i64 0,.nils,.int .i64 0] 1 [(0,(.t 50))]) none),aD 52 3 40 49 51,mv 53 10,i 54 (.a (.bslice true [.nils] 2 [(0,(.t 52)),(1,(.t 53))]) none),mv 6 54])) (sq [bk 56 .eql 16 8,mv 55 56] (cd 55 (.ops [mv 57 8,i 58 (.call (.val (.t 57)) [(.c (.int .i64 0))] false),i 59 (.a (.bslice true [.nils] 2 [(0,(.t 58)),(1,(.c .nils))]) none),mv 6 59]) (.ops [ld 17 3,lg 18 5 5,ca 19 85 [.t 17,(.c .nils),.t 18],i 20 (.a (.bslice true [.nils] 1 [(0,(.t 19))]) none),mv 6 20]))))))))))) (sq [mv 60 6,i 61 (.call (.dir 59) [.t 60,(.c (.fn 87 [] []))] false),mv 11 61] (sq [ld 62 3,mv 63 6,ln 64 63,bk 65 .eql 64 0,mv 66 65,eM 67 66 6,eN 68 66 67,eC 69 66 .gtr 68 8,oP 70 66 69,mv 71 70,eM 72 71 11,oP 73 71 72,fa 74 4 5,ld 75 74,ca 76 88 [.t 62,.t 73,(.c (.int .i64 7)),.t 75]] (.ops [ld 77 3,nc 78 77,fa 79 1 78,ld 80 79,mv 81 1,mv 82 6,ia 83 3 80 81,fa 84 0 83,sT 1 84 82]))))))))
def f53:IFn:=⟨false,85,[],b53⟩
def b54:IC :=(sq [bx 2 3 0,bf 3] (.seq (sq [fa 4 0 2,ld 5 4] (.block 0 (.seq (sq [bk 7 .eql 5 0,mv 6 7] (cd 6 .skip (.ops [bk 8 .eql 5 1,mv 6 8]))) (cd 6 (sq [lg 9 3 2,ca 10 55 [.t 9],nt 11 10,mv 3 11] .ret) (sq [bk 13 .eql 5 2,mv 12 13] (cd 12 (sq [fa 14 2 2,ld 15 14,bk 16 .lss 15 0,mv 17 16,eF 18 17 2 2,eL 19 17 18,eL 20 17 1,eB 21 17 .geq 19 20,oP 22 17 21,mv 23 22,eF 24 23 1 2,eL 25 23 24,eN 26 23 25,eC 27 23 .gtr 26 0,oP 28 23 27,mv 3 28] .ret) .skip)))))) (sq [bt 3] .ret)))
def f54:IFn:=⟨true,29,[.tm 3],b54⟩
def b55:IC :=(sq [bx 1 3 0,bf 2] (sq [fa 4 1 1,ld 5 4,i 6 (.p (.mkf 90 [] [.t 1])),ca 7 89 [.t 5,.t 6],mv 3 7] (sq [fa 8 2 1,ld 9 8,bk 10 .eql 9 0,mv 11 10,gM 12 11 3,gX 13 11 12,aP 14 11 13,mv 15 14,gF 16 15 1 1,gL 17 15 16,gt 18 15 (.call (.dir 58) [.t 17] false),aP 19 15 18,mv 2 19] .ret)))
def f55:IFn:=⟨true,20,[.tm 2],b55⟩
def b56:IC :=(sq [bf 3] (sq [mv 4 0,ln 5 4,bk 6 .gtr 5 40,mv 7 6,eM 8 7 0,eL 9 7 1,gf 10 7 (.call (.dir 57) [.t 8,.t 9] false),oP 11 7 10,mv 3 11] .ret))
def f56:IFn:=⟨true,12,[.tm 3],b56⟩
def b57:IC :=(sq [bf 4] (sq [mv 5 0,mv 6 1,ca 7 91 [.t 5,.t 6],bk 8 .geq 7 0,mv 4 8] .ret))
def f57:IFn:=⟨true,9,[.tm 4],b57⟩
def b58:IC :=(sq [bf 2] (.seq (sq [mv 5 0,ln 6 5,ki 7 0] (.block 0 (.loop (sq [b2 8 .lss 7 6] (.seq (cd 8 .skip (.exit 0)) (.seq (.block 1 (sq [mv 9 7,ia 10 2 5 7,lg 11 2 10,i 4 (.a (.alloc [.int .i64 0,.int .i64 0]) none),mv 3 9,sT 2 4 11] (.seq (.dops 0 [] [fa 12 0 4,ld 13 12,bk 14 .lss 13 0,mv 15 14,eF 16 15 0 4,eL 17 15 16,eF 18 15 1 4,eL 19 15 18,eB 20 15 .gtr 17 19,oP 21 15 20,mv 22 21,eF 23 22 1 4,eL 24 22 23,eC 25 22 .gtr 24 1114111,oP 26 22 25,mv 27 26,eM 28 27 3,eC 29 27 .gtr 28 0,eM 30 27 29,gF 31 30 0 4,gL 32 30 31,gC 33 30 .sub 32 1,gM 34 30 0,gM 35 30 3,gC 36 30 .sub 35 1,gI 37 30 2 34 36,gF 38 30 1 37,gL 39 30 38,gB 40 30 .leq 33 39,gf 41 27 (.p (.pick (.t 30) (.t 40) (.c (.bool false)))),oP 42 27 41]) (cd 42 (sq [bf 2] .ret) .skip)))) (.ops [bk 43 .add 7 1,mv 7 43]))))))) (sq [bt 2] .ret)))
def f58:IFn:=⟨true,44,[.tm 2],b58⟩
def b59:IC :=(sq [bf 4] (sq [mv 5 0,mv 6 1,ca 7 92 [.t 5,.t 6],bk 8 .geq 7 0,mv 4 8] .ret))
def f59:IFn:=⟨true,9,[.tm 4],b59⟩
def b60:IC :=(sq [bx 1 2 0,ki 2 0] (.seq (sq [lg 7 2 1,ca 8 93 [.t 7],mv 6 8,ex 9 0 6,ex 10 1 6,mv 3 9,mv 4 10] (sq [mv 11 4,mv 12 11,eG 13 12 2 1,gf 14 12 (.call (.dir 32) [.t 13] false),eX 15 12 14,oP 16 12 15] (cd 16 (sq [ki 2 (-1)] .ret) .skip))) (.seq (sq [fa 17 0 1,ld 18 17,ln 19 18,ki 20 0] (.block 0 (.loop (sq [b2 21 .lss 20 19] (.seq (cd 21 .skip (.exit 0)) (.seq (.block 1 (sq [mv 22 20,mv 5 22] (sq [lg 23 2 1,mv 24 5,mv 25 5,ca 26 94 [.t 23,.t 24,.t 25]] (cd 26 (sq [mv 27 5,mv 2 27] .ret) .skip)))) (.ops [bk 28 .add 20 1,mv 20 28]))))))) (sq [ki 2 (-1)] .ret))))
def f60:IFn:=⟨true,29,[.tm 2],b60⟩
def b61:IC :=(sq [bx 1 2 0,ki 2 0] (sq [lg 4 2 1,ca 5 95 [.t 4,(.c (.int .i64 0))],mv 3 5] (.seq (sq [mv 6 3,ln 7 6,bk 8 .eql 7 0] (cd 8 (sq [ki 2 (-1)] .ret) .skip)) (sq [mv 9 3,iX 10 1 9 0,n (.w (.store 1 (.t 10) (.c (.bool true))))] (sq [mv 11 3,ca 12 96 [.t 11,(.c (.bool false))],mv 2 12] .ret)))))
def f61:IFn:=⟨true,13,[.tm 2],b61⟩
def b62:IC :=(sq [bx 1 2 0,ki 2 0] (sq [lg 3 2 1,ca 4 97 [.t 3],ca 5 96 [.t 4,(.c (.bool false))],mv 2 5] .ret))
def f62:IFn:=⟨true,6,[.tm 2],b62⟩
def b63:IC :=(sq [bx 1 2 0,ki 2 0] (sq [lg 3 2 1,i 4 (.p (.mkf 99 [] [.t 1])),ca 5 98 [.t 3,.t 4],mv 2 5] .ret))
def f63:IFn:=⟨true,6,[.tm 2],b63⟩
def b64:IC :=(sq [bx 1 2 0,ki 2 0] (sq [lg 3 2 1,i 4 (.p (.mkf 101 [] [.t 1])),ca 5 98 [.t 3,.t 4],mv 2 5] .ret))
def f64:IFn:=⟨true,6,[.tm 2],b64⟩
def b65:IC :=(sq [ld 7 1,ln 8 7,ki 9 0] (.block 0 (.loop (sq [b2 10 .lss 9 8] (.seq (cd 10 .skip (.exit 0)) (.seq (.block 1 (sq [ia 11 2 7 9,lg 12 2 11,i 5 (.a (.alloc [.nilf,.int .i64 0]) none),sT 2 5 12] (sq [fa 13 0 5,ld 14 13,lg 15 2 2,i 16 (.call (.val (.t 14)) [.t 15] false),mv 6 16] (sq [mv 17 6,bk 18 .neq 17 (-1),mv 19 18,gM 20 19 0,gM 21 19 6,gF 22 19 1 5,gL 23 19 22,gt 24 19 (.call (.val (.t 20)) [.t 21,.t 23] false),gX 25 19 24,aP 26 19 25] (cd 26 .ret .skip))))) (.ops [bk 27 .add 9 1,mv 9 27])))))))
def f65:IFn:=⟨false,28,[],b65⟩
def b69:IC :=(sq [bx 2 2 0,ns 4] (sq [lg 13 2 2,ca 14 111 [.t 13],mv 5 14] (.seq (sq [mv 15 1,bk 16 .lss 15 0,mv 17 16,eM 18 17 1,eM 19 17 5,eN 20 17 19,eB 21 17 .geq 18 20,oP 22 17 21] (cd 22 (sq [ns 4] .ret) .skip)) (sq [mv 23 5,ln 24 23,i 25 (.a (.mks [.bool false] 1 (.t 24) (.t 24)) none),mv 6 25] (.seq (sq [ki 7 0] (.block 0 (.loop (.seq (sq [mv 26 7,fa 27 0 2,ld 28 27,mv 29 1,ia 30 3 28 29,fa 31 0 30,ld 32 31,ln 33 32,b2 34 .lss 26 33] (cd 34 .skip (.exit 0))) (.seq (.block 1 (sq [fa 37 0 2,ld 38 37,mv 39 1,ia 40 3 38 39,fa 41 0 40,ld 42 41,mv 43 7,ia 44 1 42 43,ld 45 44,mv 8 45] (sq [ki 9 0] (.block 2 (.loop (.seq (sq [mv 46 9,mv 47 8,ln 48 47,b2 49 .lss 46 48] (cd 49 .skip (.exit 2))) (.seq (.block 3 (sq [mv 52 5,mv 53 8,mv 54 9,sH 55 3 53 54,ca 56 112 [.t 52,.t 55],mv 10 56] (sq [mv 57 10,mv 58 57,gM 59 58 8,gM 60 58 9,gI 61 58 3 59 60,gF 62 58 0 61,gL 63 58 62,gC 64 58 .eql 63 2,aP 65 58 64] (cd 65 (.ops [mv 66 6,mv 67 8,mv 68 9,ia 69 3 67 68,fa 70 2 69,ld 71 70,ia 72 1 66 71,n (.w (.store 1 (.t 72) (.c (.bool true))))]) .skip)))) (.ops [mv 50 9,bk 51 .add 50 1,mv 9 51])))))))) (.ops [mv 35 7,bk 36 .add 35 1,mv 7 36])))))) (sq [ns 11] (.seq (sq [ki 12 0] (.block 4 (.loop (.seq (sq [mv 73 12,mv 74 6,ln 75 74,b2 76 .lss 73 75] (cd 76 .skip (.exit 4))) (.seq (.block 5 (sq [mv 79 6,mv 80 12,ia 81 1 79 80,ld 82 81] (cd 82 (.ops [mv 83 11,mv 84 12,i 85 (.a (.bslice true [.int .i64 0] 1 [(0,(.t 84))]) none),aD 86 1 8 83 85,mv 11 86]) .skip))) (.ops [mv 77 12,bk 78 .add 77 1,mv 12 78])))))) (sq [mv 87 11,mv 4 87] .ret))))))))
def f69:IFn:=⟨true,88,[.tm 4],b69⟩
def b70:IC :=(sq [bx 3 3 1,bf 4] (.seq (sq [fa 5 0 3,ld 6 5,bk 7 .eql 6 2] (cd 7 (sq [mv 8 0,fa 9 2 3,ld 10 9,ia 11 1 8 10,ld 12 11,mv 4 12] .ret) .skip)) (.seq (sq [fa 13 0 3,ld 14 13,bk 15 .eql 14 0] (cd 15 (sq [fa 16 1 3,ld 17 16,ln 18 17,bk 19 .gtr 18 0,mv 4 19] .ret) .skip)) (sq [fa 20 1 3,ld 21 20,i 22 (.p (.build [.int .i64 0,.int .i64 0] [(0,1,(.c (.int .i64 55296))),(1,1,(.c (.int .i64 57343)))])),i 23 (.a (.bslice true [.int .i64 0,.int .i64 0] 1 [(0,(.t 22))]) none),ca 24 114 [.t 21,.t 23],ca 25 113 [.t 24],bk 26 .gtr 25 0,mv 4 26] .ret))))
def f70:IFn:=⟨true,27,[.tm 4],b70⟩
def b66:IC :=(.seq (.dops 0 [] [ld 10 1,nc 11 10,fa 12 0 11,fa 13 0 12,ld 14 13,fa 15 0 2,ld 16 15,ia 17 3 14 16,fa 18 0 17,ld 19 18,ln 20 19,ki 21 0]) (.block 0 (.loop (sq [b2 22 .lss 21 20] (.seq (cd 22 .skip (.exit 0)) (.seq (.block 1 (sq [ia 23 1 19 21,ld 24 23,mv 5 24] (sq [mv 25 5,ln 26 25,ki 27 0] (.block 2 (.loop (sq [b2 28 .lss 27 26] (.seq (cd 28 .skip (.exit 2)) (.seq (.block 3 (sq [mv 29 27,ia 30 3 25 27,lg 31 3 30,i 7 (.a (.alloc [.int .i64 0,.nils,.int .i64 0]) none),mv 6 29,sT 3 7 31] (.seq (.dops 0 [] [ld 32 1,mv 33 5,mv 34 6,sH 35 3 33 34,fa 36 1 2,ld 37 36,ca 38 67 [.t 32,.t 35,.t 37],ln 39 38,ki 40 0]) (.block 4 (.loop (sq [b2 41 .lss 40 39] (.seq (cd 41 .skip (.exit 4)) (.seq (.block 5 (sq [ia 42 1 38 40,ld 43 42,mv 9 43] (sq [fa 44 0 7,ld 45 44,bk 46 .neq 45 2] (cd 46 (.dops 0 [(0,13),(1,13),(4,13)] [ld 47 1,ld 48 1,nc 49 48,fa 50 5 49,ld 51 50,mv 52 9,lg 53 3 7,ld 54 1,nc 55 54,fa 56 2 55,ld 57 56,mv 58 9,ca 59 68 [.t 53,.t 57,.t 58],b2 60 .add 52 59,i 61 (.p (.max (.t 51) [.t 60])),nc 62 47,fa 63 5 62,sT 1 63 61]) (sq [mv 64 0,fa 65 2 7,ld 66 65,mv 67 9,i 68 (.p (.build [.int .i64 0,.int .i64 0] [(0,1,(.t 66)),(1,1,(.t 67))])),i 69 (.call (.val (.t 64)) [.t 68] false),nt 70 69] (cd 70 .ret .skip)))))) (.ops [bk 71 .add 40 1,mv 40 71]))))))))) (.ops [bk 72 .add 27 1,mv 27 72]))))))))) (.ops [bk 73 .add 21 1,mv 21 73])))))))
def f66:IFn:=⟨false,74,[],b66⟩
def b67:IC :=(sq [ns 6] (sq [mv 15 2,i 16 (.a (.bslice true [.int .i64 0] 1 [(0,(.t 15))]) none),mv 7 16] (.seq (sq [mv 17 1,ln 18 17,ki 19 0] (.block 0 (.loop (sq [b2 20 .lss 19 18] (.seq (cd 20 .skip (.exit 0)) (.seq (.block 1 (sq [ia 21 3 17 19,lg 22 3 21,i 9 (.a (.alloc [.int .i64 0,.nils,.int .i64 0]) none),sT 3 9 22] (sq [ns 10] (.seq (sq [mv 23 7,ln 24 23,ki 25 0] (.block 2 (.loop (sq [b2 26 .lss 25 24] (.seq (cd 26 .skip (.exit 2)) (.seq (.block 3 (sq [ia 27 1 23 25,ld 28 27,mv 12 28] (sq [fa 29 0 9,ld 30 29,bk 31 .eql 30 2] (cd 31 (.ops [mv 32 10,mv 33 0,fa 34 2 9,ld 35 34,mv 36 12,i 37 (.p (.build [.int .i64 0,.int .i64 0] [(0,1,(.t 35)),(1,1,(.t 36))])),ca 38 103 [.t 33,.t 37],aD 39 1 8 32 38,mv 10 39]) (.seq (.dops 0 [] [lg 41 3 9,mv 42 0,nc 43 42,fa 44 2 43,ld 45 44,mv 46 12,ca 47 104 [.t 41,.t 45,.t 46],mv 40 47,ex 48 0 40,ex 49 1 40,mv 13 48,mv 14 49]) (sq [mv 50 14] (cd 50 (.ops [mv 51 10,mv 52 12,mv 53 13,b2 54 .add 52 53,i 55 (.a (.bslice true [.int .i64 0] 1 [(0,(.t 54))]) none),aD 56 1 8 51 55,mv 10 56]) .skip))))))) (.ops [bk 57 .add 25 1,mv 25 57]))))))) (sq [mv 58 10,ca 59 105 [.t 58]] (.ops [mv 60 10,i 61 (.call (.dir 106) [.t 60] true),mv 7 61])))))) (.ops [bk 62 .add 19 1,mv 19 62]))))))) (sq [mv 63 7,mv 6 63] .ret))))
def f67:IFn:=⟨false,64,[.tm 6],b67⟩
def b68:IC :=(sq [bx 3 3 0,ki 6 0] (sq [i 7 (.p (.build [.nilf,.nilf,.nilf] [(0,1,(.c (.fn 107 [] []))),(1,1,(.c (.fn 108 [] []))),(2,1,(.c (.fn 109 [] [])))])),lg 8 3 3,mv 9 1,mv 10 2,ca 11 110 [.t 7,.t 8,.t 9,.t 10],mv 6 11] .ret))
def f68:IFn:=⟨true,12,[.tm 6],b68⟩
def b71:IC :=(sq [i 2 (.a (.alloc [.int .i64 0,.str [],.nils,.int .i64 0]) none),bf 3] (sq [mv 5 0,nc 6 5,fa 7 1 6,ld 8 7,bk 9 .add 8 1,nc 10 5,fa 11 1 10,sT 1 11 9] (sq [mv 12 0,ca 13 80 [.t 12],mv 4 13] (sq [mv 14 4,i 15 (.p (.build [.int .i64 0,.str [],.nils,.int .i64 0] [(0,1,(.c (.int .i64 5))),(1,1,(.t 14))])),ca 16 116 [],mv 17 4,ca 18 115 [.t 16,.t 17],sT 4 2 15,mv 3 18] .ret))))
def f71:IFn:=⟨false,19,[.cell (some 4) 2,.tm 3],b71⟩
def b72:IC :=(sq [i 2 (.a (.alloc [.int .i64 0,.str [],.nils,.int .i64 0]) none),bf 3] (sq [mv 8 0,nc 9 8,fa 10 1 9,ld 11 10,bk 12 .add 11 1,nc 13 8,fa 14 1 13,sT 1 14 12] (sq [ns 4] (.seq (.block 0 (.loop (.seq (sq [mv 15 0,ca 16 117 [.t 15,(.c (.int .u8 34))],nt 17 16] (cd 17 .skip (.exit 0))) (.block 1 (.seq (.seq (.dops 0 [] [mv 18 0,nc 19 18,fa 20 1 19,ld 21 20,mv 22 0,nc 23 22,fa 24 0 23,ld 25 24,lS 26 25,b2 27 .eql 21 26]) (cd 27 (sq [i 28 (.p (.build [.int .i64 0,.str [],.nils,.int .i64 0] [])),sT 4 2 28,bf 3] .ret) .skip)) (.seq (.dops 0 [] [mv 29 0,nc 30 29,fa 31 0 30,ld 32 31,mv 33 0,nc 34 33,fa 35 1 34,ld 36 35,i 37 (.p (.idxS (.t 32) (.t 36))),mv 5 37]) (sq [mv 38 0,nc 39 38,fa 40 1 39,ld 41 40,bk 42 .add 41 1,nc 43 38,fa 44 1 43,sT 1 44 42] (.seq (sq [mv 45 5,bJ 46 .eql 45 .u8 92] (cd 46 (.seq (sq [mv 47 0,ca 48 117 [.t 47,(.c (.int .u8 120))],nt 49 48] (cd 49 (sq [i 50 (.p (.build [.int .i64 0,.str [],.nils,.int .i64 0] [])),sT 4 2 50,bf 3] .ret) .skip)) (sq [mv 52 0,ca 53 118 [.t 52],mv 51 53,ex 54 0 51,ex 55 1 51,mv 6 54,mv 7 55] (.seq (sq [mv 56 7,nt 57 56] (cd 57 (sq [i 58 (.p (.build [.int .i64 0,.str [],.nils,.int .i64 0] [])),sT 4 2 58,bf 3] .ret) .skip)) (sq [mv 59 4,mv 60 6,cV 61 .u8 60,i 62 (.a (.bslice true [.int .u8 0] 1 [(0,(.t 61))]) none),aD 63 1 1 59 62,mv 4 63] (.exit 1))))) .skip)) (.seq (sq [mv 64 5,bJ 65 .lss 64 .u8 32,mv 66 65,eM 67 66 5,gf 68 66 (.p (.bin .gtr (.t 67) (.c (.int .u8 126)))),oP 69 66 68] (cd 69 (sq [i 70 (.p (.build [.int .i64 0,.str [],.nils,.int .i64 0] [])),sT 4 2 70,bf 3] .ret) .skip)) (.ops [mv 71 4,mv 72 5,i 73 (.a (.bslice true [.int .u8 0] 1 [(0,(.t 72))]) none),aD 74 1 1 71 73,mv 4 74])))))))))) (sq [mv 75 4,i 76 (.r (.b2s (.t 75))),i 77 (.p (.build [.int .i64 0,.str [],.nils,.int .i64 0] [(0,1,(.c (.int .i64 1))),(1,1,(.t 76))])),mv 78 4,ln 79 78,bk 80 .gtr 79 0,sT 4 2 77,mv 3 80] .ret)))))
def f72:IFn:=⟨false,81,[.cell (some 4) 2,.tm 3],b72⟩
def b73:IC :=(sq [i 2 (.a (.alloc [.int .i64 0,.str [],.nils,.int .i64 0]) none),bf 3] (sq [mv 7 0,nc 8 7,fa 9 1 8,ld 10 9,bk 11 .add 10 1,nc 12 7,fa 13 1 12,sT 1 13 11] (sq [mv 14 0,ca 15 117 [.t 14,(.c (.int .u8 94))],mv 4 15] (sq [mv 17 0,i 18 (.call (.dir 119) [.t 17,(.c (.int .u8 93)),(.c (.fn 120 [] []))] false),mv 16 18,ex 19 0 16,ex 20 1 16,mv 5 19,mv 6 20] (.seq (sq [mv 21 4] (cd 21 (.ops [mv 22 5,ca 23 121 [.t 22,(.c (.int .i64 1114111))],mv 5 23]) .skip)) (sq [mv 24 5,i 25 (.p (.build [.int .i64 0,.int .i64 0] [(0,1,(.c (.int .i64 55296))),(1,1,(.c (.int .i64 57343)))])),i 26 (.a (.bslice true [.int .i64 0,.int .i64 0] 1 [(0,(.t 25))]) none),ca 27 122 [.t 24,.t 26],i 28 (.p (.build [.int .i64 0,.str [],.nils,.int .i64 0] [(0,1,(.c (.int .i64 2))),(2,1,(.t 27))])),mv 29 6,sT 4 2 28,mv 3 29] .ret))))))
def f73:IFn:=⟨false,30,[.cell (some 4) 2,.tm 3],b73⟩
def b74:IC :=(sq [i 2 (.a (.alloc [.int .i64 0,.str [],.nils,.int .i64 0]) none),bf 3] (sq [mv 6 0,nc 7 6,fa 8 1 7,ld 9 8,bk 10 .add 9 1,nc 11 6,fa 12 1 11,sT 1 12 10] (sq [mv 14 0,i 15 (.call (.dir 119) [.t 14,(.c (.int .u8 62)),(.c (.fn 118 [] []))] false),mv 13 15,ex 16 0 13,ex 17 1 13,mv 4 16,mv 5 17] (sq [mv 18 4,i 19 (.p (.build [.int .i64 0,.str [],.nils,.int .i64 0] [(0,1,(.c (.int .i64 3))),(2,1,(.t 18))])),mv 20 5,sT 4 2 19,mv 3 20] .ret))))
def f74:IFn:=⟨false,21,[.cell (some 4) 2,.tm 3],b74⟩
def b75:IC :=(sq [i 2 (.a (.alloc [.int .i64 0,.str [],.nils,.int .i64 0]) none),bf 3] (sq [mv 4 0,nc 5 4,fa 6 1 5,ld 7 6,bk 8 .add 7 1,nc 9 4,fa 10 1 9,sT 1 10 8] (.seq (.dops 0 [] [mv 11 0,nc 12 11,fa 13 0 12,ld 14 13,mv 15 0,nc 16 15,fa 17 1 16,ld 18 17,bk 19 .sub 18 1,mv 20 0,nc 21 20,fa 22 1 21,ld 23 22,i 24 (.p (.sliceS (.t 14) (some (.t 19)) (some (.t 23)))),i 25 (.p (.build [.int .i64 0,.str [],.nils,.int .i64 0] [(0,1,(.c (.int .i64 4))),(1,1,(.t 24))])),sT 4 2 25,bt 3]) .ret)))
def f75:IFn:=⟨false,26,[.cell (some 4) 2,.tm 3],b75⟩
def b76:IC :=(sq [i 4 (.p (.mov (.c (.str []))))] (.seq (.block 0 (.loop (.seq (sq [mv 5 0,lS 6 5,bk 7 .gtr 6 0,mv 8 7,gM 9 8 0,gt 10 8 (.p (.idxS (.t 9) (.c (.int .i64 0)))),gM 11 8 1,gB 12 8 .eql 10 11,aP 13 8 12] (cd 13 .skip (.exit 0))) (.block 1 (.ops [mv 14 0,i 15 (.p (.sliceS (.t 14) (some (.c (.int .i64 1))) none)),mv 0 15]))))) (sq [mv 16 0,mv 4 16] .ret)))
def f76:IFn:=⟨false,17,[.tm 4],b76⟩
def b77:IC :=(sq [i 2 (.a (.alloc (List.replicate 256 (.bool false))) none),bf 3] (.seq (sq [ki 4 0] (.block 0 (.loop (.seq (sq [mv 6 4,mv 7 0,lS 8 7,b2 9 .lss 6 8] (cd 9 .skip (.exit 0))) (.seq (.block 1 (sq [mv 12 0,mv 13 4,i 14 (.p (.idxS (.t 12) (.t 13))),mv 5 14] (.seq (sq [mv 15 5,bJ 16 .geq 15 .u8 128] (cd 16 (sq [lg 17 256 2,sT 256 2 17,bf 3] .ret) .skip)) (.ops [mv 18 5,i 19 (.p (.iaddrA 256 1 (.t 2) (.t 18))),n (.w (.store 1 (.t 19) (.c (.bool true))))])))) (.ops [mv 10 4,bk 11 .add 10 1,mv 4 11])))))) (sq [lg 20 256 2,sT 256 2 20,bt 3] .ret)))
def f77:IFn:=⟨false,21,[.cell (some 256) 2,.tm 3],b77⟩
def b78:IC :=(sq [i 4 (.p (.mov (.c (.str []))))] (.seq (.block 0 (.loop (.seq (sq [mv 5 0,lS 6 5,bk 7 .gtr 6 0] (cd 7 .skip (.exit 0))) (.block 1 (.seq (sq [mv 8 1,mv 9 0,i 10 (.p (.idxS (.t 9) (.c (.int .i64 0)))),ca 11 123 [.t 8,.t 10],nt 12 11] (cd 12 (.exit 0) .skip)) (.ops [mv 13 0,i 14 (.p (.sliceS (.t 13) (some (.c (.int .i64 1))) none)),mv 0 14])))))) (sq [mv 15 0,mv 4 15] .ret)))
def f78:IFn:=⟨false,16,[.tm 4],b78⟩
def b79:IC :=(sq [i 4 (.p (.mov (.c (.str []))))] (.seq (.block 0 (.loop (.seq (sq [mv 7 0,lS 8 7,bk 9 .gtr 8 0] (cd 9 .skip (.exit 0))) (.block 1 (sq [mv 11 0,ca 12 124 [.t 11],mv 10 12,ex 13 0 10,ex 14 1 10,mv 5 13,mv 6 14] (.seq (sq [mv 15 1,mv 16 5,ca 17 125 [.t 15,.t 16],nt 18 17] (cd 18 (.exit 0) .skip)) (.ops [mv 19 0,mv 20 6,i 21 (.p (.sliceS (.t 19) (some (.t 20)) none)),mv 0 21]))))))) (sq [mv 22 0,mv 4 22] .ret)))
def f79:IFn:=⟨false,23,[.tm 4],b79⟩
def b80:IC :=(sq [i 2 (.p (.mov (.c (.str []))))] (.seq (.dops 0 [] [mv 7 0,nc 8 7,fa 9 0 8,ld 10 9,mv 11 0,nc 12 11,fa 13 1 12,ld 14 13,i 15 (.p (.sliceS (.t 10) (some (.t 14)) none)),mv 3 15]) (sq [mv 16 3,lS 17 16,mv 4 17] (.seq (sq [mv 18 3,i 19 (.a (.rngS (.t 18)) none)] (.block 0 (.loop (sq [i 20 (.w (.nxtS (.t 19))),ex 21 0 20] (.seq (cd 21 .skip (.exit 0)) (.block 1 (sq [ex 22 1 20,ex 23 2 20,mv 5 22,mv 6 23] (sq [mv 24 6,mv 25 5,bk 26 .gtr 25 0,ca 27 126 [.t 24,.t 26],nt 28 27] (cd 28 (sq [mv 29 5,mv 4 29] (.exit 0)) .skip))))))))) (sq [mv 30 0,nc 31 30,fa 32 1 31,ld 33 32,mv 34 4,b2 35 .add 33 34,nc 36 30,fa 37 1 36,sT 1 37 35] (sq [mv 38 3,mv 39 4,i 40 (.p (.sliceS (.t 38) none (some (.t 39)))),mv 2 40] .ret))))))
def f80:IFn:=⟨false,41,[.tm 2],b80⟩
def b81:IC :=(sq [ki 2 0] (.seq (sq [mv 3 0,nc 4 3,fa 5 0 4,ld 6 5,ln 7 6,bk 8 .gtr 7 0] (cd 8 (sq [mv 9 0,nc 10 9,fa 11 0 10,ld 12 11,iX 13 4 12 0,fa 14 3 13,ld 15 14,mv 2 15] .ret) .skip)) (sq [mv 16 0,nc 17 16,fa 18 1 17,ld 19 18,mv 2 19] .ret)))
def f81:IFn:=⟨false,20,[.tm 2],b81⟩
def b82:IC :=(sq [i 2 (.a (.alloc [.int .i64 0,.str [],.nils,.nils,.int .i64 0]) none)] (sq [mv 7 0,ca 8 81 [.t 7],mv 3 8] (sq [ns 4] (.block 0 (.loop (.block 1 (sq [mv 10 0,ca 11 127 [.t 10],mv 9 11,ex 12 0 9,ex 13 1 9,i 5 (.a (.alloc [.int .i64 0,.str [],.nils,.nils,.int .i64 0]) none),sT 5 5 12,mv 6 13] (.seq (sq [mv 14 6,nt 15 14] (cd 15 (sq [mv 16 3,mv 17 4,ca 18 83 [(.c (.int .i64 4)),.t 16,.t 17],sT 5 2 18] .ret) .skip)) (.ops [mv 19 4,mv 20 0,lg 21 5 5,ca 22 128 [.t 20,.t 21],i 23 (.a (.bslice true [.int .i64 0,.str [],.nils,.nils,.int .i64 0] 1 [(0,(.t 22))]) none),aD 24 5 80 19 23,mv 4 24])))))))))
def f82:IFn:=⟨false,25,[.cell (some 5) 2],b82⟩
def b83:IC :=(sq [i 6 (.a (.alloc [.int .i64 0,.str [],.nils,.nils,.int .i64 0]) none)] (.seq (sq [mv 7 2,ln 8 7,bk 9 .eql 8 1] (cd 9 (sq [mv 10 2,iX 11 5 10 0,lg 12 5 11,sT 5 6 12] .ret) .skip)) (sq [mv 13 0,mv 14 2,mv 15 1,i 16 (.p (.build [.int .i64 0,.str [],.nils,.nils,.int .i64 0] [(0,1,(.t 13)),(3,1,(.t 14)),(4,1,(.t 15))])),sT 5 6 16] .ret)))
def f83:IFn:=⟨false,17,[.cell (some 5) 6],b83⟩
def b84:IC :=(sq [ns 4] (.seq (sq [ld 5 1,nc 6 5,fa 7 2 6,ld 8 7,i 9 (.p (.eqo true .ptr (.t 8) (.c .nilp))),mv 10 9,eM 11 10 0,eF 12 10 3 2,eL 13 10 12,eN 14 10 13,eB 15 10 .geq 11 14,oP 16 10 15] (cd 16 (sq [ns 4] .ret) .skip)) (.seq (.dops 0 [] [ld 17 1,fa 18 3 2,ld 19 18,mv 20 0,ia 21 5 19 20,lg 22 5 21,ca 23 85 [.t 17,(.c .nils),.t 22],mv 4 23]) .ret)))
def f84:IFn:=⟨false,24,[.tm 4],b84⟩
def b85:IC :=(sq [bx 5 5 2,ns 6] (sq [mv 16 0,i 17 (.p (.mkf 85 [.t 16] [])),mv 7 17] (.seq (sq [fa 18 0 5,ld 19 18] (.block 0 (sq [bk 21 .eql 19 0,mv 20 21] (cd 20 (.seq (.dops 0 [] [mv 23 0,nc 24 23,fa 25 0 24,ld 26 25,fa 27 1 5,ld 28 27,i 29 (.r (.lookup (.one .str) (.int .i64 0) true (.t 26) (.t 28))),mv 22 29,ex 30 0 22,ex 31 1 22,mv 8 30,mv 9 31]) (.seq (sq [mv 32 0,mv 33 9,nt 34 33,fa 35 4 5,ld 36 35,ca 37 88 [.t 32,.t 34,(.c (.int .i64 5)),.t 36]] (cd 37 (sq [mv 38 1,mv 6 38] .ret) .skip)) (sq [mv 39 1,mv 40 8,i 41 (.p (.build [.int .i64 0,.nils,.int .i64 0] [(0,1,(.c (.int .i64 2))),(2,1,(.t 40))])),i 42 (.a (.bslice true [.int .i64 0,.nils,.int .i64 0] 1 [(0,(.t 41))]) none),aD 43 3 40 39 42,mv 6 43] .ret))) (sq [bk 45 .eql 19 1,mv 44 45] (cd 44 (.seq (sq [fa 46 1 5,ld 47 46,lS 48 47,ki 49 0] (.block 1 (.loop (sq [b2 50 .lss 49 48] (.seq (cd 50 .skip (.exit 1)) (.seq (.block 2 (sq [mv 51 49,mv 10 51] (sq [fa 52 1 5,ld 53 52,mv 54 10,i 55 (.p (.idxS (.t 53) (.t 54))),cV 56 .i64 55,mv 11 56] (.ops [mv 57 1,mv 58 11,mv 59 11,i 60 (.p (.build [.int .i64 0,.int .i64 0] [(0,1,(.t 58)),(1,1,(.t 59))])),i 61 (.a (.bslice true [.int .i64 0,.int .i64 0] 1 [(0,(.t 60))]) none),ca 62 129 [(.c (.int .i64 0)),.t 61],i 63 (.a (.bslice true [.int .i64 0,.nils,.int .i64 0] 1 [(0,(.t 62))]) none),aD 64 3 40 57 63,mv 1 64])))) (.ops [bk 65 .add 49 1,mv 49 65]))))))) (sq [mv 66 1,mv 6 66] .ret)) (sq [bk 68 .eql 19 2,mv 67 68] (cd 67 (sq [mv 69 1,fa 70 2 5,ld 71 70,ca 72 129 [(.c (.int .i64 1)),.t 71],i 73 (.a (.bslice true [.int .i64 0,.nils,.int .i64 0] 1 [(0,(.t 72))]) none),aD 74 3 40 69 73,mv 6 74] .ret) (sq [bk 76 .eql 19 3,mv 75 76] (cd 75 (sq [mv 77 1,fa 78 2 5,ld 79 78,ca 80 129 [(.c (.int .i64 0)),.t 79],i 81 (.a (.bslice true [.int .i64 0,.nils,.int .i64 0] 1 [(0,(.t 80))]) none),aD 82 3 40 77 81,mv 6 82] .ret) (sq [bk 84 .eql 19 4,mv 83 84] (cd 83 (.seq (sq [fa 85 3 5,ld 86 85,ln 87 86,ki 88 0] (.block 3 (.loop (sq [b2 89 .lss 88 87] (.seq (cd 89 .skip (.exit 3)) (.seq (.block 4 (sq [ia 90 5 86 88,lg 91 5 90,i 13 (.a (.alloc [.int .i64 0,.str [],.nils,.nils,.int .i64 0]) none),sT 5 13 91] (sq [mv 92 0,nc 93 92,fa 94 2 93,ld 95 94,i 96 (.p (.eqo false .ptr (.t 95) (.c .nilp)))] (cd 96 (.ops [mv 97 7,mv 98 1,lg 99 5 13,i 100 (.call (.val (.t 97)) [.t 98,.t 99] false),mv 1 100]) .skip)))) (.ops [bk 101 .add 88 1,mv 88 101]))))))) (sq [mv 102 1,mv 6 102] .ret)) .skip)))))))))))) (sq [fa 103 0 5,ld 104 103,bk 105 .lss 104 0,mv 106 105,eF 107 106 0 5,eL 108 106 107,eC 109 106 .gtr 108 8,oP 110 106 109,mv 111 110,eF 112 111 0 5,eL 113 111 112,eC 114 111 .neq 113 5,eM 115 111 114,gF 116 115 3 5,gL 117 115 116,gN 118 115 117,gC 119 115 .neq 118 1,gf 120 111 (.p (.pick (.t 115) (.t 119) (.c (.bool false)))),oP 121 111 120,mv 14 121] (.seq (.seq (.dops 0 [] [mv 122 0,mv 123 14,mv 124 123,eM 125 124 0,gf 126 124 (.p (.nilc (.t 125))),eF 127 124 1 126,eL 128 124 127,eN 129 124 128,eC 130 124 .eql 129 60,oP 131 124 130,fa 132 4 5,ld 133 132,ca 134 88 [.t 122,.t 131,(.c (.int .i64 7)),.t 133]]) (cd 134 (sq [mv 135 1,mv 6 135] .ret) .skip)) (sq [mv 136 0,nc 137 136,fa 138 1 137,ld 139 138,ln 140 139,mv 15 140] (sq [mv 141 0,mv 142 0,nc 143 142,fa 144 1 143,ld 145 144,i 146 (.p (.build [.nils,.int .i64 0,.nils] [])),i 147 (.a (.bslice true [.nils,.int .i64 0,.nils] 1 [(0,(.t 146))]) none),aD 148 3 56 145 147,nc 149 141,fa 150 1 149,sT 1 150 148] (sq [mv 151 0,mv 152 15,lg 153 5 5,ca 154 53 [.t 151,.t 152,.t 153]] (sq [mv 155 1,mv 156 15,i 157 (.p (.build [.int .i64 0,.nils,.int .i64 0] [(0,1,(.c (.int .i64 2))),(2,1,(.t 156))])),i 158 (.a (.bslice true [.int .i64 0,.nils,.int .i64 0] 1 [(0,(.t 157))]) none),aD 159 3 40 155 158,mv 6 159] .ret)))))))))
def f85:IFn:=⟨false,160,[.tm 6],b85⟩
def b86:IC :=(sq [ns 2] (.seq (sq [mv 3 0,i 4 (.p (.eqo false .slice (.t 3) (.c .nils)))] (cd 4 (sq [ns 2] .ret) .skip)) (sq [i 5 (.a (.bslice true [.int .i64 0,.nils,.int .i64 0] 0 []) none),mv 6 0,aD 7 3 40 5 6,mv 2 7] .ret)))
def f86:IFn:=⟨false,8,[.tm 2],b86⟩
def b87:IC :=(sq [bf 2] (sq [mv 3 0,ln 4 3,bk 5 .gtr 4 40,mv 2 5] .ret))
def f87:IFn:=⟨false,6,[.tm 2],b87⟩
def b88:IC :=(sq [bf 8] (.seq (sq [mv 9 1,mv 10 9,gM 11 10 0,gt 12 10 (.p (.nilc (.t 11))),gF 13 10 2 12,gL 14 10 13,gt 15 10 (.p (.eqo false .ptr (.t 14) (.c .nilp))),aP 16 10 15] (cd 16 (.ops [mv 17 0,mv 18 2,mv 19 3,i 20 (.p (.build [.int .i64 0,.int .i64 0] [(0,1,(.t 18)),(1,1,(.t 19))])),bx 21 2 20,nc 22 17,fa 23 2 22,sT 1 23 21]) .skip)) (sq [mv 24 1,mv 8 24] .ret)))
def f88:IFn:=⟨false,25,[.tm 8],b88⟩
def b89:IC :=(sq [bf 4] (sq [mv 5 0,mv 6 1,ca 7 130 [.t 5,.t 6],bk 8 .geq 7 0,mv 4 8] .ret))
def f89:IFn:=⟨true,9,[.tm 4],b89⟩
def b90:IC :=(sq [bx 2 2 0,bf 3] (sq [fa 4 0 1,ld 5 4,bk 6 .eql 5 0,mv 7 6,gF 8 7 1 2,gL 9 7 8,gC 10 7 .gtr 9 255,aP 11 7 10,mv 3 11] .ret))
def f90:IFn:=⟨true,12,[.tm 3],b90⟩
def b91:IC :=(sq [ki 4 0] (.seq (sq [mv 6 0,ln 7 6,ki 8 0] (.block 0 (.loop (sq [b2 9 .lss 8 7] (.seq (cd 9 .skip (.exit 0)) (.seq (.block 1 (sq [mv 10 8,mv 5 10] (sq [mv 11 1,mv 12 0,mv 13 5,ia 14 3 12 13,lg 15 3 14,i 16 (.call (.val (.t 11)) [.t 15] false)] (cd 16 (sq [mv 17 5,mv 4 17] .ret) .skip)))) (.ops [bk 18 .add 8 1,mv 8 18]))))))) (sq [ki 4 (-1)] .ret)))
def f91:IFn:=⟨true,19,[.tm 4],b91⟩
def b92:IC :=(sq [ki 4 0] (.seq (sq [mv 6 0,ln 7 6,ki 8 0] (.block 0 (.loop (sq [b2 9 .lss 8 7] (.seq (cd 9 .skip (.exit 0)) (.seq (.block 1 (sq [mv 10 8,mv 5 10] (sq [mv 11 1,mv 12 0,mv 13 5,ia 14 1 12 13,ld 15 14,i 16 (.call (.val (.t 11)) [.t 15] false)] (cd 16 (sq [mv 17 5,mv 4 17] .ret) .skip)))) (.ops [bk 18 .add 8 1,mv 8 18]))))))) (sq [ki 4 (-1)] .ret)))
def f92:IFn:=⟨true,19,[.tm 4],b92⟩
def b93:IC :=(sq [bx 1 2 0,ns 2,bf 3] (.seq (sq [lg 5 2 1,ca 6 32 [.t 5],nt 7 6] (cd 7 (sq [ns 2,bf 3] .ret) .skip)) (sq [lg 8 2 1,ca 9 131 [.t 8],ca 10 132 [.t 9],mv 4 10] (.seq (sq [mv 11 4,ln 12 11,fa 13 0 1,ld 14 13,ln 15 14,b2 16 .lss 12 15] (cd 16 (sq [ns 2,bf 3] .ret) .skip)) (sq [mv 17 4,mv 2 17,bt 3] .ret)))))
def f93:IFn:=⟨true,18,[.tm 2,.tm 3],b93⟩
def b94:IC :=(sq [bx 3 2 0,bf 6] (sq [i 12 (.a (.mkm) none),mv 7 12] (sq [mv 13 1,i 14 (.a (.bslice true [.int .i64 0] 1 [(0,(.t 13))]) none),mv 8 14] (.seq (.block 0 (.loop (.seq (sq [mv 15 8,ln 16 15,bk 17 .gtr 16 0] (cd 17 .skip (.exit 0))) (.block 1 (sq [mv 18 8,iX 19 1 18 0,ld 20 19,mv 9 20] (sq [mv 21 8,i 22 (.p (.slice 1 (.t 21) (some (.c (.int .i64 1))) none none)),mv 8 22] (sq [lg 23 2 3,mv 24 9,ca 25 133 [.t 23,.t 24],ln 26 25,ki 27 0] (.block 2 (.loop (sq [b2 28 .lss 27 26] (.seq (cd 28 .skip (.exit 2)) (.seq (.block 3 (sq [ia 29 1 25 27,ld 30 29,mv 11 30] (.seq (sq [mv 31 11,mv 32 2,b2 33 .eql 31 32] (cd 33 (sq [bt 6] .ret) .skip)) (sq [mv 34 7,mv 35 11,i 36 (.r (.lookup (.one .int) (.bool false) false (.t 34) (.t 35))),nt 37 36] (cd 37 (sq [mv 38 7,mv 39 11,n (.w (.mupd (.one .int) (.t 38) (.t 39) (.c (.bool true))))] (.ops [mv 40 8,mv 41 11,i 42 (.a (.bslice true [.int .i64 0] 1 [(0,(.t 41))]) none),aD 43 1 8 40 42,mv 8 43])) .skip))))) (.ops [bk 44 .add 27 1,mv 27 44]))))))))))))) (sq [bf 6] .ret)))))
def f94:IFn:=⟨true,45,[.tm 6],b94⟩
def b95:IC :=(sq [bx 2 2 0,ns 4] (.seq (sq [lg 9 2 2,ca 10 32 [.t 9],nt 11 10,mv 12 11,eM 13 12 1,eC 14 12 .lss 13 0,oP 15 12 14,mv 16 15,eM 17 16 1,eF 18 16 0 2,eL 19 16 18,eN 20 16 19,eB 21 16 .geq 17 20,oP 22 16 21] (cd 22 (sq [ns 4] .ret) .skip)) (sq [fa 23 0 2,ld 24 23,ln 25 24,i 26 (.a (.mks [.bool false] 1 (.t 25) (.t 25)) none),i 5 (.a (.alloc [.nils]) none),sT 1 5 26] (sq [i 27 (.a (.mkm) none),mv 28 1,n (.w (.mupd (.one .int) (.t 27) (.t 28) (.c (.bool true)))),mv 29 27,i 6 (.a (.alloc [.nilm]) none),sT 1 6 29] (sq [i 30 (.p (.mkf 134 [] [.t 6,.t 2,.t 5])),mv 7 30] (.seq (.block 0 (.loop (.seq (sq [ld 31 6,i 32 (.r (.len .map (.t 31))),bk 33 .gtr 32 0] (cd 33 .skip (.exit 0))) (.block 1 (sq [fa 34 0 2,ld 35 34,ln 36 35,ki 37 0] (.block 2 (.loop (sq [b2 38 .lss 37 36] (.seq (cd 38 .skip (.exit 2)) (.seq (.block 3 (sq [mv 39 37,mv 8 39] (sq [ld 40 6,mv 41 8,i 42 (.r (.lookup (.one .int) (.bool false) false (.t 40) (.t 41)))] (cd 42 (.ops [mv 43 7,mv 44 8,i 45 (.call (.val (.t 43)) [.t 44] false)]) .skip)))) (.ops [bk 46 .add 37 1,mv 37 46]))))))))))) (sq [ld 47 5,mv 4 47] .ret)))))))
def f95:IFn:=⟨false,48,[.tm 4],b95⟩
def b96:IC :=(sq [ki 4 0] (.seq (sq [mv 6 0,ln 7 6,ki 8 0] (.block 0 (.loop (sq [b2 9 .lss 8 7] (.seq (cd 9 .skip (.exit 0)) (.seq (.block 1 (sq [mv 10 8,mv 5 10] (sq [mv 11 1,mv 12 0,mv 13 5,ia 14 1 12 13,ld 15 14,i 16 (.p (.eqo false .bool (.t 11) (.t 15)))] (cd 16 (sq [mv 17 5,mv 4 17] .ret) .skip)))) (.ops [bk 18 .add 8 1,mv 8 18]))))))) (sq [ki 4 (-1)] .ret)))
def f96:IFn:=⟨true,19,[.tm 4],b96⟩
def b97:IC :=(sq [bx 1 2 0,ns 2] (.seq (sq [lg 9 2 1,ca 10 32 [.t 9],nt 11 10] (cd 11 (sq [ns 2] .ret) .skip)) (sq [fa 12 0 1,ld 13 12,ln 14 13,i 15 (.a (.mks [.bool false] 1 (.t 14) (.t 14)) none),i 3 (.a (.alloc [.nils]) none),sT 1 3 15] (sq [i 16 (.p (.mkf 136 [] [.t 3])),i 4 (.a (.alloc [.nilf]) none),sT 1 4 16] (sq [i 17 (.p (.mkf 138 [] [.t 4])),mv 5 17] (.seq (sq [bt 6] (.block 0 (.loop (.seq (sq [mv 18 6] (cd 18 .skip (.exit 0))) (.block 1 (sq [bf 6] (sq [fa 19 0 1,ld 20 19,ln 21 20,ki 22 0] (.block 2 (.loop (sq [b2 23 .lss 22 21] (.seq (cd 23 .skip (.exit 2)) (.seq (.block 3 (sq [mv 24 22,ia 25 3 20 22,lg 26 3 25,i 8 (.a (.alloc [.nils,.int .i64 0,.nils]) none),mv 7 24,sT 3 8 26] (sq [ld 27 3,mv 28 7,ia 29 1 27 28,ld 30 29,nt 31 30,mv 32 31,gF 33 32 0 8,gL 34 32 33,gM 35 32 5,gt 36 32 (.call (.dir 59) [.t 34,.t 35] false),aP 37 32 36] (cd 37 (.ops [ld 38 3,mv 39 7,ia 40 1 38 39,n (.w (.store 1 (.t 40) (.c (.bool true)))),bt 6]) .skip)))) (.ops [bk 41 .add 22 1,mv 22 41]))))))))))))) (sq [ld 42 3,mv 2 42] .ret)))))))
def f97:IFn:=⟨true,43,[.tm 2],b97⟩
def b98:IC :=(sq [bx 2 2 0,ki 4 0] (sq [ki 5 (-1)] (.seq (sq [lg 8 2 2,ca 9 32 [.t 8],nt 10 9] (cd 10 (sq [mv 11 5,mv 4 11] .ret) .skip)) (.seq (sq [lg 12 2 2,ca 13 139 [.t 12],i 14 (.w (.rngM (.t 13)))] (.block 0 (.loop (sq [i 15 (.nxtM (.t 14)),ex 16 0 15] (.seq (cd 16 .skip (.exit 0)) (.block 1 (sq [i 17 (.r (.entry (.t 14))),ex 18 0 17,ex 19 1 17,mv 6 18,mv 7 19] (sq [mv 20 5,bk 21 .eql 20 (-1),mv 22 21,eM 23 22 6,eM 24 22 5,eB 25 22 .lss 23 24,oP 26 22 25,mv 27 26,gM 28 27 1,gM 29 27 6,gM 30 27 7,gt 31 27 (.call (.val (.t 28)) [.t 29,.t 30] false),aP 32 27 31] (cd 32 (.ops [mv 33 6,mv 5 33]) .skip))))))))) (sq [mv 34 5,mv 4 34] .ret)))))
def f98:IFn:=⟨true,35,[.tm 4],b98⟩
def b99:IC :=(sq [bf 5] (sq [mv 6 1,mv 7 0,ia 8 1 6 7,ld 9 8,mv 10 9,eG 11 10 2 2,eM 12 10 1,gf 13 10 (.call (.dir 100) [.t 11,.t 12,(.c (.int .i64 2))] false),oP 14 10 13,mv 5 14] .ret))
def f99:IFn:=⟨true,15,[.tm 5],b99⟩
def b100:IC :=(sq [bx 3 2 0,bf 6] (.seq (sq [mv 9 1,ln 10 9,ki 11 0] (.block 0 (.loop (sq [b2 12 .lss 11 10] (.seq (cd 12 .skip (.exit 0)) (.seq (.block 1 (sq [mv 13 11,ia 14 1 9 11,ld 15 14,mv 7 13,mv 8 15] (sq [mv 16 8,mv 17 16,gF 18 17 0 3,gL 19 17 18,gM 20 17 7,gI 21 17 3 19 20,gG 22 17 3 21,gM 23 17 2,gt 24 17 (.call (.dir 102) [.t 22,.t 23] false),aP 25 17 24] (cd 25 (sq [bt 6] .ret) .skip)))) (.ops [bk 26 .add 11 1,mv 11 26]))))))) (sq [bf 6] .ret)))
def f100:IFn:=⟨true,27,[.tm 6],b100⟩
def b101:IC :=(sq [bf 5] (sq [fa 6 0 2,ld 7 6,mv 8 0,ia 9 3 7 8,lg 10 3 9,ca 11 102 [.t 10,(.c (.int .i64 1))],mv 12 11,eG 13 12 2 2,eM 14 12 1,gf 15 12 (.call (.dir 100) [.t 13,.t 14,(.c (.int .i64 1))] false),oP 16 12 15,mv 5 16] .ret))
def f101:IFn:=⟨true,17,[.tm 5],b101⟩
def b102:IC :=(sq [bx 2 3 0,bf 4] (.seq (.dops 0 [(1,3)] [fa 5 1 2,ld 6 5,ca 7 140 [],mv 8 1,i 9 (.p (.idxA 3 1 false (.t 7) (.t 8))),b2 10 .and 6 9,bk 11 .neq 10 0,mv 4 11]) .ret))
def f102:IFn:=⟨true,12,[.tm 4],b102⟩
def b111:IC :=(sq [bx 1 2 0,ns 2] (sq [lg 9 2 1,ca 10 19 [.t 9],mv 3 10] (.seq (sq [mv 11 3,nt 12 11] (cd 12 (sq [ns 2] .ret) .skip)) (sq [fa 13 0 1,ld 14 13,ln 15 14,i 16 (.a (.mks [.bool false] 1 (.t 15) (.t 15)) none),mv 4 16] (.seq (sq [ki 5 0] (.block 0 (.loop (.seq (sq [mv 17 5,fa 18 0 1,ld 19 18,ln 20 19,b2 21 .lss 17 20] (cd 21 .skip (.exit 0))) (.seq (.block 1 (sq [ki 6 0] (.block 2 (.loop (.seq (sq [mv 24 6,fa 25 0 1,ld 26 25,ln 27 26,b2 28 .lss 24 27] (cd 28 .skip (.exit 2))) (.seq (.block 3 (sq [ki 7 0] (.block 4 (.loop (.seq (sq [mv 31 7,fa 32 0 1,ld 33 32,mv 34 6,ia 35 3 33 34,fa 36 0 35,ld 37 36,ln 38 37,b2 39 .lss 31 38] (cd 39 .skip (.exit 4))) (.seq (.block 5 (sq [mv 42 4,fa 43 0 1,ld 44 43,mv 45 6,ia 46 3 44 45,fa 47 0 46,ld 48 47,mv 49 7,ia 50 1 48 49,ld 51 50,ca 52 112 [.t 42,.t 51],mv 8 52] (.ops [mv 53 4,mv 54 6,mv 55 4,mv 56 6,ia 57 1 55 56,ld 58 57,mv 59 58,eM 60 59 8,oP 61 59 60,ia 62 1 53 54,sT 1 62 61]))) (.ops [mv 40 7,bk 41 .add 40 1,mv 7 41]))))))) (.ops [mv 29 6,bk 30 .add 29 1,mv 6 30]))))))) (.ops [mv 22 5,bk 23 .add 22 1,mv 5 23])))))) (sq [mv 63 4,mv 2 63] .ret))))))
def f111:IFn:=⟨true,64,[.tm 2],b111⟩
def b112:IC :=(sq [bf 4] (.seq (sq [ki 5 0] (.block 0 (.loop (.seq (sq [mv 6 5,mv 7 1,ln 8 7,b2 9 .lss 6 8] (cd 9 .skip (.exit 0))) (.seq (.block 1 (sq [mv 12 1,mv 13 5,ia 14 3 12 13,fa 15 0 14,ld 16 15,bk 17 .neq 16 2,mv 18 17,eM 19 18 1,eM 20 18 5,eI 21 18 3 19 20,eF 22 18 2 21,eL 23 18 22,eC 24 18 .lss 23 0,oP 25 18 24,mv 26 25,eM 27 26 1,eM 28 26 5,eI 29 26 3 27 28,eF 30 26 2 29,eL 31 26 30,eM 32 26 0,eN 33 26 32,eB 34 26 .geq 31 33,oP 35 26 34,mv 36 35,eM 37 36 0,eM 38 36 1,eM 39 36 5,eI 40 36 3 38 39,eF 41 36 2 40,eL 42 36 41,eI 43 36 1 37 42,eL 44 36 43,eX 45 36 44,oP 46 36 45] (cd 46 (sq [bf 4] .ret) .skip))) (.ops [mv 10 5,bk 11 .add 10 1,mv 5 11])))))) (sq [bt 4] .ret)))
def f112:IFn:=⟨true,47,[.tm 4],b112⟩
def b113:IC :=(sq [ki 2 0] (sq [ki 3 0] (sq [mv 6 0,ca 7 147 [.t 6],mv 4 7] (.seq (sq [ki 5 0] (.block 0 (.loop (.seq (sq [mv 8 5,mv 9 4,ln 10 9,b2 11 .lss 8 10] (cd 11 .skip (.exit 0))) (.seq (.block 1 (.dops 0 [] [mv 14 3,mv 15 4,mv 16 5,ia 17 2 15 16,fa 18 1 17,ld 19 18,b2 20 .add 14 19,mv 21 4,mv 22 5,ia 23 2 21 22,fa 24 0 23,ld 25 24,b2 26 .sub 20 25,bk 27 .add 26 1,mv 3 27])) (.ops [mv 12 5,bk 13 .add 12 1,mv 5 13])))))) (sq [mv 28 3,mv 2 28] .ret)))))
def f113:IFn:=⟨true,29,[.tm 2],b113⟩
def b114:IC :=(sq [ns 4] (sq [mv 5 0,mv 6 1,ca 7 148 [.t 5,.t 6,(.c (.int .i64 2)),(.c (.int .i64 (-1)))],mv 4 7] .ret))
def f114:IFn:=⟨true,8,[.tm 4],b114⟩
def b103:IC :=(sq [bx 3 2 1,ns 4] (.seq (.seq (.dops 0 [] [mv 11 0,nc 12 11,fa 13 3 12,ld 14 13,lg 15 2 3,i 16 (.r (.lookup (.agg [.int,.int]) .nils true (.t 14) (.t 15))),mv 10 16,ex 17 0 10,ex 18 1 10,mv 5 17,mv 6 18]) (sq [mv 19 6] (cd 19 (sq [mv 20 5,mv 4 20] .ret) .skip))) (sq [ns 7] (.seq (.seq (.dops 0 [] [mv 21 0,nc 22 21,fa 23 0 22,fa 24 0 23,ld 25 24,fa 26 0 3,ld 27 26,ia 28 3 25 27,fa 29 0 28,ld 30 29,ln 31 30,ki 32 0]) (.block 0 (.loop (sq [b2 33 .lss 32 31] (.seq (cd 33 .skip (.exit 0)) (.seq (.block 1 (sq [ia 34 1 30 32,ld 35 34,mv 9 35] (.ops [mv 36 7,mv 37 0,mv 38 9,fa 39 1 3,ld 40 39,ca 41 67 [.t 37,.t 38,.t 40],aD 42 1 8 36 41,mv 7 42]))) (.ops [bk 43 .add 32 1,mv 32 43]))))))) (sq [mv 44 7,ca 45 105 [.t 44]] (sq [mv 46 7,i 47 (.call (.dir 106) [.t 46] true),mv 7 47] (.seq (.dops 0 [] [mv 48 0,nc 49 48,fa 50 3 49,ld 51 50,lg 52 2 3,mv 53 7,n (.w (.mupd (.agg [.int,.int]) (.t 51) (.t 52) (.t 53)))]) (sq [mv 54 7,mv 4 54] .ret))))))))
def f103:IFn:=⟨false,55,[.tm 4],b103⟩
def b104:IC :=(sq [bx 3 3 0,ki 6 0,bf 7] (sq [i 9 (.p (.build [.nilf,.nilf,.nilf] [(0,1,(.c (.fn 107 [] []))),(1,1,(.c (.fn 141 [] []))),(2,1,(.c (.fn 109 [] [])))])),lg 10 3 3,mv 11 1,mv 12 2,ca 13 110 [.t 9,.t 10,.t 11,.t 12],mv 8 13] (sq [mv 14 8,mv 15 8,bk 16 .gtr 15 0,mv 6 14,mv 7 16] .ret)))
def f104:IFn:=⟨true,17,[.tm 6,.tm 7],b104⟩
def b106:IC :=(sq [ns 2] (.seq (sq [mv 6 0,ln 7 6,bk 8 .lss 7 2] (cd 8 (sq [mv 9 0,mv 2 9] .ret) .skip)) (.seq (sq [ki 3 1] (.block 0 (.loop (.seq (sq [mv 10 3,mv 11 0,ln 12 11,b2 13 .lss 10 12] (cd 13 .skip (.exit 0))) (.seq (.block 1 (.seq (.dops 0 [] [mv 16 0,mv 17 3,ia 18 1 16 17,ld 19 18,mv 20 0,mv 21 3,bk 22 .sub 21 1,ia 23 1 20 22,ld 24 23,b2 25 .eql 19 24]) (cd 25 (sq [mv 26 0,mv 27 3,sL 28 1 26 27,mv 4 28] (.seq (sq [ki 5 1] (.block 2 (.loop (.seq (sq [mv 29 5,mv 30 4,ln 31 30,b2 32 .lss 29 31] (cd 32 .skip (.exit 2))) (.seq (.block 3 (.seq (.dops 0 [] [mv 35 4,mv 36 5,ia 37 1 35 36,ld 38 37,mv 39 4,mv 40 5,bk 41 .sub 40 1,ia 42 1 39 41,ld 43 42,b2 44 .neq 38 43]) (cd 44 (sq [mv 45 0,mv 46 3,mv 47 4,mv 48 5,ia 49 1 47 48,ld 50 49,ia 51 1 45 46,sT 1 51 50] (.ops [mv 52 3,bk 53 .add 52 1,mv 3 53])) .skip))) (.ops [mv 33 5,bk 34 .add 33 1,mv 5 34])))))) (sq [mv 54 0,mv 55 3,sL 56 1 54 55,n (.w (.clear [.int .i64 0] (.t 56)))] (sq [mv 57 0,mv 58 3,sH 59 1 57 58,mv 2 59] .ret)))) .skip))) (.ops [mv 14 3,bk 15 .add 14 1,mv 3 15])))))) (sq [mv 60 0,mv 2 60] .ret))))
def f106:IFn:=⟨false,61,[.tm 2],b106⟩
def b107:IC :=(sq [bx 3 3 0,ki 6 0] (.seq (.seq (.dops 0 [] [mv 7 2,bk 8 .geq 7 0,mv 9 8,gM 10 9 2,gM 11 9 1,gN 12 9 11,gB 13 9 .lss 10 12,aP 14 9 13,mv 15 14,gF 16 15 1 3,gL 17 15 16,gM 18 15 1,gM 19 15 2,gI 20 15 1 18 19,gL 21 15 20,gt 22 15 (.p (.ci .i64 (.t 21))),gt 23 15 (.call (.dir 144) [.t 17,.t 22] false),aP 24 15 23]) (cd 24 (sq [ki 6 1] .ret) .skip)) (sq [ki 6 0] .ret)))
def f107:IFn:=⟨true,25,[.tm 6],b107⟩
def b108:IC :=(sq [bx 3 3 0,ki 6 0] (sq [fa 7 1 3,ld 8 7,ca 9 146 [.t 8],mv 10 1,mv 11 2,ca 12 145 [.t 9,.t 10,.t 11],mv 6 12] .ret))
def f108:IFn:=⟨true,13,[.tm 6],b108⟩
def b109:IC :=(sq [bx 3 3 0,ki 6 0] (sq [ki 6 0] .ret))
def f109:IFn:=⟨true,7,[.tm 6],b109⟩
def b110:IC :=(sq [bx 4 3 0,bx 5 3 1,ki 8 0] (sq [i 10 (.p (.iaddrA 3 1 (.t 4) (.c (.int .i64 2)))),ld 11 10,mv 9 11] (.seq (sq [fa 12 0 5,ld 13 12,bk 14 .eql 13 0,mv 15 14,eF 16 15 0 5,eL 17 15 16,eC 18 15 .eql 17 1,oP 19 15 18] (cd 19 (.ops [fa 20 0 5,ld 21 20,i 22 (.p (.iaddrA 3 1 (.t 4) (.t 21))),ld 23 22,mv 9 23]) .skip)) (sq [mv 24 9,lg 25 3 5,mv 26 2,mv 27 3,i 28 (.call (.val (.t 24)) [.t 25,.t 26,.t 27] false),mv 8 28] .ret))))
def f110:IFn:=⟨true,29,[.tm 8],b110⟩
def b115:IC :=(sq [bf 4] (sq [mv 5 0,mv 6 1,ca 7 149 [.t 5,.t 6],bk 8 .geq 7 0,mv 4 8] .ret))
def f115:IFn:=⟨false,9,[.tm 4],b115⟩
def b116:IC :=(sq [ns 0] (sq [i 1 (.a (.bslice true [.str []] 6 [(0,(.c (.str [108,111,110,103]))),(1,(.c (.str [114,101,115]))),(2,(.c (.str [111,102,102]))),(3,(.c (.str [98,108,111,99,107]))),(4,(.c (.str [97,108,105,103,110]))),(5,(.c (.str [115,121,110,99])))]) none),mv 0 1] .ret))
def f116:IFn:=⟨false,2,[.tm 0],b116⟩
def b117:IC :=(sq [bf 4] (.seq (.seq (.dops 0 [] [mv 5 0,nc 6 5,fa 7 1 6,ld 8 7,mv 9 0,nc 10 9,fa 11 0 10,ld 12 11,lS 13 12,b2 14 .lss 8 13,mv 15 14,gM 16 15 0,gt 17 15 (.p (.nilc (.t 16))),gF 18 15 0 17,gL 19 15 18,gM 20 15 0,gt 21 15 (.p (.nilc (.t 20))),gF 22 15 1 21,gL 23 15 22,gt 24 15 (.p (.idxS (.t 19) (.t 23))),gM 25 15 1,gB 26 15 .eql 24 25,aP 27 15 26]) (cd 27 (sq [mv 28 0,nc 29 28,fa 30 1 29,ld 31 30,bk 32 .add 31 1,nc 33 28,fa 34 1 33,sT 1 34 32] (sq [bt 4] .ret)) .skip)) (sq [bf 4] .ret)))
def f117:IFn:=⟨false,35,[.tm 4],b117⟩
def b118:IC :=(sq [ki 2 0,bf 3] (sq [mv 7 0,ca 8 150 [.t 7,(.c (.int .i64 2))],mv 6 8,ex 9 0 6,ex 10 1 6,mv 4 9,mv 5 10] (sq [mv 11 4,mv 12 5,bk 13 .eql 12 2,mv 2 11,mv 3 13] .ret)))
def f118:IFn:=⟨false,14,[.tm 2,.tm 3],b118⟩
def b119:IC :=(sq [ns 6,bf 7] (sq [ns 8] (.seq (.block 0 (.loop (.seq (sq [mv 12 0,mv 13 1,ca 14 117 [.t 12,.t 13],nt 15 14] (cd 15 .skip (.exit 0))) (.block 1 (sq [mv 17 2,mv 18 0,i 19 (.call (.val (.t 17)) [.t 18] false),mv 16 19,ex 20 0 16,ex 21 1 16,mv 9 20,mv 10 21] (sq [mv 22 9,mv 11 22] (.seq (sq [mv 23 10,mv 24 23,gM 25 24 0,gt 26 24 (.call (.dir 117) [.t 25,(.c (.int .u8 45))] false),aP 27 24 26] (cd 27 (.ops [mv 29 2,mv 30 0,i 31 (.call (.val (.t 29)) [.t 30] false),mv 28 31,ex 32 0 28,ex 33 1 28,mv 11 32,mv 10 33]) .skip)) (.seq (sq [mv 34 10,nt 35 34,mv 36 35,eM 37 36 11,eM 38 36 9,eB 39 36 .lss 37 38,oP 40 36 39] (cd 40 (sq [ns 6,bf 7] .ret) .skip)) (.ops [mv 41 8,mv 42 9,mv 43 11,i 44 (.p (.build [.int .i64 0,.int .i64 0] [(0,1,(.t 42)),(1,1,(.t 43))])),i 45 (.a (.bslice true [.int .i64 0,.int .i64 0] 1 [(0,(.t 44))]) none),aD 46 2 16 41 45,mv 8 46]))))))))) (sq [mv 47 8,ca 48 151 [.t 47],mv 6 48,bt 7] .ret))))
def f119:IFn:=⟨false,49,[.tm 6,.tm 7],b119⟩
def b120:IC :=(sq [ki 2 0,bf 3] (.seq (sq [mv 8 0,ca 9 117 [.t 8,(.c (.int .u8 92))]] (cd 9 (.seq (sq [mv 10 0,ca 11 117 [.t 10,(.c (.int .u8 117))],nt 12 11] (cd 12 (sq [ki 2 0,bf 3] .ret) .skip)) (sq [mv 14 0,ca 15 150 [.t 14,(.c (.int .i64 6))],mv 13 15,ex 16 0 13,ex 17 1 13,mv 4 16,mv 5 17] (sq [mv 18 4,mv 19 5,bk 20 .gtr 19 0,mv 21 20,gM 22 21 4,gt 23 21 (.call (.dir 152) [.t 22] false),aP 24 21 23,mv 25 24,gM 26 25 0,gt 27 25 (.call (.dir 117) [.t 26,(.c (.int .u8 59))] false),aP 28 25 27,mv 2 18,mv 3 28] .ret))) .skip)) (.seq (.dops 0 [] [mv 30 0,nc 31 30,fa 32 0 31,ld 33 32,mv 34 0,nc 35 34,fa 36 1 35,ld 37 36,i 38 (.p (.sliceS (.t 33) (some (.t 37)) none)),i 39 (.a (.s2b true (.t 38)) none),ca 40 153 [.t 39,(.c (.int .i64 0))],mv 29 40,ex 41 0 29,ex 42 1 29,mv 6 41,mv 7 42]) (sq [mv 43 0,nc 44 43,fa 45 1 44,ld 46 45,mv 47 7,b2 48 .add 46 47,nc 49 43,fa 50 1 49,sT 1 50 48] (sq [mv 51 6,mv 52 6,bk 53 .geq 52 32,mv 54 53,gM 55 54 6,gt 56 54 (.p (.ci .i32 (.t 55))),gt 57 54 (.call (.dir 125) [(.c (.str [91,93,94,45,92])),.t 56] false),gX 58 54 57,aP 59 54 58,mv 2 51,mv 3 59] .ret)))))
def f120:IFn:=⟨false,60,[.tm 2,.tm 3],b120⟩
def b121:IC :=(sq [ns 4] (.seq (sq [mv 5 1,bk 6 .lss 5 0] (cd 6 (sq [ns 4] .ret) .skip)) (sq [mv 7 1,i 8 (.p (.min (.t 7) [(.c (.int .i64 1114111))])),i 9 (.p (.build [.int .i64 0,.int .i64 0] [(0,1,(.c (.int .i64 0))),(1,1,(.t 8))])),i 10 (.a (.bslice true [.int .i64 0,.int .i64 0] 1 [(0,(.t 9))]) none),mv 11 0,ca 12 122 [.t 10,.t 11],mv 4 12] .ret)))
def f121:IFn:=⟨false,13,[.tm 4],b121⟩
def b122:IC :=(sq [ns 4] (sq [mv 5 0,mv 6 1,i 7 (.call (.dir 154) [.t 5,.t 6,(.c (.fn 155 [] []))] false),mv 4 7] .ret))
def f122:IFn:=⟨true,8,[.tm 4],b122⟩
def b123:IC :=(sq [bf 4] (sq [mv 5 0,mv 6 1,nc 7 5,i 8 (.p (.iaddrA 256 1 (.t 7) (.t 6))),ld 9 8,mv 4 9] .ret))
def f123:IFn:=⟨false,10,[.tm 4],b123⟩
def b124:IC :=(sq [i 2 (.p (.mov (.c (.int .i32 0)))),ki 3 0] (.seq (sq [mv 4 0,i 5 (.p (.bin .neq (.t 4) (.c (.str [])))),mv 6 5,gM 7 6 0,gt 8 6 (.p (.idxS (.t 7) (.c (.int .i64 0)))),gt 9 6 (.p (.bin .lss (.t 8) (.c (.int .u8 128)))),aP 10 6 9] (cd 10 (sq [mv 11 0,i 12 (.p (.idxS (.t 11) (.c (.int .i64 0)))),cV 13 .i32 12,mv 2 13,ki 3 1] .ret) (.ops [mv 15 0,ca 16 156 [.t 15],mv 14 16,ex 17 0 14,ex 18 1 14,mv 2 17,mv 3 18]))) .ret))
def f124:IFn:=⟨false,19,[.tm 2,.tm 3],b124⟩
def b125:IC :=(sq [bf 4] (sq [mv 5 0,mv 6 1,ca 7 157 [.t 5,.t 6],bk 8 .geq 7 0,mv 4 8] .ret))
def f125:IFn:=⟨false,9,[.tm 4],b125⟩
def b126:IC :=(sq [bf 4] (sq [mv 5 0,bJ 6 .geq 5 .i32 97,mv 7 6,gM 8 7 0,gt 9 7 (.p (.bin .leq (.t 8) (.c (.int .i32 122)))),aP 10 7 9,mv 11 10,eM 12 11 1,eM 13 11 12,gM 14 13 0,gt 15 13 (.p (.bin .geq (.t 14) (.c (.int .i32 48)))),gM 16 13 15,gM 17 16 0,gt 18 16 (.p (.bin .leq (.t 17) (.c (.int .i32 57)))),gt 19 13 (.p (.pick (.t 16) (.t 18) (.c (.bool false)))),gM 20 13 19,eM 21 20 0,gf 22 20 (.p (.bin .eql (.t 21) (.c (.int .i32 95)))),gt 23 13 (.p (.pick (.t 20) (.c (.bool true)) (.t 22))),gf 24 11 (.p (.pick (.t 13) (.t 23) (.c (.bool false)))),oP 25 11 24,mv 4 25] .ret))
def f126:IFn:=⟨false,26,[.tm 4],b126⟩
def b127:IC :=(sq [i 2 (.a (.alloc [.int .i64 0,.str [],.nils,.nils,.int .i64 0]) none),bf 3] (.seq (sq [mv 6 0,nc 7 6,fa 8 0 7,ld 9 8,ln 10 9,bk 11 .eql 10 0] (cd 11 (sq [i 12 (.p (.build [.int .i64 0,.str [],.nils,.nils,.int .i64 0] [])),sT 5 2 12,bf 3] .ret) .skip)) (.seq (.dops 0 [(4,0),(7,0)] [ca 14 158 [],mv 15 0,nc 16 15,fa 17 0 16,ld 18 17,iX 19 4 18 0,fa 20 0 19,ld 21 20,i 22 (.r (.lookup (.one .int) .nilf true (.t 14) (.t 21))),mv 13 22,ex 23 0 13,ex 24 1 13,mv 4 23,mv 5 24]) (.seq (sq [mv 25 5,nt 26 25] (cd 26 (sq [i 27 (.p (.build [.int .i64 0,.str [],.nils,.nils,.int .i64 0] [])),sT 5 2 27,bf 3] .ret) .skip)) (sq [mv 28 4,mv 29 0,i 30 (.call (.val (.t 28)) [.t 29] false),ex 31 0 30,ex 32 1 30,sT 5 2 31,mv 3 32] .ret)))))
def f127:IFn:=⟨false,33,[.cell (some 5) 2,.tm 3],b127⟩
def b128:IC :=(sq [bx 3 5 1,i 4 (.a (.alloc [.int .i64 0,.str [],.nils,.nils,.int .i64 0]) none)] (.seq (sq [i 7 (.p (.build [.str [],.int .i64 0] [(0,1,(.c (.str [42]))),(1,1,(.c (.int .i64 6)))])),i 8 (.p (.build [.str [],.int .i64 0] [(0,1,(.c (.str [43]))),(1,1,(.c (.int .i64 7)))])),i 9 (.p (.build [.str [],.int .i64 0] [(0,1,(.c (.str [63]))),(1,1,(.c (.int .i64 8)))])),i 10 (.a (.bslice true [.str [],.int .i64 0] 3 [(0,(.t 7)),(1,(.t 8)),(2,(.t 9))]) none),ln 11 10,ki 12 0] (.block 0 (.loop (sq [b2 13 .lss 12 11] (.seq (cd 13 .skip (.exit 0)) (.seq (.block 1 (sq [ia 14 2 10 12,lg 15 2 14,i 6 (.a (.alloc [.str [],.int .i64 0]) none),sT 2 6 15] (sq [mv 16 0,fa 17 0 6,ld 18 17,ca 19 47 [.t 16,.t 18]] (cd 19 (sq [fa 20 1 6,ld 21 20,lg 22 5 3,i 23 (.a (.bslice true [.int .i64 0,.str [],.nils,.nils,.int .i64 0] 1 [(0,(.t 22))]) none),fa 24 4 3,ld 25 24,i 26 (.p (.build [.int .i64 0,.str [],.nils,.nils,.int .i64 0] [(0,1,(.t 21)),(3,1,(.t 23)),(4,1,(.t 25))])),sT 5 4 26] .ret) .skip)))) (.ops [bk 27 .add 12 1,mv 12 27]))))))) (sq [lg 28 5 3,sT 5 4 28] .ret)))
def f128:IFn:=⟨false,29,[.cell (some 5) 4],b128⟩
def b129:IC :=(sq [i 4 (.a (.alloc [.int .i64 0,.nils,.int .i64 0]) none)] (sq [mv 5 0,mv 6 1,ca 7 29 [.t 6],i 8 (.p (.build [.int .i64 0,.nils,.int .i64 0] [(0,1,(.t 5)),(1,1,(.t 7))])),sT 3 4 8] .ret))
def f129:IFn:=⟨false,9,[.cell (some 3) 4],b129⟩
def b130:IC :=(sq [ki 4 0] (.seq (sq [mv 6 0,ln 7 6,ki 8 0] (.block 0 (.loop (sq [b2 9 .lss 8 7] (.seq (cd 9 .skip (.exit 0)) (.seq (.block 1 (sq [mv 10 8,mv 5 10] (sq [mv 11 1,mv 12 0,mv 13 5,ia 14 2 12 13,lg 15 2 14,i 16 (.call (.val (.t 11)) [.t 15] false)] (cd 16 (sq [mv 17 5,mv 4 17] .ret) .skip)))) (.ops [bk 18 .add 8 1,mv 8 18]))))))) (sq [ki 4 (-1)] .ret)))
def f130:IFn:=⟨true,19,[.tm 4],b130⟩
def b131:IC :=(sq [bx 1 2 0,i 2 (.p (.mov (.c .nilp)))] (.seq (.dops 3 [(1,0),(2,0),(5,0),(6,0)] [fa 8 0 1,ld 9 8,ln 10 9,i 11 (.a (.mks [.int .i64 0] 8 (.t 10) (.t 10)) (some 0)),fa 12 0 1,ld 13 12,ln 14 13,i 15 (.a (.mks [.nils] 24 (.t 14) (.t 14)) (some 1)),i 16 (.p (.build [.nils,.nils] [(0,1,(.t 11)),(1,1,(.t 15))])),i 17 (.a (.box 2 (.t 16)) (some 2)),mv 3 17]) (.seq (sq [fa 18 0 1,ld 19 18,ln 20 19,ki 21 0] (.block 0 (.loop (sq [b2 22 .lss 21 20] (.seq (cd 22 .skip (.exit 0)) (.seq (.block 1 (sq [mv 23 21,mv 4 23] (sq [lg 24 2 1,mv 25 4,ca 26 133 [.t 24,.t 25],mv 5 26] (sq [mv 27 3,nc 28 27,fa 29 0 28,ld 30 29,mv 31 4,mv 32 5,ln 33 32,ia 34 1 30 31,sT 1 34 33] (sq [mv 35 5,ln 36 35,ki 37 0] (.block 2 (.loop (sq [b2 38 .lss 37 36] (.seq (cd 38 .skip (.exit 2)) (.seq (.block 3 (sq [ia 39 1 35 37,ld 40 39,mv 7 40] (.dops 0 [(3,15)] [mv 41 3,nc 42 41,fa 43 1 42,ld 44 43,mv 45 7,mv 46 3,nc 47 46,fa 48 1 47,ld 49 48,mv 50 7,ia 51 1 49 50,ld 52 51,mv 53 4,i 54 (.a (.bslice true [.int .i64 0] 1 [(0,(.t 53))]) none),aD 55 1 8 52 54,ia 56 1 44 45,sT 1 56 55]))) (.ops [bk 57 .add 37 1,mv 37 57]))))))))))) (.ops [bk 58 .add 21 1,mv 21 58]))))))) (sq [mv 59 3,mv 2 59] .ret))))
def f131:IFn:=⟨false,60,[.tm 2],b131⟩
def b132:IC :=(sq [ns 2] (sq [i 3 (.a (.alloc [.nils]) none)] (sq [i 11 (.p (.mkf 159 [.t 3] [])),mv 4 11] (.seq (sq [mv 12 0,nc 13 12,fa 14 0 13,ld 15 14,ln 16 15,ki 17 0] (.block 0 (.loop (sq [b2 18 .lss 17 16] (.seq (cd 18 .skip (.exit 0)) (.seq (.block 1 (sq [mv 19 17,ia 20 1 15 17,ld 21 20,mv 5 19,mv 6 21] (sq [mv 22 6,bk 23 .eql 22 0] (cd 23 (.ops [mv 24 4,mv 25 5,i 26 (.call (.val (.t 24)) [.t 25] false)]) .skip)))) (.ops [bk 27 .add 17 1,mv 17 27]))))))) (sq [ns 7] (.seq (.block 2 (.loop (.seq (sq [ca 28 160 [.t 3],bk 29 .gtr 28 0] (cd 29 .skip (.exit 2))) (.block 3 (sq [ca 30 161 [.t 3],mv 8 30] (sq [mv 31 7,mv 32 8,i 33 (.a (.bslice true [.int .i64 0] 1 [(0,(.t 32))]) none),aD 34 1 8 31 33,mv 7 34] (sq [mv 35 0,nc 36 35,fa 37 1 36,ld 38 37,mv 39 8,ia 40 1 38 39,ld 41 40,ln 42 41,ki 43 0] (.block 4 (.loop (sq [b2 44 .lss 43 42] (.seq (cd 44 .skip (.exit 4)) (.seq (.block 5 (sq [ia 45 1 41 43,ld 46 45,mv 10 46] (sq [mv 47 0,nc 48 47,fa 49 0 48,ld 50 49,mv 51 10,ia 52 1 50 51,ld 53 52,bk 54 .sub 53 1,ia 55 1 50 51,sT 1 55 54] (sq [mv 56 0,nc 57 56,fa 58 0 57,ld 59 58,mv 60 10,ia 61 1 59 60,ld 62 61,bk 63 .eql 62 0] (cd 63 (.ops [mv 64 4,mv 65 10,i 66 (.call (.val (.t 64)) [.t 65] false)]) .skip))))) (.ops [bk 67 .add 43 1,mv 43 67]))))))))))))) (sq [mv 68 7,mv 2 68] .ret)))))))
def f132:IFn:=⟨false,69,[.tm 2],b132⟩
def b133:IC :=(sq [bx 2 2 0,ns 4] (.seq (sq [lg 11 2 2,ca 12 32 [.t 11],nt 13 12,mv 14 13,eM 15 14 1,eC 16 14 .lss 15 0,oP 17 14 16,mv 18 17,eM 19 18 1,eF 20 18 0 2,eL 21 18 20,eN 22 18 21,eB 23 18 .geq 19 22,oP 24 18 23] (cd 24 (sq [ns 4] .ret) .skip)) (sq [lg 25 2 2,ca 26 162 [.t 25],mv 5 26] (sq [ns 6] (.seq (sq [fa 27 0 2,ld 28 27,mv 29 1,ia 30 3 28 29,fa 31 0 30,ld 32 31,ln 33 32,ki 34 0] (.block 0 (.loop (sq [b2 35 .lss 34 33] (.seq (cd 35 .skip (.exit 0)) (.seq (.block 1 (sq [ia 36 1 32 34,ld 37 36,mv 8 37] (sq [mv 38 8,ln 39 38,ki 40 0] (.block 2 (.loop (sq [b2 41 .lss 40 39] (.seq (cd 41 .skip (.exit 2)) (.seq (.block 3 (sq [mv 42 40,ia 43 3 38 40,lg 44 3 43,i 10 (.a (.alloc [.int .i64 0,.nils,.int .i64 0]) none),mv 9 42,sT 3 10 44] (sq [fa 45 0 10,ld 46 45,bk 47 .eql 46 2,mv 48 47,gM 49 48 5,gM 50 48 8,gM 51 48 9,gt 52 48 (.p (.slice 3 (.t 50) none (some (.t 51)) none)),gt 53 48 (.call (.dir 163) [.t 49,.t 52] false),aP 54 48 53] (cd 54 (.ops [mv 55 6,fa 56 2 10,ld 57 56,i 58 (.a (.bslice true [.int .i64 0] 1 [(0,(.t 57))]) none),aD 59 1 8 55 58,mv 6 59]) .skip)))) (.ops [bk 60 .add 40 1,mv 40 60]))))))))) (.ops [bk 61 .add 34 1,mv 34 61]))))))) (sq [mv 62 6,ca 63 105 [.t 62]] (sq [mv 64 6,ca 65 106 [.t 64],mv 4 65] .ret)))))))
def f133:IFn:=⟨true,66,[.tm 4],b133⟩
def b134:IC :=(sq [ld 7 1,mv 8 0,n (.w (.del (.one .int) (.t 7) (.t 8)))] (sq [fa 9 0 2,ld 10 9,mv 11 0,ia 12 3 10 11,fa 13 0 12,ld 14 13,ca 15 135 [.t 14],ln 16 15,ki 17 0] (.block 0 (.loop (sq [b2 18 .lss 17 16] (.seq (cd 18 .skip (.exit 0)) (.seq (.block 1 (sq [ia 19 3 15 17,lg 20 3 19,i 6 (.a (.alloc [.int .i64 0,.nils,.int .i64 0]) none),sT 3 6 20] (sq [fa 21 0 6,ld 22 21,bk 23 .eql 22 2,mv 24 23,gL 25 24 3,gF 26 24 2 6,gL 27 24 26,gI 28 24 1 25 27,gL 29 24 28,gX 30 24 29,aP 31 24 30] (cd 31 (.dops 0 [(3,8),(5,8)] [ld 32 3,fa 33 2 6,ld 34 33,ld 35 1,fa 36 2 6,ld 37 36,ia 38 1 32 34,n (.w (.store 1 (.t 38) (.c (.bool true)))),n (.w (.mupd (.one .int) (.t 35) (.t 37) (.c (.bool true))))]) .skip)))) (.ops [bk 39 .add 17 1,mv 17 39]))))))))
def f134:IFn:=⟨false,40,[],b134⟩
def b135:IC :=(sq [ns 2] (sq [ki 3 0] (.seq (sq [mv 9 0,ln 10 9,ki 11 0] (.block 0 (.loop (sq [b2 12 .lss 11 10] (.seq (cd 12 .skip (.exit 0)) (.seq (.block 1 (sq [ia 13 1 9 11,ld 14 13,mv 5 14] (sq [mv 15 3,mv 16 5,ln 17 16,b2 18 .add 15 17,mv 3 18] (sq [mv 19 3,bk 20 .lss 19 0] (cd 20 (.ops [i 21 (.p (.mki 1 (.c (.str [108,101,110,32,111,117,116,32,111,102,32,114,97,110,103,101])))),n (.bad)]) .skip))))) (.ops [bk 22 .add 11 1,mv 11 22]))))))) (sq [mv 23 3,ca 24 164 [(.c .nils),.t 23],mv 6 24] (.seq (sq [mv 25 0,ln 26 25,ki 27 0] (.block 2 (.loop (sq [b2 28 .lss 27 26] (.seq (cd 28 .skip (.exit 2)) (.seq (.block 3 (sq [ia 29 1 25 27,ld 30 29,mv 8 30] (.ops [mv 31 6,mv 32 8,aD 33 3 40 31 32,mv 6 33]))) (.ops [bk 34 .add 27 1,mv 27 34]))))))) (sq [mv 35 6,mv 2 35] .ret))))))
def f135:IFn:=⟨false,36,[.tm 2],b135⟩
def b136:IC :=(sq [bx 2 3 0,bf 3] (.seq (sq [fa 4 0 2,ld 5 4] (.block 0 (sq [bk 7 .eql 5 2,mv 6 7] (cd 6 (sq [ld 8 1,fa 9 2 2,ld 10 9,ia 11 1 8 10,ld 12 11,nt 13 12,mv 3 13] .ret) (sq [bk 15 .eql 5 0,mv 14 15] (cd 14 (sq [fa 16 1 2,ld 17 16,ln 18 17,bk 19 .eql 18 0,mv 3 19] .ret) .skip)))))) (sq [fa 20 1 2,ld 21 20,ca 22 137 [.t 21],nt 23 22,mv 3 23] .ret)))
def f136:IFn:=⟨true,24,[.tm 3],b136⟩
def b137:IC :=(sq [bf 2] (sq [mv 3 0,i 4 (.p (.build [.int .i64 0,.int .i64 0] [(0,1,(.c (.int .i64 55296))),(1,1,(.c (.int .i64 57343)))])),i 5 (.a (.bslice true [.int .i64 0,.int .i64 0] 1 [(0,(.t 4))]) none),ca 6 122 [.t 3,.t 5],ln 7 6,bk 8 .gtr 7 0,mv 2 8] .ret))
def f137:IFn:=⟨true,9,[.tm 2],b137⟩
def b138:IC :=(sq [bf 3] (sq [mv 4 0,ld 5 1,ca 6 57 [.t 4,.t 5],nt 7 6,mv 3 7] .ret))
def f138:IFn:=⟨true,8,[.tm 3],b138⟩
def b139:IC :=(sq [bx 1 2 0,i 2 (.p (.mov (.c .nilm)))] (sq [i 6 (.a (.mkm) none),mv 3 6] (.seq (sq [fa 7 0 1,ld 8 7,ln 9 8,ki 10 0] (.block 0 (.loop (sq [b2 11 .lss 10 9] (.seq (cd 11 .skip (.exit 0)) (.seq (.block 1 (sq [mv 12 10,ia 13 3 8 10,lg 14 3 13,i 5 (.a (.alloc [.nils,.int .i64 0,.nils]) none),mv 4 12,sT 3 5 14] (sq [lg 15 3 5,ca 16 165 [.t 15]] (cd 16 (.ops [mv 17 3,mv 18 4,lg 19 2 1,mv 20 4,i 21 (.call (.dir 95) [.t 19,.t 20] true),n (.w (.mupd (.one .int) (.t 17) (.t 18) (.t 21)))]) .skip)))) (.ops [bk 22 .add 10 1,mv 10 22]))))))) (sq [mv 23 3,mv 2 23] .ret))))
def f139:IFn:=⟨false,24,[.tm 2],b139⟩
def b140:IC :=(sq [i 0 (.a (.alloc [.int .i64 0,.int .i64 0,.int .i64 0]) none)] (sq [i 1 (.p (.build [.int .i64 0,.int .i64 0,.int .i64 0] [(0,1,(.c (.int .i64 3))),(1,1,(.c (.int .i64 28))),(2,1,(.c (.int .i64 32)))])),sT 3 0 1] .ret))
def f140:IFn:=⟨true,2,[.cell (some 3) 0],b140⟩
def b147:IC :=(sq [ns 2] (sq [mv 3 0,ca 4 148 [.t 3,(.c .nils),(.c (.int .i64 0)),(.c (.int .i64 (-1)))],mv 2 4] .ret))
def f147:IFn:=⟨true,5,[.tm 2],b147⟩
def b148:IC :=(sq [ns 8] (sq [ns 9] (sq [ki 10 0] (.seq (.block 0 (.loop (.seq (sq [mv 14 10,bk 15 .leq 14 1114111] (cd 15 .skip (.exit 0))) (.block 1 (sq [mv 16 1,mv 17 10,mv 18 0,mv 19 10,ca 20 184 [.t 18,.t 19,(.c (.int .i64 1114112))],ca 21 184 [.t 16,.t 17,.t 20],mv 11 21] (.seq (sq [mv 22 3,mv 23 10,b2 24 .geq 22 23,mv 25 24,gM 26 25 3,gM 27 25 11,gC 28 25 .sub 27 1,gB 29 25 .lss 26 28,aP 30 25 29] (cd 30 (.ops [mv 31 3,bk 32 .add 31 1,mv 11 32]) .skip)) (sq [mv 33 0,mv 34 1,mv 35 2,mv 36 3,mv 37 10,ca 38 185 [.t 33,.t 34,.t 35,.t 36,.t 37],mv 12 38] (sq [mv 39 9,ln 40 39,bk 41 .sub 40 1,mv 13 41] (.seq (sq [mv 42 12,mv 43 42,gM 44 43 13,gC 45 43 .geq 44 0,aP 46 43 45,mv 47 46,gM 48 47 9,gM 49 47 13,gI 50 47 2 48 49,gF 51 47 1 50,gL 52 47 51,gM 53 47 10,gC 54 47 .sub 53 1,gB 55 47 .eql 52 54,aP 56 47 55] (cd 56 (.ops [mv 57 9,mv 58 13,mv 59 11,bk 60 .sub 59 1,ia 61 2 57 58,fa 62 1 61,sT 1 62 60]) (sq [mv 63 12] (cd 63 (.ops [mv 64 9,mv 65 10,mv 66 11,bk 67 .sub 66 1,i 68 (.p (.build [.int .i64 0,.int .i64 0] [(0,1,(.t 65)),(1,1,(.t 67))])),i 69 (.a (.bslice true [.int .i64 0,.int .i64 0] 1 [(0,(.t 68))]) none),aD 70 2 16 64 69,mv 9 70]) .skip)))) (.ops [mv 71 11,mv 10 71])))))))))) (sq [mv 72 9,mv 8 72] .ret)))))
def f148:IFn:=⟨true,73,[.tm 8],b148⟩
def b141:IC :=(sq [bx 3 3 0,ki 6 0] (sq [fa 7 1 3,ld 8 7,ca 9 146 [.t 8],mv 10 1,mv 11 2,ca 12 166 [.t 9,.t 10,.t 11],mv 6 12] .ret))
def f141:IFn:=⟨true,13,[.tm 6],b141⟩
def b144:IC :=(sq [bf 4] (sq [mv 5 0,mv 6 1,ca 7 178 [.t 5,.t 6],mv 4 7] .ret))
def f144:IFn:=⟨true,8,[.tm 4],b144⟩
def b145:IC :=(sq [ki 6 0] (sq [ki 7 0] (.seq (sq [mv 10 2,bk 11 .lss 10 0,mv 12 11,eM 13 12 2,eM 14 12 1,eN 15 12 14,eB 16 12 .gtr 13 15,oP 17 12 16] (cd 17 (sq [mv 18 7,mv 6 18] .ret) .skip)) (.seq (sq [mv 19 0,ln 20 19,ki 21 0] (.block 0 (.loop (sq [b2 22 .lss 21 20] (.seq (cd 22 .skip (.exit 0)) (.seq (.block 1 (sq [ia 23 1 19 21,ld 24 23,mv 9 24] (.ops [mv 25 7,mv 26 9,mv 27 1,mv 28 2,sL 29 1 27 28,ca 30 179 [.t 26,.t 29],i 31 (.p (.max (.t 25) [.t 30])),mv 7 31]))) (.ops [bk 32 .add 21 1,mv 21 32]))))))) (sq [mv 33 7,mv 6 33] .ret)))))
def f145:IFn:=⟨true,34,[.tm 6],b145⟩
def b146:IC :=(sq [ns 2] (sq [ns 3] (.seq (sq [mv 12 0,ca 13 151 [.t 12],ln 14 13,ki 15 0] (.block 0 (.loop (sq [b2 16 .lss 15 14] (.seq (cd 16 .skip (.exit 0)) (.seq (.block 1 (sq [ia 17 2 13 15,lg 18 2 17,i 5 (.a (.alloc [.int .i64 0,.int .i64 0]) none),sT 2 5 18] (sq [ca 19 180 [],ki 20 0] (.block 2 (.loop (sq [bk 21 .lss 20 5] (.seq (cd 21 .skip (.exit 2)) (.seq (.block 3 (sq [i 22 (.p (.idxA 5 3 true (.t 19) (.t 20))),i 7 (.a (.alloc [.int .i64 0,.int .i64 0,.int .i64 0]) none),sT 3 7 22] (sq [lg 23 2 5,i 24 (.a (.bslice true [.int .i64 0,.int .i64 0] 1 [(0,(.t 23))]) none),fa 25 0 7,lg 26 2 25,i 27 (.a (.bslice true [.int .i64 0,.int .i64 0] 1 [(0,(.t 26))]) none),ca 28 181 [.t 24,.t 27],mv 8 28] (.seq (sq [fa 29 2 7,ld 30 29,mv 9 30] (.block 4 (.loop (.seq (sq [mv 31 9,bk 32 .gtr 31 0] (cd 32 .skip (.exit 4))) (.seq (.block 5 (.ops [mv 35 9,bk 36 .mul 35 6,mv 37 8,ca 38 182 [.t 36,.t 37],mv 8 38])) (.ops [mv 33 9,bk 34 .sub 33 1,mv 9 34])))))) (sq [mv 39 8,ln 40 39,ki 41 0] (.block 6 (.loop (sq [b2 42 .lss 41 40] (.seq (cd 42 .skip (.exit 6)) (.seq (.block 7 (sq [ia 43 2 39 41,lg 44 2 43,i 11 (.a (.alloc [.int .i64 0,.int .i64 0]) none),sT 2 11 44] (.ops [mv 45 3,lg 46 2 11,ca 47 183 [.t 46],i 48 (.a (.bslice true [.nils] 1 [(0,(.t 47))]) none),aD 49 1 24 45 48,mv 3 49]))) (.ops [bk 50 .add 41 1,mv 41 50]))))))))))) (.ops [bk 51 .add 20 1,mv 20 51]))))))))) (.ops [bk 52 .add 15 1,mv 15 52]))))))) (sq [mv 53 3,mv 2 53] .ret))))
def f146:IFn:=⟨true,54,[.tm 2],b146⟩
def b149:IC :=(sq [ki 4 0] (.seq (sq [mv 6 0,ln 7 6,ki 8 0] (.block 0 (.loop (sq [b2 9 .lss 8 7] (.seq (cd 9 .skip (.exit 0)) (.seq (.block 1 (sq [mv 10 8,mv 5 10] (sq [mv 11 1,mv 12 0,mv 13 5,ia 14 1 12 13,ld 15 14,b2 16 .eql 11 15] (cd 16 (sq [mv 17 5,mv 4 17] .ret) .skip)))) (.ops [bk 18 .add 8 1,mv 8 18]))))))) (sq [ki 4 (-1)] .ret)))
def f149:IFn:=⟨false,19,[.tm 4],b149⟩
def b150:IC :=(sq [ki 4 0,ki 5 0] (sq [ki 6 0] (.seq (sq [mv 9 1,ki 10 0] (.block 0 (.loop (sq [b2 11 .lss 10 9] (.seq (cd 11 .skip (.exit 0)) (.seq (.block 1 (sq [mv 12 10,mv 7 12] (.seq (.seq (.dops 0 [] [mv 13 0,nc 14 13,fa 15 1 14,ld 16 15,mv 17 0,nc 18 17,fa 19 0 18,ld 20 19,lS 21 20,b2 22 .eql 16 21]) (cd 22 (sq [mv 23 6,mv 24 7,mv 4 23,mv 5 24] .ret) .skip)) (.seq (.dops 0 [] [mv 25 0,nc 26 25,fa 27 0 26,ld 28 27,mv 29 0,nc 30 29,fa 31 1 30,ld 32 31,i 33 (.p (.idxS (.t 28) (.t 32))),i 34 (.call (.dir 186) [(.c (.str [48,49,50,51,52,53,54,55,56,57,97,98,99,100,101,102])),.t 33] false),mv 8 34]) (.seq (sq [mv 35 8,bk 36 .lss 35 0] (cd 36 (sq [mv 37 6,mv 38 7,mv 4 37,mv 5 38] .ret) .skip)) (sq [mv 39 6,bJ 40 .shl 39 .u64 4,mv 41 8,b2 42 .or 40 41,mv 6 42] (.ops [mv 43 0,nc 44 43,fa 45 1 44,ld 46 45,bk 47 .add 46 1,nc 48 43,fa 49 1 48,sT 1 49 47]))))))) (.ops [bk 50 .add 10 1,mv 10 50]))))))) (sq [mv 51 6,mv 52 1,mv 4 51,mv 5 52] .ret))))
def f150:IFn:=⟨false,53,[.tm 4,.tm 5],b150⟩
def b151:IC :=(sq [ns 2] (sq [mv 3 0,i 4 (.p (.mkf 178 [.t 3] [])),mv 5 0,ca 6 187 [.t 4,.t 5],mv 2 6] .ret))
def f151:IFn:=⟨true,7,[.tm 2],b151⟩
def b152:IC :=(sq [bf 2] (sq [mv 3 0,bk 4 .geq 3 0,mv 5 4,gM 6 5 0,gC 7 5 .leq 6 1114111,aP 8 5 7,mv 9 8,gM 10 9 0,gC 11 9 .lss 10 55296,gM 12 9 11,eM 13 12 0,eC 14 12 .gtr 13 57343,gt 15 9 (.p (.pick (.t 12) (.c (.bool true)) (.t 14))),aP 16 9 15,mv 2 16] .ret))
def f152:IFn:=⟨true,17,[.tm 2],b152⟩
def b153:IC :=(sq [ki 4 0,ki 5 0] (.seq (sq [mv 10 1,bk 11 .lss 10 0,mv 12 11,eM 13 12 1,eM 14 12 0,eN 15 12 14,eB 16 12 .geq 13 15,oP 17 12 16] (cd 17 (sq [ki 4 (-1),ki 5 0] .ret) .skip)) (.seq (sq [i 18 (.p (.build [.nilf,.nilf,.nilf,.nilf] [(0,1,(.c (.fn 188 [] []))),(1,1,(.c (.fn 189 [] []))),(2,1,(.c (.fn 190 [] []))),(3,1,(.c (.fn 191 [] [])))])),ki 19 0] (.block 0 (.loop (sq [bk 20 .lss 19 4] (.seq (cd 20 .skip (.exit 0)) (.seq (.block 1 (sq [mv 21 19,i 22 (.p (.idxA 4 1 false (.t 18) (.t 19))),mv 6 21,mv 7 22] (sq [mv 24 7,mv 25 0,mv 26 1,sL 27 1 25 26,i 28 (.call (.val (.t 24)) [.t 27] false),mv 23 28,ex 29 0 23,ex 30 1 23,mv 8 29,mv 9 30] (sq [mv 31 9] (cd 31 (sq [mv 32 8,mv 33 6,bk 34 .add 33 1,mv 4 32,mv 5 34] .ret) .skip))))) (.ops [bk 35 .add 19 1,mv 19 35]))))))) (sq [ki 4 (-1),ki 5 1] .ret))))
def f153:IFn:=⟨true,36,[.tm 4,.tm 5],b153⟩
def b154:IC :=(sq [bx 5 1 2,ns 6] (sq [mv 9 0,i 10 (.p (.mkf 178 [.t 9] [])),mv 11 1,i 12 (.p (.mkf 178 [.t 11] [])),i 7 (.a (.alloc [.nilf]) none),i 8 (.a (.alloc [.nilf]) none),sT 1 7 10,sT 1 8 12] (sq [i 13 (.p (.mkf 192 [] [.t 5,.t 7,.t 8])),mv 14 0,mv 15 1,i 16 (.a (.bslice true [.nils] 2 [(0,(.t 14)),(1,(.t 15))]) none),ca 17 193 [.t 16],ca 18 187 [.t 13,.t 17],mv 6 18] .ret)))
def f154:IFn:=⟨true,19,[.tm 6],b154⟩
def b155:IC :=(sq [bf 4] (sq [mv 5 0,mv 6 5,gM 7 6 1,gX 8 6 7,aP 9 6 8,mv 4 9] .ret))
def f155:IFn:=⟨true,10,[.tm 4],b155⟩
def b156:IC :=(sq [i 2 (.p (.mov (.c (.int .i32 0)))),ki 3 0] (sq [mv 13 0,lS 14 13,mv 4 14] (.seq (sq [mv 15 4,bk 16 .lss 15 1] (cd 16 (sq [i 2 (.p (.mov (.c (.int .i32 65533)))),ki 3 0] .ret) .skip)) (sq [mv 17 0,i 18 (.p (.idxS (.t 17) (.c (.int .i64 0)))),mv 5 18] (sq [mv 19 5,i 20 (.p (.iaddrA 256 1 (.c .any) (.t 19))),ld 21 20,mv 6 21] (.seq (sq [mv 22 6,bJ 23 .geq 22 .u8 240] (cd 23 (sq [mv 24 6,cV 25 .i32 24,bJ 26 .shl 25 .u64 31,bJ 27 .shr 26 .u64 31,mv 7 27] (sq [mv 28 0,i 29 (.p (.idxS (.t 28) (.c (.int .i64 0)))),cV 30 .i32 29,mv 31 7,b2 32 .andNot 30 31,mv 33 7,i 34 (.p (.bin .and (.c (.int .i32 65533)) (.t 33))),b2 35 .or 32 34,mv 2 35,ki 3 1] .ret)) .skip)) (sq [mv 36 6,bJ 37 .and 36 .u8 7,cV 38 .i64 37,mv 8 38] (sq [mv 39 6,bJ 40 .shr 39 .u64 4,i 41 (.p (.iaddrA 16 2 (.c .any) (.t 40))),lg 42 2 41,i 9 (.a (.alloc [.int .u8 0,.int .u8 0]) none),sT 2 9 42] (.seq (sq [mv 43 4,mv 44 8,b2 45 .lss 43 44] (cd 45 (sq [i 2 (.p (.mov (.c (.int .i32 65533)))),ki 3 1] .ret) .skip)) (sq [mv 46 0,i 47 (.p (.idxS (.t 46) (.c (.int .i64 1)))),mv 10 47] (.seq (sq [mv 48 10,fa 49 0 9,ld 50 49,b2 51 .lss 48 50,mv 52 51,eF 53 52 1 9,eL 54 52 53,eM 55 52 10,eB 56 52 .lss 54 55,oP 57 52 56] (cd 57 (sq [i 2 (.p (.mov (.c (.int .i32 65533)))),ki 3 1] .ret) .skip)) (.seq (sq [mv 58 8,bk 59 .leq 58 2] (cd 59 (sq [mv 60 5,bJ 61 .and 60 .u8 31,cV 62 .i32 61,bJ 63 .shl 62 .u64 6,mv 64 10,bJ 65 .and 64 .u8 63,cV 66 .i32 65,b2 67 .or 63 66,mv 2 67,ki 3 2] .ret) .skip)) (sq [mv 68 0,i 69 (.p (.idxS (.t 68) (.c (.int .i64 2)))),mv 11 69] (.seq (sq [mv 70 11,bJ 71 .lss 70 .u8 128,mv 72 71,eM 73 72 11,gf 74 72 (.p (.bin .lss (.c (.int .u8 191)) (.t 73))),oP 75 72 74] (cd 75 (sq [i 2 (.p (.mov (.c (.int .i32 65533)))),ki 3 1] .ret) .skip)) (.seq (sq [mv 76 8,bk 77 .leq 76 3] (cd 77 (sq [mv 78 5,bJ 79 .and 78 .u8 15,cV 80 .i32 79,bJ 81 .shl 80 .u64 12,mv 82 10,bJ 83 .and 82 .u8 63,cV 84 .i32 83,bJ 85 .shl 84 .u64 6,b2 86 .or 81 85,mv 87 11,bJ 88 .and 87 .u8 63,cV 89 .i32 88,b2 90 .or 86 89,mv 2 90,ki 3 3] .ret) .skip)) (sq [mv 91 0,i 92 (.p (.idxS (.t 91) (.c (.int .i64 3)))),mv 12 92] (.seq (sq [mv 93 12,bJ 94 .lss 93 .u8 128,mv 95 94,eM 96 95 12,gf 97 95 (.p (.bin .lss (.c (.int .u8 191)) (.t 96))),oP 98 95 97] (cd 98 (sq [i 2 (.p (.mov (.c (.int .i32 65533)))),ki 3 1] .ret) .skip)) (sq [mv 99 5,bJ 100 .and 99 .u8 7,cV 101 .i32 100,bJ 102 .shl 101 .u64 18,mv 103 10,bJ 104 .and 103 .u8 63,cV 105 .i32 104,bJ 106 .shl 105 .u64 12,b2 107 .or 102 106,mv 108 11,bJ 109 .and 108 .u8 63,cV 110 .i32 109,bJ 111 .shl 110 .u64 6,b2 112 .or 107 111,mv 113 12,bJ 114 .and 113 .u8 63,cV 115 .i32 114,b2 116 .or 112 115,mv 2 116,ki 3 4] .ret))))))))))))))))))
def f156:IFn:=⟨false,117,[.tm 2,.tm 3],b156⟩
def b157:IC :=(sq [ki 4 0] (.block 0 (sq [mv 161 1,i 162 (.p (.bin .leq (.c (.int .i32 0)) (.t 161))),mv 163 162,gM 164 163 1,gt 165 163 (.p (.bin .lss (.t 164) (.c (.int .i32 128)))),aP 166 163 165,mv 160 166] (cd 160 (sq [mv 167 0,mv 168 1,cV 169 .u8 168,ca 170 186 [.t 167,.t 169],mv 4 170] .ret) .bad))))
def f157:IFn:=⟨false,187,[.tm 4],b157⟩
def b158:IC :=(sq [i 0 (.p (.mov (.c .nilm)))] (sq [i 1 (.a (.mkm) none),n (.w (.mupd (.one .int) (.t 1) (.c (.int .i64 0)) (.c (.fn 197 [] [])))),n (.w (.mupd (.one .int) (.t 1) (.c (.int .i64 1)) (.c (.fn 197 [] [])))),n (.w (.mupd (.one .int) (.t 1) (.c (.int .i64 2)) (.c (.fn 197 [] [])))),n (.w (.mupd (.one .int) (.t 1) (.c (.int .i64 3)) (.c (.fn 197 [] [])))),n (.w (.mupd (.one .int) (.t 1) (.c (.int .i64 4)) (.c (.fn 198 [] [])))),mv 2 1,mv 0 2] .ret))
def f158:IFn:=⟨false,3,[.tm 0],b158⟩
def b159:IC :=(.ops [mv 4 0,i 5 (.p (.mki 2 (.t 4))),mv 6 1,i 7 (.p (.mki 3 (.t 6))),ca 8 199 [.t 5,.t 7]])
def f159:IFn:=⟨false,9,[],b159⟩
def b160:IC :=(sq [ki 2 0] (sq [mv 3 0,nc 4 3,ld 5 4,ln 6 5,mv 2 6] .ret))
def f160:IFn:=⟨false,7,[.tm 2],b160⟩
def b161:IC :=(sq [ki 2 0] (sq [mv 6 0,i 7 (.p (.mki 2 (.t 6))),ca 8 200 [.t 7],i 9 (.p (.asrt 3 true (.int .i64 0) (.t 8))),mv 5 9,ex 10 0 5,ex 11 1 5,mv 3 10,mv 4 11] (sq [mv 12 3,mv 2 12] .ret)))
def f161:IFn:=⟨false,13,[.tm 2],b161⟩
def b162:IC :=(sq [bx 1 2 0,i 2 (.p (.mov (.c .nilp)))] (sq [lg 5 2 1,i 6 (.a (.mkm) none),i 7 (.p (.build [.nils,.nils,.nilm] [(0,2,(.t 5)),(2,1,(.t 6))])),bx 8 3 7,i 3 (.a (.alloc [.nilp]) none),sT 1 3 8] (.seq (sq [ld 9 3,ca 10 201 [.t 9]] (.block 0 (.rangeF (.t 10) [11] (.ops [mv 4 11]) (.block 1 (.ops [ld 12 3,nc 13 12,fa 14 2 13,ld 15 14,mv 16 4,n (.w (.mupd (.one .int) (.t 15) (.t 16) (.c (.bool true))))]))))) (sq [ld 17 3,mv 2 17] .ret))))
def f162:IFn:=⟨false,18,[.tm 2],b162⟩
def b163:IC :=(sq [bx 2 1 0,bf 4] (sq [mv 5 1,i 6 (.p (.mkf 202 [] [.t 2])),ca 7 57 [.t 5,.t 6],nt 8 7,mv 4 8] .ret))
def f163:IFn:=⟨true,9,[.tm 4],b163⟩
def b164:IC :=(sq [ns 4] (.seq (sq [mv 5 1,bk 6 .lss 5 0] (cd 6 (.ops [i 7 (.p (.mki 1 (.c (.str [99,97,110,110,111,116,32,98,101,32,110,101,103,97,116,105,118,101])))),n (.bad)]) .skip)) (.seq (sq [mv 8 1,mv 9 0,i 10 (.p (.cap (.t 9))),mv 11 0,ln 12 11,b2 13 .sub 10 12,b2 14 .sub 8 13,mv 1 14] (sq [mv 15 1,bk 16 .gtr 15 0] (cd 16 (.ops [mv 17 0,mv 18 0,i 19 (.p (.cap (.t 18))),sH 20 3 17 19,mv 21 1,i 22 (.w (.appendZ [.int .i64 0,.nils,.int .i64 0] 40 (.t 20) (.t 21))),mv 23 0,ln 24 23,sH 25 3 22 24,mv 0 25]) .skip))) (sq [mv 26 0,mv 4 26] .ret))))
def f164:IFn:=⟨false,27,[.tm 4],b164⟩
def b165:IC :=(sq [bx 1 3 0,bf 2] (sq [lg 3 3 1,ca 4 102 [.t 3,(.c (.int .i64 0))],mv 5 4,eF 6 5 2 1,eL 7 5 6,eN 8 5 7,eC 9 5 .gtr 8 0,oP 10 5 9,mv 2 10] .ret))
def f165:IFn:=⟨true,11,[.tm 2],b165⟩
def b184:IC :=(sq [ki 6 0] (.seq (sq [ki 7 0] (.block 0 (.loop (.seq (sq [mv 8 7,mv 9 0,ln 10 9,b2 11 .lss 8 10] (cd 11 .skip (.exit 0))) (.seq (.block 1 (.seq (sq [mv 14 0,mv 15 7,ia 16 2 14 15,fa 17 0 16,ld 18 17,mv 19 1,b2 20 .gtr 18 19,mv 21 20,gM 22 21 0,gM 23 21 7,gI 24 21 2 22 23,gF 25 21 0 24,gL 26 21 25,gM 27 21 2,gB 28 21 .lss 26 27,aP 29 21 28] (cd 29 (.ops [mv 30 0,mv 31 7,ia 32 2 30 31,fa 33 0 32,ld 34 33,mv 2 34]) .skip)) (sq [mv 35 0,mv 36 7,ia 37 2 35 36,fa 38 1 37,ld 39 38,mv 40 1,b2 41 .geq 39 40,mv 42 41,gM 43 42 0,gM 44 42 7,gI 45 42 2 43 44,gF 46 42 1 45,gL 47 42 46,gM 48 42 2,gC 49 42 .sub 48 1,gB 50 42 .lss 47 49,aP 51 42 50] (cd 51 (.ops [mv 52 0,mv 53 7,ia 54 2 52 53,fa 55 1 54,ld 56 55,bk 57 .add 56 1,mv 2 57]) .skip)))) (.ops [mv 12 7,bk 13 .add 12 1,mv 7 13])))))) (sq [mv 58 2,mv 6 58] .ret)))
def f184:IFn:=⟨true,59,[.tm 6],b184⟩
def b185:IC :=(sq [bf 10] (sq [mv 13 0,mv 14 4,ca 15 213 [.t 13,.t 14],mv 11 15] (sq [mv 16 1,mv 17 4,ca 18 213 [.t 16,.t 17],mv 12 18] (.seq (sq [mv 19 2] (.block 0 (sq [bk 21 .eql 19 0,mv 20 21] (cd 20 (sq [mv 22 11,mv 23 22,eM 24 23 12,oP 25 23 24,mv 10 25] .ret) (sq [bk 27 .eql 19 1,mv 26 27] (cd 26 (sq [mv 28 11,mv 29 28,gM 30 29 12,aP 31 29 30,mv 10 31] .ret) (sq [bk 33 .eql 19 2,mv 32 33] (cd 32 (sq [mv 34 11,mv 35 34,gM 36 35 12,gX 37 35 36,aP 38 35 37,mv 10 38] .ret) .skip)))))))) (sq [mv 39 11,nt 40 39,mv 41 40,gM 42 41 4,gM 43 41 3,gB 44 41 .leq 42 43,aP 45 41 44,mv 10 45] .ret)))))
def f185:IFn:=⟨true,46,[.tm 10],b185⟩
def b166:IC :=(sq [ki 6 0] (.seq (sq [mv 10 2,bk 11 .lss 10 0,mv 12 11,eM 13 12 2,eM 14 12 1,eN 15 12 14,eB 16 12 .gtr 13 15,oP 17 12 16] (cd 17 (sq [ki 6 0] .ret) .skip)) (.seq (sq [mv 18 0,ln 19 18,ki 20 0] (.block 0 (.loop (sq [b2 21 .lss 20 19] (.seq (cd 21 .skip (.exit 0)) (.seq (.block 1 (sq [ia 22 1 18 20,ld 23 22,mv 8 23] (sq [mv 24 8,mv 25 1,mv 26 2,sL 27 1 25 26,ca 28 179 [.t 24,.t 27],mv 9 28] (sq [mv 29 9,mv 30 8,ln 31 30,b2 32 .eql 29 31] (cd 32 (sq [mv 33 9,mv 6 33] .ret) .skip))))) (.ops [bk 34 .add 20 1,mv 20 34]))))))) (sq [ki 6 0] .ret))))
def f166:IFn:=⟨true,35,[.tm 6],b166⟩
def b178:IC :=(sq [bx 3 1 1,bf 4] (sq [mv 5 0,i 6 (.p (.mkf 210 [] [.t 3])),ca 7 209 [.t 5,.t 6],mv 4 7] .ret))
def f178:IFn:=⟨true,8,[.tm 4],b178⟩
def b179:IC :=(sq [ki 4 0] (sq [mv 8 1,mv 9 1,ln 10 9,mv 11 0,ln 12 11,i 13 (.p (.min (.t 10) [.t 12])),mv 14 1,ln 15 14,mv 16 0,ln 17 16,i 18 (.p (.min (.t 15) [.t 17])),i 19 (.p (.slice 1 (.t 8) none (some (.t 13)) (some (.t 18)))),mv 1 19] (.seq (sq [mv 20 1,ln 21 20,ki 22 0] (.block 0 (.loop (sq [b2 23 .lss 22 21] (.seq (cd 23 .skip (.exit 0)) (.seq (.block 1 (sq [mv 24 22,ia 25 1 20 22,ld 26 25,mv 5 24,mv 6 26] (sq [mv 27 6,cV 28 .i64 27,mv 7 28] (sq [mv 29 7,mv 30 0,mv 31 5,ia 32 2 30 31,fa 33 0 32,ld 34 33,b2 35 .lss 29 34,mv 36 35,eM 37 36 7,eM 38 36 0,eM 39 36 5,eI 40 36 2 38 39,eF 41 36 1 40,eL 42 36 41,eB 43 36 .gtr 37 42,oP 44 36 43] (cd 44 (sq [mv 45 5,mv 4 45] .ret) .skip))))) (.ops [bk 46 .add 22 1,mv 22 46]))))))) (sq [mv 47 1,ln 48 47,mv 4 48] .ret))))
def f179:IFn:=⟨true,49,[.tm 4],b179⟩
def b180:IC :=(sq [i 0 (.a (.alloc [.int .i64 0,.int .i64 0,.int .i64 0,.int .i64 0,.int .i64 0,.int .i64 0,.int .i64 0,.int .i64 0,.int .i64 0,.int .i64 0,.int .i64 0,.int .i64 0,.int .i64 0,.int .i64 0,.int .i64 0]) none)] (sq [i 1 (.p (.build [.int .i64 0,.int .i64 0] [(0,1,(.c (.int .i64 0))),(1,1,(.c (.int .i64 127)))])),i 2 (.p (.build [.int .i64 0,.int .i64 0,.int .i64 0] [(0,2,(.t 1)),(2,1,(.c (.int .i64 0)))])),i 3 (.p (.build [.int .i64 0,.int .i64 0] [(0,1,(.c (.int .i64 128))),(1,1,(.c (.int .i64 2047)))])),i 4 (.p (.build [.int .i64 0,.int .i64 0,.int .i64 0] [(0,2,(.t 3)),(2,1,(.c (.int .i64 1)))])),i 5 (.p (.build [.int .i64 0,.int .i64 0] [(0,1,(.c (.int .i64 2048))),(1,1,(.c (.int .i64 55295)))])),i 6 (.p (.build [.int .i64 0,.int .i64 0,.int .i64 0] [(0,2,(.t 5)),(2,1,(.c (.int .i64 2)))])),i 7 (.p (.build [.int .i64 0,.int .i64 0] [(0,1,(.c (.int .i64 57344))),(1,1,(.c (.int .i64 65535)))])),i 8 (.p (.build [.int .i64 0,.int .i64 0,.int .i64 0] [(0,2,(.t 7)),(2,1,(.c (.int .i64 2)))])),i 9 (.p (.build [.int .i64 0,.int .i64 0] [(0,1,(.c (.int .i64 65536))),(1,1,(.c (.int .i64 1114111)))])),i 10 (.p (.build [.int .i64 0,.int .i64 0,.int .i64 0] [(0,2,(.t 9)),(2,1,(.c (.int .i64 3)))])),i 11 (.p (.build [.int .i64 0,.int .i64 0,.int .i64 0,.int .i64 0,.int .i64 0,.int .i64 0,.int .i64 0,.int .i64 0,.int .i64 0,.int .i64 0,.int .i64 0,.int .i64 0,.int .i64 0,.int .i64 0,.int .i64 0] [(0,3,(.t 2)),(3,3,(.t 4)),(6,3,(.t 6)),(9,3,(.t 8)),(12,3,(.t 10))])),sT 15 0 11] .ret))
def f180:IFn:=⟨true,12,[.cell (some 15) 0],b180⟩
def b181:IC :=(sq [ns 4] (sq [mv 5 0,mv 6 1,i 7 (.call (.dir 154) [.t 5,.t 6,(.c (.fn 211 [] []))] false),mv 4 7] .ret))
def f181:IFn:=⟨true,8,[.tm 4],b181⟩
def b182:IC :=(sq [ns 4] (sq [ns 5] (sq [mv 10 0,i 11 (.p (.bin .shl (.c (.int .i64 1)) (.t 10))),bk 12 .sub 11 1,mv 6 12] (.seq (sq [mv 13 1,ln 14 13,ki 15 0] (.block 0 (.loop (sq [b2 16 .lss 15 14] (.seq (cd 16 .skip (.exit 0)) (.seq (.block 1 (sq [ia 17 2 13 15,lg 18 2 17,i 8 (.a (.alloc [.int .i64 0,.int .i64 0]) none),sT 2 8 18] (.seq (.seq (.dops 0 [] [fa 19 0 8,ld 20 19,mv 21 0,b2 22 .shr 20 21,fa 23 1 8,ld 24 23,mv 25 0,b2 26 .shr 24 25,b2 27 .eql 22 26]) (cd 27 (sq [mv 28 5,lg 29 2 8,i 30 (.a (.bslice true [.int .i64 0,.int .i64 0] 1 [(0,(.t 29))]) none),aD 31 2 16 28 30,mv 5 31] (.exit 1)) .skip)) (.seq (sq [fa 32 0 8,ld 33 32,mv 34 6,b2 35 .and 33 34,bk 36 .neq 35 0] (cd 36 (sq [mv 37 5,fa 38 0 8,ld 39 38,fa 40 0 8,ld 41 40,mv 42 6,b2 43 .or 41 42,i 44 (.p (.build [.int .i64 0,.int .i64 0] [(0,1,(.t 39)),(1,1,(.t 43))])),i 45 (.a (.bslice true [.int .i64 0,.int .i64 0] 1 [(0,(.t 44))]) none),aD 46 2 16 37 45,mv 5 46] (.ops [fa 47 0 8,ld 48 47,mv 49 6,b2 50 .or 48 49,bk 51 .add 50 1,fa 52 0 8,sT 1 52 51])) .skip)) (sq [lg 53 2 8,i 9 (.a (.alloc [.int .i64 0,.int .i64 0]) none),sT 2 9 53] (.seq (sq [fa 54 1 8,ld 55 54,mv 56 6,b2 57 .and 55 56,mv 58 6,b2 59 .neq 57 58] (cd 59 (.ops [fa 60 1 8,ld 61 60,mv 62 6,b2 63 .andNot 61 62,bk 64 .sub 63 1,fa 65 1 8,sT 1 65 64]) .skip)) (.seq (sq [fa 66 0 8,ld 67 66,fa 68 1 8,ld 69 68,b2 70 .leq 67 69] (cd 70 (.ops [mv 71 5,lg 72 2 8,i 73 (.a (.bslice true [.int .i64 0,.int .i64 0] 1 [(0,(.t 72))]) none),aD 74 2 16 71 73,mv 5 74]) .skip)) (sq [fa 75 1 8,ld 76 75,fa 77 1 9,ld 78 77,b2 79 .lss 76 78] (cd 79 (.ops [mv 80 5,fa 81 1 8,ld 82 81,bk 83 .add 82 1,fa 84 1 9,ld 85 84,i 86 (.p (.build [.int .i64 0,.int .i64 0] [(0,1,(.t 83)),(1,1,(.t 85))])),i 87 (.a (.bslice true [.int .i64 0,.int .i64 0] 1 [(0,(.t 86))]) none),aD 88 2 16 80 87,mv 5 88]) .skip))))))))) (.ops [bk 89 .add 15 1,mv 15 89]))))))) (sq [mv 90 5,mv 4 90] .ret)))))
def f182:IFn:=⟨true,91,[.tm 4],b182⟩
def b183:IC :=(sq [bx 1 2 0,ns 2] (sq [fa 10 0 1,ld 11 10,ca 12 212 [.t 11],mv 9 12,ex 13 0 9,ex 14 1 9,mv 3 13,mv 4 14] (sq [fa 16 1 1,ld 17 16,ca 18 212 [.t 17],mv 15 18,ex 19 0 15,ex 20 1 15,mv 5 19,mv 6 20] (sq [ns 7] (.seq (sq [mv 21 3,ln 22 21,ki 23 0] (.block 0 (.loop (sq [b2 24 .lss 23 22] (.seq (cd 24 .skip (.exit 0)) (.seq (.block 1 (sq [mv 25 23,mv 8 25] (.dops 0 [] [mv 26 7,mv 27 3,mv 28 8,ia 29 1 27 28,ld 30 29,cV 31 .i64 30,mv 32 5,mv 33 8,ia 34 1 32 33,ld 35 34,cV 36 .i64 35,i 37 (.p (.build [.int .i64 0,.int .i64 0] [(0,1,(.t 31)),(1,1,(.t 36))])),i 38 (.a (.bslice true [.int .i64 0,.int .i64 0] 1 [(0,(.t 37))]) none),aD 39 2 16 26 38,mv 7 39]))) (.ops [bk 40 .add 23 1,mv 23 40]))))))) (sq [mv 41 7,mv 2 41] .ret))))))
def f183:IFn:=⟨true,42,[.tm 2],b183⟩
def b186:IC :=(sq [ki 4 0] (sq [mv 5 0,mv 6 1,ca 7 214 [.t 5,.t 6],mv 4 7] .ret))
def f186:IFn:=⟨false,8,[.tm 4],b186⟩
def b187:IC :=(sq [bx 2 1 0,ns 4] (sq [i 5 (.a (.alloc [.nils]) none)] (.seq (sq [mv 9 1,ca 10 215 [.t 9]] (.block 0 (.rangeF (.t 10) [11,12] (sq [mv 6 11] (.ops [mv 7 12])) (.block 1 (.seq (sq [ld 13 2,mv 14 6,i 15 (.call (.val (.t 13)) [.t 14] false),nt 16 15] (cd 16 (.exit 1) .skip)) (.seq (sq [ld 17 5,ln 18 17,bk 19 .sub 18 1,mv 8 19] (sq [mv 20 8,bk 21 .geq 20 0,mv 22 21,gL 23 22 5,gM 24 22 8,gI 25 22 2 23 24,gF 26 22 1 25,gL 27 22 26,gM 28 22 6,gC 29 22 .sub 28 1,gB 30 22 .eql 27 29,aP 31 22 30] (cd 31 (sq [ld 32 5,mv 33 8,mv 34 7,ia 35 2 32 33,fa 36 1 35,sT 1 36 34] (.exit 1)) .skip))) (.ops [ld 37 5,mv 38 6,mv 39 7,i 40 (.p (.build [.int .i64 0,.int .i64 0] [(0,1,(.t 38)),(1,1,(.t 39))])),i 41 (.a (.bslice true [.int .i64 0,.int .i64 0] 1 [(0,(.t 40))]) none),aD 42 2 16 37 41,sT 1 5 42]))))))) (sq [ld 43 5,mv 4 43] .ret))))
def f187:IFn:=⟨true,44,[.tm 4],b187⟩
def b188:IC :=(sq [ki 2 0,bf 3] (sq [mv 4 0,ca 5 216 [.t 4,(.c (.int .i64 1)),(.c (.int .i64 0))],ex 6 0 5,ex 7 1 5,mv 2 6,mv 3 7] .ret))
def f188:IFn:=⟨false,8,[.tm 2,.tm 3],b188⟩
def b189:IC :=(sq [ki 2 0,bf 3] (sq [mv 4 0,ca 5 217 [],i 6 (.p (.idxA 5 1 false (.t 5) (.c (.int .i64 2)))),ca 7 216 [.t 4,(.c (.int .i64 2)),.t 6],ex 8 0 7,ex 9 1 7,mv 2 8,mv 3 9] .ret))
def f189:IFn:=⟨false,10,[.tm 2,.tm 3],b189⟩
def b190:IC :=(sq [ki 2 0,bf 3] (sq [mv 4 0,ca 5 217 [],i 6 (.p (.idxA 5 1 false (.t 5) (.c (.int .i64 3)))),ca 7 216 [.t 4,(.c (.int .i64 3)),.t 6],ex 8 0 7,ex 9 1 7,mv 2 8,mv 3 9] .ret))
def f190:IFn:=⟨false,10,[.tm 2,.tm 3],b190⟩
def b191:IC :=(sq [ki 2 0,bf 3] (sq [mv 4 0,ca 5 217 [],i 6 (.p (.idxA 5 1 false (.t 5) (.c (.int .i64 4)))),ca 7 216 [.t 4,(.c (.int .i64 4)),.t 6],ex 8 0 7,ex 9 1 7,mv 2 8,mv 3 9] .ret))
def f191:IFn:=⟨false,10,[.tm 2,.tm 3],b191⟩
def b192:IC :=(sq [bf 5] (.seq (.dops 0 [(0,4),(0,7),(4,3)] [ld 6 1,ld 7 2,mv 8 0,i 9 (.call (.val (.t 7)) [.t 8] false),ld 10 3,mv 11 0,i 12 (.call (.val (.t 10)) [.t 11] false),i 13 (.call (.val (.t 6)) [.t 9,.t 12] false),mv 5 13]) .ret))
def f192:IFn:=⟨true,14,[.tm 5],b192⟩
def b193:IC :=(sq [ns 2] (sq [ki 3 0] (.seq (sq [mv 9 0,ln 10 9,ki 11 0] (.block 0 (.loop (sq [b2 12 .lss 11 10] (.seq (cd 12 .skip (.exit 0)) (.seq (.block 1 (sq [ia 13 1 9 11,ld 14 13,mv 5 14] (sq [mv 15 3,mv 16 5,ln 17 16,b2 18 .add 15 17,mv 3 18] (sq [mv 19 3,bk 20 .lss 19 0] (cd 20 (.ops [i 21 (.p (.mki 1 (.c (.str [108,101,110,32,111,117,116,32,111,102,32,114,97,110,103,101])))),n (.bad)]) .skip))))) (.ops [bk 22 .add 11 1,mv 11 22]))))))) (sq [mv 23 3,ca 24 218 [(.c .nils),.t 23],mv 6 24] (.seq (sq [mv 25 0,ln 26 25,ki 27 0] (.block 2 (.loop (sq [b2 28 .lss 27 26] (.seq (cd 28 .skip (.exit 2)) (.seq (.block 3 (sq [ia 29 1 25 27,ld 30 29,mv 8 30] (.ops [mv 31 6,mv 32 8,aD 33 2 16 31 32,mv 6 33]))) (.ops [bk 34 .add 27 1,mv 27 34]))))))) (sq [mv 35 6,mv 2 35] .ret))))))
def f193:IFn:=⟨true,36,[.tm 2],b193⟩
def b197:IC :=(sq [i 2 (.a (.alloc [.int .i64 0,.str [],.nils,.nils,.int .i64 0]) none),bf 3] (sq [mv 6 0,mv 7 0,nc 8 7,fa 9 0 8,ld 10 9,iX 11 4 10 0,fa 12 0 11,ld 13 12,i 14 (.call (.dir 48) [.t 6,.t 13,(.c (.str []))] false),i 4 (.a (.alloc [.int .i64 0,.str [],.nils,.int .i64 0]) none),sT 4 4 14] (sq [i 15 (.p (.build [.int .i64 0,.int .i64 0,.int .i64 0,.int .i64 0] [(0,1,(.c (.int .i64 0))),(1,1,(.c (.int .i64 1))),(2,1,(.c (.int .i64 2))),(3,1,(.c (.int .i64 3)))])),i 5 (.a (.alloc [.int .i64 0,.int .i64 0,.int .i64 0,.int .i64 0]) none),sT 4 5 15] (.seq (.dops 0 [] [fa 16 0 4,ld 17 16,i 18 (.p (.iaddrA 4 1 (.t 5) (.t 17))),ld 19 18,fa 20 1 4,ld 21 20,fa 22 2 4,ld 23 22,fa 24 3 4,ld 25 24,i 26 (.p (.build [.int .i64 0,.str [],.nils,.nils,.int .i64 0] [(0,1,(.t 19)),(1,1,(.t 21)),(2,1,(.t 23)),(4,1,(.t 25))])),sT 5 2 26,bt 3]) .ret))))
def f197:IFn:=⟨false,27,[.cell (some 5) 2,.tm 3],b197⟩
def b198:IC :=(sq [i 2 (.a (.alloc [.int .i64 0,.str [],.nils,.nils,.int .i64 0]) none),bf 3] (.seq (sq [mv 5 0,i 6 (.call (.dir 49) [.t 5,(.c (.int .i64 4)),(.c (.str [40]))] false),nt 7 6] (cd 7 (sq [i 8 (.p (.build [.int .i64 0,.str [],.nils,.nils,.int .i64 0] [])),sT 5 2 8,bf 3] .ret) .skip)) (.seq (sq [mv 9 0,nc 10 9,fa 11 2 10,ld 12 11,bk 13 .eql 12 12] (cd 13 (.ops [mv 14 0,ca 15 50 [.t 14,(.c (.int .i64 4))]]) .skip)) (sq [mv 16 0,i 17 (.call (.dir 47) [.t 16,(.c (.str [40]))] false)] (sq [mv 18 0,nc 19 18,fa 20 2 19,ld 21 20,bk 22 .add 21 1,nc 23 18,fa 24 2 23,sT 1 24 22] (sq [mv 25 0,ca 26 52 [.t 25],i 4 (.a (.alloc [.int .i64 0,.str [],.nils,.nils,.int .i64 0]) none),sT 5 4 26] (sq [mv 27 0,nc 28 27,fa 29 2 28,ld 30 29,bk 31 .sub 30 1,nc 32 27,fa 33 2 32,sT 1 33 31] (sq [mv 34 0,i 35 (.call (.dir 48) [.t 34,(.c (.int .i64 4)),(.c (.str [41]))] false)] (sq [lg 36 5 4,sT 5 2 36,bt 3] .ret)))))))))
def f198:IFn:=⟨false,37,[.cell (some 5) 2,.tm 3],b198⟩
def b199:IC :=(sq [mv 4 0,mv 5 1,i 6 (.call (.inv (.t 4) "Push") [.t 5] false)] (.ops [mv 7 0,mv 8 0,i 9 (.call (.inv (.t 8) "Len") [] false),bk 10 .sub 9 1,ca 11 219 [.t 7,.t 10]]))
def f199:IFn:=⟨false,12,[],b199⟩
def b200:IC :=(sq [i 2 (.p (.mov (.c .nili)))] (sq [mv 4 0,i 5 (.call (.inv (.t 4) "Len") [] false),bk 6 .sub 5 1,mv 3 6] (sq [mv 7 0,mv 8 3,i 9 (.call (.inv (.t 7) "Swap") [(.c (.int .i64 0)),.t 8] false)] (sq [mv 10 0,mv 11 3,ca 12 220 [.t 10,(.c (.int .i64 0)),.t 11]] (sq [mv 13 0,i 14 (.call (.inv (.t 13) "Pop") [] false),mv 2 14] .ret)))))
def f200:IFn:=⟨false,15,[.tm 2],b200⟩
def b201:IC :=(sq [bx 1 1 0,i 2 (.p (.mov (.c .nilf)))] (sq [i 3 (.p (.mkf 221 [] [.t 1])),mv 2 3] .ret))
def f201:IFn:=⟨false,4,[.tm 2],b201⟩
def b202:IC :=(sq [bx 2 3 0,bf 3] (.seq (.dops 0 [] [fa 4 0 2,ld 5 4,bk 6 .neq 5 2,mv 7 6,eL 8 7 1,gf 9 7 (.p (.nilc (.t 8))),eF 10 7 2 9,eL 11 7 10,eF 12 7 2 2,eL 13 7 12,gf 14 7 (.r (.lookup (.one .int) (.bool false) false (.t 11) (.t 13))),eX 15 7 14,oP 16 7 15,mv 3 16]) .ret))
def f202:IFn:=⟨true,17,[.tm 3],b202⟩
def b213:IC :=(sq [bf 4] (.seq (sq [ki 5 0] (.block 0 (.loop (.seq (sq [mv 6 5,mv 7 0,ln 8 7,b2 9 .lss 6 8] (cd 9 .skip (.exit 0))) (.seq (.block 1 (sq [mv 12 1,mv 13 0,mv 14 5,ia 15 2 13 14,fa 16 0 15,ld 17 16,b2 18 .geq 12 17,mv 19 18,gM 20 19 1,gM 21 19 0,gM 22 19 5,gI 23 19 2 21 22,gF 24 19 1 23,gL 25 19 24,gB 26 19 .leq 20 25,aP 27 19 26] (cd 27 (sq [bt 4] .ret) .skip))) (.ops [mv 10 5,bk 11 .add 10 1,mv 5 11])))))) (sq [bf 4] .ret)))
def f213:IFn:=⟨true,28,[.tm 4],b213⟩
def b208:IC :=(sq [bf 2] (sq [mv 3 0,mv 4 0,b2 5 .neq 3 4,mv 2 5] .ret))
def f208:IFn:=⟨false,6,[.tm 2],b208⟩
def b209:IC :=(sq [bf 4] (sq [mv 5 0,mv 6 1,ca 7 223 [.t 5,.t 6],bk 8 .geq 7 0,mv 4 8] .ret))
def f209:IFn:=⟨true,9,[.tm 4],b209⟩
def b210:IC :=(sq [bx 2 2 0,bf 3] (sq [fa 4 0 2,ld 5 4,ld 6 1,b2 7 .leq 5 6,mv 8 7,gL 9 8 1,gF 10 8 1 2,gL 11 8 10,gB 12 8 .leq 9 11,aP 13 8 12,mv 3 13] .ret))
def f210:IFn:=⟨true,14,[.tm 3],b210⟩
def b211:IC :=(sq [bf 4] (sq [mv 5 0,mv 6 5,gM 7 6 1,aP 8 6 7,mv 4 8] .ret))
def f211:IFn:=⟨true,9,[.tm 4],b211⟩
def b212:IC :=(sq [ns 2,bf 3] (.seq (sq [mv 7 0,ca 8 152 [.t 7],nt 9 8] (cd 9 (sq [ns 2,bf 3] .ret) .skip)) (sq [mv 10 0,ca 11 224 [.t 10],mv 4 11] (sq [mv 12 4,i 13 (.a (.mks [.int .u8 0] 1 (.t 12) (.t 12)) none),mv 5 13] (.seq (sq [mv 14 4,bk 15 .sub 14 1,mv 6 15] (.block 0 (.loop (.seq (sq [mv 16 6,bk 17 .gtr 16 0] (cd 17 .skip (.exit 0))) (.seq (.block 1 (sq [mv 20 5,mv 21 6,mv 22 0,bk 23 .and 22 63,i 24 (.p (.bin .or (.c (.int .i64 128)) (.t 23))),cV 25 .u8 24,ia 26 1 20 21,sT 1 26 25] (.ops [mv 27 0,bJ 28 .shr 27 .u64 6,mv 0 28]))) (.ops [mv 18 6,bk 19 .sub 18 1,mv 6 19])))))) (sq [mv 29 5,ca 30 217 [],mv 31 4,i 32 (.p (.idxA 5 1 false (.t 30) (.t 31))),mv 33 0,b2 34 .or 32 33,cV 35 .u8 34,iX 36 1 29 0,sT 1 36 35] (sq [mv 37 5,mv 2 37,bt 3] .ret)))))))
def f212:IFn:=⟨true,38,[.tm 2,.tm 3],b212⟩
def b214:IC :=(sq [ki 4 0] (sq [mv 5 0,mv 6 1,ca 7 225 [.t 5,.t 6],mv 4 7] .ret))
def f214:IFn:=⟨false,8,[.tm 4],b214⟩
def b215:IC :=(sq [i 2 (.p (.mov (.c .nilf)))] (sq [i 6 (.a (.bslice false [.int .i64 0] 2 [(0,(.c (.int .i64 0))),(1,(.c (.int .i64 1114112)))]) none),i 3 (.a (.alloc [.nils]) none),sT 1 3 6] (.seq (sq [mv 7 0,ln 8 7,ki 9 0] (.block 0 (.loop (sq [b2 10 .lss 9 8] (.seq (cd 10 .skip (.exit 0)) (.seq (.block 1 (sq [ia 11 2 7 9,lg 12 2 11,i 5 (.a (.alloc [.int .i64 0,.int .i64 0]) none),sT 2 5 12] (.ops [ld 13 3,fa 14 0 5,ld 15 14,i 16 (.p (.max (.t 15) [(.c (.int .i64 0))])),i 17 (.p (.min (.t 16) [(.c (.int .i64 1114112))])),fa 18 1 5,ld 19 18,i 20 (.p (.max (.t 19) [(.c (.int .i64 (-1)))])),i 21 (.p (.min (.t 20) [(.c (.int .i64 1114111))])),bk 22 .add 21 1,i 23 (.a (.bslice false [.int .i64 0] 2 [(0,(.t 17)),(1,(.t 22))]) none),aD 24 1 8 13 23,sT 1 3 24]))) (.ops [bk 25 .add 9 1,mv 9 25]))))))) (sq [ld 26 3,i 27 (.call (.dir 226) [.t 26,(.c (.fn 227 [] []))] false)] (sq [ld 28 3,ca 29 106 [.t 28],sT 1 3 29] (sq [i 30 (.p (.mkf 228 [] [.t 3])),mv 2 30] .ret))))))
def f215:IFn:=⟨false,31,[.tm 2],b215⟩
def b216:IC :=(sq [ki 6 0,bf 7] (.seq (sq [mv 11 1,mv 12 0,ln 13 12,b2 14 .gtr 11 13,mv 15 14,eM 16 15 0,gf 17 15 (.p (.iaddr 1 (.t 16) (.c (.int .i64 0)))),eL 18 15 17,gf 19 15 (.p (.ci .i64 (.t 18))),eM 20 15 2,eB 21 15 .lss 19 20,oP 22 15 21] (cd 22 (sq [ki 6 0,bf 7] .ret) .skip)) (sq [mv 23 0,iX 24 1 23 0,ld 25 24,cV 26 .i64 25,mv 27 2,b2 28 .sub 26 27,mv 8 28] (.seq (sq [mv 29 0,mv 30 1,i 31 (.p (.slice 1 (.t 29) (some (.c (.int .i64 1))) (some (.t 30)) none)),ln 32 31,ki 33 0] (.block 0 (.loop (sq [b2 34 .lss 33 32] (.seq (cd 34 .skip (.exit 0)) (.seq (.block 1 (sq [ia 35 1 31 33,ld 36 35,mv 10 36] (.seq (sq [mv 37 10,bJ 38 .andNot 37 .u8 63,bJ 39 .neq 38 .u8 128] (cd 39 (sq [ki 6 0,bf 7] .ret) .skip)) (.ops [mv 40 8,bJ 41 .shl 40 .u64 6,mv 42 10,bJ 43 .and 42 .u8 63,cV 44 .i64 43,b2 45 .or 41 44,mv 8 45])))) (.ops [bk 46 .add 33 1,mv 33 46]))))))) (sq [mv 47 8,mv 48 8,ca 49 152 [.t 48],mv 50 49,gM 51 50 8,gt 52 50 (.call (.dir 224) [.t 51] false),gM 53 50 1,gB 54 50 .eql 52 53,aP 55 50 54,mv 6 47,mv 7 55] .ret)))))
def f216:IFn:=⟨true,56,[.tm 6,.tm 7],b216⟩
def b217:IC :=(sq [i 0 (.a (.alloc [.int .i64 0,.int .i64 0,.int .i64 0,.int .i64 0,.int .i64 0]) none)] (sq [i 1 (.p (.build [.int .i64 0,.int .i64 0,.int .i64 0,.int .i64 0,.int .i64 0] [(0,1,(.c (.int .i64 0))),(1,1,(.c (.int .i64 0))),(2,1,(.c (.int .i64 192))),(3,1,(.c (.int .i64 224))),(4,1,(.c (.int .i64 240)))])),sT 5 0 1] .ret))
def f217:IFn:=⟨true,2,[.cell (some 5) 0],b217⟩
def b218:IC :=(sq [ns 4] (.seq (sq [mv 5 1,bk 6 .lss 5 0] (cd 6 (.ops [i 7 (.p (.mki 1 (.c (.str [99,97,110,110,111,116,32,98,101,32,110,101,103,97,116,105,118,101])))),n (.bad)]) .skip)) (.seq (sq [mv 8 1,mv 9 0,i 10 (.p (.cap (.t 9))),mv 11 0,ln 12 11,b2 13 .sub 10 12,b2 14 .sub 8 13,mv 1 14] (sq [mv 15 1,bk 16 .gtr 15 0] (cd 16 (.ops [mv 17 0,mv 18 0,i 19 (.p (.cap (.t 18))),sH 20 2 17 19,mv 21 1,i 22 (.w (.appendZ [.int .i64 0,.int .i64 0] 16 (.t 20) (.t 21))),mv 23 0,ln 24 23,sH 25 2 22 24,mv 0 25]) .skip))) (sq [mv 26 0,mv 4 26] .ret))))
def f218:IFn:=⟨false,27,[.tm 4],b218⟩
def b219:IC :=(.block 0 (.loop (.block 1 (sq [mv 5 1,bk 6 .sub 5 1,bk 7 .quo 6 2,mv 4 7] (.seq (sq [mv 8 4,mv 9 1,b2 10 .eql 8 9,mv 11 10,eM 12 11 0,eM 13 11 1,eM 14 11 4,gf 15 11 (.call (.inv (.t 12) "Less") [.t 13,.t 14] false),eX 16 11 15,oP 17 11 16] (cd 17 (.exit 0) .skip)) (sq [mv 18 0,mv 19 4,mv 20 1,i 21 (.call (.inv (.t 18) "Swap") [.t 19,.t 20] false)] (.ops [mv 22 4,mv 1 22])))))))
def f219:IFn:=⟨false,23,[],b219⟩
def b220:IC :=(sq [bf 6] (sq [mv 11 1,mv 7 11] (.seq (.block 0 (.loop (.block 1 (sq [mv 12 7,i 13 (.p (.bin .mul (.c (.int .i64 2)) (.t 12))),bk 14 .add 13 1,mv 8 14] (.seq (sq [mv 15 8,mv 16 2,b2 17 .geq 15 16,mv 18 17,eM 19 18 8,eC 20 18 .lss 19 0,oP 21 18 20] (cd 21 (.exit 0) .skip)) (sq [mv 22 8,mv 9 22] (.seq (sq [mv 23 8,bk 24 .add 23 1,mv 10 24] (sq [mv 25 10,mv 26 2,b2 27 .lss 25 26,mv 28 27,gM 29 28 0,gM 30 28 10,gM 31 28 8,gt 32 28 (.call (.inv (.t 29) "Less") [.t 30,.t 31] false),aP 33 28 32] (cd 33 (.ops [mv 34 10,mv 9 34]) .skip))) (.seq (sq [mv 35 0,mv 36 9,mv 37 7,i 38 (.call (.inv (.t 35) "Less") [.t 36,.t 37] false),nt 39 38] (cd 39 (.exit 0) .skip)) (sq [mv 40 0,mv 41 7,mv 42 9,i 43 (.call (.inv (.t 40) "Swap") [.t 41,.t 42] false)] (.ops [mv 44 9,mv 7 44])))))))))) (sq [mv 45 7,mv 46 1,b2 47 .gtr 45 46,mv 6 47] .ret))))
def f220:IFn:=⟨false,48,[.tm 6],b220⟩
def b221:IC :=(sq [bt 3] (.block 0 (.loop (.seq (sq [mv 6 3] (cd 6 .skip (.exit 0))) (.block 1 (sq [bf 3] (sq [ld 7 1,nc 8 7,fa 9 0 8,fa 10 0 9,ld 11 10,ln 12 11,ki 13 0] (.block 2 (.loop (sq [b2 14 .lss 13 12] (.seq (cd 14 .skip (.exit 2)) (.seq (.block 3 (sq [mv 15 13,ia 16 3 11 13,lg 17 3 16,i 5 (.a (.alloc [.nils,.int .i64 0,.nils]) none),mv 4 15,sT 3 5 17] (.seq (sq [ld 18 1,nc 19 18,fa 20 2 19,ld 21 20,mv 22 4,i 23 (.r (.lookup (.one .int) (.bool false) false (.t 21) (.t 22))),mv 24 23,eF 25 24 0 5,eL 26 24 25,eL 27 24 1,gf 28 24 (.p (.mkf 163 [.t 27] [])),gf 29 24 (.call (.dir 59) [.t 26,.t 28] false),eX 30 24 29,oP 31 24 30] (cd 31 (.exit 3) .skip)) (sq [bt 3] (sq [mv 32 0,mv 33 4,i 34 (.call (.val (.t 32)) [.t 33] false),nt 35 34] (cd 35 .ret .skip)))))) (.ops [bk 36 .add 13 1,mv 13 36])))))))))))))
def f221:IFn:=⟨false,37,[],b221⟩
def b223:IC :=(sq [ki 4 0] (.seq (sq [mv 6 0,ln 7 6,ki 8 0] (.block 0 (.loop (sq [b2 9 .lss 8 7] (.seq (cd 9 .skip (.exit 0)) (.seq (.block 1 (sq [mv 10 8,mv 5 10] (sq [mv 11 1,mv 12 0,mv 13 5,ia 14 2 12 13,lg 15 2 14,i 16 (.call (.val (.t 11)) [.t 15] false)] (cd 16 (sq [mv 17 5,mv 4 17] .ret) .skip)))) (.ops [bk 18 .add 8 1,mv 8 18]))))))) (sq [ki 4 (-1)] .ret)))
def f223:IFn:=⟨true,19,[.tm 4],b223⟩
def b224:IC :=(sq [ki 2 0] (.seq (.block 0 (sq [mv 4 0,bk 5 .lss 4 128,mv 3 5] (cd 3 (sq [ki 2 1] .ret) (sq [mv 7 0,bk 8 .lss 7 2048,mv 6 8] (cd 6 (sq [ki 2 2] .ret) (sq [mv 10 0,bk 11 .lss 10 65536,mv 9 11] (cd 9 (sq [ki 2 3] .ret) .skip))))))) (sq [ki 2 4] .ret)))
def f224:IFn:=⟨true,12,[.tm 2],b224⟩
def b227:IC :=(sq [ki 4 0] (sq [mv 7 0,ca 8 208 [.t 7],mv 5 8] (sq [mv 9 1,ca 10 208 [.t 9],mv 6 10] (.seq (sq [mv 11 5] (cd 11 (.seq (sq [mv 12 6] (cd 12 (sq [ki 4 0] .ret) .skip)) (sq [ki 4 (-1)] .ret)) .skip)) (.seq (sq [mv 13 6] (cd 13 (sq [ki 4 1] .ret) .skip)) (.seq (sq [mv 14 0,mv 15 1,b2 16 .lss 14 15] (cd 16 (sq [ki 4 (-1)] .ret) .skip)) (.seq (sq [mv 17 0,mv 18 1,b2 19 .gtr 17 18] (cd 19 (sq [ki 4 1] .ret) .skip)) (sq [ki 4 0] .ret))))))))
def f227:IFn:=⟨true,20,[.tm 4],b227⟩
def b228:IC :=(sq [ki 3 1] (.block 0 (.loop (.seq (sq [mv 4 3,ld 5 1,ln 6 5,b2 7 .lss 4 6] (cd 7 .skip (.exit 0))) (.seq (.block 1 (.seq (.dops 0 [] [mv 10 0,ld 11 1,mv 12 3,bk 13 .sub 12 1,ia 14 1 11 13,ld 15 14,ld 16 1,mv 17 3,ia 18 1 16 17,ld 19 18,bk 20 .sub 19 1,i 21 (.call (.val (.t 10)) [.t 15,.t 20] false),nt 22 21]) (cd 22 .ret .skip))) (.ops [mv 8 3,bk 9 .add 8 1,mv 3 9]))))))
def f228:IFn:=⟨false,23,[],b228⟩
def b258:IC :=(sq [bf 6] (.seq (.dops 0 [] [mv 7 0,nc 8 7,ld 9 8,mv 10 1,ia 11 1 9 10,ld 12 11,mv 13 0,nc 14 13,ld 15 14,mv 16 2,ia 17 1 15 16,ld 18 17,b2 19 .lss 12 18,mv 6 19]) .ret))
def f258:IFn:=⟨false,20,[.tm 6],b258⟩
def b259:IC :=(sq [i 2 (.p (.mov (.c .nili)))] (sq [mv 5 0,nc 6 5,ld 7 6,ln 8 7,bk 9 .sub 8 1,mv 3 9] (sq [mv 10 0,nc 11 10,ld 12 11,mv 13 3,ia 14 1 12 13,ld 15 14,mv 4 15] (sq [mv 16 0,mv 17 0,nc 18 17,ld 19 18,mv 20 3,sH 21 1 19 20,nc 22 16,sT 1 22 21] (sq [mv 23 4,i 24 (.p (.mki 3 (.t 23))),mv 2 24] .ret)))))
def f259:IFn:=⟨false,25,[.tm 2],b259⟩
def b260:IC :=(sq [mv 7 1,i 8 (.p (.asrt 3 true (.int .i64 0) (.t 7))),mv 6 8,ex 9 0 6,ex 10 1 6,mv 4 9,mv 5 10] (sq [mv 11 5] (cd 11 (.ops [mv 12 0,mv 13 0,nc 14 13,ld 15 14,mv 16 4,i 17 (.a (.bslice true [.int .i64 0] 1 [(0,(.t 16))]) none),aD 18 1 8 15 17,nc 19 12,sT 1 19 18]) .skip)))
def f260:IFn:=⟨false,20,[],b260⟩
def b261:IC :=(.dops 0 [] [mv 6 0,nc 7 6,ld 8 7,mv 9 1,mv 10 0,nc 11 10,ld 12 11,mv 13 2,mv 14 0,nc 15 14,ld 16 15,mv 17 2,ia 18 1 16 17,ld 19 18,mv 20 0,nc 21 20,ld 22 21,mv 23 1,ia 24 1 22 23,ld 25 24,ia 26 1 8 9,sT 1 26 19,ia 27 1 12 13,sT 1 27 25])
def f261:IFn:=⟨false,28,[],b261⟩
end Go.Abs.Pr

namespace Go.Abs.Pr
open Go Go.Abs
def fns (i:Nat):Option IFn:=br i 107 (br i 55 (br i 29 (br i 16 (br i 10 (br i 7 (br i 5 (bq i 4 f4) (br i 6 (bq i 5 f5) (bq i 6 f6))) (br i 8 (bq i 7 f7) (br i 9 (bq i 8 f8) (bq i 9 f9)))) (br i 13 (br i 11 (bq i 10 f10) (br i 12 (bq i 11 f11) (bq i 12 f12))) (br i 14 (bq i 13 f13) (br i 15 (bq i 14 f14) (bq i 15 f15))))) (br i 22 (br i 19 (br i 17 (bq i 16 f16) (br i 18 (bq i 17 f17) (bq i 18 f18))) (br i 20 (bq i 19 f19) (br i 21 (bq i 20 f20) (bq i 21 f21)))) (br i 25 (br i 23 (bq i 22 f22) (br i 24 (bq i 23 f23) (bq i 24 f24))) (br i 27 (br i 26 (bq i 25 f25) (bq i 26 f26)) (br i 28 (bq i 27 f27) (bq i 28 f28)))))) (br i 42 (br i 35 (br i 32 (br i 30 (bq i 29 f29) (br i 31 (bq i 30 f30) (bq i 31 f31))) (br i 33 (bq i 32 f32) (br i 34 (bq i 33 f33) (bq i 34 f34)))) (br i 38 (br i 36 (bq i 35 f35) (br i 37 (bq i 36 f36) (bq i 37 f37))) (br i 40 (br i 39 (bq i 38 f38) (bq i 39 f39)) (br i 41 (bq i 40 f40) (bq i 41 f41))))) (br i 48 (br i 45 (br i 43 (bq i 42 f42) (br i 44 (bq i 43 f43) (bq i 44 f44))) (br i 46 (bq i 45 f45) (br i 47 (bq i 46 f46) (bq i 47 f47)))) (br i 51 (br i 49 (bq i 48 f48) (br i 50 (bq i 49 f49) (bq i 50 f50))) (br i 53 (br i 52 (bq i 51 f51) (bq i 52 f52)) (br i 54 (bq i 53 f53) (bq i 54 f54))))))) (br i 80 (br i 67 (br i 61 (br i 58 (br i 56 (bq i 55 f55) (br i 57 (bq i 56 f56) (bq i 57 f57))) (br i 59 (bq i 58 f58) (br i 60 (bq i 59 f59) (bq i 60 f60)))) (br i 64 (br i 62 (bq i 61 f61) (br i 63 (bq i 62 f62) (bq i 63 f63))) (br i 65 (bq i 64 f64) (br i 66 (bq i 65 f65) (bq i 66 f66))))) (br i 73 (br i 70 (br i 68 (bq i 67 f67) (br i 69 (bq i 68 f68) (bq i 69 f69))) (br i 71 (bq i 70 f70) (br i 72 (bq i 71 f71) (bq i 72 f72)))) (br i 76 (br i 74 (bq i 73 f73) (br i 75 (bq i 74 f74) (bq i 75 f75))) (br i 78 (br i 77 (bq i 76 f76) (bq i 77 f77)) (br i 79 (bq i 78 f78) (bq i 79 f79)))))) (br i 93 (br i 86 (br i 83 (br i 81 (bq i 80 f80) (br i 82 (bq i 81 f81) (bq i 82 f82))) (br i 84 (bq i 83 f83) (br i 85 (bq i 84 f84) (bq i 85 f85)))) (br i 89 (br i 87 (bq i 86 f86) (br i 88 (bq i 87 f87) (bq i 88 f88))) (br i 91 (br i 90 (bq i 89 f89) (bq i 90 f90)) (br i 92 (bq i 91 f91) (bq i 92 f92))))) (br i 99 (br i 96 (br i 94 (bq i 93 f93) (br i 95 (bq i 94 f94) (bq i 95 f95))) (br i 97 (bq i 96 f96) (br i 98 (bq i 97 f97) (bq i 98 f98)))) (br i 102 (br i 100 (bq i 99 f99) (br i 101 (bq i 100 f100) (bq i 101 f101))) (br i 104 (br i 103 (bq i 102 f102) (bq i 103 f103)) (br i 106 (bq i 104 f104) (bq i 106 f106)))))))) (br i 160 (br i 132 (br i 119 (br i 113 (br i 110 (br i 108 (bq i 107 f107) (br i 109 (bq i 108 f108) (bq i 109 f109))) (br i 111 (bq i 110 f110) (br i 112 (bq i 111 f111) (bq i 112 f112)))) (br i 116 (br i 114 (bq i 113 f113) (br i 115 (bq i 114 f114) (bq i 115 f115))) (br i 117 (bq i 116 f116) (br i 118 (bq i 117 f117) (bq i 118 f118))))) (br i 125 (br i 122 (br i 120 (bq i 119 f119) (br i 121 (bq i 120 f120) (bq i 121 f121))) (br i 123 (bq i 122 f122) (br i 124 (bq i 123 f123) (bq i 124 f124)))) (br i 128 (br i 126 (bq i 125 f125) (br i 127 (bq i 126 f126) (bq i 127 f127))) (br i 130 (br i 129 (bq i 128 f128) (bq i 129 f129)) (br i 131 (bq i 130 f130) (bq i 131 f131)))))) (br i 147 (br i 138 (br i 135 (br i 133 (bq i 132 f132) (br i 134 (bq i 133 f133) (bq i 134 f134))) (br i 136 (bq i 135 f135) (br i 137 (bq i 136 f136) (bq i 137 f137)))) (br i 141 (br i 139 (bq i 138 f138) (br i 140 (bq i 139 f139) (bq i 140 f140))) (br i 145 (br i 144 (bq i 141 f141) (bq i 144 f144)) (br i 146 (bq i 145 f145) (bq i 146 f146))))) (br i 153 (br i 150 (br i 148 (bq i 147 f147) (br i 149 (bq i 148 f148) (bq i 149 f149))) (br i 151 (bq i 150 f150) (br i 152 (bq i 151 f151) (bq i 152 f152)))) (br i 156 (br i 154 (bq i 153 f153) (br i 155 (bq i 154 f154) (bq i 155 f155))) (br i 158 (br i 157 (bq i 156 f156) (bq i 157 f157)) (br i 159 (bq i 158 f158) (bq i 159 f159))))))) (br i 199 (br i 183 (br i 166 (br i 163 (br i 161 (bq i 160 f160) (br i 162 (bq i 161 f161) (bq i 162 f162))) (br i 164 (bq i 163 f163) (br i 165 (bq i 164 f164) (bq i 165 f165)))) (br i 180 (br i 178 (bq i 166 f166) (br i 179 (bq i 178 f178) (bq i 179 f179))) (br i 181 (bq i 180 f180) (br i 182 (bq i 181 f181) (bq i 182 f182))))) (br i 189 (br i 186 (br i 184 (bq i 183 f183) (br i 185 (bq i 184 f184) (bq i 185 f185))) (br i 187 (bq i 186 f186) (br i 188 (bq i 187 f187) (bq i 188 f188)))) (br i 192 (br i 190 (bq i 189 f189) (br i 191 (bq i 190 f190) (bq i 191 f191))) (br i 197 (br i 193 (bq i 192 f192) (bq i 193 f193)) (br i 198 (bq i 197 f197) (bq i 198 f198)))))) (br i 217 (br i 210 (br i 202 (br i 200 (bq i 199 f199) (br i 201 (bq i 200 f200) (bq i 201 f201))) (br i 208 (bq i 202 f202) (br i 209 (bq i 208 f208) (bq i 209 f209)))) (br i 213 (br i 211 (bq i 210 f210) (br i 212 (bq i 211 f211) (bq i 212 f212))) (br i 215 (br i 214 (bq i 213 f213) (bq i 214 f214)) (br i 216 (bq i 215 f215) (bq i 216 f216))))) (br i 224 (br i 220 (br i 218 (bq i 217 f217) (br i 219 (bq i 218 f218) (bq i 219 f219))) (br i 221 (bq i 220 f220) (br i 223 (bq i 221 f221) (bq i 223 f223)))) (br i 258 (br i 227 (bq i 224 f224) (br i 228 (bq i 227 f227) (bq i 228 f228))) (br i 260 (br i 259 (bq i 258 f258) (bq i 259 f259)) (br i 261 (bq i 260 f260) (bq i 261 f261))))))))
def top:Nat:=262
def meths (t:Nat) (m:String):Option Nat:=cond (Nat.beq t 2&&m == "Len") (some 160) (cond (Nat.beq t 2&&m == "Less") (some 258) (cond (Nat.beq t 2&&m == "Pop") (some 259) (cond (Nat.beq t 2&&m == "Push") (some 260) (cond (Nat.beq t 2&&m == "Swap") (some 261) (none)))))
end Go.Abs.Pr

namespace Go.Abs
open Go
abbrev En:=Int × Int
def leE (a b:En):Bool:=ltB a.1 b.1||(eqB a.1 b.1&&leB a.2 b.2)
def insE (x:En):List En->List En
  | []=>[x]
  | y::l=>cond (leE x y) (x::y::l) (y::insE x l)
def qbd:List En->List En
  | []=>[]
  | x::l=>insE x (qbd l)
def ddE:En->List En->List En
  | x,[]=>[x]
  | x,y::l=>if y.1=x.1 then ddE x l else x::ddE y l
def qjW:List En->List En
  | []=>[]
  | x::l=>ddE x l
def qbG (l:List En):List En:=qjW (qbd l)
def qkJ (c:Nat):List UInt8->Nat->Int
 | [],_=>-1
 | x::l,i=>cond (Nat.beq x.toNat c) (.ofNat i) (qkJ c l (i+1))
def qc4:Nat->List V->Heap->ND VH:=λ_ as h =>
 match as with
 | [.str s,.int .u8 (.ofNat c)]=>cond (Nat.blt c 256) (some [⟨.int .i64 (qkJ c s 0),h⟩]) none
 | _=>none
def insI (x:Int):List Int->List Int
 | []=>[x]
 | y::l=>cond (leB x y) (x::y::l) (y::insI x l)
def qa8:List Int->List Int
 | []=>[]
 | x::l=>insI x (qa8 l)
def qg2:List (List V)->Option (List Int)
 | []=>some []
 | r::rs=>match r with
  | [.int .i64 n]=>(match qg2 rs with
   | some l=>some (n::l)
   | none=>none)
  | _=>none
def qab (l:List Int):List (List V):=l.map λn=>[.int .i64 n]
def qed:Nat->List V->Heap->ND VH:=λmk as h =>
 match as with
 | [.nils]=>some [⟨.tup [],h⟩]
 | [.sl id lo len e _]=>(match h.get id with
  | some (.rows rs)=>cond (Nat.beq e 1&&Nat.beq lo 0&&Nat.beq len rs.length&&Nat.ble mk id&&Nat.blt len 4294967296) (match qg2 rs with
   | some l=>some [⟨.tup [],h.set id (.rows (qab (qa8 l)))⟩]
   | none=>none) none
  | _=>none)
 | _=>none
def qby:Nat->List V->Heap->ND VH:=λmk as h =>
 match as with
 | [s,.fn 227 [] []]=>qed mk [s] h
 | _=>none
def qkK:List (List V)->Option (List En)
 | []=>some []
 | r::rs=>match r with
  | [.int .i64 a,.int .i64 b]=>(match qkK rs with
   | some l=>some ((a,b)::l)
   | none=>none)
  | _=>none
def qag (l:List En):List (List V):=l.map λe=>[.int .i64 e.1,.int .i64 e.2]
def qeP:Nat->V->Heap->ND VH:=λmk s h =>
 match s with
 | .nils=>some [⟨.tup [],h⟩]
 | .sl id lo len e _=>(match h.get id with
  | some (.rows rs)=>cond (Nat.beq e 2&&Nat.beq lo 0&&Nat.beq len rs.length&&Nat.ble mk id&&Nat.blt len 4294967296) (match qkK rs with
   | some l=>some [⟨.tup [],h.set id (.rows (qag (qbd l)))⟩]
   | none=>none) none
  | _=>none)
 | _=>none
def qbz (c:Nat):Nat->List V->Heap->ND VH:=λmk as h =>
 match as with
 | [s,.fn c' [] []]=>cond (Nat.beq c' c) (qeP mk s h) none
 | _=>none
def prims (i:Nat):Option (Nat->List V->Heap->ND VH) :=
 cond (Nat.beq i 225) (some qc4) (cond (Nat.beq i 105) (some qed) (cond (Nat.beq i 226) (some qby) none))
def PR:Prog:=⟨λi=>cond (Nat.blt i Pr.top) (Pr.fns i) none,prims,Pr.meths⟩
set_option maxRecDepth 10000
theorem few_ok (g:Gr) (hg:g.p.l.length<1000000000/\∀p∈g.p.l,p.a.l.length<1000000000/\∀a∈p.a.l,a.l.length<1000000000) (d:Bool) (mk:Nat) (h:Heap):WF PR d mk (.fn 12 [] []) [.agg g.cells] h (λr=>r.h=h/\∃b,r.v=.bool b):=by
 obtain⟨g1,g2⟩:=hg;refine qBE (F:=Pr.f12) (Q:=λv=>∃b,v=.bool b) rfl rfl rfl (Nat.le_of_ble_eq_true rfl) ?_;refine qef Pr.b12 [.tm 2] rfl rfl ?_;unfold Pr.b12;simp -dsimp [Gr.cells];rw [Gd_f];refine⟨λhb=>?_,λhb=>?_⟩
 ·simp -dsimp [hb];rw [qaa];refine⟨λhc=>?_,λhc=>?_⟩
  ·simp -dsimp [hc]
  ·simp -dsimp [hc];refine qaf (λk st=>∃(i:Int),0<=i/\(k:Int)=g.p.l.length-i/\(gK 4).run st.tm=.int .i64 i/\IsI ((gK 3).run st.tm)/\st.h=h.push (Obj.rows [[Sl.enc Pd.cells g.p,Sl.enc qac g.keys]])/\st.defs=[]/\st.round=false) g.p.l.length ⟨0,by simp⟩ ?_;rintro k ⟨tm,h',defs,round⟩ ⟨i,hi,hk,h4,⟨n,h3⟩,rfl,rfl,rfl⟩ hK;have h1:=hK 1 rfl;simp at h1 h4 h3;clear hK;simp -dsimp [h1,h4];rw [qaa];refine⟨λhc=>?_,λhc=>?_⟩
   ·simp at hc;simp -dsimp [hc];have hp:=g2 _ (qai (l:=g.p.l) (i:=i.toNat) (by omega));obtain⟨P,hP⟩:∃P,lat g.p.l i.toNat=P:=⟨_,rfl⟩;rw [hP] at hp;refine qaf (λk st=>∃(i:Int),0<=i/\(k:Int)=P.a.l.length-i/\(gK 5).run st.tm=.int .i64 i/\IsI ((gK 3).run st.tm)/\st.h=h.push (Obj.rows [[Sl.enc Pd.cells g.p,Sl.enc qac g.keys]])/\st.defs=[]/\st.round=false) P.a.l.length ⟨0,by simp [h3]⟩ ?_;rintro k2 ⟨tm2,h',defs,round⟩ ⟨i2,hi2,hk2,h5,⟨n2,h3'⟩,rfl,rfl,rfl⟩ hK;have h1':=hK 1 rfl;have h4':=hK 4 rfl;simp [h1,h4] at h1' h4' h5 h3';clear hK;simp -dsimp [h1',h4',h5,hi,hc,hP,Pd.cells];rw [qaa];refine⟨λhc2=>?_,λhc2=>?_⟩
    ·simp at hc2;simp -dsimp [hc2];have hA:=hp.2 _ (qai (l:=P.a.l) (i:=i2.toNat) (by omega));obtain⟨A,hAe⟩:∃A,lat P.a.l i2.toNat=A:=⟨_,rfl⟩;rw [hAe] at hA;simp -dsimp [h1',h4',h5,h3',hi,hc,hP,hi2,hc2,hAe,Pd.cells,qaK];refine qaf (λk st=>∃(i:Int),0<=i/\(k:Int)=A.l.length-i/\(gK 6).run st.tm=.int .i64 i/\IsI ((gK 3).run st.tm)/\st.h=h.push (Obj.rows [[Sl.enc Pd.cells g.p,Sl.enc qac g.keys]])/\st.defs=[]/\st.round=false) A.l.length ⟨0,by simp⟩ ?_;rintro k3 ⟨tm3,h',defs,round⟩ ⟨i3,hi3,hk3,h6,⟨n3,h3''⟩,rfl,rfl,rfl⟩ hK;have h1'':=hK 1 rfl;have h4'':=hK 4 rfl;have h5'':=hK 5 rfl;simp [h1',h4',h5] at h1'' h4'' h5'' h6 h3'';clear hK;simp -dsimp [h1'',h4'',h5'',h6,h3'',hi,hc,hP,hi2,hc2,hAe,Pd.cells,qaK];rw [Gd_t];refine⟨λhc3=>?_,λhc3=>?_⟩
     ·simp -dsimp [hc3,h3''];rw [qaa];simp at hc3;refine⟨λhc4=>?_,λhc4=>?_⟩
      ·simp -dsimp [hc3,hc4,h1'',h4'',h5'',h6,h3'',hi,hc,hP,hi2,hc2,hAe,hi3,Pd.cells,qaK,Sy.cells];exact qah.intro (k3-1) (by omega) ⟨i3+1,by omega,by omega,by simp [fw64 (n:=i3+1) (by omega) (by omega)]⟩
      ·simp -dsimp [hc4,h5''];exact qah.intro (k2-1) (by omega) ⟨i2+1,by omega,by omega,by simp [h3'',fw64 (n:=i2+1) (by omega) (by omega)]⟩
     ·simp -dsimp [hc3,h5''];exact qah.intro (k2-1) (by omega) ⟨i2+1,by omega,by omega,by simp [h3'',fw64 (n:=i2+1) (by omega) (by omega)]⟩
    ·simp -dsimp [hc2,h1',h4',h3',hi,hc,hP,Pd.cells];rw [qaa];refine⟨λhc4=>?_,λhc4=>?_⟩
     ·simp -dsimp [hc4]
     ·simp -dsimp [hc4,h4'];exact qah.intro (k-1) (by omega) ⟨i+1,by omega,by omega,by simp [fw64 (n:=i+1) (by omega) (by omega)]⟩
   ·simp -dsimp [hc]
 ·simp -dsimp [hb]
open Go Pr
def qkE (esz:Nat) (ld:Option Nat):IC :=
  (.seq (.ops [i 4 (.p (.mov (.c (.int .i64 0))))])
  (.seq (.seq (.ops [i 6 (.p (.mov (.t 0))),i 7 (.r (.len .sl (.t 6))),i 8 (.p (.mov (.c (.int .i64 0))))])
    (.block 0
     (.loop
      (.seq (.ops [i 9 (.p (.bin .lss (.t 8) (.t 7)))])
       (.seq (.cond (.t 9)
         .skip
         (.exit 0))
        (.seq (.block 1
          (.seq (.ops [i 10 (.p (.mov (.t 8))),i 5 (.p (.mov (.t 10)))])
           (.seq (.ops [i 11 (.p (.mov (.t 1))),i 12 (.p (.mov (.t 0))),i 13 (.p (.mov (.t 5))),i 14 (.p (.iaddr esz (.t 12) (.t 13))),i 15 (.r (.load ld (.t 14))),i 16 (.call (.val (.t 11)) [(.t 15)] false)])
            (.cond (.t 16)
             (.seq (.ops [i 17 (.p (.mov (.t 5))),i 4 (.p (.mov (.t 17)))])
              .ret)
             .skip))))
         (.ops [i 18 (.p (.bin .add (.t 8) (.c (.int .i64 1)))),i 8 (.p (.mov (.t 18)))])))))))
   (.seq (.ops [i 4 (.p (.mov (.c (.int .i64 (-1)))))])
    .ret)))
def idxF (esz:Nat) (ld:Option Nat):IFn:=⟨true,19,[.tm 4],qkE esz ld⟩
def qkQ (f:Nat):IC :=
  (.seq (.ops [i 4 (.p (.mov (.c (.bool false))))])
  (.seq (.ops [i 5 (.p (.mov (.t 0))),i 6 (.p (.mov (.t 1))),i 7 (.call (.dir f) [(.t 5),(.t 6)] false),i 8 (.p (.bin .geq (.t 7) (.c (.int .i64 0)))),i 4 (.p (.mov (.t 8)))])
   .ret))
def conF (f:Nat):IFn:=⟨true,9,[.tm 4],qkQ f⟩
def idxP {α : Type}(p : α->Bool):List α->Int->Int
  | [],_=>-1
  | a::l,i=>if p a then i else idxP p l (i+1)
theorem qiE {α : Type}(p : α->Bool):∀(l:List α) (i:Int),0<=i->decide (0<=idxP p l i)=l.any p
  | [],i,_=>by simp [idxP]
  | a::l,i,h=>by
    simp only [idxP,List.any_cons]
    by_cases hp:p a=true
    · simp [hp,h]
    · simpa [hp] using qiE p l (i+1) (by omega)
theorem qbu {α : Type} [Inhabited α] {l:List α}{i:Nat}(h:i<l.length):l.drop i=lat l i::l.drop (i+1):=by
  rw [qBu h]; exact List.drop_eq_getElem_cons h
section
variable {α : Type} [Inhabited α] {f g esz mk:Nat}{ld:Option Nat}{d:Bool}{enc : α->List V}{arg : α->V}{p : α->Bool}{s:Sl α}{fv:V}{h:Heap}
theorem idx_ok (hF : PR.fn f = some (idxF esz ld)) (hp : PR.prim f = none) (he : ∀ a, (enc a).length = esz) (hld : ∀ a, qca (enc a) 0 ld = some (arg a)) (hs : s.l.length < 1000000000)
    (hc:∀a∈s.l,WF PR false h.n fv [arg a] h λr=>r=⟨.bool (p a),h⟩):WF PR d mk (.fn f [] []) [s.enc enc,fv] h λr=>r=⟨.int .i64 (idxP p s.l 0),h⟩:=by
  refine qBS hp hF rfl (Nat.le_of_ble_eq_true rfl) ?_;refine qef (qkE esz ld) [.tm 4] rfl rfl ?_;unfold qkE;simp -dsimp;refine qaf (λk st=>∃(i:Int),0<=i/\(k:Int)=s.l.length-i/\idxP p (s.l.drop i.toNat) i=idxP p s.l 0/\(gK 8).run st.tm=.int .i64 i/\st.h=h/\st.defs=[]) s.l.length ⟨0,by simp⟩ ?_;rintro k ⟨tm,h',defs,round⟩ ⟨i,hi,hk,hx,h8,rfl,rfl⟩ hK;have h0:=hK 0 rfl;have h1:=hK 1 rfl;have h7:=hK 7 rfl;simp at h0 h1 h7 h8;clear hK;simp -dsimp [h7,h8];rw [qaa];refine⟨λhl=>?_,λhl=>?_⟩
  · simp at hl
    have ha:=qap (f:=enc) (s:=s) (k:=.i64) hi hl he;simp -dsimp [h0,h1,h7,h8,hl,ha,hld];refine WFS.by (hc _ (qai (by omega))) ?_
    intro v h'' e;cases e;simp -dsimp;rw [qbu (by omega)] at hx;simp only [idxP] at hx;rw [qaa];refine⟨λhb=>?_,λhb=>?_⟩
    · simp [hb] at hx
      simp -dsimp [h8,hx]
    · simp [hb] at hx
      simp -dsimp [h8];refine qah.intro (k-1) (by omega) ⟨i+1,by omega,by omega,?_,by simp [fw64 (n:=i+1) (by omega) (by omega)]⟩;rw [show (i+1).toNat=i.toNat+1 by omega]; exact hx
  · simp at hl
    rw [List.drop_eq_nil_of_le (by omega)] at hx;simp [idxP] at hx;have hl':decide (i<(s.l.length:Int))=false:=by simpa using hl
    simp -dsimp [hl',<-hx]
theorem qf5 (hF : PR.fn g = some (conF f)) (hp : PR.prim g = none) (hF' : PR.fn f = some (idxF esz ld)) (hp' : PR.prim f = none) (he : ∀ a, (enc a).length = esz) (hld : ∀ a, qca (enc a) 0 ld = some (arg a)) (hs : s.l.length < 1000000000)
    (hc:∀a∈s.l,WF PR false h.n fv [arg a] h λr=>r=⟨.bool (p a),h⟩):WF PR d mk (.fn g [] []) [s.enc enc,fv] h λr=>r=⟨.bool (s.l.any p),h⟩:=by
  refine qBS hp hF rfl (Nat.le_of_ble_eq_true rfl) ?_;refine qef (qkQ f) [.tm 4] rfl rfl ?_;unfold qkQ;simp -dsimp;refine WFS.by (idx_ok (s:=s) hF' hp' he hld hs hc) ?_
  intro v h' e;cases e;simp -dsimp [qiE]
end
def Lo (mk:Nat) (h h':Heap):Prop:=h.n<=h'.n/\∀i,i<mk->h'.get i=h.get i
theorem Lo.refl {mk:Nat}{h:Heap}:Lo mk h h:=⟨Jac _,λ_ _=>rfl⟩
theorem Lo.trans {mk:Nat}{h h' h'':Heap}(a:Lo mk h h') (b:Lo mk h' h''):Lo mk h h'':=⟨Jaf a.1 b.1,λi hi=>(b.2 i hi).trans (a.2 i hi)⟩
theorem Lo.set {mk:Nat}{h:Heap}{i:Nat}{o:Obj}(hi:mk<=i):Lo mk h (h.set i o):=⟨Jac _,λj hj=>by rw [qBp,Jaa (by omega)]⟩
theorem Lo.kill {mk:Nat}{h:Heap}{i:Nat}(hi:mk<=i):Lo mk h (h.kill i):=⟨Jac _,λj hj=>by rw [qBr,Jaa (by omega)]⟩
theorem Lo.push {mk:Nat}{h:Heap}{o:Obj}(hi:mk<=h.n):Lo mk h (h.push o):=⟨by simp,λj hj=>by rw [qBq,Jaa (by omega)]⟩
theorem qbb {α : Type}{c:Bool}{x:Option α}{y : α}(h:cond c x none=some y):c=true/\x=some y:=by
 cases c with
 | true=>exact⟨rfl,h⟩
 | false=>cases h
theorem qdX {a b:Bool}(h:(a&&b)=true):a=true/\b=true:=by simpa using h
theorem qfN {a b:Nat}(h:Nat.ble a b=true):a<=b:=Nat.le_of_ble_eq_true h
theorem qic {mk:Nat}{h:Heap}{esz bytes:Nat}{s:V}{xs:List (List V)}{r:VH}(hr:qaj mk h esz bytes s xs=some r) (hm:mk<=h.n):Lo mk h r.h:=by
 unfold qaj at hr;cases xs with
 | nil =>
  simp only at hr;split at hr<;>first|(cases hr; exact Lo.refl)|cases hr
 | cons x xs =>
  simp only at hr;cases hrow:qal h s with
  | none=>rw [hrow] at hr; cases hr
  | some rs =>
   rw [hrow] at hr;obtain⟨_,hr⟩:=qbb hr;cases s with
   | nils=>cases hr; exact Lo.push hm
   | slR a f=>obtain⟨_,hr⟩:=qbb hr; cases hr; exact Lo.push hm
   | sl i a b e f =>
    obtain⟨_,hr⟩:=qbb hr;cases f with
    | true=>cases hr; exact Lo.push hm
    | false =>
     obtain⟨h2,hr⟩:=qbb hr;cases hr;exact (Lo.kill (qfN h2)).trans (Lo.push hm)
   | _=>cases hr
theorem W_low {mk:Nat}{o:WO}{tm:Tm}{h:Heap}{r:VH}(hr:(qay o).run mk tm h=some r) (hm:mk<=h.n):Lo mk h r.h:=by
 cases o with
 | store n a x =>
  simp only [qay] at hr;split at hr
  ·split at hr
   ·split at hr
    ·obtain⟨h1,hr⟩:=qbb hr;simp only [Jad] at h1;cases hr; exact Lo.set (qfN h1.1.1.1.1)
    ·cases hr
   ·cases hr
  ·cases hr
 | mupd kn m k v =>
  simp only [qay] at hr;split at hr
  ·split at hr
   ·obtain⟨h1,hr⟩:=qbb hr;have:=qfN (qdX h1).1;split at hr<;>first|(cases hr; exact Lo.set this)|cases hr
   ·cases hr
  ·cases hr
 | del kn m k =>
  simp only [qay] at hr;split at hr
  ·split at hr
   ·obtain⟨h1,hr⟩:=qbb hr;have:=qfN (qdX h1).1;split at hr<;>first|(cases hr; exact Lo.set this)|(cases hr; exact Lo.refl)|cases hr
   ·cases hr
  ·cases hr
 | rngM x =>
  simp only [qay] at hr;split at hr
  ·split at hr
   ·cases hr; exact Lo.push hm
   ·cases hr
  ·cases hr
 | nxtS it =>
  simp only [qay] at hr;split at hr
  ·split at hr
   ·obtain⟨h1,hr⟩:=qbb hr;rename_i s pos hget hr0;cases hb:Nat.blt pos s.length with
    | true =>
     rw [hb] at hr;simp only [cond] at hr;split at hr
     ·cases hr; exact Lo.set (qfN h1)
     ·cases hr
    | false=>rw [hb] at hr; cases hr; exact Lo.refl
   ·cases hr
  ·cases hr
 | append esz bytes s x =>
  simp only [qay] at hr;split at hr
  ·exact qic hr hm
  ·cases hr
 | appendS s x =>
  simp only [qay] at hr;split at hr
  ·exact qic hr hm
  ·cases hr
 | appendZ zero bytes s n =>
  simp only [qay] at hr;split at hr
  ·split at hr
   ·obtain⟨_,hr⟩:=qbb hr;split at hr
    ·cases hr; exact Lo.push hm
    ·cases hr
   ·cases hr
  ·cases hr
 | clear zero x =>
  simp only [qay] at hr;split at hr
  ·cases hr; exact Lo.refl
  ·obtain⟨_,hr⟩:=qbb hr; cases hr; exact Lo.refl
  ·rename_i i lo len e f _;cases hb:Nat.beq len 0 with
   | true=>rw [hb] at hr; cases hr; exact Lo.refl
   | false =>
    rw [hb] at hr;simp only [cond] at hr;split at hr
    ·obtain⟨h1,hr⟩:=qbb hr;cases hr; exact Lo.set (qfN (qdX (qdX h1).1).1)
    ·cases hr
  ·cases hr
 | same x =>
  simp only [qay] at hr;split at hr
  ·obtain⟨_,hr⟩:=qbb hr; cases hr; exact Lo.refl
  ·cases hr
def LowF (mk:Nat) (callF:V->List V->Heap->ND VH):Prop:=∀fv args h l,callF fv args h=some l->mk<=h.n->∀r∈l,Lo mk h r.h
section
variable {mk:Nat}{e:Env}
theorem qso (he:LowF mk e.callF) {c:Cal}{args:List V}{tm:Tm}{h:Heap}{l:List VH}(hr:(calK c).run e args tm h=some l) (hm:mk<=h.n):∀r∈l,Lo mk h r.h:=by
 cases c with
 | dir f=>exact he _ _ _ _ hr hm
 | val x=>exact he _ _ _ _ hr hm
 | inv x m =>
  simp only [calK] at hr;split at hr
  ·split at hr
   ·exact he _ _ _ _ hr hm
   ·cases hr
  ·cases hr
theorem qr6 {r r':VH}(h:frzV mk r=some r'):Lo mk r.h r'.h:=by
 unfold frzV at h;split at h
 ·obtain⟨h1,h⟩:=qbb h;split at h
  ·split at h
   ·cases h; exact Lo.kill (qfN h1)
   ·cases h
  ·cases h
 ·cases h; exact Lo.refl
 ·cases h; exact Lo.refl
 ·cases h
theorem qtA {c:Nat}{p:V}{h h':Heap}(e:qs7 mk c p h=some h'):Lo mk h h':=by
 unfold qs7 at e;split at e
 ·split at e
  ·split at e
   ·split at e
    ·split at e
     ·rename_i q hq;obtain⟨h1,e⟩:=qbb e;split at e
      ·split at e
       ·cases e;simp only [Jad,Jat] at h1;exact (qr6 hq).trans (Lo.set h1.1)
       ·cases e
      ·cases e
     ·cases e
    ·cases e
   ·cases e
  ·cases e
 ·cases e
theorem X_low {o:XO}{tm:Tm}{h:Heap}{r:VH}(e:xV o mk tm h=some r) (hm:mk<=h.n):Lo mk h r.h:=by
 cases o with
 | wf o =>
  simp only [xV] at e;split at e
  ·rename_i q hq;exact (W_low hq hm).trans (qr6 e)
  ·cases e
 | ldF n a c =>
  simp only [xV] at e;split at e
  ·rename_i h' hq;split at e
   ·cases e; exact qtA hq
   ·cases e
  ·cases e
theorem qpP {it:V}{h:Heap}{l:List VH}(hr:qfB mk it h=some l):∀r∈l,Lo mk h r.h:=by
 unfold qfB at hr;split at hr
 ·split at hr
  ·split at hr
   ·obtain⟨h1,hr⟩:=qbb hr;have hi:=qfN (qdX (qdX (qdX h1).1).1).1;split at hr
    ·cases hr; simp [Lo.refl]
    ·cases hr;intro r hr;obtain⟨x,_,rfl⟩:=Jak.1 hr;exact Lo.set hi
   ·cases hr
  ·cases hr
 ·cases hr
theorem qbC {s:St}(t:St) {l:List St}{h:Heap}(hr:some [s]=some l) (hp:Lo mk h s.h):∀r∈l,Lo mk h r.h:=by
 cases hr; simpa using hp
theorem qfu {dst:Option Nat}{v:V}{h:Heap}{st:St}:((putK dst).run v h st).h=h:=by cases dst<;>rfl
theorem qqN (he:LowF mk e.callF) (hl:e.lim=mk) {dst:Option Nat}{op:IOp}{base:Nat}{st:St}{l:List St}(hr:(qaD dst op).run e base st=some l) (hm:mk<=st.h.n) (hb:∀o j,op=.a o (some j)->mk<=base):∀r∈l,Lo mk st.h r.h:=by
 subst hl;cases op with
 | p o =>
  simp only [qaD] at hr;split at hr
  ·exact qbC st hr (by rw [qfu]; exact Lo.refl)
  ·cases hr
 | r o =>
  simp only [qaD] at hr;split at hr
  ·exact qbC st hr (by rw [qfu]; exact Lo.refl)
  ·cases hr
 | a o hole =>
  simp only [qaD] at hr;split at hr
  ·exact qbC st hr (by rw [qfu]; exact Lo.refl)
  ·cases hole with
   | none=>exact qbC st hr (by rw [qfu]; exact Lo.push hm)
   | some j=>exact qbC st hr (by rw [qfu]; exact Lo.set (Jaf (hb o j rfl) (Nat.le_add_right _ _)))
  ·cases hr
 | w o =>
  simp only [qaD] at hr;split at hr
  ·rename_i r e1;exact qbC st hr (by rw [qfu]; exact W_low e1 hm)
  ·cases hr
 | fz o =>
  simp only [qaD] at hr;split at hr
  ·rename_i r e1;exact qbC st hr (by rw [qfu]; exact X_low e1 hm)
  ·cases hr
 | call c args frz =>
  intro y hy;obtain⟨k,e1,x,hx,r,hr,hyr⟩:=qBs hr y hy;have h1:=qso he e1 hm x hx;cases frz with
  | false=>exact qbC st hr (by rw [qfu]; exact h1) y hyr
  | true =>
   simp only [cond] at hr;split at hr
   ·rename_i r2 e2;exact qbC st hr (by rw [qfu]; exact h1.trans (qr6 e2)) y hyr
   ·cases hr
 | callP f args =>
  simp only [qaD] at hr;split at hr
  ·exact qbC st hr (by rw [qfu]; exact Lo.refl)
  ·cases hr
 | nxtM it =>
  intro y hy;obtain⟨k,e1,x,hx,r,hr,hyr⟩:=qBs hr y hy;exact qbC st hr (by rw [qfu]; exact qpP e1 x hx) y hyr
 | defer x =>
  simp only [qaD] at hr;split at hr
  ·cases h2:st.round with
   | true=>rw [h2] at hr; cases hr
   | false=>rw [h2] at hr; exact qbC st hr (by rw [qfu]; exact Lo.refl)
  ·cases hr
 | recover =>
  simp only [qaD] at hr;cases h2:st.round with
  | true=>rw [h2] at hr; cases hr
  | false=>rw [h2] at hr; exact qbC st hr (by rw [qfu]; exact Lo.refl)
 | bad=>cases hr
theorem qom (he:LowF mk e.callF) (hl:e.lim=mk) {i:Ins}{base:Nat}{st:St}{l:List St}(hr:(qdm i).run e base st=some l) (hm:mk<=st.h.n) (hb:∀o j,i.op=.a o (some j)->mk<=base):∀r∈l,Lo mk st.h r.h:=by
 unfold qdm at hr;split at hr
 ·exact qqN he hl hr hm hb
 ·rename_i g hg;simp only at hr;split at hr
  ·rename_i c hc;cases hcg:(c == g.2) with
   | true=>rw [hcg] at hr; exact qqN he hl hr hm hb
   | false=>rw [hcg] at hr; exact qbC st hr (by rw [qfu]; exact Lo.refl)
  ·exact qbC st hr (by rw [qfu]; exact Lo.refl)
  ·cases hr
theorem qlA (he:LowF mk e.callF) (hl:e.lim=mk) {base:Nat}(hb:mk<=base):∀{l:List Ins}{st:St}{k:List St},(qhj l).run e base st=some k->mk<=st.h.n->∀r∈k,Lo mk st.h r.h
 | [],st,k,hr,_=>qbC st hr Lo.refl
 | i::l,st,k,hr,hm=>by
  intro y hy;obtain⟨k',e1,x,hx,r,hr,hyr⟩:=qBs hr y hy;have h1:=qom he hl e1 hm (λ_ _ _=>hb) x hx;exact h1.trans (qlA he hl hb (l:=l) hr (Jaf hm h1.1) y hyr)
theorem qlm (he:LowF mk e.callF) (hl:e.lim=mk) {base:Nat}(hb:mk<=base):∀{l:List Ins}{st:St}{hs:List Heap}{k:St × List Heap},opsH e base l st hs=some k->mk<=st.h.n->Lo mk st.h k.1.h
 | [],st,hs,k,hr,_=>by simp [opsH] at hr; subst hr; exact Lo.refl
 | i::l,st,hs,k,hr,hm=>by
  simp only [opsH] at hr;split at hr
  ·rename_i st' e1;have h1:=qom he hl (qBH e1) hm (λ_ _ _=>hb) st' (by simp);exact h1.trans (qlm he hl hb (l:=l) hr (Jaf hm h1.1))
  ·cases hr
theorem qcm {s:OS}{l:List OS}{h:Heap}(hr:some [s]=some l) (hp:Lo mk h s.s.h):∀r∈l,Lo mk h r.s.h:=by
 cases hr; simpa using hp
theorem qjy {body:St->ND OS}(hb:∀st l,body st=some l->mk<=st.h.n->∀r∈l,Lo mk st.h r.s.h):∀(n:Nat) (st:St) (l:List OS),qga body n st=some l->mk<=st.h.n->∀r∈l,Lo mk st.h r.s.h
 | 0,_,_,h,_=>by cases h
 | n+1,st,l,h,hm=>by
  intro y hy;obtain⟨k,e1,z,hz,r,hr,hyr⟩:=qBs h y hy;have h1:=hb _ _ e1 hm z hz;split at hr
  ·exact h1.trans (qjy hb n _ _ hr (Jaf hm h1.1) y hyr)
  ·exact qcm hr h1 y hyr
  ·exact qcm hr h1 y hyr
theorem qnS (he:LowF mk e.callF) {fv:V}{ps:List Nat}{asg body:IC}{st:St}{l:List OS}(hr:qcA e fv ps asg body st=some l) (hm:mk<=st.h.n):∀r∈l,Lo mk st.h r.s.h:=by
 unfold qcA at hr;cases h2:st.round with
 | true=>rw [h2] at hr; cases hr
 | false =>
  rw [h2] at hr;simp only [cond] at hr;intro y hy;obtain⟨k,e1,x,hx,r,hr,hyr⟩:=qBs hr y hy;have h0:Lo mk st.h ((st.h.push .dfr).push (.loop .ready none st.tm ps asg body)):=(Lo.push hm).trans (Lo.push (by simp; omega));have h1:=h0.trans (he _ _ _ _ e1 (Jaf hm h0.1) x hx);split at hr
  ·split at hr
   ·cases hr
   ·have h3:∀o,Lo mk st.h (x.h.set (st.h.push .dfr).n o):=λo=>h1.trans (Lo.set (by simp; omega));split at hr
    ·exact qcm hr (h3 _) y hyr
    ·exact qcm hr (h3 _) y hyr
    ·exact qcm hr (h3 _) y hyr
    ·cases hr
  ·cases hr
theorem qcd (he:LowF mk e.callF) (hl:e.lim=mk):∀(c:IC) (st:St) (l:List OS),(qaR c).run e st=some l->mk<=st.h.n->∀r∈l,Lo mk st.h r.s.h
 | .skip,st,l,hr,_=>qcm hr Lo.refl
 | .ops x,st,l,hr,hm=>by
  intro y hy;obtain⟨k,e1,z,hz,r,hr,hyr⟩:=qBs hr y hy;exact qcm hr (qlA he hl hm e1 hm z hz) y hyr
 | .dops na chk x,st,l,hr,hm=>by
  simp only [qaR,qhd] at hr;split at hr
  ·rename_i st' hs e1;obtain⟨_,hr⟩:=qbb hr;have:=qlm he hl (base:=st.h.n) hm e1 (show mk<=st.h.n+na by omega);exact qcm hr ⟨Jaf (Nat.le_add_right _ _) this.1,this.2⟩
  ·cases hr
 | .dopc chk x,st,l,hr,hm=>by
  simp only [qaR,qAZ] at hr;split at hr
  ·rename_i st' hs e1;obtain⟨_,hr⟩:=qbb hr;exact qcm hr (qlm he hl (base:=st.h.n) hm e1 hm)
  ·cases hr
 | .seq a b,st,l,hr,hm=>by
  intro y hy;obtain⟨k,e1,z,hz,r,hr,hyr⟩:=qBs hr y hy;have h1:=qcd he hl a st k e1 hm z hz;split at hr
  ·exact h1.trans (qcd he hl b _ _ hr (Jaf hm h1.1) y hyr)
  ·exact qcm hr h1 y hyr
  ·exact qcm hr h1 y hyr
 | .cond c a b,st,l,hr,hm=>by
  simp only [qaR] at hr;split at hr
  ·rename_i t ht;cases t with
   | true=>exact qcd he hl a st l hr hm
   | false=>exact qcd he hl b st l hr hm
  ·cases hr
 | .block id c,st,l,hr,hm=>by
  intro y hy;obtain⟨k,e1,z,hz,r,hr,hyr⟩:=qBs hr y hy;have h1:=qcd he hl c st k e1 hm z hz;split at hr
  ·rename_i j hj;cases hc:Nat.beq j id<;>rw [hc] at hr<;>exact qcm hr h1 y hyr
  ·exact qcm hr h1 y hyr
  ·exact qcm hr h1 y hyr
 | .loop c,st,l,hr,hm=>qjy (λst l h h2=>qcd he hl c st l h h2) _ st l hr hm
 | .rangeF ..,st,l,hr,hm=>qnS he hr hm
 | .exit _,st,l,hr,_=>qcm hr Lo.refl
 | .ret,st,l,hr,_=>qcm hr Lo.refl
 | .bad,_,_,hr,_=>by cases hr
theorem qfr {callF:V->List V->Heap->ND VH}(he:LowF mk callF):∀(ds:List DefI) (h:Heap) (l:List Heap),qa1 callF mk ds h=some l->mk<=h.n->∀r∈l,Lo mk h r
 | [],h,l,hr,_=>by simp [qa1] at hr; subst hr; simp [Lo.refl]
 | .mark i::ds,h,l,hr,hm=>by
  simp only [qa1] at hr;split at hr
  ·obtain⟨h1,hr⟩:=qbb hr;intro r hr';exact (Lo.kill (qfN h1)).trans (qfr he ds _ _ hr hm r hr')
  ·cases hr
 | .call v::ds,h,l,hr,hm=>by
  intro y hy;obtain⟨k,e1,z,hz,r,hr,hyr⟩:=qBs hr y hy;have h1:=he _ _ _ _ e1 hm z hz;exact h1.trans (qfr he ds _ _ hr (Jaf hm h1.1) y hyr)
end
def Prog.Low (AP:Prog):Prop:=∀f p,AP.prim f=some p->∀mk args h l,p mk args h=some l->mk<=h.n->∀r∈l,Lo mk h r.h
theorem qmz {AP:Prog}{callF:V->List V->Heap->ND VH}{mk:Nat}(he:LowF mk callF):LowF mk (qbx AP callF):=by
 intro fv args h l hr;unfold qbx at hr;split at hr
 ·split at hr
  ·cases hr
  ·exact he _ _ _ _ hr
 ·cases hr
theorem qnI {AP:Prog}{callF:V->List V->Heap->ND VH}{mk fu:Nat}(he:LowF mk callF) {F:IFn}{args:List V}{h:Heap}{l:List VH}(hr:qeS AP callF fu mk F args h=some l) (hm:mk<=h.n):∀r∈l,Lo mk h r.h:=by
 unfold qeS at hr;obtain⟨_,hr⟩:=qbb hr;intro y hy;obtain⟨k,e1,z,hz,r,hr,hyr⟩:=qBs hr y hy;have h1:=qcd (e:=⟨callF,AP.meth,fu,mk,AP.pureF⟩) he rfl F.body _ k e1 hm z hz;have key:∀(r:List VH),(ND.bind (qa1 (qbx AP callF) mk z.s.defs z.s.h) λh'=>match results z.s.tm h' F.res with|some v=>some [⟨v,h'⟩]|none=>none)=some r->y∈r->Lo mk h y.h:=by
  intro r hr hyr;obtain⟨k2,e2,h',hh',r2,hr2,hyr2⟩:=qBs hr y hyr;have h2:=qfr (qmz he) _ _ _ e2 (Jaf hm h1.1) h' hh';split at hr2
  ·cases hr2; simp at hyr2; subst hyr2; exact h1.trans h2
  ·cases hr2
 split at hr
 ·cases hr
 ·exact key r hr hyr
theorem qsi {mk l:Nat}{j:Option IC}{h:Heap}{k:List VH}(hl:mk<=l) (hr:endRound l j h=some k):∀r∈k,Lo mk h r.h:=by
 unfold endRound at hr;split at hr
 ·cases hr; simpa using Lo.set hl
 ·cases hr
theorem qnJ {AP:Prog}{callF:V->List V->Heap->ND VH}{mk fu l:Nat}(he:LowF mk callF) {args:List V}{h:Heap}{k:List VH}  (hr:qb6 AP callF fu mk l args h=some k) (hm:mk<=h.n):∀r∈k,Lo mk h r.h:=by
 unfold qb6 at hr;split at hr
 ·rename_i s0 p0 tm ps asg body hg;obtain⟨h1,hr⟩:=qbb hr;have hl:=qfN (qdX h1).1;intro y hy;obtain⟨k1,e1,z,hz,r,hr,hyr⟩:=qBs hr y hy;have h2:=qcd (e:=⟨callF,AP.meth,fu,mk,AP.pureF⟩) he rfl asg _ k1 e1 hm z hz;split at hr
  ·obtain⟨k3,e3,z3,hz3,r3,hr3,hyr3⟩:=qBs hr y hyr;have h4:∀o,Lo mk h (z.s.h.set l o):=λo=>h2.trans (Lo.set hl);have h5:=(h4 _).trans (qcd (e:=⟨callF,AP.meth,fu,mk,AP.pureF⟩) he rfl body _ k3 e3 (Jaf hm (h4 .dfr).1) z3 hz3);split at hr3
   ·split at hr3<;>exact h5.trans (qsi hl hr3 y hyr3)
   ·cases hr3
  ·cases hr
 ·cases hr
theorem qfI {AP:Prog}(hp:AP.Low):∀(n mk:Nat),LowF mk (evCall AP n mk)
 | 0,_=>λ_ _ _ _ h=>by cases h
 | n+1,mk=>λfv args h l hr hm=>by
  simp only [evCall] at hr;split at hr
  ·split at hr
   ·rename_i p hpp;exact hp _ p hpp mk _ _ _ hr hm
   ·split at hr
    ·cases hr
    ·rename_i F hF;cases hpu:F.pure with
     | true =>
      rw [hpu] at hr;simp only [cond,qeq] at hr;generalize hb:ND.bind _ _=q at hr;cases q with
      | none=>cases hr
      | some k=>intro r hr'; rw [(qhg hr r hr').1]; exact Lo.refl
     | false =>
      rw [hpu] at hr;exact qnI (qfI hp n mk) hr hm
  ·exact qnJ (qfI hp n mk) hr hm
  ·cases hr
theorem WF.low {AP:Prog}(hp:AP.Low) {d:Bool}{mk:Nat}{fv:V}{args:List V}{h:Heap}{Q:VH->Prop}(hw:WF AP d mk fv args h Q) (hm:mk<=h.n):WF AP d mk fv args h λr=>Q r/\Lo mk h r.h :=
 W.conj hw λn l e r hr=>qfI hp n mk fv args h l e hm r hr
def Le {α : Type}(x y:Option α):Prop:=∀l,x=some l->y=some l
theorem Le.refl {α : Type}{x:Option α}:Le x x:=λ_ h=>h
theorem qoj {β : Type}:∀{xs ys:List (ND β)},xs.length=ys.length->(∀(i:Nat) (x y:ND β),xs[i]?=some x->ys[i]?=some y->Le x y)->Le (ND.join xs) (ND.join ys)
 | [],[],_,_=>Le.refl
 | x::xs,y::ys,hl,h=>by
  intro l e;have h1:=h 0 x y rfl rfl;have h2:Le (ND.join xs) (ND.join ys):=qoj (by simpa using hl) λi a b ha hb=>h (i+1) a b (by simpa using ha) (by simpa using hb);simp only [ND.join] at e ⊢;cases hx:x with
  | none=>rw [hx] at e; cases e
  | some k =>
   cases hr:ND.join xs with
   | none=>rw [hx,hr] at e; cases e
   | some m=>rw [hx,hr] at e; rw [h1 k hx,h2 m hr]; exact e
theorem qbw {α β : Type}{m m':ND α}{f g : α->ND β}(hm:Le m m') (hf:∀x,Le (f x) (g x)):Le (ND.bind m f) (ND.bind m' g):=by
 intro l e;cases hk:m with
 | none=>rw [hk] at e; cases e
 | some k =>
  rw [hk] at e;rw [hm k hk]
  match k,e with
  | [],e=>exact e
  | [x],e=>exact hf x l e
  | x::y::r,e =>
   refine qoj (by simp) (λi a b ha hb=>?_) l e;simp only [List.getElem?_map] at ha hb;cases hc:(x::y::r)[i]? with
   | none=>rw [hc] at ha; cases ha
   | some z=>rw [hc] at ha hb; cases ha; cases hb; exact hf z
theorem qbl {α : Type}{c c':Bool}{x y:Option α}(hc:c=true->c'=true) (h:Le x y):Le (cond c x none) (cond c' y none):=by
 intro l e;obtain⟨h1,e⟩:=qbb e;rw [hc h1]; exact h l e
theorem qdv {mk mk' i:Nat}(h:mk<=mk'):Nat.ble mk' i=true->Nat.ble mk i=true:=λe=>Jat ▸ Jaf h (qfN e)
theorem qdx {a a' b:Bool}(h:a=true->a'=true):(a&&b)=true->(a'&&b)=true:=λe=>by
 obtain⟨h1,h2⟩:=qdX e; rw [h h1,h2]; rfl
theorem qj8 {mk mk':Nat}(hm:mk<=mk') {h:Heap}{esz bytes:Nat}{s:V}{xs:List (List V)}:Le (qaj mk' h esz bytes s xs) (qaj mk h esz bytes s xs):=by
 unfold qaj;cases xs with
 | nil=>exact Le.refl
 | cons x xs =>
  dsimp only;cases qal h s with
  | none=>exact Le.refl
  | some rs =>
   refine qbl id ?_;cases s with
   | sl i a b e f =>
    refine qbl id ?_;cases f with
    | true=>exact Le.refl
    | false=>exact qbl (qdv hm) Le.refl
   | _=>exact Le.refl
theorem W_le {mk mk':Nat}(hm:mk<=mk') (o:WO) (tm:Tm) (h:Heap):Le ((qay o).run mk' tm h) ((qay o).run mk tm h):=by
 cases o with
 | store n a x =>
  simp only [qay];split
  ·split
   ·split
    ·exact qbl (qdx (qdx (qdx (qdx (qdv hm))))) Le.refl
    ·exact Le.refl
   ·exact Le.refl
  ·exact Le.refl
 | mupd kn m k v =>
  simp only [qay];split
  ·split
   ·exact qbl (qdx (qdv hm)) Le.refl
   ·exact Le.refl
  ·exact Le.refl
 | del kn m k =>
  simp only [qay];split
  ·split
   ·exact qbl (qdx (qdv hm)) Le.refl
   ·exact Le.refl
  ·exact Le.refl
 | rngM x=>exact Le.refl
 | nxtS it =>
  simp only [qay];split
  ·split
   ·exact qbl (qdv hm) Le.refl
   ·exact Le.refl
  ·exact Le.refl
 | append esz bytes s x =>
  simp only [qay];split
  ·exact qj8 hm
  ·exact Le.refl
 | appendS s x =>
  simp only [qay];split
  ·exact qj8 hm
  ·exact Le.refl
 | appendZ zero bytes s n=>exact Le.refl
 | clear zero x =>
  simp only [qay];split
  ·exact Le.refl
  ·exact Le.refl
  ·rename_i i lo len e f _;cases Nat.beq len 0 with
   | true=>exact Le.refl
   | false =>
    simp only [cond];split
    ·exact qbl (qdx (qdx (qdv hm))) Le.refl
    ·exact Le.refl
  ·exact Le.refl
 | same x=>exact Le.refl
structure qkg (e e':Env):Prop where
 call:∀fv args h,Le (e.callF fv args h) (e'.callF fv args h)
 meth:e'.meth=e.meth
 fu:e.fu<=e'.fu
 lim:e'.lim<=e.lim
 pureF:e'.pureF=e.pureF
section
variable {e e':Env}
theorem cal_le (he:qkg e e') (c:Cal) (args:List V) (tm:Tm) (h:Heap):Le ((calK c).run e args tm h) ((calK c).run e' args tm h):=by
 cases c with
 | dir f=>exact he.call _ _ _
 | val x=>exact he.call _ _ _
 | inv x m =>
  simp only [calK,he.meth];split
  ·split
   ·exact he.call _ _ _
   ·exact Le.refl
  ·exact Le.refl
theorem qoy {mk mk':Nat}(hm:mk<=mk') (r:VH):Le (frzV mk' r) (frzV mk r):=by
 unfold frzV;split
 ·exact qbl (qdv hm) Le.refl
 ·exact Le.refl
 ·exact Le.refl
 ·exact Le.refl
theorem qrP {mk mk':Nat}(hm:mk<=mk') (it:V) (h:Heap):Le (qfB mk' it h) (qfB mk it h):=by
 unfold qfB;split
 ·split
  ·split
   ·exact qbl (qdx (qdx (qdx (qdv hm)))) Le.refl
   ·exact Le.refl
  ·exact Le.refl
 ·exact Le.refl
theorem qtL {mk mk':Nat}(hm:mk<=mk') {c:Nat}{p:V}{h h':Heap}(e:qs7 mk' c p h=some h'):qs7 mk c p h=some h':=by
 unfold qs7 at e ⊢;split at e
 ·rename_i id row off;split at e
  ·rename_i rs hg;try simp only [hg]
   split at e
   ·rename_i r hr;try simp only [hr]
    split at e
    ·rename_i v hv;try simp only [hv]
     split at e
     ·rename_i q hq;rw [qoy hm _ q hq];simp only;obtain⟨h1,e⟩:=qbb e;obtain⟨h2,h3⟩:=qdX h1;rw [qdv hm h2,h3];exact e
     ·cases e
    ·cases e
   ·cases e
  ·cases e
 ·cases e
theorem X_le {mk mk':Nat}(hm:mk<=mk') {o:XO}{tm:Tm}{h:Heap}{r:VH}(e:xV o mk' tm h=some r):xV o mk tm h=some r:=by
 cases o with
 | wf o =>
  simp only [xV] at e ⊢;split at e
  ·rename_i q hq;rw [W_le hm o tm h q hq];exact qoy hm _ r e
  ·cases e
 | ldF n a c =>
  simp only [xV] at e ⊢;split at e
  ·rename_i h' hq;rw [qtL hm hq];exact e
  ·cases e
theorem qA2 (he:qkg e e') (f:Nat) (args:List V) (h:Heap):Le (qAV e f args h) (qAV e' f args h):=by
 intro v hv;unfold qAV at hv ⊢;rw [he.pureF];cases hf:e.pureF f<;>simp only [hf,cond,reduceCtorEq] at hv ⊢
 split at hv
 ·rename_i r hr;rw [he.call _ _ _ _ hr]; exact hv
 ·cases hv
theorem qBi {o o':Option V}{u:V}(hle:Le o o') (k:qA0 o u=true):qA0 o' u=true:=by
 cases o with
 | none=>cases k
 | some v=>rw [hle v rfl]; exact k
theorem gdO_le {g:Option (Nat × Bool)}{tm:Tm}{s s':Bool}(hs:s=true->s'=true) (h:gdO g tm s=true):gdO g tm s'=true:=by
 unfold gdO at h ⊢;split at h
 ·exact hs h
 ·rename_i g;split at h
  ·rename_i b hb;cases hcg:(b == g.2)<;>simp only [hcg,cond] at h ⊢
   exact hs h
  ·exact h
  ·cases h
theorem qA3 (he:qkg e e') {l:List Ins}{tm:Tm}{hs:List Heap}{c:Nat × Nat}(h:qAU e l tm hs c=true):qAU e' l tm hs c=true:=by
 unfold qAU at h ⊢;split at h
 ·split at h
  ·split at h
   ·exact gdO_le (qBi (qA2 he _ _ _)) h
   ·cases h
  ·exact h
 ·cases h
theorem op_le (he:qkg e e') (dst:Option Nat) (op:IOp) (base:Nat) (st:St):Le ((qaD dst op).run e base st) ((qaD dst op).run e' base st):=by
 cases op with
 | w o =>
  simp only [qaD];intro l hl;split at hl
  ·rename_i r hr;rw [W_le he.lim o st.tm st.h r hr]; exact hl
  ·cases hl
 | fz o =>
  simp only [qaD];intro l hl;split at hl
  ·rename_i r hr;rw [X_le he.lim hr]; exact hl
  ·cases hl
 | call c args frz =>
  refine qbw (cal_le he _ _ _ _) λr=>?_;cases frz with
  | true =>
   intro l hl;simp only [cond] at hl ⊢;split at hl
   ·rename_i r' hr;rw [qoy he.lim _ r' hr]; exact hl
   ·cases hl
  | false=>exact Le.refl
 | callP f args =>
  simp only [qaD];intro l hl;split at hl
  ·rename_i r hr;rw [qA2 he f _ _ r hr]; exact hl
  ·cases hl
 | nxtM it=>exact qbw (qrP he.lim _ _) λ_=>Le.refl
 | _=>exact Le.refl
theorem qqT (he:qkg e e') (i:Ins) (base:Nat) (st:St):Le ((qdm i).run e base st) ((qdm i).run e' base st):=by
 unfold qdm;split
 ·exact op_le he _ _ _ _
 ·dsimp only;split
  ·rename_i g hg x c hx;cases hc:(c == g.2) with
   | true=>exact op_le he _ _ _ _
   | false=>exact Le.refl
  ·exact Le.refl
  ·exact Le.refl
theorem qod (he:qkg e e') (base:Nat):∀(l:List Ins) (st:St),Le ((qhj l).run e base st) ((qhj l).run e' base st)
 | [],_=>Le.refl
 | i::l,st=>qbw (qqT he i base st) λst=>qod he base l st
theorem qnz {α : Type}{x y:ND α}(h:Le x y):Le (ND.single x) (ND.single y):=by
 intro l e;have:=qBH e;rw [h _ this]; rfl
theorem qnV (he:qkg e e') (base:Nat):∀(l:List Ins) (st:St) (hs:List Heap),Le (opsH e base l st hs) (opsH e' base l st hs)
 | [],_,_=>Le.refl
 | i::l,st,hs=>by
  intro r hr;simp only [opsH] at hr ⊢;split at hr
  ·rename_i st' h1;rw [qnz (qqT he i base st) st' h1];exact qnV he base l st' _ r hr
  ·cases hr
theorem Le.none {α : Type}{x:Option α}:Le none x:=λ_ h=>by cases h
theorem qlw {b b':St->ND OS}(h:∀st,Le (b st) (b' st)):∀(n n':Nat) (st:St),n<=n'->Le (qga b n st) (qga b' n' st)
 | 0,_,_,_=>Le.none
 | n+1,0,_,hn=>by omega
 | n+1,n'+1,st,hn=>qbw (h st) λr=>by
  cases r.o with
  | normal=>exact qlw h n n' r.s (by omega)
  | exit i=>exact Le.refl
  | ret=>exact Le.refl
theorem qpA (he:qkg e e') (fv:V) (ps:List Nat) (asg body:IC) (st:St):Le (qcA e fv ps asg body st) (qcA e' fv ps asg body st):=by
 unfold qcA;cases st.round with
 | true=>exact Le.refl
 | false=>exact qbw (he.call _ _ _) λ_=>Le.refl
theorem qdn (he:qkg e e'):∀(c:IC) (st:St),Le ((qaR c).run e st) ((qaR c).run e' st)
 | .skip,_=>Le.refl
 | .ops l,st=>qbw (qod he _ l st) λ_=>Le.refl
 | .dops na chk l,st=>by
  intro r hr;simp only [qaR,qhd] at hr ⊢;split at hr
  ·rename_i st' hs h1;rw [qnV he _ _ _ _ _ h1]; exact hr
  ·cases hr
 | .dopc chk l,st=>by
  intro r hr;simp only [qaR,qAZ] at hr ⊢;split at hr
  ·rename_i st' hs h1;rw [qnV he _ _ _ _ _ h1];cases hc:chk.all (qAU e l st'.tm hs.reverse)<;>simp only [hc,cond,reduceCtorEq] at hr
   have:chk.all (qAU e' l st'.tm hs.reverse)=true:=List.all_eq_true.2 λc hcm=>qA3 he (List.all_eq_true.1 hc c hcm);simp only [this,cond]; exact hr
  ·cases hr
 | .seq a b,st=>qbw (qdn he a st) λr=>by
  cases r.o with
  | normal=>exact qdn he b r.s
  | exit i=>exact Le.refl
  | ret=>exact Le.refl
 | .cond c a b,st=>by
  simp only [qaR];split
  ·rename_i t _;cases t with
   | true=>exact qdn he a st
   | false=>exact qdn he b st
  ·exact Le.refl
 | .block id c,st=>qbw (qdn he c st) λ_=>Le.refl
 | .loop c,st=>by
  show Le (qga ((qaR c).run e) e.fu st) (qga ((qaR c).run e') e'.fu st);exact qlw (λst=>qdn he c st) _ _ st he.fu
 | .rangeF f ps asg body,st=>qpA he _ ps asg body st
 | .exit _,_=>Le.refl
 | .ret,_=>Le.refl
 | .bad,_=>Le.refl
end
theorem qeK {f g:V->List V->Heap->ND VH}(hf:∀fv args h,Le (f fv args h) (g fv args h)) {mk mk':Nat}(hm:mk<=mk'):∀(l:List DefI) (h:Heap),Le (qa1 f mk' l h) (qa1 g mk l h)
 | [],_=>Le.refl
 | .mark i::l,h=>by
  simp only [qa1];split
  ·exact qbl (qdv hm) (qeK hf hm l _)
  ·exact Le.refl
 | .call v::l,h=>qbw (hf _ _ _) λx=>qeK hf hm l x.h
theorem qju {AP:Prog}{f g:V->List V->Heap->ND VH}(hf:∀fv args h,Le (f fv args h) (g fv args h)):∀fv args h,Le (qbx AP f fv args h) (qbx AP g fv args h):=by
 intro fv args h;unfold qbx;split
 ·split
  ·exact Le.refl
  ·exact hf _ _ _
 ·exact Le.refl
theorem qlg {AP:Prog}{f g:V->List V->Heap->ND VH}(hf:∀fv args h,Le (f fv args h) (g fv args h)) {fu fu' mk mk':Nat}(hn:fu<=fu') (hm:mk<=mk') (F:IFn) (args:List V) (h:Heap):Le (qeS AP f fu mk' F args h) (qeS AP g fu' mk F args h):=by
 unfold qeS;refine qbl id (qbw (qdn (e:=⟨f,AP.meth,fu,mk',AP.pureF⟩) (e':=⟨g,AP.meth,fu',mk,AP.pureF⟩) ⟨hf,rfl,hn,hm,rfl⟩ F.body _) λr=>?_);cases r.o with
 | exit i=>exact Le.refl
 | normal=>exact qbw (qeK (qju hf) hm _ _) λ_=>Le.refl
 | ret=>exact qbw (qeK (qju hf) hm _ _) λ_=>Le.refl
theorem qpt {AP:Prog}{f g:V->List V->Heap->ND VH}(hf:∀fv args h,Le (f fv args h) (g fv args h)) {fu fu' mk mk':Nat}(hn:fu<=fu') (hm:mk<=mk') (l:Nat) (args:List V) (h:Heap):Le (qb6 AP f fu mk' l args h) (qb6 AP g fu' mk l args h):=by
 unfold qb6;split
 ·have he:qkg ⟨f,AP.meth,fu,mk',AP.pureF⟩ ⟨g,AP.meth,fu',mk,AP.pureF⟩:=⟨hf,rfl,hn,hm,rfl⟩;refine qbl (qdx (qdv hm)) (qbw (qdn he _ _) λr=>?_);intro k hk;split at hk
  ·rename_i h1 h2 h3;exact qbw (qdn he _ _) (λ_=>Le.refl) k hk
  ·cases hk
 ·exact Le.refl
def Prog.Mon (AP:Prog):Prop:=∀f p,AP.prim f=some p->∀mk mk' args h,mk<=mk'->Le (p mk' args h) (p mk args h)
theorem qqb {h:Heap}{m m':ND V}(hm:Le m m'):Le (dedup h m) (dedup h m'):=by
 intro l e;cases m with
 | none=>cases e
 | some k=>rw [hm k rfl]; exact e
theorem qdU {AP:Prog}(hp:AP.Mon):∀(n n' mk mk':Nat),n<=n'->mk<=mk'->∀fv args h,Le (evCall AP n mk' fv args h) (evCall AP n' mk fv args h)
 | 0,_,_,_,_,_=>λ_ _ _=>Le.none
 | n+1,0,_,_,hn,_=>by omega
 | n+1,n'+1,mk,mk',hn,hm=>λfv args h=>by
  have hn':n<=n':=by omega
  simp only [evCall];split
  ·split
   ·rename_i p hpp;exact hp _ p hpp _ _ _ _ hm
   ·split
    ·exact Le.refl
    ·rename_i F hF;cases F.pure with
     | true=>exact qqb (qbw (qlg (qdU hp n n' _ _ hn' (Jac _)) hn' (Jac _) F _ h) λ_=>Le.refl)
     | false=>exact qlg (qdU hp n n' mk mk' hn' hm) hn' hm F _ h
  ·exact qpt (qdU hp n n' mk mk' hn' hm) hn' hm _ _ h
  ·exact Le.refl
theorem qBK {AP:Prog}(hp:AP.Mon) {d:Bool}{mk mk':Nat}{fv:V}{args:List V}{h:Heap}{Q:VH->Prop}(hw:WF AP d mk' fv args h Q) (hm:mk<=mk'):WF AP d mk fv args h Q:=by
 obtain⟨l,N,h0,h1,h2,h3⟩:=hw;exact⟨l,N,h0,h1,λn hn=>qdU hp n n mk mk' (Jac _) hm fv args h l (h2 n hn),h3⟩
theorem WF.ran {AP:Prog}(hp:AP.Mon) {d:Bool}{mk n:Nat}{fv:V}{args:List V}{h:Heap}{r:VH}(e:evCall AP n mk fv args h=some [r]):WF AP d mk fv args h λx=>x=r :=
 ⟨[r],n,by simp,λ_=>rfl,λm hm=>qdU hp n m mk mk hm (Jac _) fv args h _ e,by simp⟩
theorem WF.frame {AP:Prog}(hl:AP.Low) (hp:AP.Mon) {d:Bool}{mk:Nat}{fv:V}{args:List V}{h:Heap}{Q:VH->Prop}(hm:mk<=h.n) (hw:WF AP d h.n fv args h Q):WF AP d mk fv args h λr=>Q r/\h.n<=r.h.n/\∀i,i<h.n->r.h.get i=h.get i :=
 qBK hp (WF.low hl hw (Jac _)) hm
theorem qjb {mk:Nat}{args:List V}{h:Heap}{l:List VH}(e:qed mk args h=some l):∀r∈l,Lo mk h r.h:=by
 unfold qed at e;split at e
 ·cases e; simp [Lo.refl]
 ·split at e
  ·obtain⟨h1,e⟩:=qbb e;split at e
   ·cases e;have:=qfN (qdX (qdX h1).1).2;simpa using Lo.set this
   ·cases e
  ·cases e
 ·cases e
theorem qlb {mk mk':Nat}(hm:mk<=mk') (args:List V) (h:Heap):Le (qed mk' args h) (qed mk args h):=by
 unfold qed;split
 ·exact Le.refl
 ·split
  ·refine qbl (λe=>?_) Le.refl;obtain⟨e1,e2⟩:=qdX e;obtain⟨e3,e4⟩:=qdX e1;rw [e2,e3,qdv hm e4]; rfl
  ·exact Le.refl
 ·exact Le.refl
theorem qmi {mk:Nat}{s:V}{h:Heap}{l:List VH}(e:qeP mk s h=some l):∀r∈l,Lo mk h r.h:=by
 unfold qeP at e;split at e
 ·cases e; simp [Lo.refl]
 ·split at e
  ·obtain⟨h1,e⟩:=qbb e;split at e
   ·cases e;have:=qfN (qdX (qdX h1).1).2;simpa using Lo.set this
   ·cases e
  ·cases e
 ·cases e
theorem qnw {mk mk':Nat}(hm:mk<=mk') (s:V) (h:Heap):Le (qeP mk' s h) (qeP mk s h):=by
 unfold qeP;split
 ·exact Le.refl
 ·split
  ·refine qbl (λe=>?_) Le.refl;obtain⟨e1,e2⟩:=qdX e;obtain⟨e3,e4⟩:=qdX e1;rw [e2,e3,qdv hm e4]; rfl
  ·exact Le.refl
 ·exact Le.refl
theorem qgF {f:Nat}{p:Nat->List V->Heap->ND VH}(h:PR.prim f=some p):p=qc4\/p=qed\/p=qby\/p=qbz 346:=by
 simp only [PR,prims] at h;cases h1:Nat.beq f 225 with
 | true=>rw [h1] at h; cases h; exact .inl rfl
 | false =>
  rw [h1] at h;cases h2:Nat.beq f 105 with
  | true=>rw [h2] at h; cases h; exact .inr (.inl rfl)
  | false =>
   rw [h2] at h;cases h3:Nat.beq f 226 with
   | true=>rw [h3] at h; cases h; exact .inr (.inr (.inl rfl))
   | false =>
    rw [h3] at h;cases h
theorem qq1:PR.Low:=by
 intro f p hp mk args h l e hm;rcases qgF hp with rfl|rfl|rfl|rfl
 ·unfold qc4 at e;split at e
  ·obtain⟨_,e⟩:=qbb e; cases e; simp [Lo.refl]
  ·cases e
 ·exact qjb e
 ·unfold qby at e;split at e
  ·exact qjb e
  ·cases e
 ·unfold qbz at e;split at e
  ·obtain⟨_,e⟩:=qbb e; exact qmi e
  ·cases e
theorem qda:PR.Mon:=by
 intro f p hp mk mk' args h hm;rcases qgF hp with rfl|rfl|rfl|rfl
 ·exact Le.refl
 ·exact qlb hm _ _
 ·unfold qby;split
  ·exact qlb hm _ _
  ·exact Le.refl
 ·unfold qbz;split
  ·refine qbl (λe=>e) (qnw hm _ _)
  ·exact Le.refl
theorem WF.here {d:Bool}{mk:Nat}{fv:V}{args:List V}{h:Heap}{Q:VH->Prop}(hm:mk<=h.n) (hw:WF PR d h.n fv args h Q):WF PR d mk fv args h λr=>Q r/\h.n<=r.h.n/\∀i,i<h.n->r.h.get i=h.get i :=
 WF.frame qq1 qda hm hw
def bndV (v:V) (top:Nat):Option Nat:=match v with
 | .int _ n=>bnd n top
 | _=>none
@[simp] theorem bndV_int {k:IntKind}{n:Int}{top:Nat}:bndV (.int k n) top=bnd n top:=(rfl)
@[simp] theorem opt_none {d top:Nat}{tm:Tm}:(optK none).run d top tm=some d:=(rfl)
@[simp] theorem opt_some {x:Opd}{d top:Nat}{tm:Tm}:(optK (some x)).run d top tm=bndV (x.ev tm) top:=(rfl)
def qdl (len:Nat) (full:Bool) (h:Option Nat) (lo:Nat->Option Nat):Option Cut:=match h with
 | none=>none
 | some h=>match lo h with
  | none=>none
  | some l=>some ⟨l,h,full&&Nat.beq h len⟩
@[simp] theorem cut_run {lo hi:Option Opd}{len:Nat}{full:Bool}{tm:Tm}:(cutK lo hi none).run len full tm=qdl len full ((optK hi).run len len tm) λh=>(optK lo).run 0 h tm:=(rfl)
def qrh (id b e:Nat) (r:Option Cut):Option V:=match r with
 | some r=>some (.sl id (b+r.lo) (r.hi-r.lo) e r.full)
 | none=>none
@[simp] theorem qsK {id b e:Nat}{r:Cut}:qrh id b e (some r)=some (.sl id (b+r.lo) (r.hi-r.lo) e r.full):=(rfl)
@[simp] theorem qpg {e id b n:Nat}{f:Bool}{k:KCut}{tm:Tm}:qaT e k tm (.sl id b n e f)=qrh id b e (k.run n f tm):=by
 simp [qaT,qrh]; rfl
def Sl.cut {α : Type}(s:Sl α) (lo hi:Nat):Sl α:=match s with
 | .nil=>.nil
 | .of l=>.of ((l.drop lo).take (hi-lo))
 | .full l=>if hi=l.length then .full ((l.drop lo).take (hi-lo)) else .of ((l.drop lo).take (hi-lo))
@[simp] theorem qqd {α : Type}(s:Sl α) (lo hi:Nat):(s.cut lo hi).l=(s.l.drop lo).take (hi-lo):=by
 cases s with
 | nil=>simp [Sl.cut]
 | of l=>simp [Sl.cut]
 | full l=>simp only [Sl.cut]; split<;>simp
theorem qdD {α : Type}{f : α->List V}{s:Sl α}{esz lo hi:Nat}{k:KCut}{tm:Tm}(he:∀a,(f a).length=esz) (hk:∀fl,k.run s.l.length fl tm=some ⟨lo,hi,fl&&decide (hi=s.l.length)⟩):qaT esz k tm (s.enc f)=some ((s.cut lo hi).enc f):=by
 cases s with
 | nil=>have h1:=hk true; simp only [l_nil,List.length_nil] at h1; simp [Sl.enc,qaT,h1,Sl.cut]
 | of l =>
  have h1:=hk false;have hl:qa9 esz (l.map f)=true:=by cases l<;>simp [qa9,he]
  simp only [l_of] at h1;simp [Sl.enc,qaT,hl,h1,Sl.cut,List.map_take,List.map_drop]
 | full l =>
  have h1:=hk true;have hl:qa9 esz (l.map f)=true:=by cases l<;>simp [qa9,he]
  simp only [qlE] at h1
  by_cases hh:hi=l.length
  ·simp [Sl.enc,qaT,hl,h1,Sl.cut,hh,List.map_take,List.map_drop]
  ·simp [Sl.enc,qaT,hl,h1,Sl.cut,hh,List.map_take,List.map_drop]
theorem qav {l:List Int}{r:Nat}(h:r<l.length):(qab l)[r]?=some [.int .i64 (lat l r)]:=by
 simp [qab,qaz h]
@[simp] theorem qrZ {l:List Int}:(qab l).length=l.length:=by simp [qab]
theorem qcu {l:List Int}{r:Nat}{v:Int}:(qab l).set r [.int .i64 v]=qab (l.set r v):=by simp [qab,List.map_set]
theorem qfE {l:List Int}{r j:Nat}{v:Int}(h:j<l.length):lat (l.set r v) j=if j=r then v else lat l j:=by
 rw [qBu (by simpa using h),qBu h,List.getElem_set]
 by_cases e:j=r
 ·subst e; simp
 ·simp [e,Ne.symm e]
theorem qam {e id b n:Nat}{f:Bool}{k:IntKind}{i:Int}(h0:0<=i) (h1:i<n):qaw e (.sl id b n e f) (.int k i)=some (.ptr id (b+i.toNat) 0):=by
 simp [qaw,qey h0 h1]
def ddUp (l:List Int):Nat->List Int
 | 0=>[]
 | i+1=>if i=0\/lat l i≠lat l (i-1) then ddUp l i++[lat l i] else ddUp l i
def dd (l:List Int):List Int:=ddUp l l.length
theorem qkL (l:List Int):∀i,(ddUp l i).length<=i
 | 0=>by simp [ddUp]
 | i+1=>by have:=qkL l i; simp only [ddUp]; split<;>simp<;>omega
theorem qgl {l:List Int}:∀{i:Nat},i<=l.length->(∀j,0<j->j<i->lat l j≠lat l (j-1))->ddUp l i=l.take i
 | 0,_,_=>rfl
 | i+1,hi,h=>by
  have hlt:i<l.length:=by omega
  rw [ddUp,qgl (by omega) λj h0 h1=>h j h0 (by omega),Jab,Jap,qaz hlt]
  ·rfl
  ·by_cases e:i=0
   ·exact .inl e
   ·exact .inr (h i (by omega) (by omega))
theorem qqk {mk id lo n:Nat}{f:Bool}{x:Opd}{tm:Tm}{h:Heap}{L:List Int}(hx:x.ev tm=.sl id lo n 1 f) (hid:h.get id=some (.rows (qab L))) (hm:mk<=id) (hl:lo+n<=L.length) :
  ∃h' L',(qay (.clear [.int .i64 0] x)).run mk tm h=some ⟨.any,h'⟩/\h'.n=h.n/\(∀j,j≠id->h'.get j=h.get j)/\h'.get id=some (.rows (qab L'))/\L'.length=L.length/\L'.take lo=L.take lo:=by
 by_cases e:n=0
 ·exact⟨h,L,by simp [qay,hx,e],rfl,λ_ _=>rfl,hid,rfl,rfl⟩
 ·refine⟨h.set id (.rows (qab (L.take lo++List.replicate n 0++L.drop (lo+n)))),L.take lo++List.replicate n 0++L.drop (lo+n),?_,rfl,λj hj=>by simp [hj],by simp,by simp; omega,by rw [List.append_assoc,List.take_append_of_le_length (by simp; omega),List.take_take,Nat.min_self]⟩;simp [qay,hx,e,hid,hm,hl,qab,List.map_take,List.map_drop]
structure qo5 (id:Nat) (h:Heap) (out:List Int) (r:VH):Prop where
 n:r.h.n=h.n
 keep:∀j,j≠id->r.h.get j=h.get j
 v:∃f,r.v=.sl id 0 out.length 1 f
 rest:∃L,r.h.get id=some (.rows (qab (out++L)))
theorem qh5 {d:Bool}{mk id:Nat}{f:Bool}{h:Heap}{l:List Int}(hid:h.get id=some (.rows (qab l))) (hm:mk<=id) (hl:l.length<1000000000) :
  WF PR d mk (.fn 106 [] []) [.sl id 0 l.length 1 f] h (qo5 id h (dd l)):=by
 refine WF.go f106 b106 [.tm 2] rfl rfl rfl rfl rfl rfl ?_;unfold b106;simp -dsimp;rw [qaa];refine⟨λhb=>?_,λhb=>?_⟩
 ·simp -dsimp [hb];simp at hb;have e:dd l=l:=by
   rw [dd,qgl (Jac _) (λj h0 h1=>by omega)]; simp
  rw [e];exact⟨rfl,λ_ _=>rfl,⟨f,rfl⟩,[],by simpa using hid⟩
 ·simp -dsimp [hb];simp at hb;refine qaf (λk st=>∃i:Int,1<=i/\(k:Int)=l.length-i/\(∀j:Nat,0<j->j<i.toNat->lat l j≠lat l (j-1))/\(gK 3).run st.tm=.int .i64 i/\st.h=h/\st.defs=[]) (l.length-1) ⟨1,by simp,by omega,by simp; omega,by simp⟩ ?_;rintro k ⟨tm,h',defs,round⟩ ⟨i,hi,hk,hd,h3,rfl,rfl⟩ hK;have h0:=hK 0 rfl;simp at h0 h3;clear hK;simp -dsimp [h0,h3];rw [qaa];refine⟨λhb1=>?_,λhb1=>?_⟩
  ·simp at hb1;have hlt:i.toNat<l.length:=by omega
   have hlt2:i.toNat-1<l.length:=by omega
   have hi0:0<=i:=by omega
   have hi1:0<=i-1:=by omega
   have hi2:i-1<l.length:=by omega
   simp -dsimp [h0,h3,qam hi0 hb1,fw64 (n:=i-1) (by omega) (by omega),qam (e:=1) (id:=id) (b:=0) (f:=f) (k:=.i64) hi1 hi2,hid,qav hlt,qav hlt2];rw [qaa];refine⟨λhb2=>?_,λhb2=>?_⟩
   ·simp at hb2;simp -dsimp [h0,h3,qaY (n:=i) (top:=l.length) hi0 (by omega),qdl];refine qaf (λk st=>∃(a b:Int) (L:List Int),1<=a/\1<=b/\(k:Int)=l.length-i-b/\a<=i+b-1/\L.length=l.length/\b<=l.length-i/\L.take a.toNat=ddUp l (i+b).toNat/\(∀j,(i+b-1).toNat<=j->j<l.length->lat L j=lat l j) /\
     (gK 3).run st.tm=.int .i64 a/\(gK 5).run st.tm=.int .i64 b/\st.h.n=h'.n/\(∀j,j≠id->st.h.get j=h'.get j)/\st.h.get id=some (.rows (qab L))/\st.defs=[]) (l.length-i.toNat-1) ⟨i,1,l,hi,by omega,by omega,by omega,rfl,by omega,?_,λ_ _ _=>rfl,by simp [h3],by simp,rfl,λ_ _=>rfl,hid,rfl⟩ ?_
    ·rw [show (i+1).toNat=i.toNat+1 by omega,ddUp,Jaa (by rintro (e|e); omega; exact e hb2),qgl (by omega) hd]
    ·rintro k2 ⟨tm2,h2,defs,round⟩ ⟨a,b,L,ha,hbb,hk2,hab,hLl,hble,htake,hsame,h3',h5,hn2,hkeep,hget,rfl⟩ hK;have h0':=hK 0 rfl;have h4:=hK 4 rfl;simp [h0] at h0' h4 h3' h5 hn2 hkeep hget;clear hK;have hlen:(l.length-i.toNat:Nat)=(l.length:Int)-i:=by omega
     simp -dsimp [h4,h5,hlen];rw [qaa];refine⟨λhc=>?_,λhc=>?_⟩
     ·simp at hc;have hb0:0<=b:=by omega
      have hb1':b<((l.length-i.toNat:Nat):Int):=by omega
      have hb2':0<=b-1:=by omega
      have hb3':b-1<((l.length-i.toNat:Nat):Int):=by omega
      have r1:i.toNat+b.toNat<L.length:=by omega
      have r2:i.toNat+(b.toNat-1)<L.length:=by omega
      have v1:lat L (i.toNat+b.toNat)=lat l (i+b).toNat:=by rw [show (i+b).toNat=i.toNat+b.toNat by omega]; exact hsame _ (by omega) (by omega)
      have v2:lat L (i.toNat+(b.toNat-1))=lat l ((i+b).toNat-1):=by rw [show (i+b).toNat-1=i.toNat+(b.toNat-1) by omega]; exact hsame _ (by omega) (by omega)
      have fb:fw .i64 (b+1)=b+1:=fw64 (by omega) (by omega);have fa:fw .i64 (a+1)=a+1:=fw64 (by omega) (by omega);simp -dsimp [h4,h5,qam (e:=1) hb0 hb1',fw64 (n:=b-1) (by omega) (by omega),qam (e:=1) (id:=id) (b:=i.toNat) (k:=.i64) hb2' hb3',hget,qav r1,qav r2,v1,v2];rw [qaa];refine⟨λhd2=>?_,λhd2=>?_⟩
      ·simp at hd2;have ha0:0<=a:=by omega
       have ha1:a<((l.length:Nat):Int):=by omega
       have r3:a.toNat<L.length:=by omega
       simp -dsimp [h0',h3',h4,h5,qam (e:=1) hb0 hb1',qam (e:=1) (id:=id) (b:=0) (k:=.i64) ha0 ha1,hget,qav r1,qav r3,v1,hm,fa,fb];rw [qcu];refine qah.intro (k2-1) (by omega) ⟨a+1,b+1,L.set a.toNat (lat l (i+b).toNat),by omega,by omega,by omega,by omega,by simp [hLl],by omega,?_,λj h1 h2=>?_,by simp,by simp,by simp [hn2],λj hj=>by simp [hj,hkeep],by simp,rfl⟩
       ·rw [show (i+(b+1)).toNat=(i+b).toNat+1 by omega,ddUp,Jab (.inr hd2),<-htake,show (a+1).toNat=a.toNat+1 by omega,Jap,List.getElem?_set_self (by omega),List.take_set,List.set_eq_of_length_le (by simp; omega)];rfl
       ·rw [qfE (by omega),Jaa (by omega)]; exact hsame j (by omega) h2
      ·simp at hd2;simp -dsimp [h5,fb];refine qah.intro (k2-1) (by omega) ⟨a,b+1,L,by omega,by omega,by omega,by omega,hLl,by omega,?_,λj h1 h2=>hsame j (by omega) h2,by simp [h3'],by simp,hn2,hkeep,hget,rfl⟩;rw [show (i+(b+1)).toNat=(i+b).toNat+1 by omega,ddUp,Jaa (by rintro (e|e); omega; exact e hd2),htake]
     ·simp at hc;have ha0:0<=a:=by omega
      have hend:(i+b).toNat=l.length:=by omega
      have hbl:¬b<(l.length:Int)-i:=by omega
      have htake':L.take a.toNat=dd l:=by rw [htake,hend]; rfl
      have hddl:(dd l).length=a.toNat:=by rw [<-htake']; simp; omega
      simp -dsimp [hbl,h0',h3',qaY (n:=a) (top:=l.length) ha0 (by omega),qdl];refine qBC ?_;obtain⟨h3,L',q1,q2,q3,q4,q5,q6⟩:=qqk (x:=Opd.t 56) (tm:=(sK 56).run (V.sl id a.toNat (l.length-a.toNat) 1 f) ((sK 55).run (V.int IntKind.i64 a) ((sK 54).run (V.sl id 0 l.length 1 f) ((sK 32).run (V.bool false) ((sK 31).run (V.int IntKind.i64 (↑l.length-i)) ((sK 30).run (V.sl id i.toNat (l.length-i.toNat) 1 f) ((sK 29).run (V.int IntKind.i64 b) tm2))))))) (f:=f) (lo:=a.toNat) (n:=l.length-a.toNat) (by simp) hget hm (by omega);refine⟨_,q1,?_⟩;simp -dsimp [h0',h3',qaY (n:=a) (top:=l.length) ha0 (by omega),qdl];refine⟨by rw [q2,hn2],λj hj=>by rw [q3 j hj,hkeep j hj],⟨_,by rw [hddl]⟩,L'.drop a.toNat,?_⟩;show h3.get id=_;rw [q4,<-htake',<-q6,List.take_append_drop]
   ·simp at hb2;simp -dsimp [h3,fw64 (n:=i+1) (by omega) (by omega)];refine qah.intro (k-1) (by omega) ⟨i+1,by omega,by omega,λj h1 h2=>?_,by simp,rfl,rfl⟩
    by_cases e:j=i.toNat
    ·subst e; exact hb2
    ·exact hd j h1 (by omega)
  ·simp at hb1;have hb1':decide (i<(l.length:Int))=false:=by simpa using hb1
   have e:dd l=l:=by
    rw [dd,qgl (Jac _) (λj h0 h1=>hd j h0 (by omega))]; simp
   simp -dsimp [hb1',h0,e];exact⟨rfl,λ_ _=>rfl,⟨f,rfl⟩,[],by simpa using hid⟩
def slId (v:V):Option Nat:=match v with
 | .sl id _ _ _ _=>some id
 | _=>none
def Own (h:Heap) (mk:Nat) (v:V) (esz:Nat) (rows:List (List V)):Prop :=
 (v=.nils/\rows=[])\/∃id,v=.sl id 0 rows.length esz false/\h.get id=some (.rows rows)/\mk<=id/\id<h.n/\rows≠[]
theorem Own.ext {h h':Heap}{mk esz:Nat}{v:V}{rows:List (List V)}(hO:Own h mk v esz rows) (hk:∀j,j<h.n->h'.get j=h.get j) (hn:h.n<=h'.n):Own h' mk v esz rows:=by
 rcases hO with h1|⟨id,h1,h2,h3,h4,h5⟩
 ·exact .inl h1
 ·exact .inr ⟨id,h1,by rw [hk id h4,h2],h3,by omega,h5⟩
theorem Own.slId {h:Heap}{mk esz j:Nat}{v:V}{rows:List (List V)}(hO:Own h mk v esz rows) (hj:j<mk):Go.Abs.slId v≠some j:=by
 rcases hO with ⟨rfl,_⟩|⟨id,rfl,h2,h3,h4,h5⟩<;>simp [Go.Abs.slId]
 omega
theorem qe0:∀{xs:List (List V)},(∀x∈xs,ones x=true)->qdH xs=true
 | [],_=>rfl
 | x::xs,h=>by
  have:=qe0 (xs:=xs) λy hy=>h y (List.mem_cons_of_mem _ hy);simp [qdH,h x (by simp),this]
theorem qaC {h:Heap}{mk m0 esz bytes:Nat}{v:V}{rows xs:List (List V)}(hO:Own h m0 v esz rows) (h0:mk<=m0) (hx:∀x∈xs,x.length=esz/\ones x=true) (hn:rows.length+xs.length<4294967296) (hb:bytes<1024) (hm:m0<=h.n) :
  ∃v' h',qaj mk h esz bytes v xs=some ⟨v',h'⟩/\Own h' m0 v' esz (rows++xs)/\h.n<=h'.n/\(∀j,j<h.n->slId v≠some j->h'.get j=h.get j)/\(∀j,slId v'=some j->h.n<=j\/slId v=some j):=by
 cases xs with
 | nil =>
  refine⟨v,h,?_,by simpa using hO,Jac _,λ_ _ _=>rfl,λ_ h=>.inr h⟩;rcases hO with ⟨rfl,_⟩|⟨id,rfl,_⟩<;>rfl
 | cons x xs =>
  have h1:=qe0 λy hy=>(hx y hy).2;have h2:=(hx x (by simp)).1;rcases hO with ⟨rfl,rfl⟩|⟨id,rfl,hid,hmi,hlt,hne⟩
  ·refine⟨.sl h.n 0 (x::xs).length esz false,h.push (.rows (x::xs)),?_,.inr ⟨h.n,by simp,by simp,hm,by simp,by simp⟩,by simp,λj hj _=>by simp; omega,λj hj=>.inl (by simp [slId] at hj; omega)⟩;simp at hn;simp [qaj,qal,qaI,hb,h2,h1,hn]
  ·refine⟨.sl h.n 0 (rows.length+(x::xs).length) esz false,(h.kill id).push (.rows (rows++x::xs)),?_,.inr ⟨h.n,by simp,by simp,hm,by simp,by simp⟩,by simp,λj hj hs=>?_,λj hj=>.inl (by simp [slId] at hj; omega)⟩
   ·have hmi':mk<=id:=by omega
    have hn':rows.length+(xs.length+1)<4294967296:=by simpa using hn
    simp [hmi',qaj,qal,qaI,hid,hb,h2,h1,hmi,hn']
   ·simp [slId] at hs;rw [qBq,qBG,Jaa (by omega),qBr,Jaa (Ne.symm hs)]
theorem qaE {mk esz bytes:Nat}{s x:Opd}{tm:Tm}{h:Heap}{xs:List (List V)}(hx:qal h (x.ev tm)=some xs):(qay (.append esz bytes s x)).run mk tm h=qaj mk h esz bytes (s.ev tm) xs:=by
 simp [qay,hx]
@[simp] theorem qsM {h:Heap}{rows:List (List V)}{f:Bool}:qal h (.slR rows f)=some rows:=(rfl)
@[simp] theorem qqW {esz:Nat}{rows:List (List V)}{tm:Tm}:qaV esz rows tm []=some rows:=(rfl)
@[simp] theorem qp9 {esz i:Nat}{rows:List (List V)}{tm:Tm}{x:Opd}{r:List (Nat × Opd)}:qaV esz rows tm ((i,x)::r)=cond (decide ((x.ev tm).cells.length=esz)&&decide (0<esz)&&decide (i<rows.length)) (qaV esz (rows.set i (x.ev tm).cells) tm r) none:=by
 simp [qaV]
theorem qlJ (x:Int):∀l,(insI x l).length=l.length+1
 | []=>rfl
 | y::l=>by simp only [insI]; cases leB x y<;>simp [qlJ x l]
@[simp] theorem qcZ:∀l,(qa8 l).length=l.length
 | []=>rfl
 | x::l=>by simp [qa8,qlJ,qcZ l]
theorem qex:∀l:List Int,qg2 (qab l)=some l
 | []=>rfl
 | x::l=>by
  have:=qex l;simp only [qab] at this;simp [qab,qg2,this]
theorem qre {d:Bool}{mk m0:Nat}{h:Heap}{v:V}{l:List Int}(hO:Own h m0 v 1 (qab l)) (h0:mk<=m0) (hl:l.length<1000000000) :
  WF PR d mk (.fn 105 [] []) [v] h λr=>r.v=.tup []/\Own r.h m0 v 1 (qab (qa8 l))/\r.h.n=h.n/\∀j,slId v≠some j->r.h.get j=h.get j:=by
 refine WF.prim (p:=qed) rfl ?_;rcases hO with ⟨rfl,e⟩|⟨id,rfl,hid,hmi,hlt,hne⟩
 ·have:l=[]:=by simpa [qab] using e
  subst this;exact W.one ⟨rfl,.inl ⟨rfl,rfl⟩,rfl,λ_ _=>rfl⟩
 ·have e:qed mk ([]++[V.sl id 0 (qab l).length 1 false]++[]) h=some [⟨.tup [],h.set id (.rows (qab (qa8 l)))⟩]:=by
   have:l.length<4294967296:=by omega
   have hmi':mk<=id:=by omega
   simp [qed,hid,hmi',qex,this]
  refine qDI e (by simp) (λ_=>rfl) ?_;intro r hr;simp at hr;subst hr;refine⟨rfl,.inr ⟨id,by simp,by simp,hmi,hlt,?_⟩,rfl,λj hj=>?_⟩
  ·intro e;have:(qa8 l).length=0:=by simpa [qab] using congrArg List.length e
   rw [qcZ] at this;exact hne (by simp [qab,List.length_eq_zero_iff.1 this])
  ·simp [slId] at hj; simp [Ne.symm hj]
theorem qkR {d:Bool}{mk:Nat}{h:Heap}:WF PR d mk (.fn 106 [] []) [.nils] h λr=>r=⟨.nils,h⟩:=by
 refine WF.go f106 b106 [.tm 2] rfl rfl rfl rfl rfl rfl ?_;unfold b106;simp -dsimp
theorem qc5 {mk id lo len e:Nat}{f:Bool}{h:Heap}:freeze mk h qat (.sl id lo len e f)=cond (Nat.ble mk id) (match qal h (.sl id lo len e false) with|some rows=>(match allM (allM (freeze mk h 15)) rows with|some r=>some (.slR r false)|none=>none)|none=>none) none:=rfl
theorem qcL {mk k:Nat}{h:Heap}:∀l:List Int,allM (allM (freeze mk h (k+1))) (qab l)=some (qab l)
 | []=>rfl
 | x::l=>by
  have:=qcL (mk:=mk) (k:=k) (h:=h) l;simp only [qab] at this;have e:freeze mk h (k+1) (.int .i64 x)=some (.int .i64 x):=rfl;simp only [qab,List.map_cons,allM,e,this]
def slOf (l:List Int):Sl Int:=if l=[] then .nil else .of l
@[simp] theorem quV (l:List Int):(slOf l).l=l:=by unfold slOf; split<;>simp_all
theorem qAF {l:List Int}:dd l=[]↔l=[]:=by
 constructor
 ·intro h;cases hl:l with
  | nil=>rfl
  | cons x r =>
   have key:∀i,0<i->ddUp l i≠[]:=by
    intro i;induction i with
    | zero=>omega
    | succ i ih =>
     intro _ e;simp only [ddUp] at e;split at e
     ·simp at e
     ·rename_i hc;exact ih (by omega) e
   exact absurd h (key _ (by simp [hl]))
 ·rintro rfl; rfl
theorem qqg {d:Bool}{mk m0:Nat}{h:Heap}{v:V}{l:List Int}(hO:Own h m0 v 1 (qab l)) (h0:mk<=m0) (hl:l.length<1000000000) :
  WF PR d mk (.fn 106 [] []) [v] h λr=>r.h.n=h.n/\(∀j,slId v≠some j->r.h.get j=h.get j)/\(∀n,n<=m0->freeze n r.h qat r.v=some ((slOf (dd l)).enc qaM)) /\
   ((r.v=.nils/\l=[])\/∃id f L,v=.sl id 0 l.length 1 false/\r.v=.sl id 0 (dd l).length 1 f/\r.h.get id=some (.rows (qab (dd l++L)))):=by
 rcases hO with ⟨rfl,e⟩|⟨id,rfl,hid,hmi,hlt,hne⟩
 ·have:l=[]:=by simpa [qab] using e
  subst this;refine W.mono qkR ?_;rintro r rfl;exact⟨rfl,λ_ _=>rfl,λ_ _=>rfl,.inl ⟨rfl,rfl⟩⟩
 ·have hlen:(qab l).length=l.length:=by simp
  rw [hlen];refine W.mono (qh5 hid (by omega) hl) ?_;rintro⟨v,h'⟩ ⟨c1,c2,⟨f,rfl⟩,L,c4⟩;simp only at c1 c2 c4;refine⟨c1,λj hj=>c2 j (by simp [slId] at hj; omega),λn hn=>?_,.inr ⟨id,f,L,rfl,rfl,c4⟩⟩;have hne':l≠[]:=λe=>hne (by simp [e,qab]);have hdd:dd l≠[]:=λe=>hne' (qAF.1 e);have hni:n<=id:=by omega
  have hr:qal h' (.sl id 0 (dd l).length 1 false)=some (qab (dd l)):=by
   simp [qal,c4,qab]
  rw [qc5,hr];simp only [qcL,qa3,hni,decide_true,cond];simp [slOf,hdd,Sl.enc,qab,qaM]
def OwnJ (h:Heap) (mk:Nat) (v:V) (esz:Nat) (rows:List (List V)):Prop :=
  (v=.nils/\rows=[])\/∃id L,v=.sl id 0 rows.length esz false/\h.get id=some (.rows (rows++L))/\mk<=id/\id<h.n
theorem qkr {h : Heap} {mk m0 esz bytes : Nat} {v : V} {rows xs : List (List V)} (hO : OwnJ h m0 v esz rows) (h0 : mk ≤ m0) (hx : ∀ x ∈ xs, x.length = esz ∧ ones x = true) (hn : rows.length + xs.length < 4294967296) (hb : bytes < 1024) (hm : m0 ≤ h.n) :
    ∃v' h',qaj mk h esz bytes v xs=some ⟨v',h'⟩/\OwnJ h' m0 v' esz (rows++xs)/\h.n<=h'.n/\(∀j,j<m0->h'.get j=h.get j):=by
  cases xs with
  | nil =>
    refine⟨v,h,?_,by simpa using hO,Jac _,λ_ _=>rfl⟩;rcases hO with ⟨rfl,_⟩|⟨id,L,rfl,_⟩<;>rfl
  | cons x xs =>
    have h1:=qe0 λy hy=>(hx y hy).2;have h2:=(hx x (by simp)).1;have hn':rows.length+(xs.length+1)<4294967296:=by simpa using hn
    rcases hO with ⟨rfl,rfl⟩|⟨id,L,rfl,hid,hmi,hlt⟩
    · refine⟨.sl h.n 0 (x::xs).length esz false,h.push (.rows (x::xs)),?_,.inr ⟨h.n,[],by simp,by simp,hm,by simp⟩,by simp,λj hj=>by simp; omega⟩
      simp at hn;simp [qaj,qal,qaI,hb,h2,h1,hn]
    · refine⟨.sl h.n 0 (rows.length+(x::xs).length) esz false,(h.kill id).push (.rows (rows++x::xs)),?_,.inr ⟨h.n,[],by simp,by simp,hm,by simp⟩,by simp,λj hj=>by rw [qBq,qBG,Jaa (by omega),qBr,Jaa (by omega)]⟩
      have hmi':mk<=id:=by omega
      have hr:qal h (.sl id 0 rows.length esz false)=some rows:=by simp [qal,hid]
      simp [qaj,qaI,hr,hb,h2,h1,hmi',hn']
theorem OwnJ.ext {h h':Heap}{mk esz:Nat}{v:V}{rows:List (List V)}(hO:OwnJ h mk v esz rows) (hk:∀j,mk<=j->j<h.n->h'.get j=h.get j) (hn:h.n<=h'.n):OwnJ h' mk v esz rows:=by
  rcases hO with h1|⟨id,L,h1,h2,h3,h4⟩
  · exact .inl h1
  · exact .inr ⟨id,L,h1,by rw [hk id h3 h4,h2],h3,by omega⟩
@[simp] theorem P_cap_nil {x : Opd} {tm : Tm} : (qas (.cap x)).run tm = (match x.ev tm with
    | .nils=>some (.int .i64 0)
    | .sl _ _ n _ f=>cond f (some (.int .i64 (.ofNat n))) none
    | .slR r f=>cond f (some (.int .i64 (.ofNat r.length))) none
    | _=>none):=(rfl)
def qlY (zero:List V) (bytes:Nat) (s:V) (n:Int) (h:Heap):Option VH:=match n with
  | .ofNat m=>cond (Nat.blt 0 m&&qaI m bytes)
    (match s with
    | .nils=>some ⟨.sl h.n 0 m zero.length false,h.push (.rows (List.replicate m zero))⟩
    | _=>none) none
  | _=>none
@[simp] theorem W_appendZ {zero:List V}{bytes mk:Nat}{s n:Opd}{tm:Tm}{h:Heap}:(qay (.appendZ zero bytes s n)).run mk tm h=(match n.ev tm with|.int _ m=>qlY zero bytes (s.ev tm) m h|_=>none):=by
  simp only [qay];cases n.ev tm with
  | int k m=>cases m<;>rfl
  | _=>rfl
theorem qk0 {zero:List V}{bytes m:Nat}{h:Heap}(h0:0<m) (h1:m<4294967296) (hb:bytes<1024):qlY zero bytes .nils (m:Int) h=some ⟨.sl h.n 0 m zero.length false,h.push (.rows (List.replicate m zero))⟩:=by
  show cond (Nat.blt 0 m&&qaI m bytes) _ none=_;simp [qaI,h0,h1,hb]
@[simp] theorem qrg {e : Nat} {k : KCut} {tm : Tm} : qaT e k tm .nils = (match k.run 0 true tm with
    | some _=>some .nils
    | none=>none):=(rfl)
def qe8 (zero:List V) (esz bytes:Nat):IC :=
  (.seq (.ops [i 4 (.p (.mov (.c .nils)))])
  (.seq (.seq (.ops [i 5 (.p (.mov (.t 1))),i 6 (.p (.bin .lss (.t 5) (.c (.int .i64 0))))])
    (.cond (.t 6)
     (.ops [i 7 (.p (.mki 1 (.c (.str [99,97,110,110,111,116,32,98,101,32,110,101,103,97,116,105,118,101])))),n (.bad)])
     .skip))
   (.seq (.seq (.ops [i 8 (.p (.mov (.t 1))),i 9 (.p (.mov (.t 0))),i 10 (.p (.cap (.t 9))),i 11 (.p (.mov (.t 0))),i 12 (.r (.len .sl (.t 11))),i 13 (.p (.bin .sub (.t 10) (.t 12))),i 14 (.p (.bin .sub (.t 8) (.t 13))),i 1 (.p (.mov (.t 14)))])
     (.seq (.ops [i 15 (.p (.mov (.t 1))),i 16 (.p (.bin .gtr (.t 15) (.c (.int .i64 0))))])
      (.cond (.t 16)
       (.ops [i 17 (.p (.mov (.t 0))),i 18 (.p (.mov (.t 0))),i 19 (.p (.cap (.t 18))),i 20 (.p (.slice esz (.t 17) none (some (.t 19)) none)),i 21 (.p (.mov (.t 1))),i 22 (.w (.appendZ zero bytes (.t 20) (.t 21))),i 23 (.p (.mov (.t 0))),i 24 (.r (.len .sl (.t 23))),i 25 (.p (.slice esz (.t 22) none (some (.t 24)) none)),i 0 (.p (.mov (.t 25)))])
       .skip)))
    (.seq (.ops [i 26 (.p (.mov (.t 0))),i 4 (.p (.mov (.t 26)))])
     .ret))))
def qmO (zero:List V) (esz bytes:Nat):IFn:=⟨false,27,[.tm 4],qe8 zero esz bytes⟩
theorem qr3 {f esz bytes k : Nat} {zero : List V} {d : Bool} {mk : Nat} {h : Heap} (hF : PR.fn f = some (qmO zero esz bytes)) (hp : PR.prim f = none) (hz : zero.length = esz) (hb : bytes < 1024) (hk : k < 4294967296) (hm : mk ≤ h.n) :
    WF PR d mk (.fn f [] []) [.nils,.int .i64 k] h λr=>OwnJ r.h h.n r.v esz []/\h.n<=r.h.n/\∀j,j<h.n->r.h.get j=h.get j:=by
  refine WF.fn hp hF rfl (Nat.le_of_ble_eq_true rfl) ?_;refine qef (qe8 zero esz bytes) [.tm 4] rfl rfl ?_;unfold qe8;have e1:¬((k:Int)<0):=by omega
  have e2:fw .i64 (0-0)=0:=rfl;have e3:fw .i64 ((k:Int)-0)=k:=by rw [fw64 (by omega) (by omega)]; omega
  have e4:fw .i64 (k:Int)=k:=fw64 (by omega) (by omega);have e5:fw .i64 0=0:=rfl;simp -dsimp [e1,e2,e3,e4,e5];rw [qaa];refine⟨λhc=>?_,λhc=>?_⟩
  · simp at hc
    have b0:bnd 0 0=some 0:=rfl;have b1:bnd 0 k=some 0:=qaY (n:=0) (by omega) (by omega);simp -dsimp [b0,b1,qdl,qk0 hc hk hb,hz];refine⟨.inr ⟨h.n,List.replicate k zero,by simp,by simp,Jac _,by simp⟩,λj hj=>?_⟩;intro e; omega
  · simp -dsimp
    exact .inl ⟨rfl,rfl⟩
def qc7 (esz bytes f:Nat):IC :=
  (.seq (.ops [i 2 (.p (.mov (.c .nils)))])
  (.seq (.ops [i 3 (.p (.mov (.c (.int .i64 0))))])
   (.seq (.seq (.ops [i 9 (.p (.mov (.t 0))),i 10 (.r (.len .sl (.t 9))),i 11 (.p (.mov (.c (.int .i64 0))))])
     (.block 0
      (.loop
       (.seq (.ops [i 12 (.p (.bin .lss (.t 11) (.t 10)))])
        (.seq (.cond (.t 12)
          .skip
          (.exit 0))
         (.seq (.block 1
           (.seq (.ops [i 13 (.p (.iaddr 1 (.t 9) (.t 11))),i 14 (.r (.load none (.t 13))),i 5 (.p (.mov (.t 14)))])
            (.seq (.ops [i 15 (.p (.mov (.t 3))),i 16 (.p (.mov (.t 5))),i 17 (.r (.len .sl (.t 16))),i 18 (.p (.bin .add (.t 15) (.t 17))),i 3 (.p (.mov (.t 18)))])
             (.seq (.ops [i 19 (.p (.mov (.t 3))),i 20 (.p (.bin .lss (.t 19) (.c (.int .i64 0))))])
              (.cond (.t 20)
               (.ops [i 21 (.p (.mki 1 (.c (.str [108,101,110,32,111,117,116,32,111,102,32,114,97,110,103,101])))),n (.bad)])
               .skip)))))
          (.ops [i 22 (.p (.bin .add (.t 11) (.c (.int .i64 1)))),i 11 (.p (.mov (.t 22)))])))))))
    (.seq (.ops [i 23 (.p (.mov (.t 3))),i 24 (.call (.dir f) [(.c .nils),(.t 23)] false),i 6 (.p (.mov (.t 24)))])
     (.seq (.seq (.ops [i 25 (.p (.mov (.t 0))),i 26 (.r (.len .sl (.t 25))),i 27 (.p (.mov (.c (.int .i64 0))))])
       (.block 2
        (.loop
         (.seq (.ops [i 28 (.p (.bin .lss (.t 27) (.t 26)))])
          (.seq (.cond (.t 28)
            .skip
            (.exit 2))
           (.seq (.block 3
             (.seq (.ops [i 29 (.p (.iaddr 1 (.t 25) (.t 27))),i 30 (.r (.load none (.t 29))),i 8 (.p (.mov (.t 30)))])
              (.ops [i 31 (.p (.mov (.t 6))),i 32 (.p (.mov (.t 8))),i 33 (.w (.append esz bytes (.t 31) (.t 32))),i 6 (.p (.mov (.t 33)))])))
            (.ops [i 34 (.p (.bin .add (.t 27) (.c (.int .i64 1)))),i 27 (.p (.mov (.t 34)))])))))))
      (.seq (.ops [i 35 (.p (.mov (.t 6))),i 2 (.p (.mov (.t 35)))])
       .ret))))))
def qkP (pure:Bool) (esz bytes f:Nat):IFn:=⟨pure,36,[.tm 2],qc7 esz bytes f⟩
theorem shapes:Pr.b135=qc7 3 40 164/\Pr.b164=qe8 [.int .i64 0,.nils,.int .i64 0] 3 40/\Pr.b193=qc7 2 16 218/\Pr.b218=qe8 [.int .i64 0,.int .i64 0] 2 16:=⟨rfl,rfl,rfl,rfl⟩
def qbt {α : Type} [Inhabited α] (ls:List (Sl α)):Nat->List α
  | 0=>[]
  | i+1=>qbt ls i++(lat ls i).l
theorem qhi {α : Type} [Inhabited α] {enc : α → List V} {f esz bytes : Nat} {zero : List V} {d : Bool} {mk : Nat} {h : Heap} {v : V} {ls : List (Sl α)} {Q : VH → Prop} (hF : PR.fn f = some (qmO zero esz bytes)) (hp : PR.prim f = none) (hz : zero.length = esz) (hb : bytes < 1024) (hm : mk ≤ h.n)
    (henc:∀a,(enc a).length=esz/\ones (enc a)=true) (hlen:∀h,lenV .sl v h=some (.int .i64 ls.length)) (hget:∀i:Int,0<=i->i<ls.length->∃p,qaw 1 v (.int .i64 i)=some p/\∀h,qcp none p h=some ((lat ls i.toNat).enc enc))
    (hsm:ls.length<1000000) (hsum:∀i,i<=ls.length->(qbt ls i).length<1000000000)
    (hQ:∀v' h',OwnJ h' h.n v' esz ((qbt ls ls.length).map enc)->h.n<=h'.n->(∀j,j<h.n->h'.get j=h.get j)->Q ⟨v',h'⟩) :
    wbody PR d mk (qkP true esz bytes f) [v] h Q:=by
  refine qef (qc7 esz bytes f) [.tm 2] rfl rfl ?_;unfold qc7;simp -dsimp [hlen];refine qaf (λk st=>∃i:Int,0<=i/\(k:Int)=ls.length-i/\(gK 11).run st.tm=.int .i64 i/\(gK 3).run st.tm=.int .i64 (qbt ls i.toNat).length/\st.h=h/\st.defs=[]) ls.length ⟨0,by omega,by omega,by simp,by simp [qbt],rfl,rfl⟩ ?_;rintro k ⟨tm,h1,defs,round⟩ ⟨i,hi,hk,h11,h3,rfl,rfl⟩ hK;have h0:=hK 0 rfl;have h9:=hK 9 rfl;have h10:=hK 10 rfl;simp at h0 h9 h10 h11 h3;clear hK;simp -dsimp [h10,h11];rw [qaa];refine⟨λhc=>?_,λhc=>?_⟩
  · simp at hc
    obtain⟨p,p1,p2⟩:=hget i hi hc;have hs:=hsum (i.toNat+1) (by omega);rw [qbt,Jao] at hs;have e3:¬(((qbt ls i.toNat).length:Int)+((lat ls i.toNat).l.length:Int)<0):=by omega
    have e1':fw .i64 (((qbt ls i.toNat).length:Int)+(lat ls i.toNat).l.length)=((qbt ls i.toNat).length:Int)+(lat ls i.toNat).l.length:=fw64 (by omega) (by omega);simp -dsimp [h9,h11,h3,p1,p2,e1',e3,fw64 (n:=i+1) (by omega) (by omega)];refine qah.intro (k-1) (by omega) ⟨i+1,by omega,by omega,by simp,?_,rfl,rfl⟩;rw [show (i+1).toNat=i.toNat+1 by omega,qbt]; simp
  · simp at hc
    have hc':decide (i<(ls.length:Int))=false:=by simpa using hc
    have hi2:qbt ls i.toNat=qbt ls ls.length:=by
      by_cases e:i.toNat=ls.length
      · rw [e]
      · have:(k:Int)<0:=by omega
        omega
    simp -dsimp [hc',h3];refine WFS.by (qr3 hF hp hz hb (by have:=hsum ls.length (Jac _); rw [hi2]; omega) hm) ?_
    rintro v2 h2 ⟨hO,hn2,hk2⟩;simp -dsimp [h0,hlen];refine qaf (λk st=>∃i:Int,0<=i/\(k:Int)=ls.length-i/\(gK 27).run st.tm=.int .i64 i/\OwnJ st.h h1.n ((gK 6).run st.tm) esz ((qbt ls i.toNat).map enc)/\h1.n<=st.h.n/\(∀j,j<h1.n->st.h.get j=h1.get j)/\st.defs=[]) ls.length ⟨0,by omega,by omega,by simp,by simpa [qbt] using hO,hn2,hk2,rfl⟩ ?_;rintro k3 ⟨tm3,h4,defs,round⟩ ⟨j,hj,hk3,h27,hO3,hn3,hkk3,rfl⟩ hK;have h25:=hK 25 rfl;have h26:=hK 26 rfl;simp at h25 h26 h27 hO3 hn3 hkk3;clear hK;simp -dsimp [h26,h27];rw [qaa];refine⟨λhd=>?_,λhd=>?_⟩
    · simp at hd
      obtain⟨p,p1,p2⟩:=hget j hj hd;have hs:=hsum (j.toNat+1) (by omega);rw [qbt,Jao] at hs;simp -dsimp [h25,h27,p1,p2];refine qBC ?_;rw [qaE (xs:=(lat ls j.toNat).l.map enc) (by simp)];obtain⟨v',h5,w1,w2,w3,w4⟩:=qkr (mk:=mk) (bytes:=bytes) (xs:=(lat ls j.toNat).l.map enc) hO3 hm (λx hx=>by obtain⟨a,_,rfl⟩:=Jak.1 hx; exact henc a) (by simp; omega) hb hn3;simp only [ev_t,qgb,Nat.reduceEqDiff,if_false,if_true];refine⟨_,w1,?_⟩;simp -dsimp [h27,fw64 (n:=j+1) (by omega) (by omega)];refine qah.intro (k3-1) (by omega) ⟨j+1,by omega,by omega,by simp,?_,by simp; omega,λq hq=>by rw [w4 q hq,hkk3 q hq],rfl⟩;rw [show (j+1).toNat=j.toNat+1 by omega,qbt]; simpa using w2
    · simp at hd
      have hd':decide (j<(ls.length:Int))=false:=by simpa using hd
      have hj2:j.toNat=ls.length:=by
        by_cases e:j.toNat=ls.length
        · exact e
        · omega
      rw [hj2] at hO3;simp -dsimp [hd'];exact hQ _ _ (by simpa using hO3) hn3 hkk3
def rgOk (l:List Rg) (i:Nat):Bool :=
 !(decide ((lat l i).lo<0)||decide ((lat l i).hi<(lat l i).lo)||decide (1114111<(lat l i).hi)||(decide (0<i)&&decide ((lat l i).lo-1<=(lat l (i-1)).hi)))
def qeg (l:List Rg):Nat->Bool
 | 0=>true
 | i+1=>qeg l i&&rgOk l i
def qji (l:List Rg):Bool:=qeg l l.length
theorem qjh {l:List Rg}{i:Nat}(h:qeg l i=false):∀{j:Nat},i<=j->qeg l j=false:=by
 intro j hj;induction j with
 | zero=>rw [Nat.le_zero.1 hj] at h; exact h
 | succ j ih =>
  by_cases e:i=j+1
  ·rw [e] at h; exact h
  ·simp [qeg,ih (by omega)]
theorem qnM (s:Sl Rg) (hs:s.l.length<1000000000) {d:Bool}{mk:Nat}{h:Heap}:WF PR d mk (.fn 58 [] []) [s.enc Rg.cells] h λr=>r=⟨.bool (qji s.l),h⟩:=by
 refine qBt f58 b58 [.tm 2] rfl rfl rfl rfl rfl rfl ?_;unfold b58;simp -dsimp;refine qaf (λk st=>∃(i:Int),0<=i/\(k:Int)=s.l.length-i/\qeg s.l i.toNat=true/\(gK 7).run st.tm=.int .i64 i/\h.n<=st.h.n/\st.defs=[]) s.l.length ⟨0,by simp [qeg]⟩ ?_;rintro k ⟨tm,h',defs,round⟩ ⟨i,hi,hk,hx,h7,hn,rfl⟩ hK;have h0:=hK 0 rfl;have h5:=hK 5 rfl;have h6:=hK 6 rfl;simp at h0 h5 h6 h7 hn;clear hK;simp -dsimp [h6,h7];rw [qaa];refine⟨λhl=>?_,λhl=>?_⟩
 ·simp at hl;have hbad:rgOk s.l i.toNat=false->qji s.l=false:=λe=>qjh (i:=i.toNat+1) (by simp [qeg,e]) (by omega);have hgood:rgOk s.l i.toNat=true->qeg s.l (i+1).toNat=true:=λe=>by
   rw [show (i+1).toNat=i.toNat+1 by omega]; simp [qeg,e,hx]
  have hf:fw .i64 (i+1)=i+1:=fw64 (by omega) (by omega);simp -dsimp [h0,h5,h6,h7,hl,hi,hn,Rg.cells];rw [Gd_f];refine⟨λhb1=>?_,λhb1=>?_⟩
  ·simp -dsimp [hb1];rw [Gd_f];refine⟨λhb2=>?_,λhb2=>?_⟩
   ·simp -dsimp [hb2];rw [Gd_f];refine⟨λhb3=>?_,λhb3=>?_⟩
    ·simp -dsimp [hb3];rw [Gd_t];refine⟨λhb4=>?_,λhb4=>?_⟩
     ·simp -dsimp [hb4];simp at hb1 hb2 hb3 hb4;simp -dsimp [h0,fw64 (n:=(lat s.l i.toNat).lo-1) (by omega) (by omega),fw64 (n:=i-1) (by omega) (by omega),qe7 (k:=.i64) (n:=i-1) (s:=s) (by omega) (by omega),Rg.cells];rw [qaa];refine⟨λhb5=>?_,λhb5=>?_⟩
      ·have:=hbad (by cases hk:rgOk s.l i.toNat with|false=>rfl|true=>simp [rgOk] at hk hb5; omega);simp -dsimp [this]
      ·simp -dsimp [h7,hf];simp at hb5;exact qah.intro (k-1) (by omega) ⟨i+1,by omega,by omega,hgood (by simp [rgOk]; omega),by simp; omega⟩
     ·simp -dsimp [hb4,h7,hf];simp at hb1 hb2 hb3 hb4;exact qah.intro (k-1) (by omega) ⟨i+1,by omega,by omega,hgood (by simp [rgOk]; omega),by simp; omega⟩
    ·have:=hbad (by cases hk:rgOk s.l i.toNat with|false=>rfl|true=>simp [rgOk] at hk hb3; omega);simp -dsimp [hb3,this]
   ·have:=hbad (by cases hk:rgOk s.l i.toNat with|false=>rfl|true=>simp [rgOk] at hk hb2; omega);simp -dsimp [hb2,this]
  ·have:=hbad (by cases hk:rgOk s.l i.toNat with|false=>rfl|true=>simp [rgOk] at hk hb1; omega);simp -dsimp [hb1,this]
 ·simp at hl;have hl':decide (i<(s.l.length:Int))=false:=by simpa using hl
  have:qji s.l=true:=by
   cases hm:qji s.l with
   | true=>rfl
   | false=>rw [qjh hm (j:=i.toNat) (by omega)] at hx; exact hx
  simp -dsimp [hl',this]
theorem qph (s:Sy) (r:Rg) {d:Bool}{mk id:Nat}{h:Heap}(hid:h.get id=some (.rows [s.cells])) (hlt:id<h.n):WF PR d mk (.fn 90 [] [.ptr id 0 0]) [.agg r.cells] h λv=>v=⟨.bool (decide (s.kind=0)&&decide (255<r.hi)),h⟩:=by
 refine qBt f90 b90 [.tm 3] rfl rfl rfl rfl rfl rfl ?_;unfold b90;have e:¬id=h.n:=by omega
 simp -dsimp [hid,e,Sy.cells,Rg.cells];rw [Gd_t];refine⟨λhb1=>?_,λhb1=>?_⟩
 ·simp -dsimp [hb1]
 ·simp -dsimp [hb1]
def setB (s:Sy):Bool:=decide (s.n=0) && !(s.r.l.any λr=>decide (s.kind=0)&&decide (255<r.hi))&&qji s.r.l
theorem qqJ (s:Sy) (hs:s.r.l.length<1000000000) {d:Bool}{mk:Nat}{h:Heap}:WF PR d mk (.fn 55 [] []) [.agg s.cells] h λv=>v=⟨.bool (setB s),h⟩:=by
 refine qBt f55 b55 [.tm 2] rfl rfl rfl rfl rfl rfl ?_;unfold b55;simp -dsimp [Sy.cells];refine WFS.by (qf5 (f:=130) (g:=89) (esz:=2) (ld:=some 2) (arg:=λr=>.agg r.cells) (p:=λr=>decide (s.kind=0)&&decide (255<r.hi)) rfl rfl rfl rfl (λ_=>rfl) (λ_=>rfl) hs λr _=>qph s r (by simp [Sy.cells]) (by simp)) ?_
 intro v h' e;cases e;simp -dsimp;rw [Gd_t];refine⟨λhb1=>?_,λhb1=>?_⟩
 ·simp -dsimp [hb1];rw [Gd_t];refine⟨λhb2=>?_,λhb2=>?_⟩
  ·simp -dsimp [hb2];refine WFS.by (qnM s.r hs) ?_
   intro v h' e;cases e;have:setB s=qji s.r.l:=by simp only [setB,hb1,hb2]; rfl
   simp -dsimp [this]
  ·have:setB s=false:=by simp only [setB,hb1,hb2]; rfl
   simp -dsimp [hb2,this]
 ·have:setB s=false:=by simp only [setB,hb1]; rfl
  simp -dsimp [hb1,this]
def badB (many:Int) (s:Sy):Bool :=
 if s.kind=0\/s.kind=1 then !setB s else if s.kind=2 then decide (s.n<0)||decide (many<=s.n)||decide (0<s.r.l.length) else true
theorem bad_ok (s:Sy) (many:Int) (hs:s.r.l.length<1000000000) {d:Bool}{mk id:Nat}{h:Heap}(hid:h.get id=some (.rows [[.int .i64 many]])) (hlt:id<h.n):WF PR d mk (.fn 54 [] [.ptr id 0 0]) [.agg s.cells] h λv=>v=⟨.bool (badB many s),h⟩:=by
 refine qBt f54 b54 [.tm 3] rfl rfl rfl rfl rfl rfl ?_;unfold b54;have e:¬id=h.n:=by omega
 simp -dsimp [hid,e,Sy.cells];have key:(s.kind=0\/s.kind=1)->badB many s = !setB s:=λe=>by simp [badB,e]
 rw [qaa];refine⟨λhb1=>?_,λhb1=>?_⟩
 ·simp -dsimp [hb1];have hb1':s.kind=0:=by simpa using hb1
  refine WFS.by (qqJ s hs) ?_
  intro v h' e;cases e;simp -dsimp [key (.inl hb1')]
 ·simp -dsimp [hb1];have hb1':¬s.kind=0:=by simpa using hb1
  rw [qaa];refine⟨λhb2=>?_,λhb2=>?_⟩
  ·simp -dsimp [hb2];have hb2':s.kind=1:=by simpa using hb2
   refine WFS.by (qqJ s hs) ?_
   intro v h' e;cases e;simp -dsimp [key (.inr hb2')]
  ·simp -dsimp [hb2];have hb2':¬s.kind=1:=by simpa using hb2
   rw [qaa];refine⟨λhb3=>?_,λhb3=>?_⟩
   ·simp -dsimp [hb3];have hb3':s.kind=2:=by simpa using hb3
    have key:badB many s=(decide (s.n<0)||decide (many<=s.n)||decide (0<s.r.l.length)):=by simp [badB,hb3']
    rw [Gd_f];refine⟨λhb4=>?_,λhb4=>?_⟩
    ·simp -dsimp [hb4,hid,e];rw [Gd_f];refine⟨λhb5=>?_,λhb5=>?_⟩
     ·simp -dsimp [hb5];rw [key,hb4,hb5]; simp
     ·simp -dsimp [hb5];rw [key,hb5]; simp
    ·simp -dsimp [hb4];rw [key,hb4]; simp
   ·simp -dsimp [hb3];have hb3':¬s.kind=2:=by simpa using hb3
    simp [badB,hb1',hb2',hb3']
def oddB (many:Int) (a:Sl Sy):Bool:=decide (40<(a.l.length:Int))||a.l.any (badB many)
theorem odd_ok (a:Sl Sy) (many:Int) (hs:a.l.length<1000000000) (hs2:∀s∈a.l,s.r.l.length<1000000000) {d:Bool}{mk id id2:Nat}{h:Heap}(hid:h.get id=some (.rows [[.fn 54 [] [.ptr id2 0 0]]])) (hid2:h.get id2=some (.rows [[.int .i64 many]])) (hlt:id<h.n) (hlt2:id2<h.n) :
  WF PR d mk (.fn 56 [] [.ptr id 0 0]) [a.enc Sy.cells] h λv=>v=⟨.bool (oddB many a),h⟩:=by
 refine qBt f56 b56 [.tm 3] rfl rfl rfl rfl rfl rfl ?_;unfold b56;simp -dsimp;rw [Gd_f];refine⟨λhb1=>?_,λhb1=>?_⟩
 ·simp -dsimp [hb1,hid];refine WFS.by (qf5 (f:=91) (g:=57) (esz:=3) (ld:=some 3) (arg:=λs=>.agg s.cells) (p:=badB many) rfl rfl rfl rfl (λ_=>rfl) (λ_=>rfl) hs λs hm=>bad_ok s many (hs2 s hm) hid2 hlt2) ?_
  intro v h' e;cases e;simp -dsimp [oddB];simp at hb1; intro h; omega
 ·simp -dsimp [hb1];simp only [oddB,hb1]; rfl
end Go.Abs

