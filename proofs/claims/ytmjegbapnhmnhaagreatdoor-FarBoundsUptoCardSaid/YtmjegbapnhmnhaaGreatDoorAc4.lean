/- What the program's functions come to, by the evaluator's rules; the intermediate code. -/
import Derived.Test.YtmjegbapnhmnhaaGreatDoorAc3
set_option linter.unusedSimpArgs false
set_option linter.unusedVariables false
namespace Go.Abs
open Go Pr
theorem qfH:∀(s:List Rg) (b:List UInt8) (k:Nat),qbE s (b.take k)=min (qbE s b) k
 | [],b,k=>by simp [qbE]
 | r::s,[],k=>by simp [qbE]
 | r::s,c::b,0=>by simp [qbE]
 | r::s,c::b,k+1=>by
  simp only [List.take_succ_cons,qbE];split
  ·rw [qfH s b k]; omega
  ·omega
theorem qzG:∀(l:List (Sl Rg)) (b:List UInt8) (k:Nat),qzu l (b.take k)=min (qzu l b) k
 | [],b,k=>by simp [qzu]
 | s::l,b,k=>by simp only [qzu,qfH,qzG l b k]; omega
theorem qzD:∀(l:List (Sl Rg)) (b:List UInt8),qax l b≤qzu l b
 | [],b=>by simp [qax]
 | s::l,b=>by
  have:=qzD l b;simp only [qax,qzu];split<;>omega
def qpV (c:UInt8):Nat:=if c.toNat<128 then 1 else if c.toNat<224 then 2 else if c.toNat<240 then 3 else 4
def Lead (s:Sl Rg):Prop:=∀b,qbE s.l b=s.l.length→∃c b',b=c::b'∧s.l.length=qpV c
theorem qhM {a b:List Int}:∀{n:Nat},0<n→∃t,qiw a b n=⟨lat a 0,lat b 0⟩::t
 | 0,h=>by omega
 | 1,_=>⟨[],rfl⟩
 | n+2,_=>by
  obtain⟨t,e⟩:=qhM (a:=a) (b:=b) (n:=n+1) (by omega);exact⟨t++[⟨lat a (n+1),lat b (n+1)⟩],by rw [qiw,e]; rfl⟩
theorem qlD {x:Int}(h:mayI x=true):lat (putS x).l 0=qcv (qbB x)+x / p2 (6 * (qbB x-1)):=by
 simp only [putS,h,if_true,l_of,putL,lat]; rfl
theorem qmk {i:Nat}{x:Rg}(h:InR (qbs i) x):Lead (qee x):=by
 intro b hb;obtain⟨h1,h2,h3⟩:=h;have a1:=qg0 (i:=i) (x:=x.lo) h1 (by omega);have a2:=qg0 (i:=i) (x:=x.hi) (by omega) h3;have l1:=qit (i:=i) (x:=x.lo) h1 (by omega);have hl:(qee x).l.length=qdg i+1:=by simp [qee,oneL,qe1,l1]
 obtain⟨t,ht⟩:=qhM (a:=(putS x.lo).l) (b:=(putS x.hi).l) (n:=(putS x.lo).l.length) (by omega);have hs:(qee x).l=⟨lat (putS x.lo).l 0,lat (putS x.hi).l 0⟩::t:=by simp [qee,oneL,ht]
 rw [hl];cases b with
 | nil=>rw [hs] at hb; simp [qbE] at hb
 | cons c b =>
  refine⟨c,b,rfl,?_⟩;rw [hs] at hb;have hin:inB ⟨lat (putS x.lo).l 0,lat (putS x.hi).l 0⟩ c=true:=by
   cases hq:inB ⟨lat (putS x.lo).l 0,lat (putS x.hi).l 0⟩ c with
   | true=>rfl
   | false=>simp [qbE,hq] at hb
  rw [qlD a1.1,qlD a2.1,a1.2,a2.2] at hin;simp only [inB,Bool.and_eq_true,decide_eq_true_eq] at hin;obtain⟨q1,q2⟩:=hin;have e0:p2 0=1:=rfl;have e6:p2 6=64:=rfl;have e12:p2 12=4096:=rfl;have e18:p2 18=262144:=rfl;unfold qbs at h1 h3;unfold qdg at q1 q2 ⊢;unfold qpV;split at h1
  ·rename_i h; subst h; simp [qcv,e0] at q1 q2 h1 h3 ⊢; split<;>(try split)<;>(try split)<;>omega
  ·rename_i h;split at h1
   ·rename_i h'; subst h'; simp [qcv,e6] at q1 q2 h1 h3 ⊢; split<;>(try split)<;>(try split)<;>omega
   ·rename_i h';split at h1
    ·rename_i h'; subst h'; simp [qcv,e12] at q1 q2 h1 h3 ⊢; split<;>(try split)<;>(try split)<;>omega
    ·rename_i h4;split at h1
     ·rename_i h'; subst h'; simp [qcv,e12] at q1 q2 h1 h3 ⊢; split<;>(try split)<;>(try split)<;>omega
     ·rename_i h5; simp [h,h',h4,h5,qcv,e18] at q1 q2 h1 h3 ⊢; split<;>(try split)<;>(try split)<;>omega
theorem qpK {l:List Rg}{s:Sl Rg}(h:s∈ofL l):Lead s:=by
 have k1:∀r i,s∈qdz r i→Lead s:=by
  intro r i;induction i with
  | zero=>intro h; simp [qdz] at h
  | succ i ih =>
   intro h;rw [qdz,List.mem_append] at h;rcases h with h|h
   ·exact ih h
   ·simp only [ofR,List.mem_map] at h;obtain⟨x,hx,rfl⟩:=h;have hk:=qlG i;exact qmk (i:=i) (qhE hk.1 (λr' hr'=>qqF hk.1 hk.2.2 hr') hx)
 have k2:∀j,s∈ofUp (qgL l) j→Lead s:=by
  intro j;induction j with
  | zero=>intro h; simp [ofUp] at h
  | succ j ih =>
   intro h;rw [ofUp,List.mem_append] at h;rcases h with h|h
   ·exact ih h
   ·exact k1 _ _ h
 exact k2 _ h
theorem qdk:∀{l:List (Sl Rg)}{b:List UInt8},(∀s∈l,Lead s)→0<qax l b→∃c b',b=c::b'∧qax l b=qpV c
 | [],b,_,h=>by simp [qax] at h
 | s::l,b,hl,h=>by
  simp only [qax] at h ⊢;split at h
  ·rename_i hf;rw [if_pos hf];exact hl s (by simp) b hf
  ·rename_i hf;rw [if_neg hf];exact qdk (λs hs=>hl s (by simp [hs])) h
theorem qdj:∀{l:List (Sl Rg)}{b:List UInt8},(∀s∈l,Lead s)→qax l b=0→∀s∈l,qbE s.l b≠s.l.length
 | [],b,_,_=>by simp
 | s::l,b,hl,h=>by
  simp only [qax] at h;intro t ht;split at h
  ·rename_i hf;obtain⟨c,b',_,e⟩:=hl s (by simp) b hf;exfalso; rw [h] at e; revert e; unfold qpV; split<;>(try split)<;>(try split)<;>simp
  ·rename_i hf;rcases List.mem_cons.1 ht with rfl|ht
   ·exact hf
   ·exact qdj (λs hs=>hl s (by simp [hs])) h t ht
theorem qjM {l:List (Sl Rg)}{b:List UInt8}(hl:∀s∈l,Lead s) {s:Sl Rg}(hs:s∈l) (hf:qbE s.l b=s.l.length):0<qax l b:=by
 refine Nat.pos_of_ne_zero λe=>?_;exact qdj hl e s hs hf
theorem qdT:∀{l:List (Sl Rg)}{b:List UInt8},0<qax l b→∃s∈l,qbE s.l b=s.l.length∧qax l b=s.l.length
 | [],b,h=>by simp [qax] at h
 | s::l,b,h=>by
  simp only [qax] at h ⊢;split at h
  ·rename_i hf; rw [if_pos hf]; exact⟨s,by simp,hf,rfl⟩
  ·rename_i hf;rw [if_neg hf];obtain⟨t,ht,h1,h2⟩:=qdT h;exact⟨t,by simp [ht],h1,h2⟩
theorem qiM {l:List (Sl Rg)}{b:List UInt8}(hl:∀s∈l,Lead s) (k:Nat):qax l (b.take k)=if qax l b≤k then qax l b else 0:=by
 by_cases h0:0<qax l (b.take k)
 ·obtain⟨s,hs,h1,h2⟩:=qdT h0;rw [qfH] at h1;have hf:=(qlQ s.l b).1;have h3:qbE s.l b=s.l.length:=by omega
  have h4:=qjM hl hs h3;obtain⟨c,b',e,h5⟩:=qdk hl h4;obtain⟨c',b'',e',h6⟩:=qdk hl h0;have hk:k≠0:=by intro hk; subst hk; simp at e'
  obtain⟨k',rfl⟩:∃k',k=k'+1:=⟨k-1,by omega⟩;rw [e,List.take_succ_cons] at e';injection e' with e1 _;subst e1;rw [if_pos (by omega),h5,h6]
 ·have h0':qax l (b.take k)=0:=by omega
  rw [h0'];split
  ·rename_i hk
   by_cases h4:0<qax l b
   ·exfalso;obtain⟨s,hs,h1,h2⟩:=qdT h4;exact qdj hl h0' s hs (by rw [qfH]; omega)
   ·omega
  ·rfl
section
variable {s:Sy}{w:List UInt8}{n:Nat}{x:Int}
theorem qpW {α : Type} [Inhabited α] {l:List α}{n i:Nat}(h:i<n):lat (l.take n) i=lat l i:=by
 by_cases c:i<l.length
 ·rw [lat_eq (by rw [List.length_take]; omega),lat_eq c,List.getElem_take]
 ·rw [qkB (l:=l.take n) (by rw [List.length_take]; omega),qkB (l:=l) (by omega)]
theorem qkt (hn:n≤w.length):qcH s (w.take n) x=if x<n then qcH s w x else 0:=by
 have hl:(w.take n).length=n:=by rw [List.length_take]; omega
 unfold qcH;rw [hl]
 by_cases c:x<n
 ·rw [if_pos c]
  by_cases c0:0≤x
  ·rw [qpW (by omega)];have:x<(w.length:Int):=by omega
   simp [c,c0,this]
  ·rw [if_neg (by omega),if_neg (by omega)]
 ·rw [if_neg c,if_neg (by omega)]
theorem qmW (hx:0≤x) (h:x≤n):(w.take n).drop x.toNat=(w.drop x.toNat).take (n-x.toNat):=by
 rw [List.drop_take]
theorem qgx {l:List (Sl Rg)}(h0:0≤x) (h1:x≤w.length):qb5 l w x=qax l (w.drop x.toNat):=by
 unfold qb5; rw [if_neg (by omega)]
theorem qzF {l:List (Sl Rg)}(h0:0≤x) (h1:x≤w.length):qzw l w x=qzu l (w.drop x.toNat):=by
 unfold qzw; rw [if_neg (by omega)]
theorem qkx (hn:n≤w.length) (h0:0≤x) (h1:x≤n):qbr s (w.take n) x=if x+qbr s w x≤n then qbr s w x else 0:=by
 have hl:(w.take n).length=n:=by rw [List.length_take]; omega
 unfold qbr
 by_cases c0:s.kind=0
 ·simp only [c0,if_true];rw [qkt hn];have:qcH s w x=0∨qcH s w x=1:=by unfold qcH; split<;>simp
  split<;>split<;>omega
 ·simp only [c0,if_false]
  by_cases c1:s.kind=1
  ·simp only [c1,if_true];unfold qml;rw [qgx h0 (by omega),qgx h0 (by omega),qmW h0 h1,qiM λs hs=>qpK hs]
   by_cases c:qax (ofL s.r.l) (w.drop x.toNat)≤n-x.toNat
   ·rw [if_pos c,if_pos (by omega)]
   ·rw [if_neg c,if_neg (by omega)]; rfl
  ·simp only [c1,if_false];split<;>rfl
theorem qzN (hn:n≤w.length) (h0:0≤x) (h1:x≤n):x+qzv s (w.take n) x=min (x+qzv s w x) n:=by
 have hl:(w.take n).length=n:=by rw [List.length_take]; omega
 unfold qzv
 by_cases c0:s.kind=0
 ·simp only [c0,if_true];rw [qkt hn];have:qcH s w x=0∨qcH s w x=1:=by unfold qcH; split<;>simp
  split<;>omega
 ·simp only [c0,if_false]
  by_cases c1:s.kind=1
  ·simp only [c1,if_true];unfold qzI;rw [qzF h0 (by omega),qzF h0 (by omega),qmW h0 h1,qzG];omega
  ·simp only [c1,if_false]; omega
theorem qzO (h0:0≤x) (h1:x≤w.length):qbr s w x≤qzv s w x:=by
 unfold qbr qzv;split
 ·omega
 ·split
  ·unfold qml qzI;rw [qgx h0 h1,qzF h0 h1];have:=qzD (ofL s.r.l) (w.drop x.toNat);omega
  ·omega
end
section
variable {g:Gr}{w:List UInt8}{n:Nat}
theorem DerL.of_take (hn:n≤w.length) {l:List Sy}{x y:Int}(h:DerL g (w.take n) l x y):DerL g w l x y:=by
 induction h with
 | nil=>exact .nil
 | @term s l x z hk hm h ih =>
  have hr:=qdJ hm;have hl:(w.take n).length=n:=by rw [List.length_take]; omega
  have e:=qkx (s:=s) (w:=w) (n:=n) (x:=x) hn (by omega) (by omega);have e':qbr s (w.take n) x=qbr s w x:=by
   rw [e]; split
   ·rfl
   ·rename_i hc; rw [if_neg hc] at e; omega
  rw [e'] at ih hm;exact .term hk hm ih
 | non hk hn' ha h1 h2 ih1 ih2=>exact .non hk hn' ha ih1 ih2
inductive qzE (g:Gr) (w:List UInt8) (n:Int):List Sy→Int→Prop
 | here {s:Sy}{l:List Sy}{x:Int}(hk:s.kind≠2) (h:x+qzv s w x=n):qzE g w n (s::l) x
 | skipT {s:Sy}{l:List Sy}{x:Int}(hk:s.kind≠2) (hm:0<qbr s w x) (h:qzE g w n l (x+qbr s w x)):qzE g w n (s::l) x
 | skipN {s:Sy}{l:List Sy}{a:Sl Sy}{x y:Int}(hk:s.kind=2) (hn:0≤s.n) (ha:a∈(lat g.p.l s.n.toNat).a.l) (h1:DerL g w a.l x y) (h:qzE g w n l y):qzE g w n (s::l) x
 | into {s:Sy}{l:List Sy}{a:Sl Sy}{x:Int}(hk:s.kind=2) (hn:0≤s.n) (ha:a∈(lat g.p.l s.n.toNat).a.l) (h:qzE g w n a.l x):qzE g w n (s::l) x
theorem DerL.cut (hn:n≤w.length) {l:List Sy}{x y:Int}(h:DerL g w l x y) (h0:0≤x) (h1:x≤n):(y≤n∧DerL g (w.take n) l x y)∨qzE g (w.take n) n l x:=by
 induction h with
 | nil=>exact .inl ⟨h1,.nil⟩
 | @term s l x z hk hm h ih =>
  have e:=qkx (s:=s) (w:=w) (n:=n) (x:=x) hn h0 h1
  by_cases c:x+qbr s w x≤n
  ·rw [if_pos c] at e;rcases ih (by omega) c with ⟨a,b⟩|b
   ·exact .inl ⟨a,.term hk (by omega) (by rw [e]; exact b)⟩
   ·exact .inr (.skipT hk (by omega) (by rw [e]; exact b))
  ·refine .inr (.here hk ?_);have:=qzO (s:=s) (w:=w) (x:=x) h0 (by omega);rw [qzN hn h0 h1]; omega
 | @non s l a x y z hk hn' ha d1 d2 ih1 ih2 =>
  rcases ih1 h0 h1 with ⟨p,q⟩|q
  ·have:=d1.mono;rcases ih2 (by omega) p with ⟨p',q'⟩|q'
   ·exact .inl ⟨p',.non hk hn' ha q q'⟩
   ·exact .inr (.skipN hk hn' ha q q')
  ·exact .inr (.into hk hn' ha q)
theorem qzE.append {w':List UInt8}{n:Int}{l m:List Sy}{x:Int}(h:qzE g w' n l x):qzE g w' n (l++m) x:=by
 induction h with
 | here hk h=>exact .here hk h
 | skipT hk hm h ih=>exact .skipT hk hm ih
 | skipN hk hn ha h1 h ih=>exact .skipN hk hn ha h1 ih
 | into hk hn ha h ih=>exact .into hk hn ha h
theorem qz4 {α : Type} [Inhabited α] {l:List α}{i:Nat}(h:i<l.length):l.take (i+1)=l.take i++[lat l i]:=by
 rw [List.take_add_one,qaz h]; rfl
theorem qzE.cand {w':List UInt8}{n:Int}{l:List Sy}{x:Int}(h:qzE g w' n l x):∀{p:Int × Int}{a:Sl Sy}{i:Nat},Spot g w' p→a∈(lat g.p.l p.1.toNat).a.l→a.l.drop i=l→DerL g w' (a.l.take i) p.2 x→∃q,Spot g w' q∧Cand g w' q n:=by
 have hd:∀{a:List Sy}{i:Nat}{s:Sy}{l:List Sy},a.drop i=s::l→i<a.length∧lat a i=s∧a.drop (i+1)=l:=by
  intro a i s l e;have h1:i<a.length:=by
   by_cases c:i<a.length
   ·exact c
   ·rw [List.drop_eq_nil_of_le (by omega)] at e; cases e
  rw [qbu h1] at e;injection e with e1 e2;exact⟨h1,e1,e2⟩
 induction h with
 | @here s l x hk h =>
  intro p a i hp ha e hD;obtain⟨h1,h2,h3⟩:=hd e;exact⟨p,hp,a,ha,i,h1,by rw [h2]; exact hk,x,hD,by rw [h2,h]⟩
 | @skipT s l x hk hm h ih =>
  intro p a i hp ha e hD;obtain⟨h1,h2,h3⟩:=hd e;refine ih (i:=i+1) hp ha h3 ?_;rw [qz4 h1,h2];exact hD.append (.term hk hm .nil)
 | @skipN s l b x y hk hn hb d1 h ih =>
  intro p a i hp ha e hD;obtain⟨h1,h2,h3⟩:=hd e;refine ih (i:=i+1) hp ha h3 ?_;rw [qz4 h1,h2];exact hD.append (.non hk hn hb d1 .nil)
 | @into s l b x hk hn hb h ih =>
  intro p a i hp ha e hD;obtain⟨h1,h2,h3⟩:=hd e;exact ih (p:=(s.n,x)) (a:=b) (i:=0) (.step hp ⟨a,ha,i,h1,by rw [h2]; exact hk,x,hD,by rw [h2]⟩) hb rfl .nil
theorem Succ.of_take (hn:n≤w.length) {p q:Int × Int}(h:Succ g (w.take n) p q):Succ g w p q:=by
 obtain⟨a,ha,i,hi,hk,y,hd,e⟩:=h;exact⟨a,ha,i,hi,hk,y,hd.of_take hn,e⟩
theorem Spot.of_take (hn:n≤w.length) {p:Int × Int}(h:Spot g (w.take n) p):Spot g w p:=by
 induction h with
 | root=>exact .root
 | step _ h' ih=>exact .step ih (h'.of_take hn)
theorem qz5 (hm:mayB g=true) {w:List UInt8}{p:Int × Int}(h:Spot g w p):InB g w p:=qzZ (w:=⟨.nils,w,0⟩) hm h
theorem qAL (hm:mayB g=true) {w:List UInt8}{p:Int × Int}{c:Int}(hp:Spot g w p) (h:Cand g w p c):0≤c∧c≤w.length:=by
 have hb:=qz5 hm hp;obtain⟨a,ha,i,hi,hk,y,hd,rfl⟩:=h;have:=hd.le hb.2.2.1 hb.2.2.2;have:=hb.2.2.1;have:=qzJ (s:=lat a.l i) (w:=w) (x:=y) (by omega) (by omega);omega
theorem qAv (hm:mayB g=true) {w:List UInt8}{d:Int}(h:qzz g w d):d≤w.length:=by
 rcases h.1 with e|⟨p,c,hp,hc,e⟩
 ·omega
 ·have:=qAL hm hp hc; omega
end
set_option maxRecDepth 10000
theorem qAf {g:Gr}{w:List UInt8}{f f':Int}(h:qzz g w f) (h':qzz g w f'):f=f':=by
 have key:∀{f f':Int},qzz g w f→qzz g w f'→f≤f':=by
  intro f f' h h';rcases h.1 with e|⟨p,c,hp,hc,e⟩
  ·have:=h'.2.1; omega
  ·have:=h'.2.2 p c hp hc; omega
 have:=key h h';have:=key h' h;omega
theorem qz0 {g:Gr}{w:List UInt8}{f f':Int}(h:qzy g w f) (h':qzy g w f'):f=f':=by
 rcases h with ⟨a,b,c⟩|⟨a,b⟩
 ·rcases h' with ⟨a',b',c'⟩|⟨a',b'⟩
  ·exact qAf c c'
  ·exact absurd ⟨a,b⟩ a'
 ·rcases h' with ⟨a',b',c'⟩|⟨a',b'⟩
  ·exact absurd ⟨a',b'⟩ a
  ·omega
noncomputable def qzM (g:Gr) (w:List UInt8):Int:=Classical.epsilon (qzy g w)
theorem qzU {g:Gr}{w:List UInt8}{f:Int}(h:qzy g w f):qzM g w=f:=qz0 (Classical.epsilon_spec ⟨f,h⟩) h
section
variable {g:Gr}(hg:g.Fine) (hr:∀p∈g.p.l,∀a∈p.a.l,∀s∈a.l,s.r.l.length<1500000)
include hg hr
theorem qAg {w:List UInt8}(hw:w.length<1000000000):qzy g w (qzM g w):=by
 obtain⟨l,N,h0,_,_,h3⟩:=qAD hg hr (w:=⟨(Sl.of w).enc qak,w,0⟩) (mk:=0) (h:=⟨0,.e⟩) (.inl ⟨.of w,rfl,rfl⟩) (Nat.zero_le _) hw
 match l,h0,h3 with
 | r::_,_,h3 =>
  obtain⟨_,f,_,hf⟩:=h3 r (by simp);rw [qzU hf]; exact hf
theorem qAq {w:Wd}{d:Bool}{mk:Nat}{h:Heap}(hB:WB h w) (hm:w.m≤h.n) (hw:w.l.length<1000000000) :
  WF PR d mk (.fn 7 [] []) [.agg g.cells,w.v] h λr=>r=⟨.int .i64 (qzM g w.l),h⟩:=by
 refine WF.pureOne (f:=7) (AP:=PR) (F:=f7) (args:=[.agg g.cells,w.v]) (first:=[]) (cap:=[]) rfl rfl rfl (Nat.le_of_ble_eq_true rfl) ?_;refine qef b7 [.tm 4] rfl rfl ?_;unfold b7;have hgc:[Sl.enc Pd.cells g.p,Sl.enc qac g.keys]=g.cells:=rfl;simp -dsimp [Gr.cells];rw [hgc];refine WFS.by (qAj hg hr (h:=h.push (.rows [g.cells])) (hB.keep λi hi=>by rw [Heap.get_push,if_neg (by omega)]) (by simp; omega) hw (by simp)) ?_
 rintro v H ⟨K,E,W,f,rfl,hK,hP⟩;simp only at hK;simp -dsimp [qcT,hK];exact (qzU hP).symm
end
theorem qAa {g:Gr}{w:List UInt8}{f:Int}(h:qzy g w f):0≤f∧f≤w.length:=by
 rcases h with ⟨a,_,c⟩|⟨_,rfl⟩
 ·exact⟨c.2.1,qAv (qc8 a).1 c⟩
 ·omega
section
variable {g:Gr}{w:List UInt8}{L:Look}{k0:Int}
end
section
variable {x:Ev}(hx:EvW x)
include hx
theorem qvT {n k:Int}(n0:0≤n) (k0:0≤k) (k1:k≤x.w.l.length) {a:Sl Sy}(ha:a∈(lat x.g.p.l n.toNat).a.l) {i:Nat}(hi:i<a.l.length) (hk:(lat a.l i).kind=2) {e:En}(he:NowP x.g x.w.l (a.l.take i) k e) :
  muN x.g x.w.l (lat a.l i).n e.1<muN x.g x.w.l n k∧0≤(lat a.l i).n∧(lat a.l i).n<x.g.p.l.length∧0≤e.1∧e.1≤x.w.l.length:=by
 obtain⟨e1,e2,_,e4⟩:=he;have hs:=qcD hx ha (lat a.l i) (qai hi) hk;exact⟨qhQ hx.m hx.c n0 k0 k1 ha hi hk e2 e1 e4,hs.1,hs.2,by omega,e2⟩
end
section
variable {g:Gr}{w:List UInt8}
theorem DerL.front {l:List Sy}{x z:Int}(h:DerL g w l x z) (h0:0≤x) (h1:x≤w.length) (hlt:x<z):∃c,z≤c∧qzE g w c l x:=by
 induction h with
 | nil=>omega
 | @term s l x z hk hm h ih =>
  have hr:=qdJ hm
  by_cases c:x+qbr s w x<z
  ·obtain⟨f,f1,f2⟩:=ih (by omega) (by omega) c;exact⟨f,f1,.skipT hk hm f2⟩
  ·have:=h.mono;have hp:=qzO (s:=s) (w:=w) (x:=x) h0 h1;exact⟨x+qzv s w x,by omega,.here hk rfl⟩
 | @non s l a x y z hk hn ha d1 d2 ih1 ih2 =>
  have m1:=d1.le h0 h1;have m2:=d2.mono
  by_cases c:y<z
  ·obtain⟨f,f1,f2⟩:=ih2 (by omega) (by omega) c;exact⟨f,f1,.skipN hk hn ha d1 f2⟩
  ·obtain⟨f,f1,f2⟩:=ih1 h0 h1 (by omega);exact⟨f,by omega,.into hk hn ha f2⟩
end
def qzt:List UInt8→List UInt8→Nat
 | a::l,b::m=>if a=b then qzt l m+1 else 0
 | _,_=>0
theorem qzL:∀(a b:List UInt8),qzt a b≤a.length∧qzt a b≤b.length∧a.take (qzt a b)=b.take (qzt a b)
 | [],b=>by simp [qzt]
 | a::l,[]=>by simp [qzt]
 | a::l,b::m=>by
  rw [qzt];split
  ·rename_i h;obtain⟨h1,h2,h3⟩:=qzL l m;simp only [List.length_cons,List.take_succ_cons];exact⟨by omega,by omega,by rw [h,h3]⟩
  ·simp
theorem qAs {g:Gr}{w v:List UInt8}(hc:(qcP g).2=0) (hw:w.length≤200) (hv:v.length≤200) (h:Der g v 0 0 v.length) {d:Int}(hd:qzz g w d):(qzt w v:Int)≤d:=by
 have hm:=(qc8 hc).1;obtain⟨c1,c2,c3⟩:=qzL w v;obtain⟨c,hcc⟩:∃c,qzt w v=c:=⟨_,rfl⟩;rw [hcc] at c1 c2 c3 ⊢;obtain⟨a,ha,hD⟩:=h
 by_cases z:c=0
 ·have:=hd.2.1; omega
 have hfar:∃e,(c:Int)≤e∧∃q,Spot g (w.take c) q∧Cand g (w.take c) q e:=by
  rw [c3]
  by_cases e:c<v.length
  ·rcases hD.cut (n:=c) (by omega) (Int.le_refl 0) (by omega) with ⟨q,_⟩|q
   ·omega
   ·obtain⟨q,hq,hc⟩:=q.cand (p:=(0,0)) (i:=0) .root ha rfl .nil;exact⟨c,Int.le_refl _,q,hq,hc⟩
  ·obtain⟨e,e1,e2⟩:=hD.front (Int.le_refl 0) (by omega) (by omega);obtain⟨q,hq,hc⟩:=e2.cand (p:=(0,0)) (i:=0) .root ha rfl .nil;rw [List.take_of_length_le (by omega)];exact⟨e,by omega,q,hq,hc⟩
 obtain⟨e,e1,q,hq,hq2⟩:=hfar;have hT:(w.take c).length=c:=by rw [List.length_take]; omega
 obtain⟨b,hb,i,hi,hk,y,hdy,rfl⟩:=hq2;have hin:=qz5 hm hq;have hle:=hdy.le hin.2.2.1 hin.2.2.2;rw [hT] at hle;have hp:=qzN (s:=lat b.l i) (w:=w) (n:=c) (x:=y) (by omega) (by have:=hin.2.2.1; omega) hle.2;have:=hd.2.2 q _ (hq.of_take (n:=c) (by omega)) ⟨b,hb,i,hi,hk,y,hdy.of_take (n:=c) (by omega),rfl⟩;omega
theorem qzX {g:Gr}{w:List UInt8}{N:Look}{k:Int}(h0:0≤k):∀(m l:List Sy) (now:List En),(∀s∈m,s.kind=2→0≤s.n)→(∀i,i<m.length→(lat m i).kind=2→∀e,NowP g w (l++m.take i) k e→∀f∈N (lat m i).n e.1,EndP g w (lat m i).n e.1 f∧Der g w (lat m i).n e.1 f.1) →
  (∀e∈now,NowP g w l k e∧DerL g w l k e.1)→∀e∈qaA N w m now,DerL g w (l++m) k e.1
 | [],l,now,_,_,h=>by simpa [qaA] using λa b hab=>(h (a,b) hab).2
 | s::m,l,now,hs,hN,h=>by
  rw [qaA];have:=qzX (N:=N) h0 m (l++[s]) (qbG (now.flatMap (qa2 N w s))) (λt ht=>hs t (by simp [ht])) (λi hi hk e he=>hN (i+1) (by simp; omega) (by simpa [lat] using hk) e (by simpa using he)) (qbN λf hf=>by
   obtain⟨e,he,hfe⟩:=List.mem_flatMap.1 hf;obtain⟨h1,h2⟩:=h e he;have hN0:s.kind=2→∀f∈N s.n e.1,EndP g w s.n e.1 f∧Der g w s.n e.1 f.1:=λhk=>hN 0 (by simp) (by simpa [lat] using hk) e (by simpa using h1);refine⟨qeM h0 (hs s (by simp)) (λhk f hf=>(hN0 hk f hf).1) h1 hfe,h2.append ?_⟩;unfold qa2 at hfe;split at hfe
   ·rename_i hk;obtain⟨f',hf',rfl⟩:=List.mem_map.1 hfe;obtain⟨a,ha,hd⟩:=(hN0 hk f' hf').2;exact .non hk (hs s (by simp) hk) ha hd .nil
   ·rename_i hk;split at hfe
    ·rename_i hm;rw [List.mem_singleton] at hfe;subst hfe;exact .term hk hm .nil
    ·cases hfe)
  simpa using this
theorem qAx {x:Ev}(hx:EvW x) (hh:x.heal=false):∀(m:Nat) (n k r:Int),muN x.g x.w.l n k<m→0≤n→n<x.g.p.l.length→0≤k→k≤x.w.l.length→(∀e∈(qaL x n k r).1,Der x.g x.w.l n k e.1)∧∀e∈(qaL x n k r).2,Der x.g x.w.l n k e.1:=by
 intro m;induction m with
 | zero=>intro _ _ _ h; omega
 | succ m ih =>
  intro n k r hmu n0 n1 k0 k1;have h1:∀e∈(qaL x n k r).1,Der x.g x.w.l n k e.1:=by
   rw [qbD hx n0 n1 k0 k1];unfold qcG;refine qbN λe he=>?_;obtain⟨a,ha,hea⟩:=List.mem_flatMap.1 he;refine⟨a,ha,?_⟩;have:=qzX (g:=x.g) (N:=qaN x (refV x n k r)) k0 a.l [] [(k,0)] (λs hs hk=>(qcD hx ha s hs hk).1) (λi hi hk e he f hf=>by
    obtain⟨q1,q2,q3,q4,q5⟩:=qvT hx n0 k0 k1 ha hi hk (by simpa using he);exact⟨(qbf hx q2 q3 q4 q5).2 f hf,(ih _ _ _ (by omega) q2 q3 q4 q5).2 f hf⟩) (by
    intro e he;rw [List.mem_singleton] at he; subst he;exact⟨⟨Int.le_refl _,k1,by simp only; omega,λ_=>.nil⟩,.nil⟩) e hea
   simpa using this
  refine⟨h1,λe he=>?_⟩;rw [qcI hx n0 n1 k0 k1 hh] at he;exact h1 e (qio (List.mem_filter.1 he).1)
theorem qAi {x:Ev}(hh:x.heal=false) {n k r:Int}{e:En}(he:e∈(ofE x n k r).2):Der x.g x.w.l n k e.1∧(qcP x.g).2=0∧x.w.l.length≤200:=by
 unfold ofE at he;split at he
 ·rename_i h;obtain⟨hm,n0,n1,k0,k1⟩:=h;refine⟨(qAx (qbq hm) hh _ n k r (Nat.lt_succ_self _) n0 n1 k0 k1).2 e he,?_⟩;simp only [mayE,Bool.and_eq_true,decide_eq_true_eq] at hm;exact⟨hm.1,hm.2.1⟩
 ·cases he
def wY (x:Ev) (s:Sl UInt8):Ev:=⟨x.g,⟨s.enc qak,s.l,0⟩,x.tab,false⟩
def wZ (x:Ev) (s:Sl UInt8):Ev:=⟨qz2 x.g,⟨s.enc qak,s.l,0⟩,x.tab,false⟩
def qzx (E:List En) (n:Int):Bool:=decide (E≠[])&&decide ((lat E (E.length-1)).1=n)
noncomputable def qzB (x:Ev) (s:Sl UInt8):Bool:=qzx (ofE (wY x s) 0 0 (-1)).2 s.l.length||qzx (ofE (wZ x s) 0 0 (-1)).2 s.l.length
theorem qAB {g g':Gr}(h:qtQ g g') {w:List UInt8}{l:List Sy}{x y:Int}(hd:DerL g' w l x y):DerL g w l x y:=by
 induction hd with
 | nil=>exact .nil
 | term hk hm _ ih=>exact .term hk hm ih
 | non hk hn ha _ _ ih1 ih2=>exact .non hk hn (by rw [←h.a]; exact ha) ih1 ih2
theorem qzV {E:List En}{n:Int}(h:qzx E n=true):∃e∈E,e.1=n:=by
 simp only [qzx,Bool.and_eq_true,decide_eq_true_eq] at h;have hne:=List.length_pos_iff.2 h.1;exact⟨_,qai (by omega),h.2⟩
theorem qzR (g:Gr):qtQ g (qz2 g):=qtj (qAI _)
theorem qAe {x:Ev}{s:Sl UInt8}(h:qzB x s=true):Der x.g s.l 0 0 s.l.length:=by
 simp only [qzB,Bool.or_eq_true] at h;rcases h with h|h
 ·obtain⟨e,he,e1⟩:=qzV h;have:=(qAi (x:=wY x s) rfl he).1;rw [e1] at this; exact this
 ·obtain⟨e,he,e1⟩:=qzV h;have:=(qAi (x:=wZ x s) rfl he).1;rw [e1] at this;obtain⟨a,ha,hd⟩:=this;exact⟨a,by rw [←(qzR x.g).a]; exact ha,qAB (qzR x.g) hd⟩
theorem qAp {x:Ev}(hx:x.Ok):(qz2 x.g).Fine∧∀p∈(qz2 x.g).p.l,∀a∈p.a.l,∀s∈a.l,s.r.l.length<1500000:=by
 have hbl:∀p∈(qz2 x.g).p.l,∃q∈x.g.p.l,p=qs5 q:=λp hp=>by
  have hp':p∈x.g.p.l.map qs5:=by rw [←qAI (x.g.p.l.map qs5)]; exact hp
  obtain⟨q,hq,rfl⟩:=List.mem_map.1 hp';exact⟨q,hq,rfl⟩
 have hg:=hx.g;refine⟨⟨⟨by show (slP (x.g.p.l.map qs5)).l.length<_; rw [qAI,List.length_map]; exact hg.p,λp hp=>?_,λp hp=>?_,λp hp=>?_,λp hp=>?_⟩,λp hp=>?_⟩,λp hp=>?_⟩
 ·obtain⟨q,hq,rfl⟩:=hbl p hp; exact hg.a q hq
 ·obtain⟨q,hq,rfl⟩:=hbl p hp; exact hg.s q hq
 ·obtain⟨q,hq,rfl⟩:=hbl p hp; exact hg.r q hq
 ·obtain⟨q,hq,rfl⟩:=hbl p hp; simp [qs5,Sl.l]
 ·obtain⟨q,hq,rfl⟩:=hbl p hp; exact hg.fr q hq
 ·obtain⟨q,hq,rfl⟩:=hbl p hp; exact hx.r q hq
theorem qAh (x:Ev) (n k r:Int):(ofE x n k r).2.length≤201:=by
 by_cases c:mayE x=true∧0≤n∧n<x.g.p.l.length∧0≤k∧k≤x.w.l.length
 ·rw [qqO c.1 c.2.1 c.2.2.1 c.2.2.2.1 c.2.2.2.2];exact qly c.1 c.2.1 c.2.2.1 c.2.2.2.1 c.2.2.2.2
 ·rw [show ofE x n k r=([],[]) from if_neg c]; simp
section
variable {d:Bool}{mk:Nat}{h:Heap}
theorem qz3 (x:Ev) (hx:x.Ok) (hkl:x.g.keys.l.length<1000000000) (hone:x.w.v.one=true) (hcells:x.w.v.cells=[x.w.v]) (s:Sl UInt8) (hs:s.l.length<1000000) :
  WF PR d mk (.fn 321 [] []) [.agg x.cells,s.enc qak] h λr=>r=⟨.bool (qzB x s),h⟩:=by
 refine WF.po f321 b321 [.tm 4] rfl rfl rfl rfl rfl rfl ?_;unfold b321;have e5:[Sl.enc Pd.cells x.g.p,Sl.enc qac x.g.keys,x.w.v,V.int IntKind.i64 x.tab,V.bool x.heal]=x.cells:=rfl;have hgc:[x.g.p.enc Pd.cells,x.g.keys.enc qac]=x.g.cells:=rfl;have z1:¬h.n=h.n+1:=by omega
 have z2:¬h.n=h.n+2:=by omega
 have z3:¬h.n+1=h.n+2:=by omega
 simp -dsimp [Ev.cells,hone,qbW,z1,z2,z3];rw [hgc];refine WFS.by (qAM x.g hx.g.p) ?_
 intro v h' e;cases e;have hb:(qz2 x.g).cells=[(slP (x.g.p.l.map qs5)).enc Pd.cells,.nils]:=rfl;have hyc:[x.g.p.enc Pd.cells,x.g.keys.enc qac,s.enc qak,V.int .i64 x.tab,V.bool false]=(wY x s).cells:=rfl;have hzc:[(slP (x.g.p.l.map qs5)).enc Pd.cells,V.nils,s.enc qak,V.int .i64 x.tab,V.bool false]=(wZ x s).cells:=rfl;have hS:EvS (wY x s):=⟨hx.g.toSmall,hkl,hs⟩;obtain⟨hF,hR⟩:=qAp hx;have hSz:EvS (wZ x s):=⟨hF.toSmall,show (0:Nat)<1000000000 by decide,hs⟩;have hBy:∀H,WB H (wY x s).w:=λH=>.inl ⟨s,rfl,rfl⟩;have hBz:∀H,WB H (wZ x s).w:=λH=>.inl ⟨s,rfl,rfl⟩;simp -dsimp [hb,z1,z2,z3,qbW];rw [hyc];refine WFS.by (qec (wY x s) hS hx.g hx.r (hBy _) (Nat.zero_le _) 0 0 (-1)) ?_
 intro v h' e;cases e;simp -dsimp [z1,z2,z3];rw [hzc];refine WFS.by (qec (wZ x s) hSz hF hR (hBz _) (Nat.zero_le _) 0 0 (-1)) ?_
 intro v h' e;cases e;have ha:=qAh (wY x s) 0 0 (-1);have hbl:=qAh (wZ x s) 0 0 (-1);have hw:qzB x s=(qzx (ofE (wY x s) 0 0 (-1)).2 s.l.length||qzx (ofE (wZ x s) 0 0 (-1)).2 s.l.length):=rfl;obtain⟨A,hA⟩:∃A,(ofE (wY x s) 0 0 (-1)).2=A:=⟨_,rfl⟩;obtain⟨B,hB⟩:∃B,(ofE (wZ x s) 0 0 (-1)).2=B:=⟨_,rfl⟩;rw [hA] at ha hw ⊢;rw [hB] at hbl hw ⊢;rw [hw];have hlen:∀(E:List En) H,lenV .sl ((slE E).enc qad) H=some (.int .i64 E.length):=λE H=>by simp
 have hia:∀E:List En,E.length≤201→E≠[]→qaw 2 ((slE E).enc qad) (.int .i64 (fw .i64 ((E.length:Int)-1)))=some (.ptrR (qad (lat E (E.length-1))) 0):=λE h1 h2=>by
  have hp:=List.length_pos_iff.2 h2;rw [fw64 (by omega) (by omega)];have:=qap (f:=qad) (s:=slE E) (esz:=2) (k:=.i64) (n:=(E.length:Int)-1) (by omega) (by rw [qjd]; omega) (λ_=>rfl);rw [this,qjd,show ((E.length:Int)-1).toNat=E.length-1 by omega]
 have hlw:∀H,lenV .sl (s.enc qak) H=some (.int .i64 s.l.length):=λH=>by simp
 have hl0:∀E:List En,E≠[]→0<E.length:=λE h=>List.length_pos_iff.2 h;have hB1:qzx B s.l.length=(decide (B≠[])&&decide ((lat B (B.length-1)).1=s.l.length)):=rfl
 by_cases cA:A=[]
 ·have e1:qzx A s.l.length=false:=by simp [qzx,cA]
  rw [e1,Bool.false_or]
  by_cases cB:B=[]
  ·have e2:qzx B s.l.length=false:=by simp [qzx,cB]
   rw [e2];simp -dsimp [hlen,cA,cB]
  ·have e2:qzx B s.l.length=decide ((lat B (B.length-1)).1=s.l.length):=by simp [qzx,cB]
   rw [e2];simp -dsimp [hlen,cA,hl0 B cB,hia B hbl cB,qad,hlw]
 ·have e1:qzx A s.l.length=decide ((lat A (A.length-1)).1=s.l.length):=by simp [qzx,cA]
  rw [e1]
  by_cases dA:(lat A (A.length-1)).1=s.l.length
  ·simp -dsimp [hlen,hl0 A cA,hia A ha cA,qad,hlw,dA]
  ·by_cases cB:B=[]
   ·have e2:qzx B s.l.length=false:=by simp [qzx,cB]
    rw [e2];simp -dsimp [hlen,hl0 A cA,hia A ha cA,qad,hlw,dA,cB]
   ·have e2:qzx B s.l.length=decide ((lat B (B.length-1)).1=s.l.length):=by simp [qzx,cB]
    rw [e2];simp -dsimp [hlen,hl0 A cA,hia A ha cA,qad,hlw,dA,hl0 B cB,hia B hbl cB]
end
theorem qz1 {a b:List UInt8}{n:Nat}(h1:n<a.length) (h2:n<b.length):qzt (a.drop n) (b.drop n)=if lat a n=lat b n then qzt (a.drop (n+1)) (b.drop (n+1))+1 else 0:=by
 rw [qbu h1,qbu h2,qzt]
theorem qzP {a b:List UInt8}{n:Nat}(h:a.length≤n∨b.length≤n):qzt (a.drop n) (b.drop n)=0:=by
 rcases h with h|h
 ·rw [List.drop_eq_nil_of_le h]; rfl
 ·rw [List.drop_eq_nil_of_le h];cases a.drop n<;>rfl
theorem qAm {d:Bool}{mk:Nat}{h:Heap}(s t:Sl UInt8) (hs:s.l.length<1000000) (ht:t.l.length<1000000):WF PR d mk (.fn 322 [] []) [s.enc qak,t.enc qak] h λr=>r=⟨.int .i64 (qzt s.l t.l),h⟩:=by
 refine WF.go f322 b322 [.tm 4] rfl rfl rfl rfl rfl rfl ?_;unfold b322;have hl:∀(u:Sl UInt8) H,lenV .sl (u.enc qak) H=some (.int .i64 u.l.length):=λu H=>by simp
 have hia:∀(u:Sl UInt8) (i:Nat),u.l.length<1000000→i<u.l.length→qaw 1 (u.enc qak) (.int .i64 i)=some (.ptrR (qak (lat u.l i)) 0):=λu i hu hi=>by
  have:=qap (f:=qak) (s:=u) (esz:=1) (k:=.i64) (n:=(i:Int)) (by omega) (by omega) (λ_=>rfl);rw [this]; simp
 simp -dsimp;refine qaf (λm st=>∃i:Nat,i+m=s.l.length∧(gK 5).run st.tm=.int .i64 i∧qzt s.l t.l=i+qzt (s.l.drop i) (t.l.drop i)∧st.h=h∧st.defs=[]) s.l.length ⟨0,by omega,by simp,by simp,rfl,rfl⟩ ?_;rintro m ⟨tm,H,defs,round⟩ ⟨i,hi,t5,hc,rfl,rfl⟩ hK;have t0:=hK 0 rfl;have t1:=hK 1 rfl;simp at t0 t1 t5;clear hK;have hout:qzt (s.l.drop i) (t.l.drop i)=0→(i:Int)=(qzt s.l t.l:Nat):=λh=>by rw [hc,h]; rfl
 by_cases c1:i<s.l.length
 rotate_left
 ·simp -dsimp [t5,t0,t1,hl,c1];exact hout (qzP (.inl (by omega)))
 by_cases c2:i<t.l.length
 rotate_left
 ·simp -dsimp [t5,t0,t1,hl,c1,c2];exact hout (qzP (.inr (by omega)))
 have hst:=qz1 c1 c2
 by_cases c3:lat s.l i=lat t.l i
 ·rw [if_pos c3] at hst;simp -dsimp [t5,t0,t1,hl,c1,c2,hia s i hs c1,hia t i ht c2,qak,c3,fw64 (n:=(i:Int)+1) (by omega) (by omega)];exact qah.intro (m-1) (by omega) ⟨i+1,by omega,by simp,by omega,rfl,rfl⟩
 ·rw [if_neg c3] at hst;have c4:¬((lat s.l i).toNat:Int)=((lat t.l i).toNat:Int):=λe=>c3 (UInt8.toNat_inj.1 (by omega));simp -dsimp [t5,t0,t1,hl,c1,c2,hia s i hs c1,hia t i ht c2,qak,c3,c4];exact hout hst
theorem farBounds_ok (hA:Awake 5) (x:Ev) (hx:x.Ok) (hkl:x.g.keys.l.length<1000000000) (s:Sl UInt8) (hs:x.w=⟨s.enc qak,s.l,0⟩) (m:Sl UInt8) (hm:m.l.length<1000000000) :
  WF PR false 0 (.fn 308 [] []) [.agg x.cells,m.enc qak] ⟨0,.e⟩ λr=>r.v=.bool true:=by
 refine WF.go f308 b308 [.tm 4] rfl rfl rfl rfl rfl rfl ?_;unfold b308;have hB0:∀H,WB H x.w:=λH=>.inl ⟨s,by rw [hs],by rw [hs]⟩;have hlw:∀H,lenV .sl x.w.v H=some (.int .i64 x.w.l.length):=λH=>(hB0 H).len;have hlm:∀H,lenV .sl (m.enc qak) H=some (.int .i64 m.l.length):=λH=>by simp
 have hxc:[x.g.p.enc Pd.cells,x.g.keys.enc qac,x.w.v,.int .i64 x.tab,.bool x.heal]=x.cells:=rfl;have hgc:[x.g.p.enc Pd.cells,x.g.keys.enc qac]=x.g.cells:=rfl;have hm0:x.w.m=0:=by rw [hs]
 have hv:x.w.v=s.enc qak:=by rw [hs]
 have hwl:x.w.l=s.l:=by rw [hs]
 have hwc:=(hB0 ⟨0,.e⟩).cells;simp -dsimp [-qar];rw [qar];simp -dsimp [Ev.cells,-qar];rw [hxc];obtain⟨h1,hh1⟩:∃h1,(Heap.push ⟨0,.e⟩ (Obj.rows [x.cells]):Heap)=h1:=⟨_,rfl⟩;have g1:h1.get 0=some (.rows [[x.g.p.enc Pd.cells,x.g.keys.enc qac,x.w.v,.int .i64 x.tab,.bool x.heal]]):=by rw [←hh1]; simp; rfl
 have n1:h1.n=1:=by rw [←hh1]; simp
 rw [qar];simp -dsimp [-qar];refine WFS.by (hA _ _ _ (Nat.zero_le _)) ?_
 intro v h' e;cases e;rw [hh1];simp -dsimp [-qar];rw [qar];simp -dsimp [g1,-qar];rw [hxc];refine WFS.by (qe5 x hx.few (hB0 _)) ?_
 rintro v h' ⟨e0,b,e1,hb⟩;simp only at e0 e1;subst e0 e1;cases b with
 | false=>simp -dsimp [g1]
 | true =>
 obtain⟨hp16,hw16⟩:=hb rfl
 by_cases c16:(16:Int)<m.l.length
 ·simp -dsimp [c16,hlm]
 simp -dsimp [c16,hlm,g1];rw [hxc];refine WFS.by (qbJ x hx.g (hB0 _)) ?_
 intro v h' e;cases e;cases hmay:mayE x with
 | false=>simp -dsimp
 | true =>
 have hck:(qcP x.g).2=0:=by
  simp only [mayE,Bool.and_eq_true,decide_eq_true_eq] at hmay;exact hmay.1
 have hP:=qAg hx.g hx.r (w:=x.w.l) hx.w;have hPin:=qAa hP;have hPi:qzz x.g x.w.l (qzM x.g x.w.l):=by
  rcases hP with ⟨_,_,h⟩|⟨h,_⟩
  ·exact h
  ·exact absurd ⟨hck,by omega⟩ h
 have hfar:∀t:Sl UInt8,t.l.length≤16→qzB x t=true→(qzt x.w.l t.l:Int)≤qzM x.g x.w.l:=λt ht h=>qAs hck (by omega) (by omega) (qAe h) hPi;have hown:qzt x.w.l x.w.l=x.w.l.length:=by
  have key:∀l:List UInt8,qzt l l=l.length:=λl=>by
   induction l with
   | nil=>rfl
   | cons a l ih=>rw [qzt,if_pos rfl,ih,List.length_cons]
  exact key _
 obtain⟨dd,hdd⟩:∃dd,qzM x.g x.w.l=dd:=⟨_,rfl⟩;rw [hdd] at hPin hfar;simp -dsimp [g1];rw [hgc];refine WFS.by (qAq hx.g hx.r (hB0 _) (by omega) hx.w) ?_
 intro v h' e;cases e;rw [hdd];have d0:¬dd<0:=by omega
 have d1:¬(x.w.l.length:Int)<dd:=by omega
 simp -dsimp [d0,d1,g1,hlw];rw [hxc];refine WFS.by (qz3 x hx hkl hwc.2 hwc.1 m (by omega)) ?_
 intro v h' e;cases e;simp -dsimp [g1];rw [hxc,hv];refine WFS.by (qz3 x hx hkl hwc.2 hwc.1 s (by rw [←hwl]; omega)) ?_
 intro v h' e;cases e;have hc:=λdq mk h=>qAm (d:=dq) (mk:=mk) (h:=h) s m (by rw [←hwl]; omega) (by omega);have hfs:qzB x s=true→dd=x.w.l.length:=λh=>by
  have h2:=hfar s (by rw [←hwl]; omega) h;rw [←hwl,hown] at h2;omega
 have hfm:=hfar m (by omega);have hls:(s.l.length:Int)=x.w.l.length:=by rw [hwl]
 cases hb1:qzB x m with
 | false =>
  cases hb2:qzB x s with
  | false=>simp -dsimp [hb1]
  | true=>simp -dsimp [hb1,g1,hlw,hv,hls,hfs hb2]
 | true =>
  have hle:=hfm hb1;rw [hwl] at hle;simp -dsimp [g1,hv];refine WFS.by (hc _ _ _) ?_
  intro v h' e;cases e;cases hb2:qzB x s with
  | false=>simp -dsimp [hle]
  | true =>
   have hle2:qzt s.l m.l≤x.w.l.length:=by have:=hfs hb2; omega
   simp -dsimp [hle,hle2,g1,hlw,hv,hls,hfs hb2]
end Go.Abs

