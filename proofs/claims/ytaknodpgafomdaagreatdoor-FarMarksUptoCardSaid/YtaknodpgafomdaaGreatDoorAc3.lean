/- What the program's functions come to, by the evaluator's rules; the intermediate code. -/
import Derived.Test.YtaknodpgafomdaaGreatDoorAc2
set_option linter.unusedSimpArgs false
set_option linter.unusedVariables false
namespace Go.Abs
open Go Pr
set_option maxRecDepth 10000
def qcH (s:Sy) (w:List UInt8) (k:Int):Int:=if 0<=k/\k<w.length/\hasB s.r.l (lat w k.toNat).toNat=true then 1 else 0
def qml (s:Sy) (w:List UInt8) (k:Int):Int:=qb5 (ofL s.r.l) w k
def qzI (s:Sy) (w:List UInt8) (k:Int):Int:=qzw (ofL s.r.l) w k
def qbr (s:Sy) (w:List UInt8) (k:Int):Int:=if s.kind=0 then qcH s w k else if s.kind=1 then qml s w k else 0
def qzv (s:Sy) (w:List UInt8) (k:Int):Int:=if s.kind=0 then qcH s w k else if s.kind=1 then qzI s w k else 0
theorem qrN {l:List Rg}(h:l.length<1500000):(ofL l).length<4000000000:=by
 have h1:=qiA (qgL l) (qgL l).length;have h2:(qgL l).length<=1+2 * l.length:=qeV _ _;unfold ofL; omega
theorem qrM {l:List Rg}{x:Sl Rg}(hx:x∈ofL l):x.l.length<1000000000:=by
 obtain⟨r,rfl⟩:=qiz hx;have:=qll r.lo;simp [qee,oneL,qe1]; omega
section
variable {d:Bool}{mk:Nat}{h:Heap}
theorem qpM (s:Sy) {w:Wd}(hB:WB h w) (hm:w.m<=h.n) (k:Int) (hs:s.r.l.length<1500000) (hw:w.l.length<1000000000):WF PR d mk (.fn 107 [] []) [.agg s.cells,w.v,.int .i64 k] h λx=>x=⟨.int .i64 (qcH s w.l k),h⟩:=by
 refine qBt f107 b107 [.tm 6] rfl rfl rfl rfl rfl rfl ?_;unfold b107;have hlw:∀H,lenV .sl w.v H=some (.int .i64 w.l.length):=λH=>hB.len;simp -dsimp [Sy.cells];rw [Gd_t];refine⟨λh1=>?_,λh1=>?_⟩
 ·simp at h1;simp -dsimp [h1,hlw];rw [Gd_t];refine⟨λh2=>?_,λh2=>?_⟩
  ·simp at h2;have hc8:=(lat w.l k.toNat).toNat_lt;have hBp:WB (h.push (.rows [[V.int IntKind.i64 s.kind,Sl.enc Rg.cells s.r,V.int IntKind.i64 s.n]])) w:=hB.keep λi hi=>by rw [qBq,Jaa (by omega)]
   obtain⟨pp,hp1,hp2⟩:=hBp.at h1 h2;simp -dsimp [h2,h1,hp1,hp2,fw64 (n:=((lat w.l k.toNat).toNat:Int)) (by omega) (by omega)];refine WFS.by (qq2 s.r (by omega) _) ?_
   intro v h3 e;cases e;simp -dsimp;rw [qaa];refine⟨λh4=>?_,λh4=>?_⟩
   ·simp -dsimp [qcH,h1,h2,h4]
   ·simp -dsimp [qcH,h1,h2,h4]
  ·simp at h2;have h2':¬k<(w.l.length:Int):=by omega
   simp -dsimp [h2',qcH]
 ·simp at h1;have h1':¬0<=k:=by omega
  simp -dsimp [h1',qcH]
theorem qrm (s:Sy) {w:Wd}(hB:WB h w) (hm:w.m<=h.n) (k:Int) (hs:s.r.l.length<1500000) (hw:w.l.length<1000000000):WF PR d mk (.fn 141 [] []) [.agg s.cells,w.v,.int .i64 k] h λx=>x=⟨.int .i64 (qml s w.l k),h⟩:=by
 refine qBt f141 b141 [.tm 6] rfl rfl rfl rfl rfl rfl ?_;unfold b141;simp -dsimp [Sy.cells];refine WFS.by (of_ok s.r hs) ?_
 intro v h3 e;cases e;simp -dsimp;refine WFS.by (qpR (slQ (ofL s.r.l)) (hB.keep (h':=h.push (.rows [[V.int IntKind.i64 s.kind,Sl.enc Rg.cells s.r,V.int IntKind.i64 s.n]])) λi hi=>by rw [qBq,Jaa (by omega)]) k (by simpa using qrN hs) (λx hx=>qrM (by simpa using hx)) hw) ?_
 intro v h3 e;cases e;simp -dsimp [qml]
theorem qrO (s:Sy) (v w:V):WF PR d mk (.fn 109 [] []) [.agg s.cells,v,w] h λx=>x=⟨.int .i64 0,h⟩:=by
 refine qBt f109 b109 [.tm 6] rfl rfl rfl rfl rfl rfl ?_;unfold b109;simp -dsimp [Sy.cells]
@[simp] theorem qsX {len esz i r o:Nat}{k:IntKind}{n:Int}:qez len esz (.ptr i r o) (.int k n)=(match idx (.int k n) len with|some j=>some (.ptr i r (o+j * esz))|none=>none):=(rfl)
theorem qAE (f0 f1:Nat) (p0 p1:Sy->List UInt8->Int->Int) (s:Sy) {w:Wd}(hB:WB h w) (hm:w.m<=h.n) (k:Int) (hs:s.r.l.length<1500000) (hw:w.l.length<1000000000)
  (h0:∀d mk h,WB h w->w.m<=h.n->WF PR d mk (.fn f0 [] []) [.agg s.cells,w.v,.int .i64 k] h λx=>x=⟨.int .i64 (p0 s w.l k),h⟩)
  (h1:∀d mk h,WB h w->w.m<=h.n->WF PR d mk (.fn f1 [] []) [.agg s.cells,w.v,.int .i64 k] h λx=>x=⟨.int .i64 (p1 s w.l k),h⟩) :
  WF PR d mk (.fn 110 [] []) [.agg [.fn f0 [] [],.fn f1 [] [],.fn 109 [] []],.agg s.cells,w.v,.int .i64 k] h λx=>x=⟨.int .i64 (if s.kind=0 then p0 s w.l k else if s.kind=1 then p1 s w.l k else 0),h⟩:=by
 refine qBt f110 b110 [.tm 8] rfl rfl rfl rfl rfl rfl ?_;unfold b110;have i0:idx (.int .i64 0) 3=some 0:=rfl;have i1:idx (.int .i64 1) 3=some 1:=rfl;have i2:idx (.int .i64 2) 3=some 2:=rfl;have hsc:[V.int IntKind.i64 s.kind,Sl.enc Rg.cells s.r,V.int IntKind.i64 s.n]=s.cells:=rfl;have hk2:∀o o':Obj,WB ((h.push o).push o') w/\w.m<=((h.push o).push o').n:=λo o'=>⟨hB.keep λi hi=>by rw [qBq,Jaa (by simp; omega),qBq,Jaa (by omega)],by simp; omega⟩;simp -dsimp [Sy.cells,i2];rw [Gd_f];refine⟨λhb=>?_,λhb=>?_⟩
 ·simp at hb;simp -dsimp [hb];rw [qaa];refine⟨λhc=>?_,λhc=>?_⟩
  ·simp at hc;simp -dsimp [hc,i1];rw [<-hc,hsc];refine WFS.by (h1 _ _ _ (hk2 _ _).1 (hk2 _ _).2) ?_
   intro v h3 e;cases e;simp -dsimp [hc,hb]
  ·simp at hc;simp -dsimp;rw [hsc];refine WFS.by (qrO s _ _) ?_
   intro v h3 e;cases e;simp -dsimp [hc,hb]
 ·simp at hb;simp -dsimp [hb,i0];rw [<-hb,hsc];refine WFS.by (h0 _ _ _ (hk2 _ _).1 (hk2 _ _).2) ?_
  intro v h3 e;cases e;simp -dsimp [hb]
theorem qnn (s:Sy) {w:Wd}(hB:WB h w) (hm:w.m<=h.n) (k:Int) (hs:s.r.l.length<1500000) (hw:w.l.length<1000000000):WF PR d mk (.fn 104 [] []) [.agg s.cells,w.v,.int .i64 k] h λx=>x=⟨.tup [.int .i64 (qbr s w.l k),.bool (decide (0<qbr s w.l k))],h⟩:=by
 refine qBt f104 b104 [.tm 6,.tm 7] rfl rfl rfl rfl rfl rfl ?_;unfold b104;have hsc:[V.int IntKind.i64 s.kind,Sl.enc Rg.cells s.r,V.int IntKind.i64 s.n]=s.cells:=rfl;simp -dsimp [Sy.cells];rw [hsc];have hp:∀o:Obj,WB (h.push o) w/\w.m<=(h.push o).n:=λo=>⟨hB.keep λi hi=>by rw [qBq,Jaa (by omega)],by simp; omega⟩;refine WFS.by (qAE 107 141 qcH qml s (hp _).1 (hp _).2 k hs hw (λ_ _ _ a b=>qpM s a b k hs hw) (λ_ _ _ a b=>qrm s a b k hs hw)) ?_
 intro v h3 e;cases e;simp -dsimp;exact⟨rfl,Iff.rfl⟩
end
theorem qlQ (s:List Rg) (b:List UInt8):qbE s b<=s.length/\qbE s b<=b.length:=by
 induction s generalizing b with
 | nil=>simp [qbE]
 | cons r s ih =>
  cases b with
  | nil=>simp [qbE]
  | cons c b =>
   have:=ih b;simp only [qbE,List.length_cons];split<;>omega
theorem qg9:∀(l:List (Sl Rg)) (b:List UInt8),qax l b<=b.length
 | [],b=>by simp [qax]
 | s::l,b=>by
  simp only [qax];split
  ·rename_i h; have:=(qlQ s.l b).2; omega
  ·exact qg9 l b
theorem qdJ {s:Sy}{w:List UInt8}{x:Int}(h:0<qbr s w x):0<=x/\x+qbr s w x<=w.length:=by
 unfold qbr at h ⊢;split at h
 ·rename_i hk;rw [Jab hk];unfold qcH at h ⊢;split at h
  ·rename_i hc; rw [Jab hc]; omega
  ·omega
 ·rename_i hk;rw [Jaa hk];split at h
  ·rename_i hk1;rw [Jab hk1];unfold qml qb5 at h ⊢;split at h
   ·omega
   ·rename_i hc;rw [Jaa hc];have:=qg9 (ofL s.r.l) (w.drop x.toNat);rw [List.length_drop] at this;omega
  ·omega
inductive DerL (g:Gr) (w:List UInt8):List Sy->Int->Int->Prop
 | nil {x:Int}:DerL g w [] x x
 | term {s:Sy}{l:List Sy}{x z:Int}(hk:s.kind≠2) (hm:0<qbr s w x) (h:DerL g w l (x+qbr s w x) z):DerL g w (s::l) x z
 | non {s:Sy}{l:List Sy}{a:Sl Sy}{x y z:Int}(hk:s.kind=2) (hn:0<=s.n) (ha:a∈(lat g.p.l s.n.toNat).a.l) (h1:DerL g w a.l x y) (h2:DerL g w l y z):DerL g w (s::l) x z
def Der (g:Gr) (w:List UInt8) (n:Int) (x y:Int):Prop:=∃a∈(lat g.p.l n.toNat).a.l,DerL g w a.l x y
variable {g:Gr}{w:List UInt8}
theorem DerL.mono {l:List Sy}{x y:Int}(h:DerL g w l x y):x<=y/\(x=y\/(0<=x/\y<=w.length)):=by
 induction h with
 | nil=>exact⟨Int.le_refl _,.inl rfl⟩
 | term hk hm h ih=>have:=qdJ hm; omega
 | non hk hn ha h1 h2 ih1 ih2=>omega
theorem DerL.le {l:List Sy}{x y:Int}(h:DerL g w l x y) (h0:0<=x) (h1:x<=w.length):x<=y/\y<=w.length:=by
 have:=h.mono; omega
theorem DerL.append {l m:List Sy}{x y z:Int}(h:DerL g w l x y) (h2:DerL g w m y z):DerL g w (l++m) x z:=by
 induction h with
 | nil=>exact h2
 | term hk hm h ih=>exact .term hk hm (ih h2)
 | non hk hn ha h1 h2' ih1 ih2=>exact .non hk hn ha h1 (ih2 h2)
theorem DerL.split {l m:List Sy}{x z:Int}(h:DerL g w (l++m) x z):∃y,DerL g w l x y/\DerL g w m y z:=by
 induction l generalizing x with
 | nil=>exact⟨x,.nil,h⟩
 | cons s l ih =>
  cases h with
  | term hk hm h =>
   obtain⟨y,a,b⟩:=ih h;exact⟨y,.term hk hm a,b⟩
  | non hk hn ha h1 h2 =>
   obtain⟨y,a,b⟩:=ih h2;exact⟨y,.non hk hn ha h1 a,b⟩
theorem qkB {α : Type} [Inhabited α] {l:List α}{i:Nat}(h:l.length<=i):lat l i=default:=by
 simp [lat,getElem!_neg,h]
theorem qfh {n:Int}{a:Sl Sy}(h:a∈(lat g.p.l n.toNat).a.l):n.toNat<g.p.l.length:=by
 by_cases c:n.toNat<g.p.l.length
 ·exact c
 ·rw [qkB (by omega)] at h;simp [default,instInhabitedPd] at h
theorem DerL.null {T:List (Int × Bool)}(hT:qcQ g T g.p.l.length) {l:List Sy}{x y:Int}(h:DerL g w l x y):x=y->qeZ T l=true:=by
 induction h with
 | nil=>intro _; rfl
 | term hk hm h ih=>intro e; have:=h.mono; omega
 | @non s l a x y z hk hn ha h1 h2 ih1 ih2 =>
  intro e;have m1:=h1.mono;have m2:=h2.mono;have q1:=ih1 (by omega);have q2:=ih2 (by omega);have hr:=qfh ha;have hb:isB T (s.n.toNat:Int)=true:=hT _ hr (by simp only [canB,List.any_eq_true]; exact⟨a,ha,q1⟩);rw [show ((s.n.toNat:Nat):Int)=s.n by omega] at hb;simp only [qeZ,qeY,List.any_cons,Bool.not_or,Jad] at q2 ⊢;exact⟨by simp [notN,hk,hb],q2⟩
theorem qnY {l:List Sy}(h:∀T:List (Int × Bool),qcQ g T g.p.l.length->qeZ T l=true):qeY (nulB g) l=true:=by
 simp only [qeY,Bool.not_eq_true',List.any_eq_false,notN,Bool.or_eq_true,Jai,Bool.not_eq_true',not_or];intro s hs;have key:∀T:List (Int × Bool),qcQ g T g.p.l.length->s.kind=2/\isB T s.n=true:=λT hT=>by
  have:=h T hT;simp only [qeZ,qeY,Bool.not_eq_true',List.any_eq_false,notN,Bool.or_eq_true,Jai,Bool.not_eq_true',not_or] at this;have:=this s hs;exact⟨Decidable.not_not.1 this.1,by simpa using this.2⟩
 refine⟨?_,?_⟩
 ·rw [Decidable.not_not]
  by_cases hE:∃T:List (Int × Bool),qcQ g T g.p.l.length
  ·obtain⟨T,hT⟩:=hE; exact (key T hT).1
  ·exfalso;refine hE ⟨(List.range g.p.l.length).map λk:Nat=>((k:Int),true),λk hk _=>?_⟩;have look:∀(l:List Nat),k∈l->isB (l.map λk:Nat=>((k:Int),true)) (k:Int)=true:=by
    intro l;induction l with
    | nil=>intro h; cases h
    | cons a l ih =>
     intro h;simp only [List.map_cons,isB,qaS];split
     ·rfl
     ·rename_i hne;rcases Jag.1 h with e|h
      ·exact absurd (by rw [e]) hne
      ·exact ih h
   exact look _ (by simpa using hk)
 ·have:nulB g s.n=true:=by
   simp only [nulB,Jai];exact λT hT=>(key T hT).2
  simp [this]
theorem qgN {N:Int->Bool}{l:List Sy}{i:Nat}(hk:(lat l i).kind=2) (hn:qeY N (l.take i)=true):∀{j:Nat},i<j->(lat l i).n∈qa6 N l j
 | 0,h=>by omega
 | j+1,h=>by
  rw [qa6,Jaj]
  by_cases e:i=j
  ·subst e; right; simp [hk,hn]
  ·exact .inl (qgN hk hn (by omega))
theorem qfU {N:Int->Bool}{as:List (Sl Sy)}{i:Nat}{x:Int}(hx:x∈qa6 N (lat as i).l (lat as i).l.length):∀{j:Nat},i<j->x∈qaQ N as j
 | 0,h=>by omega
 | j+1,h=>by
  rw [qaQ,Jaj]
  by_cases e:i=j
  ·subst e; exact .inr hx
  ·exact .inl (qfU hx (by omega))
theorem qrU {n x:Int}{a:Sl Sy}{i:Nat}(hm:mayB g=true) (h0:0<=n) (ha:a∈(lat g.p.l n.toNat).a.l) (hi:i<a.l.length) (hk:(lat a.l i).kind=2) (hd:DerL g w (a.l.take i) x x):(lat a.l i).n∈qaq g n:=by
 have hr:=qfh ha;rw [qaq,Jab ⟨hm,h0,by omega⟩,qjw,qc2,qfD];rw [List.mem_iff_getElem] at ha;obtain⟨j,hj,e⟩:=ha;rw [<-qBu hj] at e;have ho:=qnY λT hT=>hd.null hT rfl;refine qfU (i:=j) ?_ hj;rw [e];exact qgN hk ho hi
theorem qdZ.front {a b c:Int}(h:qdZ g b c) (hb:b∈qaq g a):qdZ g a c:=by
 induction h with
 | one h=>exact .more (.one hb) h
 | more _ h' ih=>exact .more ih h'
noncomputable def qnR (g:Gr) (n:Int):Nat:=((List.range g.p.l.length).filter λm:Nat=>qcO g n m).length
theorem qpy {a b:Int}(hb:b∈qaq g a) (h0:0<=b) (h1:b<g.p.l.length) (hac:¬qdZ g b b):qnR g b<qnR g a:=by
 refine qhc (λm _ hm=>?_) ⟨b.toNat,by simp; omega,?_,?_⟩
 ·simp only [qcO,Jai] at hm ⊢;exact hm.front hb
 ·simp only [qcO,Jai];rw [show ((b.toNat:Nat):Int)=b by omega];exact .one hb
 ·simp only [qcO,Jaq];rw [show ((b.toNat:Nat):Int)=b by omega];exact hac
theorem qlj (n:Int):qnR g n<=g.p.l.length:=by
 have:=List.length_filter_le (λm:Nat=>qcO g n m) (List.range g.p.l.length);simpa [qnR] using this
noncomputable def muN (g:Gr) (w:List UInt8) (n x:Int):Nat:=(w.length-x.toNat) * 61+qnR g n
theorem qiD {α : Type}{p : α->Bool}:∀{l:List α}{i:Int},0<=i->idxP p l i = -1->∀a∈l,p a=false
 | [],_,_,_=>by simp
 | a::l,i,hi,h=>by
  simp only [idxP] at h;intro b hb;split at h
  ·omega
  ·rename_i hp;rcases Jag.1 hb with rfl|hb
   ·simpa using hp
   ·exact qiD (by omega) h b hb
theorem qjY (hm:mayB g=true) (hc:qfg g = -1) {n:Int}(h0:0<=n) (h1:n<g.p.l.length):¬qdZ g n n:=by
 rw [qfg,Jab hm] at hc;have:=qiD (by omega) hc n.toNat (by simp; omega);simp only [qcO,Jaq] at this;rw [show ((n.toNat:Nat):Int)=n by omega] at this;exact this
theorem mu_lt (hm:mayB g=true) (hc:qfg g = -1) {n x y:Int}{a:Sl Sy}{i:Nat}(h0:0<=n) (hx0:0<=x) (hx1:x<=w.length) (ha:a∈(lat g.p.l n.toNat).a.l) (hi:i<a.l.length) (hk:(lat a.l i).kind=2) (hd:DerL g w (a.l.take i) x y):muN g w (lat a.l i).n y<muN g w n x:=by
 have hok:=qaF hm;have hr:=qfh ha;have hsy:=(hok.sy _ (qai hr) a ha _ (qai hi)).non hk;have hl:=hd.le hx0 hx1;have r1:=qlj (g:=g) (lat a.l i).n;have hp:=hok.p;unfold muN
 by_cases e:x=y
 ·subst e;have:=qpy (qrU hm h0 ha hi hk hd) hsy.1 hsy.2.1 (qjY hm hc hsy.1 hsy.2.1);omega
 ·have h2:w.length-y.toNat+1<=w.length-x.toNat:=by omega
  have h3:(w.length-y.toNat+1) * 61<=(w.length-x.toNat) * 61:=Nat.mul_le_mul_right _ h2;omega
def qzC (p:Int × Int):V:=.agg [.int .i64 p.1,.int .i64 p.2]
def qAc (l:List Int):V:=(slOf l).enc qaM
theorem qzH (a b:Int × Int):qcV (qzC a) (qzC b)=some (decide (a=b)):=by
 obtain⟨a1,a2⟩:=a;obtain⟨b1,b2⟩:=b;simp [qcV,qzC,eqL,eq1]
theorem qzS (a:Int × Int):qbX (.agg [.int,.int]) (qzC a)=true:=rfl
def qAr (g:Gr) (w:List UInt8) (p:Int × Int) (l:List Int):Prop:=l.Pairwise (· < ·)/\∀y,y∈l↔Der g w p.1 p.2 y
def EndsOk (g:Gr) (w:List UInt8) (E:Nat) (h:Heap):Prop:=∃es c S,h.get E=some (.map es c)/\MapR qzC qAc es S/\∀p l,qaS p S=some l->qAr g w p l
structure LkS (g:Gr) (w:Wd) (K E W:Nat) (far:Int) (h:Heap):Prop where
 k:h.get K=some (.rows [[g.p.enc Pd.cells,g.keys.enc qac,w.v,.map E,.map W,.int .i64 far]])
 e:EndsOk g w.l E h
 lk:K<h.n
 le:E<h.n
 lw:W<h.n
 ke:K≠E
 kw:K≠W
 ew:E≠W
 wb:WB h w
 mq:w.m<=K
 me:w.m<=E
 mw:w.m<=W
def Fr1 (E:Nat) (h h':Heap):Prop:=h.n<=h'.n/\∀i,i<h.n->i≠E->h'.get i=h.get i
theorem Fr1.refl {E:Nat}{h:Heap}:Fr1 E h h:=⟨Jac _,λ_ _ _=>rfl⟩
theorem Fr1.trans {E:Nat}{h h' h'':Heap}(a:Fr1 E h h') (b:Fr1 E h' h''):Fr1 E h h'' :=
 ⟨Jaf a.1 b.1,λi hi hE=>by rw [b.2 i (by have:=a.1; omega) hE,a.2 i hi hE]⟩
theorem LkS.keep {g:Gr}{w:Wd}{K E W:Nat}{far:Int}{h h':Heap}(hL:LkS g w K E W far h) (hn:h.n<=h'.n) (hk:∀i,i<h.n->h'.get i=h.get i):LkS g w K E W far h':=by
 obtain⟨k,⟨es,c,S,e1,e2⟩,lk,le,lw,ke,kw,ew,wb,mk,me,mw⟩:=hL;exact⟨by rw [hk _ lk,k],⟨es,c,S,by rw [hk _ le,e1],e2⟩,by omega,by omega,by omega,ke,kw,ew,wb.keep λi hi=>hk i (by omega),mk,me,mw⟩
def AtOK (g:Gr) (w:Wd) (n x:Int):Prop:=∀mk h K E W far,LkS g w K E W far h->mk<=E->WF PR true mk (.fn 103 [] []) [.ptr K 0 0,qzC (n,x)] h λr =>
 (∃l,r.v=qAc l/\qAr g w.l (n,x) l)/\LkS g w K E W far r.h/\Fr1 E h r.h
theorem qhG {L:Int}:∀{l:List Int}{a:Int},l.Pairwise (· < ·)->(∀x∈l,a<=x/\x<=L)->a<=L+1->(l.length:Int)<=L-a+1
 | [],a,_,_,h=>by simp; omega
 | x::l,a,hp,hx,h=>by
  rw [List.pairwise_cons] at hp;have h0:=hx x (by simp);have:=qhG (L:=L) (l:=l) (a:=x+1) hp.2 (λy hy=>⟨by have:=hp.1 y hy; omega,(hx y (by simp [hy])).2⟩) (by omega);simp only [List.length_cons];omega
theorem qqa {l:List Int}{n:Nat}(hp:l.Pairwise (· < ·)) (h:∀x∈l,0<=x/\x<=n) (hn:n<=200):l.length<=201:=by
 have:=qhG (L:=n) (a:=0) hp h (by omega);omega
theorem qzW (l:List Int):(dd (qa8 l)).Pairwise (· < ·):=(qhh (qfQ l) _ (Jac _)).1
theorem qAk {l:List Int}{x:Int}:x∈dd (qa8 l)↔x∈l:=by rw [qjw,qc2]
theorem qz8 {d:Bool}{mk m0:Nat}{h:Heap}{v:V}{l:List Int}(hO:Own h m0 v 1 (qab l)) (h0:mk<=m0) (hl:l.length<1000000000) :
  WF PR d mk (.fn 106 [] []) [v] h λr=>∃h',frzV mk r=some ⟨qAc (dd l),h'⟩/\h'.n=h.n/\∀j,slId v≠some j->h'.get j=h.get j:=by
 refine W.mono (qqg hO h0 hl) ?_;rintro⟨v',h'⟩ ⟨c1,c2,_,c4⟩;simp only at c1 c2 c4;rcases c4 with ⟨rfl,rfl⟩|⟨id,f,L,rfl,rfl,c5⟩
 ·exact⟨h',rfl,c1,λj hj=>c2 j hj⟩
 ·have hid:m0<=id/\l≠[]:=by
   rcases hO with ⟨q,_⟩|⟨id',q3,_,q5,_,q7⟩
   ·cases q
   ·injection q3 with q3; exact⟨by omega,λe=>q7 (by simp [e,qab])⟩
  have hdd:dd l≠[]:=λe=>hid.2 (qAF.1 e);have hr:qal h' (.sl id 0 (dd l).length 1 false)=some (qab (dd l)):=by
   simp [qal,c5,qab]
  have hmi:mk<=id:=by omega
  refine⟨h'.kill id,?_,by simpa using c1,λj hj=>?_⟩
  ·have:=qcL (mk:=h'.n) (h:=h') (k:=15) (dd l);simp only [frzV,hr,qat,this,qa3,hmi,decide_true,cond];simp [qAc,slOf,hdd,Sl.enc,qab,qaM]
  ·rw [qBr,Jaa (by rintro rfl; exact hj rfl)];exact c2 j hj
theorem Own.ext1 {h h':Heap}{m e E:Nat}{v:V}{rows:List (List V)}(hO:Own h m v e rows) (hE:E<m) (hf:Fr1 E h h'):Own h' m v e rows:=by
 rcases hO with q|⟨id,q3,q4,q5,q6,q7⟩
 ·exact .inl q
 ·exact .inr ⟨id,q3,by rw [hf.2 id q6 (by omega),q4],q5,by have:=hf.1; omega,q7⟩
section
variable {g:Gr}{w:List UInt8}
theorem qAC {s:Sy}{x y:Int}(hk:s.kind=2) (hn:0<=s.n):DerL g w [s] x y↔Der g w s.n x y:=by
 constructor
 ·intro h;cases h with
  | term hk'=>exact absurd hk hk'
  | non _ _ ha h1 h2=>cases h2; exact⟨_,ha,h1⟩
 ·rintro⟨a,ha,h⟩;exact .non hk hn ha h .nil
theorem qzK {s:Sy}{x y:Int}(hk:s.kind≠2):DerL g w [s] x y↔0<qbr s w x/\y=x+qbr s w x:=by
 constructor
 ·intro h;cases h with
  | term _ hm h=>cases h; exact⟨hm,rfl⟩
  | non hk'=>exact absurd hk' hk
 ·rintro⟨hm,rfl⟩;exact .term hk hm .nil
theorem qAl {l:List Sy}{i:Nat}{x y:Int}(hi:i<l.length):DerL g w (l.take (i+1)) x y↔∃m,DerL g w (l.take i) x m/\DerL g w [lat l i] m y:=by
 have e:l.take (i+1)=l.take i++[lat l i]:=by rw [Jap,qaz hi]; rfl
 rw [e];exact⟨λh=>h.split,λ⟨m,a,b⟩=>a.append b⟩
end
structure AI (g:Gr) (w:Wd) (K E W:Nat) (far:Int) (h0:Heap) (B:Nat) (row:List V) (v:V) (nx:List Int) (H:Heap):Prop where
 l:LkS g w K E W far H
 f:Fr1 E h0 H
 o:Own H h0.n v 1 (qab nx)
 b:H.get B=some (.rows [row])
 ne:Go.Abs.slId v≠some B
 bm:h0.n<=B
 bn:B<H.n
theorem AI.app {g:Gr}{w:Wd}{K E W mk:Nat}{far:Int}{h0:Heap}{B:Nat}{row:List V}{v:V}{nx:List Int}{H:Heap}(h:AI g w K E W far h0 B row v nx H) (hE:E<h0.n) (hmk:mk<=h0.n) (hK:K<h0.n) (hW:W<h0.n) (xs:List Int) (hl:nx.length+xs.length<1000000000) :
  ∃v' H',qaj mk H 1 8 v (qab xs)=some ⟨v',H'⟩/\AI g w K E W far h0 B row v' (nx++xs) H':=by
 have hf:=h.f.1;obtain⟨v',H',a1,a2,a3,a4,a5⟩:=qaC (mk:=mk) (bytes:=8) (xs:=qab xs) h.o hmk (by
  intro r hr;simp only [qab,Jak] at hr;obtain⟨a,_,rfl⟩:=hr;exact⟨rfl,rfl⟩) (by simp [qab]; omega) (by omega) hf
 have hs:∀j,j<h0.n->H'.get j=H.get j:=λj hj=>a4 j (by omega) (h.o.slId hj);refine⟨v',H',a1,?_,⟨by omega,λi hi hiE=>by rw [hs i hi,h.f.2 i hi hiE]⟩,by simpa [qab] using a2,by rw [a4 _ h.bn h.ne,h.b],λe=>?_,h.bm,by have:=h.bn; omega⟩
 ·obtain⟨k,⟨es,c,S,e1,e2⟩,lk,le,lw,ke,kw,ew,wb,mk,me,mw⟩:=h.l;exact⟨by rw [hs _ hK,k],⟨es,c,S,by rw [hs _ hE,e1],e2⟩,by omega,by omega,by omega,ke,kw,ew,wb.keep λi hi=>hs i (by omega),mk,me,mw⟩
 ·rcases a5 _ e with e|e
  ·have:=h.bn; omega
  ·exact h.ne e
theorem qz9 {g:Gr}{w:Wd}(hw:w.l.length<=200) (l:Sl Sy) (hl:l.l.length<=40) {x:Int}(x0:0<=x) (x1:x<=w.l.length) (hsy:∀s∈l.l,SyOk g.p.l.length s/\s.r.l.length<1500000)
  (hat:∀i,i<l.l.length->(lat l.l i).kind=2->∀y,DerL g w.l (l.l.take i) x y->AtOK g w (lat l.l i).n y) {mk:Nat}{h:Heap}{K E W:Nat}{far:Int}(hL:LkS g w K E W far h) (hmk:mk<=E) :
  WF PR true mk (.fn 67 [] []) [.ptr K 0 0,l.enc Sy.cells,.int .i64 x] h λr=>(∃s:Sl Int,r.v=s.enc qaM/\s.l.Pairwise (· < ·)/\∀y,y∈s.l↔DerL g w.l l.l x y)/\LkS g w K E W far r.h/\Fr1 E h r.h:=by
 have hK:=hL.lk;have hE:=hL.le;have hW:=hL.lw;refine WF.go f67 b67 [.tm 6] rfl rfl rfl rfl rfl rfl ?_;unfold b67;simp -dsimp;refine qaf (λn st=>∃(i:Int) (s:Sl Int),0<=i/\(n:Int)=l.l.length-i/\(gK 19).run st.tm=.int .i64 i/\(gK 7).run st.tm=s.enc qaM/\s.l.Pairwise (· < ·)/\(∀y,y∈s.l↔DerL g w.l (l.l.take i.toNat) x y)/\LkS g w K E W far st.h/\Fr1 E h st.h/\st.defs=[]) l.l.length
  ⟨0,.full [x],by omega,by omega,by simp,by simp; rfl,by simp,λy=>by
   simp;exact⟨λe=>e ▸ .nil,λh=>by cases h; rfl⟩,hL,Fr1.refl,rfl⟩ ?_
 rintro n ⟨tm,h1,defs,round⟩ ⟨i,now,hi,hn,h19,h7,hp,hmem,hL1,hF1,rfl⟩ hK';have t0:=hK' 0 rfl;have t17:=hK' 17 rfl;have t18:=hK' 18 rfl;simp at t0 t17 t18 h19 h7;simp only at hL1 hF1;clear hK';simp -dsimp [h19,t18];rw [qaa];refine⟨λhc=>?_,λhc=>?_⟩
 ·simp at hc;have c1:i<((l.l.length:Nat):Int):=by omega
  obtain⟨s,hs⟩:∃s,lat l.l i.toNat=s:=⟨_,rfl⟩;have hsm:s∈l.l:=by rw [<-hs]; exact qai (by omega)
  obtain⟨hso,hsr⟩:=hsy s hsm;have hh1:=hF1.1;have hmk1:mk<=h1.n:=by omega
  have hrange:∀y,y∈now.l->0<=y/\y<=w.l.length:=λy hy=>by
   have:=((hmem y).1 hy).le x0 x1; omega
  have hnl:=qqa hp hrange hw;have hstep:∀y,DerL g w.l (l.l.take (i+1).toNat) x y↔∃m,m∈now.l/\DerL g w.l [s] m y:=λy=>by
   rw [show (i+1).toNat=i.toNat+1 by omega,qAl (by omega),hs];exact⟨λ⟨m,a,b⟩=>⟨m,(hmem m).2 a,b⟩,λ⟨m,a,b⟩=>⟨m,(hmem m).1 a,b⟩⟩
  have hats:s.kind=2->∀y,y∈now.l->AtOK g w s.n y:=λhk y hy=>by
   have:=hat i.toNat (by omega) (by rw [hs]; exact hk) y ((hmem y).1 hy)
   rwa [hs] at this
  have hsc:[V.int IntKind.i64 s.kind,Sl.enc Rg.cells s.r,V.int IntKind.i64 s.n]=s.cells:=rfl;simp -dsimp [t17,h19,qz7 hi c1,hs,Sy.cells,hmk1,h7];rw [hsc];obtain⟨B,hB⟩:∃B,h1.n=B:=⟨_,rfl⟩;obtain⟨H1,hH1⟩:∃H1,(h1.push (Obj.rows [[V.int IntKind.i64 0,V.nils,V.int IntKind.i64 0]])).set h1.n (Obj.rows [s.cells])=H1:=⟨_,rfl⟩;have hkeep:∀j,j<h1.n->H1.get j=h1.get j:=λj hj=>by rw [<-hH1,qBp,Jaa (by omega),qBq,Jaa (by omega)]
  have hAI:AI g w K E W far h B s.cells .nils [] H1 :=
   ⟨hL1.keep (by rw [<-hH1]; simp) hkeep,hF1.trans ⟨by rw [<-hH1]; simp,λj hj _=>hkeep j hj⟩,.inl ⟨rfl,rfl⟩,by rw [<-hH1,<-hB,qBp,Jab rfl],by simp [Go.Abs.slId],by omega,by rw [<-hH1,<-hB]; simp⟩
  rw [hH1,hB];refine qaf (λn st=>∃(j:Int) (v:V) (nx:List Int),0<=j/\(n:Int)=now.l.length-j/\(gK 25).run st.tm=.int .i64 j/\(gK 10).run st.tm=v/\AI g w K E W far h B s.cells v nx st.h/\(∀y,y∈nx↔∃m∈now.l.take j.toNat,DerL g w.l [s] m y)/\nx.length<=j.toNat * 201/\st.defs=[]) now.l.length
   ⟨0,.nils,[],by omega,by omega,by simp,by simp,hAI,by simp,by simp,rfl⟩ ?_
  rintro n2 ⟨tm2,h2,defs2,round2⟩ ⟨j,v,nx,hj,hn2,h25,h10,hA,hnx,hnxl,rfl⟩ hK';have u0:=hK' 0 rfl;have u9:=hK' 9 rfl;have u17:=hK' 17 rfl;have u18:=hK' 18 rfl;have u19:=hK' 19 rfl;have u23:=hK' 23 rfl;have u24:=hK' 24 rfl;simp [t0,t17,t18,h19] at u0 u9 u17 u18 u19 u23 u24 h25 h10;simp only at hA;clear hK';simp -dsimp [h25,u24];rw [qaa];refine⟨λhd=>?_,λhd=>?_⟩
  ·simp at hd;have d1:j<((now.l.length:Nat):Int):=by omega
   obtain⟨m,hm⟩:∃m,lat now.l j.toNat=m:=⟨_,rfl⟩;have hmm:m∈now.l:=by rw [<-hm]; exact qai (by omega)
   have hmr:=hrange m hmm;have ht:now.l.take (j+1).toNat=now.l.take j.toNat++[m]:=by
    rw [show (j+1).toNat=j.toNat+1 by omega,Jap,qaz (by omega),hm]; rfl
   have hj200:j.toNat * 201<=200 * 201:=Nat.mul_le_mul_right _ (by omega);simp -dsimp [u23,h25,qe6 hj d1,hm,qaM,u9,hA.b,Sy.cells];rw [qaa];refine⟨λhe=>?_,λhe=>?_⟩
   ·simp at he;simp -dsimp [u0,u9,hA.b,Sy.cells];have hA1:=hA.f.1;have hBn:=hA.bn;refine WFS.by (hats he m hmm mk h2 K E W far hA.l hmk) ?_
    rintro v2 h3 ⟨⟨l2,rfl,hI⟩,hL3,hF3⟩;simp only at hL3 hF3;have hF31:=hF3.1;have hlen2:l2.length<=201:=qqa hI.1 (λy hy=>by
     obtain⟨a,ha,hd⟩:=(hI.2 y).1 hy;have:=hd.le hmr.1 hmr.2;simp only at this; omega) hw
    have hA3:AI g w K E W far h B s.cells v nx h3:=⟨hL3,hA.f.trans hF3,hA.o.ext1 (by omega) hF3,by rw [hF3.2 B hBn (by omega),hA.b],hA.ne,hA.bm,by omega⟩;simp -dsimp [h10];rw [qaE (xs:=qab l2) (by simp [qAc]; rfl)];refine qBC ?_;obtain⟨v',h4,a1,a2⟩:=hA3.app (mk:=mk) (by omega) (by omega) (by omega) (by omega) l2 (by omega);simp -dsimp;refine⟨_,a1,?_⟩;simp -dsimp [h25,fw64 (n:=j+1) (by omega) (by omega)];refine qah.intro (n2-1) (by omega) ⟨j+1,v',nx++l2,by omega,by omega,by simp,by simp,a2,λy=>?_,?_,rfl⟩
    ·rw [ht,Jaj,hnx,hI.2,<-qAC he (hso.non he).1];simp only [Jaj,Jah];constructor
     ·rintro (⟨a,b,c⟩|h)
      ·exact⟨a,.inl b,c⟩
      ·exact⟨m,.inr rfl,h⟩
     ·rintro⟨a,b|rfl,c⟩
      ·exact .inl ⟨a,b,c⟩
      ·exact .inr c
    ·rw [Jao,show (j+1).toNat=j.toNat+1 by omega,Nat.add_mul]; omega
   ·simp at he;have hA1:=hA.f.1;simp -dsimp [u0,u9,hA.b,hA.l.k,qcT,Sy.cells];rw [hsc];refine WFS.by (qnn s hA.l.wb (by have:=hA.l.me; have:=hA.l.le; omega) m hsr (by omega)) ?_
    intro v0 h0 e;cases e;simp -dsimp;rw [qaa];refine⟨λhf=>?_,λhf=>?_⟩
    ·simp at hf;have hmat:=qdJ hf;simp -dsimp [h10,fw64 (n:=m+qbr s w.l m) (by omega) (by omega)];rw [qaE (xs:=qab [m+qbr s w.l m]) (by simp; rfl)];refine qBC ?_;obtain⟨v',h4,a1,a2⟩:=hA.app (mk:=mk) (by omega) (by omega) (by omega) (by omega) [m+qbr s w.l m] (by simp; omega);simp -dsimp;refine⟨_,a1,?_⟩;simp -dsimp [h25,fw64 (n:=j+1) (by omega) (by omega)];refine qah.intro (n2-1) (by omega) ⟨j+1,v',nx++[m+qbr s w.l m],by omega,by omega,by simp,by simp,a2,λy=>?_,?_,rfl⟩
     ·rw [ht,Jaj,hnx];simp only [Jaj,Jah];constructor
      ·rintro (⟨a,b,c⟩|h)
       ·exact⟨a,.inl b,c⟩
       ·exact⟨m,.inr rfl,(qzK he).2 ⟨hf,h⟩⟩
      ·rintro⟨a,b|rfl,c⟩
       ·exact .inl ⟨a,b,c⟩
       ·exact .inr ((qzK he).1 c).2
     ·rw [Jao,show (j+1).toNat=j.toNat+1 by omega,Nat.add_mul]; simp; omega
    ·simp at hf;simp -dsimp [h25,fw64 (n:=j+1) (by omega) (by omega)];refine qah.intro (n2-1) (by omega) ⟨j+1,v,nx,by omega,by omega,by simp,by simp [h10],hA,λy=>?_,?_,rfl⟩
     ·rw [ht,hnx];simp only [Jaj,Jah];constructor
      ·rintro⟨a,b,c⟩;exact⟨a,.inl b,c⟩
      ·rintro⟨a,b|rfl,c⟩
       ·exact⟨a,b,c⟩
       ·have:=((qzK he).1 c).1; omega
     ·rw [show (j+1).toNat=j.toNat+1 by omega,Nat.add_mul]; omega
  ·simp at hd;have hd':decide (j<(now.l.length:Int))=false:=by simpa using hd
   rw [List.take_of_length_le (by omega)] at hnx;simp -dsimp [hd',h10];have hj200:j.toNat * 201<=201 * 201:=Nat.mul_le_mul_right _ (by omega);refine WFS.by (qre hA.o (by omega) (by omega)) ?_
   rintro v' h3 ⟨rfl,hO3,hn3,hk3⟩;simp -dsimp [h10];refine WFS.by (qz8 hO3 (by omega) (by simp; omega)) ?_
   rintro v' h4 ⟨h5,e5,hn5,hk5⟩;simp only at hn3 hk3 hO3;have hlow:∀i,i<h.n->h5.get i=h2.get i:=λi hi'=>by rw [hk5 i (hO3.slId hi'),hk3 i (hA.o.slId hi')]
   refine OpS.intro e5 ?_;simp -dsimp [u19,fw64 (n:=i+1) (by omega) (by omega)];refine qah.intro (n-1) (by omega) ⟨i+1,slOf (dd (qa8 nx)),by omega,by omega,by simp,by simp; rfl,by simpa using qzW nx,λy=>?_,?_,?_,rfl⟩
   ·rw [quV,qAk,hnx,hstep]
   ·obtain⟨k,⟨es,c,S,e1,e2⟩,lk,le,lw,ke,kw,ew,wb,mk,me,mw⟩:=hA.l;have hA1:=hA.f.1;exact⟨by rw [hlow _ hK,k],⟨es,c,S,by rw [hlow _ hE,e1],e2⟩,by show K<h5.n; omega,by show E<h5.n; omega,by show W<h5.n; omega,ke,kw,ew,wb.keep λi hi=>hlow i (by omega),mk,me,mw⟩
   ·exact⟨by have:=hA.f.1; show h.n<=h5.n; omega,λi hi' hiE=>by rw [hlow i hi',hA.f.2 i hi' hiE]⟩
 ·simp at hc;have hc':decide (i<(l.l.length:Int))=false:=by simpa using hc
  rw [List.take_of_length_le (by omega)] at hmem;simp -dsimp [hc',h7];exact⟨⟨now,rfl,hp,hmem⟩,hL1,hF1⟩
structure GrW (g:Gr) (w:Wd):Prop where
 m:mayB g=true
 c:qfg g = -1
 w:w.l.length<=200
 r:∀p∈g.p.l,∀a∈p.a.l,∀s∈a.l,s.r.l.length<1500000
theorem qAG {g:Gr}{w:Wd}(hG:GrW g w):∀(m:Nat) (n x:Int),muN g w.l n x<m->0<=n->n<g.p.l.length->0<=x->x<=w.l.length->AtOK g w n x
 | 0,_,_,h,_,_,_,_=>by omega
 | m+1,n,x,hmu,n0,n1,x0,x1=>by
  intro mk h K E W far hL hmk;have hok:=qaF hG.m;have hK:=hL.lk;have hE:=hL.le;have hW:=hL.lw;have hw:=hG.w;refine WF.go f103 b103 [.tm 4] rfl rfl rfl rfl rfl rfl ?_;unfold b103;obtain⟨es,c,S,e1,e2,e3⟩:=hL.e;have n1':¬K=h.n:=by omega
  have n2:¬E=h.n:=by omega
  have hlook:=qlz (kn:=.agg [.int,.int]) (zero:=.nils) qzH qzS (h:=h.push (.rows [[.int .i64 n,.int .i64 x]])) (M:=E) (c:=c) (by rw [qBq,Jaa n2,e1]) e2 (n,x);have hkk:qzC (n,x)=.agg [.int .i64 n,.int .i64 x]:=rfl;rw [hkk] at hlook;simp -dsimp [qzC,qcT,n1',hL.k,hlook];obtain⟨o,ho⟩:∃o,qaS (n,x) S=o:=⟨_,rfl⟩;rw [ho];cases o with
  | some l =>
   simp -dsimp;exact⟨⟨l,rfl,e3 _ _ ho⟩,hL.keep (by simp) (λj hj=>by rw [qBq,Jaa (by omega)]),by simp,λj hj _=>by rw [qBq,Jaa (by omega)]⟩
  | none =>
   obtain⟨p,hp⟩:∃p,lat g.p.l n.toNat=p:=⟨_,rfl⟩;have hpm:p∈g.p.l:=by rw [<-hp]; exact qai (by omega)
   have ha8:=hok.a p hpm;simp -dsimp [n1',hL.k,qcT,qbg n0 n1,hp,Pd.cells];obtain⟨B,hB⟩:∃B,h.n=B:=⟨_,rfl⟩;have hAI:AI g w K E W far h B [.int .i64 n,.int .i64 x] .nils [] (h.push (Obj.rows [[V.int IntKind.i64 n,V.int IntKind.i64 x]])) :=
    ⟨hL.keep (by simp) (λj hj=>by rw [qBq,Jaa (by omega)]),⟨by simp,λj hj _=>by rw [qBq,Jaa (by omega)]⟩,.inl ⟨rfl,rfl⟩,by rw [<-hB]; simp,by simp [Go.Abs.slId],by omega,by rw [<-hB]; simp⟩
   refine qaf (λk st=>∃(i:Int) (v:V) (out:List Int),0<=i/\(k:Int)=p.a.l.length-i/\(gK 32).run st.tm=.int .i64 i/\(gK 7).run st.tm=v/\AI g w K E W far h B [.int .i64 n,.int .i64 x] v out st.h/\(∀y,y∈out↔∃a∈p.a.l.take i.toNat,DerL g w.l a.l x y)/\out.length<=i.toNat * 201/\st.defs=[]) p.a.l.length
    ⟨0,.nils,[],by omega,by omega,by simp,by simp,hAI,by simp,by simp,rfl⟩ ?_
   rintro k ⟨tm,h1,defs,round⟩ ⟨i,v,out,hi,hk,h32,h7,hA,hout,houtl,rfl⟩ hK';have t0:=hK' 0 rfl;have t3:=hK' 3 rfl;have t30:=hK' 30 rfl;have t31:=hK' 31 rfl;simp [hB] at t0 t3 t30 t31 h32 h7;simp only at hA;clear hK';have hA1:=hA.f.1;have hBn:=hA.bn;have hbox:=hA.b;have hi8:i.toNat * 201<=8 * 201\/¬i<=8:=by
    by_cases c:i<=8
    ·exact .inl (Nat.mul_le_mul_right _ (by omega))
    ·exact .inr c
   simp -dsimp [h32,t31];rw [qaa];refine⟨λhc=>?_,λhc=>?_⟩
   ·simp at hc;have c1:i<((p.a.l.length:Nat):Int):=by omega
    obtain⟨a,ha⟩:∃a,lat p.a.l i.toNat=a:=⟨_,rfl⟩;have ham:a∈p.a.l:=by rw [<-ha]; exact qai (by omega)
    have ham2:a∈(lat g.p.l n.toNat).a.l:=by rw [hp]; exact ham
    simp -dsimp [t30,h32,qoq hi c1,ha,qaK,t0,t3,h7,hbox];refine WFS.by (qz9 hw a (hok.s p hpm a ham) x0 x1 (λs hs=>⟨hok.sy p hpm a ham s hs,hG.r p hpm a ham s hs⟩) (λj hj hkj y hd=>?_) hA.l hmk) ?_
    ·have hsy:=(hok.sy p hpm a ham _ (qai hj)).non hkj;have hyr:=hd.le x0 x1;have hlt:=mu_lt hG.m hG.c n0 x0 x1 ham2 hj hkj hd;exact qAG hG m _ y (by omega) hsy.1 hsy.2.1 (by omega) (by omega)
    rintro v2 h3 ⟨⟨s,rfl,hsp,hsm⟩,hL3,hF3⟩;simp only at hL3 hF3;have hF31:=hF3.1;have hlen2:s.l.length<=201:=qqa hsp (λy hy=>by
     have:=((hsm y).1 hy).le x0 x1;omega) hw
    have hA3:AI g w K E W far h B [.int .i64 n,.int .i64 x] v out h3:=⟨hL3,hA.f.trans hF3,hA.o.ext1 (by omega) hF3,by rw [hF3.2 B hBn (by omega),hA.b],hA.ne,hA.bm,by omega⟩;simp -dsimp;rw [qaE (xs:=qab s.l) (by simp; rfl)];refine qBC ?_;obtain⟨v',h4,a1,a2⟩:=hA3.app (mk:=mk) (by omega) (by omega) (by omega) (by omega) s.l (by omega);simp -dsimp;refine⟨_,a1,?_⟩;simp -dsimp [h32,fw64 (n:=i+1) (by omega) (by omega)];have ht:p.a.l.take (i+1).toNat=p.a.l.take i.toNat++[a]:=by
     rw [show (i+1).toNat=i.toNat+1 by omega,Jap,qaz (by omega),ha]; rfl
    refine qah.intro (k-1) (by omega) ⟨i+1,v',out++s.l,by omega,by omega,by simp,by simp,a2,λy=>?_,?_,rfl⟩
    ·rw [ht,Jaj,hout,hsm];simp only [Jaj,Jah];constructor
     ·rintro (⟨b,c,d⟩|h)
      ·exact⟨b,.inl c,d⟩
      ·exact⟨a,.inr rfl,h⟩
     ·rintro⟨b,c|rfl,d⟩
      ·exact .inl ⟨b,c,d⟩
      ·exact .inr d
    ·rw [Jao,show (i+1).toNat=i.toNat+1 by omega,Nat.add_mul]; omega
   ·simp at hc;have hc':decide (i<(p.a.l.length:Int))=false:=by simpa using hc
    rw [List.take_of_length_le (by omega)] at hout;simp -dsimp [hc',h7];refine WFS.by (qre hA.o (by omega) (by omega)) ?_
    rintro v' h3 ⟨rfl,hO3,hn3,hk3⟩;simp -dsimp [h7];refine WFS.by (qz8 hO3 (by omega) (by simp; omega)) ?_
    rintro v' h4 ⟨h5,e5,hn5,hk5⟩;simp only at hn3 hk3 hO3;have hlow:∀i,i<h.n->h5.get i=h1.get i:=λi hi'=>by rw [hk5 i (hO3.slId hi'),hk3 i (hA.o.slId hi')]
    refine OpS.intro e5 ?_;have hbox5:h5.get B=some (.rows [[.int .i64 n,.int .i64 x]]):=by rw [hk5 B hA.ne,hk3 B hA.ne,hbox]
    obtain⟨fs,c',S',f1,f2,f3⟩:=hA.l.e;have hE5:h5.get E=some (.map fs c'):=by rw [hlow E hE,f1]
    have hK5:=(hlow K hK).trans hA.l.k;obtain⟨gs,c2,g1,g2⟩:=qgM (kn:=.agg [.int,.int]) (vf:=qAc) (mk:=mk) qzH qzS hE5 f2 hmk (n,x) (dd (qa8 out));rw [hkk] at g1;simp -dsimp [t0,t3,qcT,hK5,hbox5];refine OpS.intro g1 ?_;simp -dsimp;have hIs:qAr g w.l (n,x) (dd (qa8 out)):=by
     refine⟨qzW out,λy=>?_⟩;rw [qAk,hout];show _↔∃a∈(lat g.p.l n.toNat).a.l,_;rw [hp]
    refine⟨⟨_,rfl,hIs⟩,?_,?_⟩
    ·obtain⟨_,_,lk,le,lw,ke,kw,ew,wb,mk',me,mw⟩:=hA.l;refine⟨by rw [qBp,Jaa (by omega),hK5],⟨gs,c2,_,by rw [qBp,Jab rfl],g2,λq l hq=>?_⟩,by show K<h5.n; omega,by show E<h5.n; omega,by show W<h5.n; omega,ke,kw,ew,wb.keep λi hi=>by rw [qBp,Jaa (by omega),hlow i (by omega)],mk',me,mw⟩;rw [qhs] at hq;split at hq
     ·rename_i hqe;cases hq;rw [hqe];exact hIs
     ·exact f3 q l hq
    ·refine⟨by show h.n<=h5.n; omega,λj hj hjE=>?_⟩;rw [qBp,Jaa hjE,hlow j hj,hA.f.2 j hj hjE]
theorem at_ok {g:Gr}{w:Wd}(hG:GrW g w) {n x:Int}(n0:0<=n) (n1:n<g.p.l.length) (x0:0<=x) (x1:x<=w.l.length):AtOK g w n x :=
 qAG hG _ n x (Nat.lt_succ_self _) n0 n1 x0 x1
theorem afterA {g:Gr}{w:Wd}(hG:GrW g w) {l m:Sl Sy}{x:Int}(x0:0<=x) (x1:x<=w.l.length) (hm:∃p∈g.p.l,m∈p.a.l) (hl:∃i,l.l=m.l.take i) {mk:Nat}{h:Heap}{K E W:Nat}{far:Int}(hL:LkS g w K E W far h) (hmk:mk<=E) :
  WF PR true mk (.fn 67 [] []) [.ptr K 0 0,l.enc Sy.cells,.int .i64 x] h λr=>(∃s:Sl Int,r.v=s.enc qaM/\s.l.Pairwise (· < ·)/\∀y,y∈s.l↔DerL g w.l l.l x y)/\LkS g w K E W far r.h/\Fr1 E h r.h:=by
 have hok:=qaF hG.m;obtain⟨p,hp,hmp⟩:=hm;obtain⟨i,hi⟩:=hl;have hsub:∀s∈l.l,s∈m.l:=λs hs=>List.mem_of_mem_take (by rw [hi] at hs; exact hs);refine qz9 hG.w l (by have:=hok.s p hp m hmp; rw [hi,List.length_take]; omega) x0 x1 (λs hs=>⟨hok.sy p hp m hmp s (hsub s hs),hG.r p hp m hmp s (hsub s hs)⟩) (λj hj hk y hd=>?_) hL hmk;have hsy:=(hok.sy p hp m hmp _ (hsub _ (qai hj))).non hk;have:=hd.le x0 x1;exact at_ok hG hsy.1 hsy.2.1 (by omega) (by omega)
theorem qzQ:∀(l:List (Sl Rg)) (b:List UInt8),qzu l b<=b.length
 | [],b=>by simp [qzu]
 | s::l,b=>by
  have:=(qlQ s.l b).2;have:=qzQ l b;simp only [qzu]; omega
theorem qzJ {s:Sy}{w:List UInt8}{x:Int}(x0:0<=x) (x1:x<=w.length):0<=qzv s w x/\x+qzv s w x<=w.length:=by
 unfold qzv;split
 ·unfold qcH; split<;>omega
 ·split
  ·unfold qzI qzw;rw [Jaa (by omega)];have:=qzQ (ofL s.r.l) (w.drop x.toNat);rw [List.length_drop] at this;omega
  ·omega
def Cand (g:Gr) (w:List UInt8) (p:Int × Int) (c:Int):Prop:=∃a∈(lat g.p.l p.1.toNat).a.l,∃i,i<a.l.length/\(lat a.l i).kind≠2/\∃y,DerL g w (a.l.take i) p.2 y/\c=y+qzv (lat a.l i) w y
def Succ (g:Gr) (w:List UInt8) (p q:Int × Int):Prop:=∃a∈(lat g.p.l p.1.toNat).a.l,∃i,i<a.l.length/\(lat a.l i).kind=2/\∃y,DerL g w (a.l.take i) p.2 y/\q=((lat a.l i).n,y)
inductive Spot (g:Gr) (w:List UInt8):Int × Int->Prop
 | root:Spot g w (0,0)
 | step {p q:Int × Int}(h:Spot g w p) (h':Succ g w p q):Spot g w q
def Done (g:Gr) (w:List UInt8) (p:Int × Int) (f:Int) (V:List (Int × Int)):Prop:=(∀c,Cand g w p c->c<=f)/\∀q,Succ g w p q->q∈V
def InB (g:Gr) (w:List UInt8) (p:Int × Int):Prop:=0<=p.1/\p.1<g.p.l.length/\0<=p.2/\p.2<=w.length
structure Adv (g:Gr) (w:List UInt8) (f:Int) (V:List (Int × Int)) (f':Int) (V':List (Int × Int)):Prop where
 le:f<=f'
 sub:∀q∈V,q∈V'
 far:f'=f\/∃p c,Spot g w p/\Cand g w p c/\f'=c
 done:∀q∈V',q ∉ V->Done g w q f' V'/\Spot g w q
variable {g:Gr}
theorem Done.mono {w:List UInt8}{p:Int × Int}{f f':Int}{V V':List (Int × Int)}(h:Done g w p f V) (hf:f<=f') (hV:∀q∈V,q∈V'):Done g w p f' V' :=
 ⟨λc hc=>Int.le_trans (h.1 c hc) hf,λq hq=>hV q (h.2 q hq)⟩
theorem Adv.refl {w:List UInt8}{f:Int}{V:List (Int × Int)}:Adv g w f V f V:=⟨Int.le_refl _,λ_ h=>h,.inl rfl,λ_ h h'=>absurd h h'⟩
theorem Adv.trans {w:List UInt8}{f f' f'':Int}{V V' V'':List (Int × Int)}(a:Adv g w f V f' V') (b:Adv g w f' V' f'' V''):Adv g w f V f'' V'':=by
 refine⟨Int.le_trans a.le b.le,λq hq=>b.sub q (a.sub q hq),?_,λq hq hn=>?_⟩
 ·rcases b.far with e|e
  ·rw [e]; exact a.far
  ·exact .inr e
 ·by_cases c:q∈V'
  ·have:=a.done q c hn;exact⟨this.1.mono b.le b.sub,this.2⟩
  ·exact b.done q hq c
theorem qAH {w:Wd}(hm:mayB g=true) {p q:Int × Int}(hp:InB g w.l p) (h:Succ g w.l p q):InB g w.l q:=by
 have hok:=qaF hm;obtain⟨a,ha,i,hi,hk,y,hd,rfl⟩:=h;have hr:=qfh ha;have hsy:=(hok.sy _ (qai hr) a ha _ (qai hi)).non hk;have:=hd.le hp.2.2.1 hp.2.2.2;exact⟨hsy.1,hsy.2.1,by have:=hp.2.2.1; simp only; omega,this.2⟩
theorem qzZ {w:Wd}(hm:mayB g=true) {p:Int × Int}(h:Spot g w.l p):InB g w.l p:=by
 induction h with
 | root=>have:=(qaF hm).p0; exact⟨by simp,by simp; omega,by simp,by simp⟩
 | step _ h' ih=>exact qAH hm ih h'
def WOk (W:Nat) (V:List (Int × Int)) (h:Heap):Prop:=∃es c S,h.get W=some (.map es c)/\MapR qzC qsr es S/\∀p,qaS p S=if p∈V then some true else none
structure LS (g:Gr) (w:Wd) (K E W:Nat) (f:Int) (V:List (Int × Int)) (h:Heap):Prop where
 l:LkS g w K E W f h
 w:WOk W V h
def Fr3 (K E W:Nat) (h h':Heap):Prop:=h.n<=h'.n/\∀i,i<h.n->i≠K->i≠E->i≠W->h'.get i=h.get i
theorem Fr3.refl {K E W:Nat}{h:Heap}:Fr3 K E W h h:=⟨Jac _,λ_ _ _ _ _=>rfl⟩
theorem Fr3.trans {K E W:Nat}{h h' h'':Heap}(a:Fr3 K E W h h') (b:Fr3 K E W h' h''):Fr3 K E W h h'' :=
 ⟨Jaf a.1 b.1,λi hi h1 h2 h3=>by rw [b.2 i (by have:=a.1; omega) h1 h2 h3,a.2 i hi h1 h2 h3]⟩
theorem Fr1.fr3 {K E W:Nat}{h h':Heap}(a:Fr1 E h h'):Fr3 K E W h h':=⟨a.1,λi hi _ h2 _=>a.2 i hi h2⟩
theorem LS.keep {w:Wd}{K E W:Nat}{f:Int}{V:List (Int × Int)}{h h':Heap}(hL:LS g w K E W f V h) (hn:h.n<=h'.n) (hk:∀i,i<h.n->i=K\/i=E\/i=W\/i<w.m->h'.get i=h.get i):LS g w K E W f V h':=by
 obtain⟨⟨k,⟨es,c,S,e1,e2⟩,lk,le,lw,ke,kw,ew,wb,mk,me,mw⟩,es',c',S',f1,f2⟩:=hL;exact⟨⟨by rw [hk _ lk (.inl rfl),k],⟨es,c,S,by rw [hk _ le (.inr (.inl rfl)),e1],e2⟩,by omega,by omega,by omega,ke,kw,ew,wb.keep λi hi=>hk i (by omega) (.inr (.inr (.inr hi))),mk,me,mw⟩,es',c',S',by rw [hk _ lw (.inr (.inr (.inl rfl))),f1],f2⟩
theorem LS.ends {w:Wd}{K E W:Nat}{f:Int}{V:List (Int × Int)}{h h':Heap}(hL:LS g w K E W f V h) (hL':LkS g w K E W f h') (hf:Fr1 E h h'):LS g w K E W f V h':=by
 obtain⟨hl,es',c',S',f1,f2⟩:=hL;exact⟨hL',es',c',S',by rw [hf.2 _ hl.lw (Ne.symm hl.ew),f1],f2⟩
theorem LS.far {w:Wd}{K E W:Nat}{f f':Int}{V:List (Int × Int)}{h:Heap}(hL:LS g w K E W f V h):LS g w K E W f' V (h.set K (.rows [[g.p.enc Pd.cells,g.keys.enc qac,w.v,.map E,.map W,.int .i64 f']])):=by
 obtain⟨⟨k,⟨es,c,S,e1,e2⟩,lk,le,lw,ke,kw,ew,wb,mk,me,mw⟩,es',c',S',f1,f2⟩:=hL;exact⟨⟨by rw [qBp,Jab rfl],⟨es,c,S,by rw [qBp,Jaa (Ne.symm ke),e1],e2⟩,lk,le,lw,ke,kw,ew,wb.keep λi hi=>by rw [qBp,Jaa (by omega)],mk,me,mw⟩,es',c',S',by rw [qBp,Jaa (Ne.symm kw),f1],f2⟩
def qzY (g:Gr) (w:List UInt8) (s:Sy) (y f:Int) (V:List (Int × Int)):Prop:=(s.kind≠2->y+qzv s w y<=f)/\(s.kind=2->(s.n,y)∈V)
def qzA (g:Gr) (w:List UInt8) (a:List Sy) (x f:Int) (V:List (Int × Int)) (j:Nat):Prop:=∀i,i<j->∀y,DerL g w (a.take i) x y->qzY g w (lat a i) y f V
theorem qzY.mono {w:List UInt8}{s:Sy}{y f f':Int}{V V':List (Int × Int)}(h:qzY g w s y f V) (hf:f<=f') (hV:∀q∈V,q∈V'):qzY g w s y f' V' :=
 ⟨λhk=>Int.le_trans (h.1 hk) hf,λhk=>hV _ (h.2 hk)⟩
theorem qzA.mono {w:List UInt8}{a:List Sy}{x f f':Int}{V V':List (Int × Int)}{j:Nat}(h:qzA g w a x f V j) (hf:f<=f') (hV:∀q∈V,q∈V'):qzA g w a x f' V' j :=
 λi hi y hd=>(h i hi y hd).mono hf hV
theorem qAK {w:List UInt8}{p:Int × Int}{f:Int}{V:List (Int × Int)}(h:∀a∈(lat g.p.l p.1.toNat).a.l,qzA g w a.l p.2 f V a.l.length):Done g w p f V:=by
 constructor
 ·rintro c ⟨a,ha,i,hi,hk,y,hd,rfl⟩;exact (h a ha i hi y hd).1 hk
 ·rintro q ⟨a,ha,i,hi,hk,y,hd,rfl⟩;exact (h a ha i hi y hd).2 hk
section
variable {d:Bool}{mk:Nat}{h:Heap}
theorem qAJ (s:Sl (Sl Rg)) {w:Wd}(hB:WB h w) (k:Int) (hs:s.l.length<4000000000) (hs2:∀x∈s.l,x.l.length<1000000000) (hw:w.l.length<1000000000):WF PR d mk (.fn 145 [] []) [s.enc qaP,w.v,.int .i64 k] h λx=>x=⟨.int .i64 (qzw s.l w.l k),h⟩:=by
 refine qBt f145 b145 [.tm 6] rfl rfl rfl rfl rfl rfl ?_;unfold b145;have hlw:∀H,lenV .sl w.v H=some (.int .i64 w.l.length):=λH=>hB.len;simp -dsimp [hlw];rw [Gd_f];refine⟨λh1=>?_,λh1=>?_⟩
 ·simp at h1;have h1':¬k<0:=by omega
  simp -dsimp [h1',hlw];rw [qaa];refine⟨λh2=>?_,λh2=>?_⟩
  ·simp at h2;simp -dsimp [qzw,h2]
  simp at h2;have h2':¬(w.l.length:Int)<k:=by omega
  have hm:qzw s.l w.l k=qzu s.l (w.l.drop k.toNat):=by simp [qzw,h1',h2']
  simp -dsimp [hm];refine qaf (λn st=>∃(i:Int) (q:Nat),0<=i/\(n:Int)=s.l.length-i/\(gK 21).run st.tm=.int .i64 i/\(gK 7).run st.tm=.int .i64 q/\max q (qzu (s.l.drop i.toNat) (w.l.drop k.toNat))=qzu s.l (w.l.drop k.toNat)/\st.h=h/\st.defs=[]) s.l.length
   ⟨0,0,by omega,by omega,by simp,by simp,by simp,rfl,rfl⟩ ?_
  rintro n ⟨tm,h0',defs,round⟩ ⟨i,q,hi,hn,h21,h7,hf,rfl,rfl⟩ hK;have t1:=hK 1 rfl;have t2:=hK 2 rfl;have t19:=hK 19 rfl;have t20:=hK 20 rfl;simp at t1 t2 t19 t20 h21 h7;clear hK;simp -dsimp [h21,t20];rw [qaa];refine⟨λhc=>?_,λhc=>?_⟩
  ·simp at hc;have c1:i<((s.l.length:Nat):Int):=by omega
   obtain⟨x,hx⟩:∃x,lat s.l i.toNat=x:=⟨_,rfl⟩;have hxs:=hs2 x (by rw [<-hx]; exact qai (by omega));have hd:=qbu (l:=s.l) (i:=i.toNat) (by omega);rw [hd,hx,qzu] at hf;simp -dsimp [t19,h21,qop hi c1,hx,qaP,t1,t2,h7];refine qdq hB h1 h2 (by simp [t2]) ?_;intro v' hB';simp -dsimp;refine WFS.by (qsd x hB' hxs (by simp; omega)) ?_
   intro v h3 e;cases e;simp -dsimp;have e1:∀tm:Tm,(gK 30).run tm=.int .i64 (qbE x.l (w.l.drop k.toNat))->qco .i64 tm q [Opd.t 30]=some (.int .i64 ((max q (qbE x.l (w.l.drop k.toNat)):Nat):Int)):=λtm h=>by
    rw [qkw (m:=qbE x.l (w.l.drop k.toNat)) (by rw [ev_t,h]; rfl)];simp; omega
   simp -dsimp [e1,h21,fw64 (n:=i+1) (by omega) (by omega)];refine qah.intro (n-1) (by omega) ⟨i+1,max q (qbE x.l (w.l.drop k.toNat)),by omega,by omega,by simp,by simp,?_,rfl,rfl⟩;rw [show (i+1).toNat=i.toNat+1 by omega,<-hf]; omega
  ·simp at hc;have hc':decide (i<(s.l.length:Int))=false:=by simpa using hc
   rw [List.drop_eq_nil_of_le (by omega)] at hf;have hf':q=qzu s.l (w.l.drop k.toNat):=by simpa [qzu] using hf
   simp -dsimp [hc',h7];rw [hm,<-hf']
 ·simp at h1;simp -dsimp [h1,qzw]
end
section
variable {d:Bool}{mk:Nat}{h:Heap}
theorem qAu (s:Sy) {w:Wd}(hB:WB h w) (hm:w.m<=h.n) (k:Int) (hs:s.r.l.length<1500000) (hw:w.l.length<1000000000):WF PR d mk (.fn 108 [] []) [.agg s.cells,w.v,.int .i64 k] h λx=>x=⟨.int .i64 (qzI s w.l k),h⟩:=by
 refine qBt f108 b108 [.tm 6] rfl rfl rfl rfl rfl rfl ?_;unfold b108;simp -dsimp [Sy.cells];refine WFS.by (of_ok s.r hs) ?_
 intro v h3 e;cases e;simp -dsimp;refine WFS.by (qAJ (slQ (ofL s.r.l)) (hB.keep (h':=h.push (.rows [[V.int IntKind.i64 s.kind,Sl.enc Rg.cells s.r,V.int IntKind.i64 s.n]])) λi hi=>by rw [qBq,Jaa (by omega)]) k (by simpa using qrN hs) (λx hx=>qrM (by simpa using hx)) hw) ?_
 intro v h3 e;cases e;simp -dsimp [qzI]
theorem qAt (s:Sy) {w:Wd}(hB:WB h w) (hm:w.m<=h.n) (k:Int) (hs:s.r.l.length<1500000) (hw:w.l.length<1000000000):WF PR d mk (.fn 68 [] []) [.agg s.cells,w.v,.int .i64 k] h λx=>x=⟨.int .i64 (qzv s w.l k),h⟩:=by
 refine qBt f68 b68 [.tm 6] rfl rfl rfl rfl rfl rfl ?_;unfold b68;have hsc:[V.int IntKind.i64 s.kind,Sl.enc Rg.cells s.r,V.int IntKind.i64 s.n]=s.cells:=rfl;simp -dsimp [Sy.cells];rw [hsc];have hp:∀o:Obj,WB (h.push o) w/\w.m<=(h.push o).n:=λo=>⟨hB.keep λi hi=>by rw [qBq,Jaa (by omega)],by simp; omega⟩;refine WFS.by (qAE 107 108 qcH qzI s (hp _).1 (hp _).2 k hs hw (λ_ _ _ a b=>qpM s a b k hs hw) (λ_ _ _ a b=>qAu s a b k hs hw)) ?_
 intro v h3 e;cases e;simp -dsimp [qzv]
end
section
variable {g:Gr}{w:Wd}{K E W mk l kb sb:Nat}{f0:Int}{V0:List (Int × Int)}{n x:Int}{h0:Heap}
structure BI (g:Gr) (w:Wd) (K E W:Nat) (h0:Heap) (f0:Int) (V0:List (Int × Int)) (f:Int) (V:List (Int × Int)) (H:Heap):Prop where
 s:LS g w K E W f V H
 a:Adv g w.l f0 V0 f V
 f:Fr3 K E W h0 H
theorem BI.step {f f':Int}{V V':List (Int × Int)}{H H':Heap}(h:BI g w K E W h0 f0 V0 f V H) (hs:LS g w K E W f' V' H') (ha:Adv g w.l f V f' V') (hf:Fr3 K E W H H'):BI g w K E W h0 f0 V0 f' V' H' :=
 ⟨hs,h.a.trans ha,h.f.trans hf⟩
theorem qAd (hG:GrW g w) (hS:Spot g w.l (n,x)) (hkb:h0.get kb=some (.rows [[.ptr K 0 0]])) (hsb:h0.get sb=some (.rows [[.int .i64 n,.int .i64 x]])) (lkb:kb<h0.n) (lsb:sb<h0.n)
  (nk:kb≠K/\kb≠E/\kb≠W) (ns:sb≠K/\sb≠E/\sb≠W) (hmk:mk<=K) (hmE:mk<=E) (hmn:mk<=h0.n) (hL0:LS g w K E W f0 V0 h0)
  (hy:∀q f V H,Succ g w.l (n,x) q->BI g w K E W h0 f0 V0 f V H->WF PR false mk (.yld l) [qzC q] H λr=>r.v=.bool true/\∃f' V',LS g w K E W f' V' r.h/\Adv g w.l f V f' V'/\q∈V'/\Fr3 K E W H r.h) :
  WF PR false mk (.fn 66 [] [.ptr kb 0 0,.ptr sb 0 0]) [.yld l] h0 λr=>∃f V,BI g w K E W h0 f0 V0 f V r.h/\Done g w.l (n,x) f V:=by
 have hok:=qaF hG.m;have hin:=qzZ hG.m hS;obtain⟨n0,n1,x0,x1⟩:=hin;simp only at n0 n1 x0 x1;have lK:=hL0.l.lk;have lE:=hL0.l.le;have lW:=hL0.l.lw;refine WF.go f66 b66 [] rfl rfl rfl rfl rfl rfl ?_;unfold b66;obtain⟨p,hp⟩:∃p,lat g.p.l n.toNat=p:=⟨_,rfl⟩;have hpm:p∈g.p.l:=by rw [<-hp]; exact qai (by omega)
 have ha8:=hok.a p hpm;simp -dsimp [hkb,hsb,hL0.l.k,qcT,qbg n0 n1,hp,Pd.cells];refine qaf (λk st=>∃(i:Int) (f:Int) (V:List (Int × Int)),0<=i/\(k:Int)=p.a.l.length-i/\(gK 21).run st.tm=.int .i64 i/\BI g w K E W h0 f0 V0 f V st.h/\(∀a∈p.a.l.take i.toNat,qzA g w.l a.l x f V a.l.length)/\st.defs=[]) p.a.l.length
  ⟨0,f0,V0,by omega,by omega,by simp,⟨hL0,Adv.refl,Fr3.refl⟩,by simp,rfl⟩ ?_
 rintro k ⟨tm,h1,defs,round⟩ ⟨i,f,U,hi,hk,h21,hB,hdone,rfl⟩ hK';have t0:=hK' 0 rfl;have t1:=hK' 1 rfl;have t2:=hK' 2 rfl;have t19:=hK' 19 rfl;have t20:=hK' 20 rfl;simp at t0 t1 t2 t19 t20 h21;simp only at hB;clear hK';simp -dsimp [h21,t20];rw [qaa];refine⟨λhc=>?_,λhc=>?_⟩
 ·simp at hc;have c1:i<((p.a.l.length:Nat):Int):=by omega
  obtain⟨a,ha⟩:∃a,lat p.a.l i.toNat=a:=⟨_,rfl⟩;have ham:a∈p.a.l:=by rw [<-ha]; exact qai (by omega)
  have ham2:a∈(lat g.p.l n.toNat).a.l:=by rw [hp]; exact ham
  have hal:=hok.s p hpm a ham;simp -dsimp [t19,h21,qoq hi c1,ha,qaK];refine qaf (λk st=>∃(j:Int) (f:Int) (V:List (Int × Int)),0<=j/\(k:Int)=a.l.length-j/\(gK 27).run st.tm=.int .i64 j/\BI g w K E W h0 f0 V0 f V st.h/\(∀a∈p.a.l.take i.toNat,qzA g w.l a.l x f V a.l.length)/\qzA g w.l a.l x f V j.toNat/\st.defs=[]) a.l.length
   ⟨0,f,U,by omega,by omega,by simp,hB,hdone,λi hi=>absurd hi (by simp),rfl⟩ ?_
  rintro k2 ⟨tm2,h2,defs2,round2⟩ ⟨j,f2,V2,hj,hk2,h27,hB2,hdone2,hda2,rfl⟩ hK';have u0:=hK' 0 rfl;have u1:=hK' 1 rfl;have u2:=hK' 2 rfl;have u5:=hK' 5 rfl;have u19:=hK' 19 rfl;have u20:=hK' 20 rfl;have u21:=hK' 21 rfl;have u25:=hK' 25 rfl;have u26:=hK' 26 rfl;simp [t0,t1,t2,t19,t20,h21] at u0 u1 u2 u5 u19 u20 u21 u25 u26 h27;simp only at hB2;clear hK';simp -dsimp [h27,u26];rw [qaa];refine⟨λhd=>?_,λhd=>?_⟩
  ·simp at hd;have d1:j<((a.l.length:Nat):Int):=by omega
   obtain⟨s,hs⟩:∃s,lat a.l j.toNat=s:=⟨_,rfl⟩;have hsm:s∈a.l:=by rw [<-hs]; exact qai (by omega)
   have hso:=hok.sy p hpm a ham s hsm;have hsr:=hG.r p hpm a ham s hsm;have hf2:=hB2.f.1;have hmk2:mk<=h2.n:=by omega
   have hkb2:h2.get kb=some (.rows [[.ptr K 0 0]]):=by rw [hB2.f.2 kb lkb nk.1 nk.2.1 nk.2.2,hkb]
   have hsb2:h2.get sb=some (.rows [[.int .i64 n,.int .i64 x]]):=by rw [hB2.f.2 sb lsb ns.1 ns.2.1 ns.2.2,hsb]
   have nkb:¬kb=h2.n:=by omega
   have nsb:¬sb=h2.n:=by omega
   have hsc:[V.int IntKind.i64 s.kind,Sl.enc Rg.cells s.r,V.int IntKind.i64 s.n]=s.cells:=rfl;obtain⟨B,hBB⟩:∃B,h2.n=B:=⟨_,rfl⟩;obtain⟨H1,hH1⟩:∃H1,(h2.push (Obj.rows [[V.int IntKind.i64 0,V.nils,V.int IntKind.i64 0]])).set h2.n (Obj.rows [s.cells])=H1:=⟨_,rfl⟩;have hkeep:∀j,j<h2.n->H1.get j=h2.get j:=λj hj=>by rw [<-hH1,qBp,Jaa (by omega),qBq,Jaa (by omega)]
   have hH1n:H1.n=h2.n+1:=by rw [<-hH1]; simp
   have hbx1:H1.get B=some (.rows [s.cells]):=by rw [<-hH1,<-hBB,qBp,Jab rfl]
   have hB3:BI g w K E W h0 f0 V0 f2 V2 H1:=hB2.step (hB2.s.keep (by omega) λi hi _=>hkeep i hi) Adv.refl ⟨by omega,λi hi _ _ _=>hkeep i hi⟩;simp -dsimp [u25,h27,qz7 hj d1,hs,Sy.cells,hmk2];rw [hsc,hH1,hBB];have hkb3:H1.get kb=some (.rows [[.ptr K 0 0]]):=by rw [hkeep kb (by omega),hkb2]
   have hsb3:H1.get sb=some (.rows [[.int .i64 n,.int .i64 x]]):=by rw [hkeep sb (by omega),hsb2]
   have hcutE:∀tm:Tm,(gK 34).run tm=.int .i64 j->qaT 3 (cutK none (some (Opd.t 34)) none) tm (a.enc Sy.cells)=some ((a.cut 0 j.toNat).enc Sy.cells):=λtm ht=>by
    refine qdD (λ_=>rfl) λfl=>?_;simp [ht,qaY (n:=j) (top:=a.l.length) hj (by omega),qdl]
   simp -dsimp [u1,u2,u5,hkb3,hsb3,hcutE];have hcl:(a.cut 0 j.toNat).l=a.l.take j.toNat:=by simp
   refine WFS.by (afterA hG x0 x1 ⟨p,hpm,ham⟩ ⟨j.toNat,hcl⟩ hB3.s.l hmE) ?_
   rintro v h3 ⟨⟨ss,rfl,hsp,hsmem⟩,hL3,hF3⟩;rw [hcl] at hsmem;simp only at hL3 hF3;have hB4:BI g w K E W h0 f0 V0 f2 V2 h3:=hB3.step (hB3.s.ends hL3 hF3) Adv.refl hF3.fr3;have hF31:=hF3.1;have hbx3:h3.get B=some (.rows [s.cells]):=by rw [hF3.2 B (by omega) (by omega),hbx1]
   have hrange:∀y,y∈ss.l->0<=y/\y<=w.l.length:=λy hy=>by
    have:=((hsmem y).1 hy).le x0 x1; omega
   have hssl:=qqa hsp hrange hG.w;simp -dsimp;refine qaf (λk st=>∃(q:Int) (f:Int) (V:List (Int × Int)),0<=q/\(k:Int)=ss.l.length-q/\(gK 40).run st.tm=.int .i64 q/\BI g w K E W h0 f0 V0 f V st.h/\(∀a∈p.a.l.take i.toNat,qzA g w.l a.l x f V a.l.length)/\qzA g w.l a.l x f V j.toNat/\(∀y∈ss.l.take q.toNat,qzY g w.l s y f V)/\st.h.get B=some (.rows [s.cells])/\B<st.h.n/\st.defs=[]) ss.l.length
    ⟨0,f2,V2,by omega,by omega,by simp,hB4,hdone2,hda2,by simp,hbx3,by show B<h3.n; omega,rfl⟩ ?_
   rintro k3 ⟨tm3,h4,defs3,round3⟩ ⟨q,f4,V4,hq,hk3,h40,hB5,hdone4,hda4,hat4,hbx4,hBn4,rfl⟩ hK';have w0:=hK' 0 rfl;have w1:=hK' 1 rfl;have w2:=hK' 2 rfl;have w5:=hK' 5 rfl;have w7:=hK' 7 rfl;have w19:=hK' 19 rfl;have w20:=hK' 20 rfl;have w21:=hK' 21 rfl;have w25:=hK' 25 rfl;have w26:=hK' 26 rfl;have w27:=hK' 27 rfl;have w38:=hK' 38 rfl;have w39:=hK' 39 rfl;simp [u0,u1,u2,u5,u19,u20,u21,u25,u26,h27] at w0 w1 w2 w5 w7 w19 w20 w21 w25 w26 w27 w38 w39 h40;simp only at hB5 hbx4 hBn4;clear hK';simp -dsimp [h40,w39];rw [qaa];refine⟨λhe=>?_,λhe=>?_⟩
   ·simp at he;have e1:q<((ss.l.length:Nat):Int):=by omega
    obtain⟨y,hy'⟩:∃y,lat ss.l q.toNat=y:=⟨_,rfl⟩;have hym:y∈ss.l:=by rw [<-hy']; exact qai (by omega)
    have hyr:=hrange y hym;have hyd:=(hsmem y).1 hym;have ht:ss.l.take (q+1).toNat=ss.l.take q.toNat++[y]:=by
     rw [show (q+1).toNat=q.toNat+1 by omega,Jap,qaz (by omega),hy']; rfl
    have hkb5:h4.get kb=some (.rows [[.ptr K 0 0]]):=by rw [hB5.f.2 kb lkb nk.1 nk.2.1 nk.2.2,hkb]
    simp -dsimp [w38,h40,qe6 hq e1,hy',qaM,w7,hbx4,Sy.cells];rw [qaa];refine⟨λhf=>?_,λhf=>?_⟩
    ·simp at hf;simp -dsimp [w1,w7,hkb5,hB5.s.l.k,qcT,hbx4,Sy.cells];rw [hsc];have hpr:=qzJ (s:=s) hyr.1 hyr.2;have hw200:=hG.w;have hmx:∀tm:Tm,(gK 60).run tm=.int .i64 (y+qzv s w.l y)->qco .i64 tm f4 [Opd.t 60]=some (.int .i64 (max f4 (y+qzv s w.l y))):=λtm h=>by
      rw [qkw (m:=y+qzv s w.l y) (by rw [ev_t,h]; rfl)]; rfl
     refine WFS.by (qAt s hB5.s.l.wb (by have:=hB5.s.l.me; have:=hB5.s.l.le; omega) y hsr (by omega)) ?_
     intro v0 hh0 e;cases e;simp -dsimp [fw64 (n:=y+qzv s w.l y) (by omega) (by omega),hmx,qcT,hB5.s.l.k,hkb5,w1,hmk];have hcand:Cand g w.l (n,x) (y+qzv s w.l y):=⟨a,ham2,j.toNat,by omega,by rw [hs]; exact hf,y,hyd,by rw [hs]⟩;have hadv:Adv g w.l f4 V4 (max f4 (y+qzv s w.l y)) V4:=by
      refine⟨by omega,λ_ h=>h,?_,λ_ h h'=>absurd h h'⟩
      by_cases c:y+qzv s w.l y<=f4
      ·left; omega
      ·right; exact⟨_,_,hS,hcand,by omega⟩
     simp -dsimp [h40,fw64 (n:=q+1) (by omega) (by omega)];refine qah.intro (k3-1) (by omega) ⟨q+1,max f4 (y+qzv s w.l y),V4,by omega,by omega,by simp,hB5.step hB5.s.far hadv ⟨Jac _,λi hi h1 _ _=>by rw [qBp,Jaa h1]⟩,λb hb=>(hdone4 b hb).mono hadv.le hadv.sub,hda4.mono hadv.le hadv.sub,λz hz=>?_,?_,by simpa using hBn4,rfl⟩
     ·rw [ht,Jaj,Jah] at hz;rcases hz with hz|rfl
      ·exact (hat4 z hz).mono hadv.le hadv.sub
      ·exact⟨λ_=>by omega,λh=>absurd h hf⟩
     ·show (Heap.set _ _ _).get B=_;rw [qBp,Jaa (by omega),hbx4]
    ·simp at hf;have hsucc:Succ g w.l (n,x) (s.n,y):=⟨a,ham2,j.toNat,by omega,by rw [hs]; exact hf,y,hyd,by rw [hs]⟩;simp -dsimp [w0,w7,hbx4,Sy.cells];refine WFS.by (hy (s.n,y) f4 V4 h4 hsucc hB5) ?_
     rintro v0 h5 ⟨e,f5,V5,hL5,hA5,hq5,hF5⟩;simp only at e hL5 hF5;subst e;simp -dsimp [h40,fw64 (n:=q+1) (by omega) (by omega)];refine qah.intro (k3-1) (by omega) ⟨q+1,f5,V5,by omega,by omega,by simp,hB5.step hL5 hA5 hF5,λb hb=>(hdone4 b hb).mono hA5.le hA5.sub,hda4.mono hA5.le hA5.sub,λz hz=>?_,?_,by have:=hF5.1; show B<h5.n; omega,rfl⟩
     ·rw [ht,Jaj,Jah] at hz;rcases hz with hz|rfl
      ·exact (hat4 z hz).mono hA5.le hA5.sub
      ·exact⟨λh=>absurd hf h,λ_=>hq5⟩
     ·show h5.get B=_;rw [hF5.2 B hBn4 (by omega) (by omega) (by omega),hbx4]
   ·simp at he;have he':decide (q<(ss.l.length:Int))=false:=by simpa using he
    rw [List.take_of_length_le (by omega)] at hat4;simp -dsimp [he',w27,fw64 (n:=j+1) (by omega) (by omega)];refine qah.intro (k2-1) (by omega) ⟨j+1,f4,V4,by omega,by omega,by simp,hB5,hdone4,λi' hi' y hd=>?_,rfl⟩
    by_cases c:i'<j.toNat
    ·exact hda4 i' c y hd
    ·have:i'=j.toNat:=by omega
     subst this;rw [hs];exact hat4 y ((hsmem y).2 hd)
  ·simp at hd;have hd':decide (j<(a.l.length:Int))=false:=by simpa using hd
   simp -dsimp [hd',u21,fw64 (n:=i+1) (by omega) (by omega)];refine qah.intro (k-1) (by omega) ⟨i+1,f2,V2,by omega,by omega,by simp,hB2,λb hb=>?_,rfl⟩;have ht:p.a.l.take (i+1).toNat=p.a.l.take i.toNat++[a]:=by
    rw [show (i+1).toNat=i.toNat+1 by omega,Jap,qaz (by omega),ha]; rfl
   rw [ht,Jaj,Jah] at hb;rcases hb with hb|rfl
   ·exact hdone2 b hb
   ·intro i' hi'; exact hda2 i' (by omega)
 ·simp at hc;have hc':decide (i<(p.a.l.length:Int))=false:=by simpa using hc
  rw [List.take_of_length_le (by omega)] at hdone;simp -dsimp [hc'];refine⟨f,U,hB,qAK λa ha=>hdone a (by rw [<-hp]; exact ha)⟩
end
variable {g:Gr}{w:Wd}
def allP (g:Gr) (w:List UInt8):List (Int × Int):=(List.range g.p.l.length).flatMap λn:Nat=>(List.range (w.length+1)).map λx:Nat=>((n:Int),(x:Int))
theorem qAw {w:List UInt8}{p:Int × Int}(h:InB g w p):p∈allP g w:=by
 obtain⟨a,b,c,d⟩:=h;simp only [allP,List.mem_flatMap,Jak,List.mem_range];refine⟨p.1.toNat,by omega,p.2.toNat,by omega,?_⟩;rw [show ((p.1.toNat:Nat):Int)=p.1 by omega,show ((p.2.toNat:Nat):Int)=p.2 by omega]
def qAb (g:Gr) (w:List UInt8) (U:List (Int × Int)):Nat:=((allP g w).filter λp=>!decide (p∈U)).length
theorem qAz {w:List UInt8}{U U':List (Int × Int)}(h:∀q∈U,q∈U'):qAb g w U'<=qAb g w U:=by
 unfold qAb;have key:∀l:List (Int × Int),(l.filter λp=>!decide (p∈U')).length<=(l.filter λp=>!decide (p∈U)).length:=by
  intro l;induction l with
  | nil=>simp
  | cons a l ih =>
   simp only [List.filter_cons]
   by_cases c:a∈U
   ·simp [c,h a c,ih]
   ·by_cases c':a∈U'<;>simp [c,c']<;>omega
 exact key _
theorem qAy {w:List UInt8}{U:List (Int × Int)}{p:Int × Int}(hp:InB g w p) (hn:p ∉ U):qAb g w (p::U)<qAb g w U:=by
 refine qhc (λx _ hx=>?_) ⟨p,qAw hp,by simpa using hn,by simp⟩;simp only [Bool.not_eq_true',Jaq,Jag,not_or] at hx ⊢;exact hx.2
theorem qAo {K:Nat}{n x:Int}{d:Bool}{mk:Nat}{h:Heap}:WF PR d mk (.fn 34 [] []) [.ptr K 0 0,.agg [.int .i64 n,.int .i64 x]] h λr=>r=⟨.fn 66 [] [.ptr h.n 0 0,.ptr (h.n+1) 0 0],(h.push (.rows [[.ptr K 0 0]])).push (.rows [[.int .i64 n,.int .i64 x]])⟩:=by
 refine WF.go f34 b34 [.tm 4] rfl rfl rfl rfl rfl rfl ?_;unfold b34;simp -dsimp
theorem qAn:qsr true=.bool true:=rfl
theorem qz6 (hG:GrW g w):∀(m:Nat) (U:List (Int × Int)) (p:Int × Int) (f:Int) (H:Heap) (K E W mk:Nat),qAb g w.l U<m->Spot g w.l p->LS g w K E W f U H->mk<=K->mk<=E->mk<=W ->
  WF PR false mk (.fn 18 [] []) [.ptr K 0 0,qzC p] H λr=>∃f' U',LS g w K E W f' U' r.h/\Adv g w.l f U f' U'/\p∈U'/\Fr3 K E W H r.h
 | 0,_,_,_,_,_,_,_,_,h,_,_,_,_,_=>by omega
 | m+1,U,p,f,H,K,E,W,mk,hm,hS,hL,mK,mE,mW=>by
  have ih:=qz6 hG m;obtain⟨n,x⟩:=p;have hin:=qzZ hG.m hS;have lK:=hL.l.lk;have lE:=hL.l.le;have lW:=hL.l.lw;have lM:=hL.l.mq;refine WF.go f18 b18 [] rfl rfl rfl rfl rfl rfl ?_;unfold b18;obtain⟨es,c,S,w1,w2,w3⟩:=hL.w;have hkk:qzC (n,x)=.agg [.int .i64 n,.int .i64 x]:=rfl;obtain⟨H1,hH1⟩:∃H1,(H.push (Obj.rows [[V.ptr K 0 0]])).push (Obj.rows [[V.int IntKind.i64 n,V.int IntKind.i64 x]])=H1:=⟨_,rfl⟩;have hk1:∀j,j<H.n->H1.get j=H.get j:=λj hj=>by rw [<-hH1,qBq,Jaa (by simp; omega),qBq,Jaa (by omega)]
  have g1:H1.get H.n=some (.rows [[.ptr K 0 0]]):=by rw [<-hH1]; simp
  have g2:H1.get (H.n+1)=some (.rows [[.int .i64 n,.int .i64 x]]):=by rw [<-hH1]; simp
  have hn1:H1.n=H.n+2:=by rw [<-hH1]; simp
  have hW1:H1.get W=some (.map es c):=by rw [hk1 W lW,w1]
  have hK1:=(hk1 K lK).trans hL.l.k;have hlook:=qiC (kn:=.agg [.int,.int]) (zero:=.bool false) qzH qzS hW1 w2 (n,x);rw [w3,hkk] at hlook;simp -dsimp [qzC,-qnc];rw [hH1];simp -dsimp [g1,g2,hK1,qcT,hlook]
  by_cases hp:(n,x)∈U
  ·rw [Jab hp];simp -dsimp [qAn];refine⟨f,U,hL.keep (by omega) λi hi _=>hk1 i hi,Adv.refl,hp,⟨by omega,λi hi _ _ _=>hk1 i hi⟩⟩
  ·rw [Jaa hp];obtain⟨es',c',m1,m2⟩:=qgM (kn:=.agg [.int,.int]) (vf:=qsr) (mk:=mk) qzH qzS hW1 w2 mW (n,x) true;rw [hkk,qAn] at m1;simp -dsimp [g1,g2,hK1,qcT];refine OpS.intro m1 ?_;simp -dsimp [-qar];obtain⟨H2,hH2⟩:∃H2,H1.set W (.map es' c')=H2:=⟨_,rfl⟩;have hn2:H2.n=H.n+2:=by rw [<-hH2,qBB,hn1]
   have hk2:∀j,j<H.n->j≠W->H2.get j=H.get j:=λj hj hW=>by rw [<-hH2,qBp,Jaa hW,hk1 j hj]
   have g12:H2.get H.n=some (.rows [[.ptr K 0 0]]):=by rw [<-hH2,qBp,Jaa (by omega),g1]
   have g22:H2.get (H.n+1)=some (.rows [[.int .i64 n,.int .i64 x]]):=by rw [<-hH2,qBp,Jaa (by omega),g2]
   have hL2:LS g w K E W f ((n,x)::U) H2:=by
    obtain⟨⟨k,⟨fs,d,T,e1,e2⟩,lk,le,lw,ke,kw,ew,wb,mk',me,mw⟩,_⟩:=hL;refine⟨⟨by rw [hk2 K lk kw,k],⟨fs,d,T,by rw [hk2 E le ew,e1],e2⟩,by omega,by omega,by omega,ke,kw,ew,wb.keep λi hi=>hk2 i (by omega) (by omega),mk',me,mw⟩,es',c',_,by rw [<-hH2,qBp,Jab rfl],m2,λq=>?_⟩;rw [qhs,w3]
    by_cases e:q=(n,x)
    ·simp [e]
    ·simp [e]
   rw [hH2];simp -dsimp [g12,g22];refine WFS.by qAo ?_
   intro v h3 e;cases e;obtain⟨H3,hH3⟩:∃H3,(H2.push (Obj.rows [[V.ptr K 0 0]])).push (Obj.rows [[V.int IntKind.i64 n,V.int IntKind.i64 x]])=H3:=⟨_,rfl⟩;have hn3:H3.n=H.n+4:=by rw [<-hH3]; simp [hn2]
   have hk3:∀j,j<H2.n->H3.get j=H2.get j:=λj hj=>by rw [<-hH3,qBq,Jaa (by simp; omega),qBq,Jaa (by omega)]
   have g13:H3.get (H.n+2)=some (.rows [[.ptr K 0 0]]):=by rw [<-hH3]; simp [hn2]
   have g23:H3.get (H.n+3)=some (.rows [[.int .i64 n,.int .i64 x]]):=by rw [<-hH3]; simp [hn2]
   rw [hH3,hn2];simp -dsimp;refine qgr (λst=>st.h=H3/\(gK 2).run st.tm=.ptr H.n 0 0/\(gK 18).run st.tm=.fn 66 [] [.ptr (H.n+2) 0 0,.ptr (H.n+2+1) 0 0]/\st.defs=[]/\st.round=false) (by simp) ?_;rintro⟨tm,H3',defs,round⟩ ⟨rfl,k2,k18,rfl,rfl⟩;simp only at k2 k18 hn3 hk3 g13 g23;refine qeJ rfl ?_;intro H0 asg body hasg hbody z1 z2 z3 z4;simp only at z1 z2 z3 z4;simp only [ev_t,k18];have hk0:∀j,j<H.n->j≠W->H0.get j=H.get j:=λj hj hW=>by rw [z2 j (by omega),hk3 j (by omega),hk2 j hj hW]
   have hL0:LS g w K E W f ((n,x)::U) H0:=hL2.keep (by omega) λi hi _=>by rw [z2 i (by omega),hk3 i hi]
   have g10:H0.get H.n=some (.rows [[.ptr K 0 0]]):=by rw [z2 _ (by omega),hk3 _ (by omega),g12]
   refine Go.Abs.W.mono (qAd (kb:=H.n+2) (sb:=H.n+2+1) (l:=H3'.n+1) hG hS (by rw [z2 _ (by omega),g13]) (by rw [z2 _ (by omega)]; exact g23) (by omega) (by omega) ⟨by omega,by omega,by omega⟩ ⟨by omega,by omega,by omega⟩ mK mE (by omega) hL0 ?_) ?_
   ·intro q f4 U4 H4 hsucc hB;have hB1:=hB.f.1;have hl4:H4.get (H3'.n+1)=some (.loop .ready none tm [19] asg body):=by rw [hB.f.2 _ (by omega) (by omega) (by omega) (by omega),z4]
    refine qDH hl4 hasg hbody (by omega) rfl ?_;obtain⟨qn,qx⟩:=q;have nl:¬H3'.n+1=H4.n:=by omega
    have hmk4:mk<=H4.n:=by omega
    simp -dsimp [qzC,nl,hl4,hmk4];have g14:H4.get H.n=some (.rows [[.ptr K 0 0]]):=by rw [hB.f.2 _ (by omega) (by omega) (by omega) (by omega),g10]
    obtain⟨H5,hH5⟩:∃H5,((H4.push (Obj.rows [[V.int IntKind.i64 0,V.int IntKind.i64 0]])).set H4.n (Obj.rows [[V.int IntKind.i64 qn,V.int IntKind.i64 qx]])).set (H3'.n+1) (.loop .busy none tm [19] asg body)=H5:=⟨_,rfl⟩;have hk5:∀j,j<H4.n->j≠H3'.n+1->H5.get j=H4.get j:=λj hj hjl=>by rw [<-hH5,qBp,Jaa hjl,qBp,Jaa (by omega),qBq,Jaa (by omega)]
    have hn5:H5.n=H4.n+1:=by rw [<-hH5]; simp
    have g15:H5.get H.n=some (.rows [[.ptr K 0 0]]):=by rw [hk5 _ (by omega) (by omega),g14]
    have g45:H5.get H4.n=some (.rows [[.int .i64 qn,.int .i64 qx]]):=by rw [<-hH5,qBp,Jaa (by omega),qBp,Jab rfl]
    have gl5:H5.get (H3'.n+1)=some (.loop .busy none tm [19] asg body):=by rw [<-hH5,qBp,Jab rfl]
    have hL5:LS g w K E W f4 U4 H5:=hB.s.keep (by omega) λi hi hK=>by
     refine hk5 i hi ?_;rcases hK with rfl|rfl|rfl|hK<;>omega
    rw [hH5];simp -dsimp [k2,g15,g45];have hlt:=qAy (w:=w.l) (U:=U) hin hp;have hle:=qAz (g:=g) (w:=w.l) (U:=(n,x)::U) (U':=U4) hB.a.sub;refine WFS.by (ih U4 (qn,qx) f4 H5 K E W mk (by omega) (.step hS hsucc) hL5 mK mE mW) ?_
    rintro v0 H6 ⟨f6,U6,hL6,hA6,hq6,hF6⟩;simp only at hL6 hF6;have hF61:=hF6.1;have gl6:H6.get (H3'.n+1)=some (.loop .busy none tm [19] asg body):=by rw [hF6.2 _ (by omega) (by omega) (by omega) (by omega),gl5]
    simp -dsimp;refine⟨rfl,.busy,none,tm,[19],asg,body,gl6,rfl,f6,U6,?_,hA6,hq6,?_⟩
    ·exact hL6.keep (by simp) λi hi hK=>by
      rw [qBp,Jaa (by rcases hK with rfl|rfl|rfl|hK<;>omega)]
    ·refine⟨by show H4.n<=H6.n; omega,λi hi h1 h2 h3=>?_⟩;show (Heap.set _ _ _).get i=_;rw [qBp];split
     ·rename_i e; rw [e,hl4]
     ·rename_i e; rw [hF6.2 i (by omega) h1 h2 h3,hk5 i hi e]
   ·rintro⟨v,H7⟩ ⟨f7,U7,hB7,hD7⟩;simp only at hB7 ⊢;have hB71:=hB7.f.1;refine⟨by rw [hB7.f.2 _ (by omega) (by omega) (by omega) (by omega),z4],?_⟩;have gd:H7.get H3'.n=some .dfr:=by rw [hB7.f.2 _ (by omega) (by omega) (by omega) (by omega),z3]
    have nd:¬H3'.n=H3'.n+1:=by omega
    have hmk3:mk<=H3'.n:=by omega
    simp -dsimp [gd,hmk3];have hfix:∀i,i<H.n->((H7.set (H3'.n+1) (Obj.loop LoopState.exhausted none tm [19] asg body)).kill H3'.n).get i=H7.get i:=λi hi=>by
     rw [qBr,Jaa (by omega),qBp,Jaa (by omega)]
    refine⟨f7,U7,?_,?_,hB7.a.sub _ (by simp),?_⟩
    ·exact hB7.s.keep (by simp) λi hi hK=>hfix i (by rcases hK with rfl|rfl|rfl|hK<;>omega)
    ·refine⟨hB7.a.le,λq hq=>hB7.a.sub q (by simp [hq]),hB7.a.far,λq hq hn=>?_⟩
     by_cases e:q=(n,x)
     ·subst e; exact⟨hD7,hS⟩
     ·exact hB7.a.done q hq (by simp [e,hn])
    ·refine⟨by simp; omega,λi hi h1 h2 h3=>?_⟩;rw [hfix i hi,hB7.f.2 i (by omega) h1 h2 h3,hk0 i hi h3]
def qzz (g:Gr) (w:List UInt8) (f:Int):Prop:=(f=0\/∃p c,Spot g w p/\Cand g w p c/\f=c)/\0<=f/\∀p c,Spot g w p->Cand g w p c->c<=f
def qzy (g:Gr) (w:List UInt8) (f:Int):Prop:=((qcP g).2=0/\w.length<=200/\qzz g w f)\/(¬((qcP g).2=0/\w.length<=200)/\f=0)
theorem qzT {g:Gr}{w:List UInt8}{f:Int}{U:List (Int × Int)}(h:Adv g w 0 [] f U) (h0:(0,0)∈U):qzz g w f:=by
 have key:∀p,Spot g w p->p∈U:=by
  intro p hp;induction hp with
  | root=>exact h0
  | step _ hs ih=>exact (h.done _ ih (by simp)).1.2 _ hs
 refine⟨h.far,h.le,λp c hp hc=>(h.done p (key p hp) (by simp)).1.1 c hc⟩
theorem qAj {g:Gr}(hg:g.Fine) (hr:∀p∈g.p.l,∀a∈p.a.l,∀s∈a.l,s.r.l.length<1500000) {w:Wd}{mk:Nat}{h:Heap}(hB:WB h w) (hm:w.m<=h.n) (hw:w.l.length<1000000000) (hmk:mk<=h.n) :
  WF PR false mk (.fn 13 [] []) [.agg g.cells,w.v] h λr=>∃K E W f,r.v=.ptr K 0 0/\r.h.get K=some (.rows [[g.p.enc Pd.cells,g.keys.enc qac,w.v,.map E,.map W,.int .i64 f]])/\qzy g w.l f:=by
 refine WF.go f13 b13 [.tm 4] rfl rfl rfl rfl rfl rfl ?_;unfold b13;have hgc:[Sl.enc Pd.cells g.p,Sl.enc qac g.keys]=g.cells:=rfl;obtain⟨hcv,hone⟩:=hB.cells;have hlw:∀H,lenV .sl w.v H=some (.int .i64 w.l.length):=λH=>hB.len;simp -dsimp [Gr.cells,-qar];rw [qar];simp -dsimp [Gr.cells,hcv,hone,-qar];rw [qar];simp -dsimp [Gr.cells,hcv,hone,-qar];refine qgr (λst=>st.h.n=h.n+4/\st.h.get h.n=some (.rows [g.cells])/\LS g w (h.n+3) (h.n+1) (h.n+2) 0 [] st.h/\(gK 1).run st.tm=w.v/\(gK 2).run st.tm=.ptr h.n 0 0/\(gK 5).run st.tm=.ptr (h.n+3) 0 0/\st.defs=[]) ?_ ?_
 ·refine⟨by simp,by simp; rfl,⟨⟨by simp,⟨[],0,[],by simp,rfl,by simp [qaS]⟩,by simp,by simp,by simp,by omega,by omega,by omega,hB.keep λi hi=>?_,by omega,by omega,by omega⟩,[],0,[],by simp,rfl,by simp [qaS]⟩,by simp,by simp,by simp,rfl⟩;simp only [qBq,qBF];rw [Jaa (by omega),Jaa (by omega),Jaa (by omega),Jaa (by omega)]
 rintro⟨tm,H,defs,round⟩ ⟨hn,g1,hL,t1,t2,t5,rfl⟩;simp only at hn g1 hL t1 t2 t5;simp -dsimp [t2,g1,Gr.cells];rw [hgc];refine WFS.by (qqB g hg) ?_
 intro v h1 e;cases e;simp -dsimp;rw [Gd_t];refine⟨λhc=>?_,λhc=>?_⟩
 ·simp at hc;simp -dsimp [t1,hc,hlw];rw [qaa];refine⟨λhd=>?_,λhd=>?_⟩
  ·simp at hd;have hd':w.l.length<=200:=by omega
   obtain⟨c1,c2⟩:=qc8 hc;have hG:GrW g w:=⟨c1,c2,hd',hr⟩;simp -dsimp [t5];refine WFS.by (qz6 hG _ [] (0,0) 0 H _ _ _ mk (Nat.lt_succ_self _) .root hL (by omega) (by omega) (by omega)) ?_
   rintro v H2 ⟨f,U,hL2,hA,h0,hF⟩;simp only at hL2;simp -dsimp [t5];exact⟨_,_,f,hL2.l.k,.inl ⟨hc,hd',qzT hA h0⟩⟩
  ·simp at hd;simp -dsimp [t5];exact⟨_,_,0,hL.l.k,.inr ⟨λh=>by omega,rfl⟩⟩
 ·simp at hc;simp -dsimp [t5,hc];exact⟨_,_,0,hL.l.k,.inr ⟨λh=>hc h.1,rfl⟩⟩
theorem qAD {g:Gr}(hg:g.Fine) (hr:∀p∈g.p.l,∀a∈p.a.l,∀s∈a.l,s.r.l.length<1500000) {w:Wd}{mk:Nat}{h:Heap}(hB:WB h w) (hm:w.m<=h.n) (hw:w.l.length<1000000000) :
  WF PR false mk (.fn 7 [] []) [.agg g.cells,w.v] h λr=>r.h=h/\∃f,r.v=.int .i64 f/\qzy g w.l f:=by
 refine qBE (f:=7) (AP:=PR) (F:=f7) (args:=[.agg g.cells,w.v]) (first:=[]) (cap:=[]) (Q:=λv=>∃f,v=.int .i64 f/\qzy g w.l f) rfl rfl rfl (Nat.le_of_ble_eq_true rfl) ?_;refine qef b7 [.tm 4] rfl rfl ?_;unfold b7;have hgc:[Sl.enc Pd.cells g.p,Sl.enc qac g.keys]=g.cells:=rfl;simp -dsimp [Gr.cells];rw [hgc];refine WFS.by (qAj hg hr (h:=h.push (.rows [g.cells])) (hB.keep λi hi=>by rw [qBq,Jaa (by omega)]) (by simp; omega) hw (by simp)) ?_
 rintro v H ⟨K,E,W,f,rfl,hK,hP⟩;simp only at hK;simp -dsimp [qcT,hK];exact hP
def qaH:List UInt8->Int->List Int
 | [],_=>[]
 | c::l,i=>if c.toNat=10 then (i+1)::qaH l (i+1) else qaH l (i+1)
def qaJ (w:List UInt8):List Int:=if (qaH w 0).getLast?=some (w.length:Int) then qaH w 0 else qaH w 0++[(w.length:Int)]
def qfK:List UInt8->Int->Option Int
 | [],r=>some r
 | c::l,r=>if c.toNat / 64=2 then qfK l (r * 64+(c.toNat % 64:Nat)) else none
def ofX (p:List UInt8) (n:Nat) (head:Int):Int × Bool :=
 if p.length<n\/((lat p 0).toNat:Int)<head then (0,false)
 else match qfK ((p.drop 1).take (n-1)) ((lat p 0).toNat-head) with
  | some r=>(r,mayI r&&decide ((qbB r:Int)=n))
  | none=>(0,false)
def nx4 (D:List UInt8):Int × Int:=if (ofX D 4 240).2=true then ((ofX D 4 240).1,4) else (-1,1)
def nx3 (D:List UInt8):Int × Int:=if (ofX D 3 224).2=true then ((ofX D 3 224).1,3) else nx4 D
def nx2 (D:List UInt8):Int × Int:=if (ofX D 2 192).2=true then ((ofX D 2 192).1,2) else nx3 D
def nx1 (D:List UInt8):Int × Int:=if (ofX D 1 0).2=true then ((ofX D 1 0).1,1) else nx2 D
def qc1 (w:List UInt8) (k:Int):Int × Int :=
 if k<0\/(w.length:Int)<=k then (-1,0) else nx1 (w.drop k.toNat)
def qb0 (w:List UInt8):Nat->Int
 | 0=>-1
 | i+1=>if (lat w i).toNat=10 then i else qb0 w i
def qaW (w:List UInt8) (k:Int):Bool:=decide (0<=k)&&decide (k<=w.length)
def qdw (w:List UInt8) (k:Int):Int:=if qaW w k=true then qb0 w k.toNat+1 else -1
def colF (w:List UInt8) (tab k:Int):Nat->Int->Int->Int
 | 0,_,col=>col
 | m+1,i,col=>if i<k then
   if k<i+(qc1 w i).2 then col
   else if (lat w i.toNat).toNat=9 then colF w tab k m (i+(qc1 w i).2) (col+(tab-col.tmod tab))
   else colF w tab k m (i+(qc1 w i).2) (col+1)
  else col
def colV (w:List UInt8) (tab k:Int):Int:=if qaW w k=true/\1<=tab/\tab<=16 then colF w tab k (w.length+1) (qdw w k) 0 else -1
def qho (c:UInt8):Bool:=c.toNat == 32||c.toNat == 9||c.toNat == 13
def qf2 (w:List UInt8) (k:Int):Int:=if qaW w k=true then w.length-((w.drop k.toNat).dropWhile qho).length else -1
def bitB (m k:Int):Bool:=decide ¬fw .i64 (BitVec.ofInt IntKind.i64.bits m &&& BitVec.ofInt IntKind.i64.bits k).toNat=0
def qdt (g:Gr) (n:Int):Bool:=mayB g&&(decide (0<=n)&&decide (n<g.p.l.length))
def refV (x:Ev) (n k ref:Int):Int:=if qdt x.g n=true/\bitB (lat x.g.p.l n.toNat).marks 8=true then colV x.w.l x.tab k else ref
def qdR (l:List Rg) (w:List UInt8) (k:Int):Bool:=decide ((qc1 w k).1<0) || !hasB l (qc1 w k).1
def tMay (x:Ev) (k upto:Int):Bool:=decide (0<=k)&&(decide (k<=upto)&&(decide (upto<=x.w.l.length)&&(decide (1<=x.tab)&&decide (x.tab<=16))))
def qhy (x:Ev) (k upto:Int):Bool:=!x.g.keys.l.contains ((x.w.l.drop k.toNat).take (upto-k).toNat)
def qbY (x:Ev) (k upto i:Int):Bool:=!(decide ((lat x.w.l i.toNat).toNat=10)&&(decide (qf2 x.w.l (i+1)<upto)&&(decide ((lat x.w.l (qf2 x.w.l (i+1)).toNat).toNat≠10)&&decide (colV x.w.l x.tab (qf2 x.w.l (i+1))<=colV x.w.l x.tab k))))
def qa7 (x:Ev) (k upto:Int):Nat->Bool
 | 0=>true
 | m+1=>qa7 x k upto m&&qbY x k upto (k+m)
def qcW (x:Ev) (k upto:Int):Bool:=qa7 x k upto (upto-k).toNat
def qfl (x:Ev) (k ref:Int):Bool:=decide (colV x.w.l x.tab k=ref)
def qbp (x:Ev) (n k upto ref:Int):Bool :=
 qdt x.g n&&(tMay x k upto&&(qdR (lat x.g.p.l n.toNat).no.l x.w.l upto &&
  ((!bitB (lat x.g.p.l n.toNat).marks 2||qhy x k upto)&&((!bitB (lat x.g.p.l n.toNat).marks 4||qcW x k upto)&&(!bitB (lat x.g.p.l n.toNat).marks 16||qfl x k ref)))))
section
variable {d:Bool}{mk:Nat}{h:Heap}{w:Wd}
end
theorem WB.cut {h:Heap}{w:Wd}(hw:WB h w) {x y:Nat}{lo hi:Opd}{tm:Tm}(h1:x<=y) (h2:y<=w.l.length) (ho:lo.ev tm=.int .i64 x) (hp:hi.ev tm=.int .i64 y):∃v,qaT 1 (cutK (some lo) (some hi) none) tm w.v=some v/\WB h ⟨v,(w.l.drop x).take (y-x),w.m⟩:=by
 have hl:((w.l.drop x).take (y-x)).length=y-x:=by rw [List.length_take,List.length_drop]; omega
 have b1:bnd (x:Int) y=some x:=by simpa using qaY (n:=(x:Int)) (top:=y) (by omega) (by omega)
 have b2:bnd (y:Int) w.l.length=some y:=by simpa using qaY (n:=(y:Int)) (top:=w.l.length) (by omega) (by omega)
 rcases hw with ⟨s,a,b⟩|⟨id,l0,f,rs,a,b,c,d,e⟩
 ·refine⟨(s.cut x y).enc qak,?_,.inl ⟨_,rfl,?_⟩⟩
  ·rw [a];refine qdD (λ_=>rfl) λfl=>?_;rw [b];simp [ho,hp,b2,qdl,b1]
  ·rw [qqd,b]
 ·refine⟨.sl id (l0+x) (y-x) 1 (f&&decide (y=w.l.length)),?_,.inr ⟨id,l0+x,f&&decide (y=w.l.length),rs,by simp only [hl],b,by simp only [hl]; omega,?_,e⟩⟩
  ·rw [a];simp [ho,hp,b2,qdl,b1]
  ·simp only [hl,List.map_take,List.map_drop,<-d];rw [List.drop_take,List.take_take,List.drop_drop,Nat.min_eq_left (by omega)]
section
variable {d:Bool}{mk:Nat}{h:Heap}{w:Wd}
end
section
variable {d:Bool}{mk:Nat}{h:Heap}{w:Wd}
end
theorem qhL {H:Heap}{m n:Nat}{v:V}{l:List Int}(hO:Own H m v 1 (qab l)) (h:n<=m):freeze n H qat v=some ((slOf l).enc qaM):=by
 rcases hO with ⟨rfl,e⟩|⟨id,rfl,hid,hmi,_,hne⟩
 ·have:l=[]:=by simpa [qab] using e
  subst this; rfl
 ·have hl:l≠[]:=λe=>hne (by simp [e,qab]);have hr:qal H (.sl id 0 (qab l).length 1 false)=some (qab l):=by
   simp [qal,hid];exact List.take_of_length_le (by simp)
  have hni:n<=id:=by omega
  rw [qc5,hr];simp only [qcL,qa3,hni,decide_true,cond];simp [slOf,hl,Sl.enc,qab,qaM]
section
variable {mk:Nat}{w:Wd}
end
def qBa (g:Gr) (w:List UInt8) (p:Int × Int):Prop:=(qcP g).2=0/\w.length<=200/\Spot g w p
def SpotV (g:Gr) (w:List UInt8) (V:List (Int × Int)):Prop:=∀p,p∈V↔qBa g w p
open Classical in
noncomputable def qA1 (g:Gr) (w:List UInt8) (k:Int):List Int:=((List.range g.p.l.length).filter λn:Nat=>decide (qBa g w ((n:Int),k))).map λn:Nat=>(n:Int)
theorem qBk {g:Gr}(hg:g.Fine) (hr:∀p∈g.p.l,∀a∈p.a.l,∀s∈a.l,s.r.l.length<1500000) {w:Wd}{mk:Nat}{h:Heap}(hB:WB h w) (hm:w.m<=h.n) (hw:w.l.length<1000000000) (hmk:mk<=h.n) :
  WF PR false mk (.fn 13 [] []) [.agg g.cells,w.v] h λr=>∃K E W f,r.v=.ptr K 0 0/\r.h.get K=some (.rows [[g.p.enc Pd.cells,g.keys.enc qac,w.v,.map E,.map W,.int .i64 f]])/\qzy g w.l f/\h.n<=r.h.n/\K<r.h.n/\W<r.h.n/\(∀i,i<h.n->r.h.get i=h.get i)/\∃V,WOk W V r.h/\SpotV g w.l V:=by
 refine WF.go f13 b13 [.tm 4] rfl rfl rfl rfl rfl rfl ?_;unfold b13;have hgc:[Sl.enc Pd.cells g.p,Sl.enc qac g.keys]=g.cells:=rfl;obtain⟨hcv,hone⟩:=hB.cells;have hlw:∀H,lenV .sl w.v H=some (.int .i64 w.l.length):=λH=>hB.len;simp -dsimp [Gr.cells,-qar];rw [qar];simp -dsimp [Gr.cells,hcv,hone,-qar];rw [qar];simp -dsimp [Gr.cells,hcv,hone,-qar];refine qgr (λst=>(∀i,i<h.n->st.h.get i=h.get i)/\st.h.n=h.n+4/\st.h.get h.n=some (.rows [g.cells])/\LS g w (h.n+3) (h.n+1) (h.n+2) 0 [] st.h/\(gK 1).run st.tm=w.v/\(gK 2).run st.tm=.ptr h.n 0 0/\(gK 5).run st.tm=.ptr (h.n+3) 0 0/\st.defs=[]) ?_ ?_
 ·refine⟨λi hi=>by simp only [qBq,qBF]; rw [Jaa (by omega),Jaa (by omega),Jaa (by omega),Jaa (by omega)],by simp,by simp; rfl,⟨⟨by simp,⟨[],0,[],by simp,rfl,by simp [qaS]⟩,by simp,by simp,by simp,by omega,by omega,by omega,hB.keep λi hi=>?_,by omega,by omega,by omega⟩,[],0,[],by simp,rfl,by simp [qaS]⟩,by simp,by simp,by simp,rfl⟩;simp only [qBq,qBF];rw [Jaa (by omega),Jaa (by omega),Jaa (by omega),Jaa (by omega)]
 rintro⟨tm,H,defs,round⟩ ⟨hkp,hn,g1,hL,t1,t2,t5,rfl⟩;simp only at hkp hn g1 hL t1 t2 t5;simp -dsimp [t2,g1,Gr.cells];rw [hgc];refine WFS.by (qqB g hg) ?_
 intro v h1 e;cases e;simp -dsimp;rw [Gd_t];refine⟨λhc=>?_,λhc=>?_⟩
 ·simp at hc;simp -dsimp [t1,hc,hlw];rw [qaa];refine⟨λhd=>?_,λhd=>?_⟩
  ·simp at hd;have hd':w.l.length<=200:=by omega
   obtain⟨c1,c2⟩:=qc8 hc;have hG:GrW g w:=⟨c1,c2,hd',hr⟩;simp -dsimp [t5];refine WFS.by (qz6 hG _ [] (0,0) 0 H _ _ _ mk (Nat.lt_succ_self _) .root hL (by omega) (by omega) (by omega)) ?_
   rintro v H2 ⟨f,U,hL2,hA,h0,hF⟩;simp only at hL2;simp -dsimp [t5];refine⟨_,_,f,hL2.l.k,.inl ⟨hc,hd',qzT hA h0⟩,by have:=hF.1; simp only at this; omega,hL2.l.lk,hL2.l.lw,λi hi=>by have:=hF.2 i (by omega) (by omega) (by omega) (by omega); simp only at this; rw [this,hkp i hi],U,hL2.w,λp=>⟨λhp=>⟨hc,hd',(hA.done p hp (by simp)).2⟩,λhp=>?_⟩⟩;have hsp:=hp.2.2;induction hsp with
   | root=>exact h0
   | step h1 hs ih=>exact (hA.done _ (ih ⟨hc,hd',h1⟩) (by simp)).1.2 _ hs
  ·simp at hd;simp -dsimp [t5];exact⟨_,_,0,hL.l.k,.inr ⟨λh=>by omega,rfl⟩,by omega,hL.l.lk,hL.l.lw,hkp,[],hL.w,λp=>⟨λhp=>by simp at hp,λhp=>by have:=hp.2.1; omega⟩⟩
 ·simp at hc;simp -dsimp [t5,hc];exact⟨_,_,0,hL.l.k,.inr ⟨λh=>hc h.1,rfl⟩,by omega,hL.l.lk,hL.l.lw,hkp,[],hL.w,λp=>⟨λhp=>by simp at hp,λhp=>absurd hp.1 hc⟩⟩
theorem qBm {g:Gr}(hg:g.Fine) (hr:∀p∈g.p.l,∀a∈p.a.l,∀s∈a.l,s.r.l.length<1500000) {w:Wd}{d:Bool}{mk:Nat}{h:Heap}(hB:WB h w) (hm:w.m<=h.n) (hw:w.l.length<1000000000) (k:Int) :
  WF PR d mk (.fn 9 [] []) [.agg g.cells,w.v,.int .i64 k] h λr=>r=⟨(slOf (qA1 g w.l k)).enc qaM,h⟩:=by
 refine qBt f9 b9 [.tm 6] rfl rfl rfl rfl rfl rfl ?_;unfold b9;have hgc:[Sl.enc Pd.cells g.p,Sl.enc qac g.keys]=g.cells:=rfl;simp -dsimp [Gr.cells];rw [hgc];refine WFS.by (qBk hg hr (h:=h.push (.rows [g.cells])) (hB.keep λi hi=>by rw [qBq,Jaa (by omega)]) (by simp; omega) hw (by simp)) ?_
 rintro v H ⟨K,E,W,f,rfl,hK,hP,hn,hKl,hWl,hkp,U,⟨es,c,S,w1,w2,w3⟩,hV⟩;simp only at hK hn hKl hWl hkp w1;simp only [qBF] at hn hkp;have g1:H.get h.n=some (.rows [[g.p.enc Pd.cells,g.keys.enc qac]]):=by rw [hkp h.n (by omega),qBq,Jab rfl]; rfl
 have hlen:∀H,lenV .sl (g.p.enc Pd.cells) H=some (.int .i64 g.p.l.length):=λH=>by simp
 have hgp:=hg.p;simp -dsimp [g1,hlen];obtain⟨Q,hQ⟩:∃Q:Nat->Bool,Q=λn:Nat=>(open Classical in decide (qBa g w.l ((n:Int),k))):=⟨_,rfl⟩;have hsl:∀i:Nat,qA1 g w.l k=((List.range g.p.l.length).filter Q).map λn:Nat=>(n:Int):=λ_=>by rw [hQ]; rfl
 refine qaf (λm st=>∃(i:Nat) (v:V),i+m=g.p.l.length/\(gK 16).run st.tm=.int .i64 i/\(gK 8).run st.tm=v/\st.h.get K=some (.rows [[g.p.enc Pd.cells,g.keys.enc qac,w.v,.map E,.map W,.int .i64 f]])/\st.h.get W=some (.map es c)/\Own st.h H.n v 1 (qab (((List.range i).filter Q).map λn:Nat=>(n:Int)))/\H.n<=st.h.n/\st.defs=[]) g.p.l.length
  ⟨0,.nils,by omega,by simp,by simp,hK,w1,.inl ⟨rfl,by simp [qab]⟩,Jac _,rfl⟩ ?_
 rintro m ⟨tm,H1,defs,round⟩ ⟨i,v,hi,t16,t8,hK1,hW1,hO,hn1,rfl⟩ hK';have u2:=hK' 2 rfl;have u7:=hK' 7 rfl;have u15:=hK' 15 rfl;simp at u2 u7 u15 t16 t8;simp only at hK1 hW1 hO hn1;clear hK';simp -dsimp [t16,u15];rw [qaa];refine⟨λhc=>?_,λhc=>?_⟩
 ·have d1:i<g.p.l.length:=by simpa using hc
  have hlook:=qiC (kn:=.agg [.int,.int]) (zero:=.bool false) qzH qzS hW1 w2 ((i:Int),k);rw [w3] at hlook;have hkk:qzC ((i:Int),k)=.agg [.int .i64 i,.int .i64 k]:=rfl;rw [hkk] at hlook;have hr1:((List.range (i+1)).filter Q).map (λn:Nat=>(n:Int))=((List.range i).filter Q).map (λn:Nat=>(n:Int))++if Q i=true then [(i:Int)] else []:=by
   rw [List.range_succ,List.filter_append,List.map_append];congr 1;rw [List.filter_cons];split<;>simp
  have f3:fw .i64 ((i:Int)+1)=((i+1:Nat):Int):=by rw [fw64 (by omega) (by omega)]; rfl
  have hQi:Q i=true↔((i:Int),k)∈U:=by rw [hQ,hV]; simp
  by_cases hm2:((i:Int),k)∈U
  ·have hq:=hQi.2 hm2;rw [Jab hq] at hr1;rw [Jab hm2] at hlook;obtain⟨v3,H3,a1,a2,a3,a4,a5⟩:=qaC (mk:=h.n) (bytes:=8) (xs:=qab [(i:Int)]) hO (by omega) (λq hq=>by simp only [qab,List.map_cons,List.map_nil,Jah] at hq; subst hq; exact⟨rfl,rfl⟩) (by
    have:=List.length_filter_le Q (List.range i);simp [qab] at this ⊢; omega) (by omega) hn1
   have hs3:∀j,j<H.n->slId v≠some j:=λj hj=>hO.slId hj;simp -dsimp [t16,u7,u2,hK1,qcT,hlook,qAn];rw [qaE (xs:=qab [(i:Int)]) (by simp [qal,qab])];simp -dsimp [t8];refine OpS.intro a1 ?_;simp -dsimp [t16,f3];refine qah.intro (m-1) (by omega) ⟨i+1,v3,by omega,by simp,by simp,by simp only; rw [a4 K (by omega) (hs3 _ hKl),hK1],by simp only; rw [a4 W (by omega) (hs3 _ hWl),hW1],?_,by simp only; omega,rfl⟩;rw [hr1];simpa [qab] using a2
  ·have hq:¬Q i=true:=λh=>hm2 (hQi.1 h);rw [Jaa hq,List.append_nil] at hr1;rw [Jaa hm2] at hlook;simp -dsimp [t16,u7,u2,hK1,qcT,hlook,f3];exact qah.intro (m-1) (by omega) ⟨i+1,v,by omega,by simp,by simpa using t8,hK1,hW1,by rw [hr1]; exact hO,hn1,rfl⟩
 ·have d1:i=g.p.l.length:=by simp at hc; omega
  subst d1;simp -dsimp [t8];rw [hsl 0];exact qhL hO (by omega)
theorem qfH:∀(s:List Rg) (b:List UInt8) (k:Nat),qbE s (b.take k)=min (qbE s b) k
 | [],b,k=>by simp [qbE]
 | r::s,[],k=>by simp [qbE]
 | r::s,c::b,0=>by simp [qbE]
 | r::s,c::b,k+1=>by
  simp only [List.take_succ_cons,qbE];split
  ·rw [qfH s b k]; omega
  ·omega
theorem qzG:∀(l:List (Sl Rg)) (b:List UInt8) (k:Nat),qzu l (b.take k)=min (qzu l b) k
 | [],b,k=>by simp [qzu]
 | s::l,b,k=>by simp only [qzu,qfH,qzG l b k]; omega
theorem qzD:∀(l:List (Sl Rg)) (b:List UInt8),qax l b<=qzu l b
 | [],b=>by simp [qax]
 | s::l,b=>by
  have:=qzD l b;simp only [qax,qzu];split<;>omega
def qpV (c:UInt8):Nat:=if c.toNat<128 then 1 else if c.toNat<224 then 2 else if c.toNat<240 then 3 else 4
def Lead (s:Sl Rg):Prop:=∀b,qbE s.l b=s.l.length->∃c b',b=c::b'/\s.l.length=qpV c
theorem qhM {a b:List Int}:∀{n:Nat},0<n->∃t,qiw a b n=⟨lat a 0,lat b 0⟩::t
 | 0,h=>by omega
 | 1,_=>⟨[],rfl⟩
 | n+2,_=>by
  obtain⟨t,e⟩:=qhM (a:=a) (b:=b) (n:=n+1) (by omega);exact⟨t++[⟨lat a (n+1),lat b (n+1)⟩],by rw [qiw,e]; rfl⟩
theorem qlD {x:Int}(h:mayI x=true):lat (putS x).l 0=qcv (qbB x)+x / p2 (6 * (qbB x-1)):=by
 simp only [putS,h,if_true,l_of,putL,lat]; rfl
theorem qmk {i:Nat}{x:Rg}(h:InR (qbs i) x):Lead (qee x):=by
 intro b hb;obtain⟨h1,h2,h3⟩:=h;have a1:=qg0 (i:=i) (x:=x.lo) h1 (by omega);have a2:=qg0 (i:=i) (x:=x.hi) (by omega) h3;have l1:=qit (i:=i) (x:=x.lo) h1 (by omega);have hl:(qee x).l.length=qdg i+1:=by simp [qee,oneL,qe1,l1]
 obtain⟨t,ht⟩:=qhM (a:=(putS x.lo).l) (b:=(putS x.hi).l) (n:=(putS x.lo).l.length) (by omega);have hs:(qee x).l=⟨lat (putS x.lo).l 0,lat (putS x.hi).l 0⟩::t:=by simp [qee,oneL,ht]
 rw [hl];cases b with
 | nil=>rw [hs] at hb; simp [qbE] at hb
 | cons c b =>
  refine⟨c,b,rfl,?_⟩;rw [hs] at hb;have hin:inB ⟨lat (putS x.lo).l 0,lat (putS x.hi).l 0⟩ c=true:=by
   cases hq:inB ⟨lat (putS x.lo).l 0,lat (putS x.hi).l 0⟩ c with
   | true=>rfl
   | false=>simp [qbE,hq] at hb
  rw [qlD a1.1,qlD a2.1,a1.2,a2.2] at hin;simp only [inB,Jad,Jai] at hin;obtain⟨q1,q2⟩:=hin;have e0:p2 0=1:=rfl;have e6:p2 6=64:=rfl;have e12:p2 12=4096:=rfl;have e18:p2 18=262144:=rfl;unfold qbs at h1 h3;unfold qdg at q1 q2 ⊢;unfold qpV;split at h1
  ·rename_i h; subst h; simp [qcv,e0] at q1 q2 h1 h3 ⊢; split<;>(try split)<;>(try split)<;>omega
  ·rename_i h;split at h1
   ·rename_i h'; subst h'; simp [qcv,e6] at q1 q2 h1 h3 ⊢; split<;>(try split)<;>(try split)<;>omega
   ·rename_i h';split at h1
    ·rename_i h'; subst h'; simp [qcv,e12] at q1 q2 h1 h3 ⊢; split<;>(try split)<;>(try split)<;>omega
    ·rename_i h4;split at h1
     ·rename_i h'; subst h'; simp [qcv,e12] at q1 q2 h1 h3 ⊢; split<;>(try split)<;>(try split)<;>omega
     ·rename_i h5; simp [h,h',h4,h5,qcv,e18] at q1 q2 h1 h3 ⊢; split<;>(try split)<;>(try split)<;>omega
theorem qpK {l:List Rg}{s:Sl Rg}(h:s∈ofL l):Lead s:=by
 have k1:∀r i,s∈qdz r i->Lead s:=by
  intro r i;induction i with
  | zero=>intro h; simp [qdz] at h
  | succ i ih =>
   intro h;rw [qdz,Jaj] at h;rcases h with h|h
   ·exact ih h
   ·simp only [ofR,Jak] at h;obtain⟨x,hx,rfl⟩:=h;have hk:=qlG i;exact qmk (i:=i) (qhE hk.1 (λr' hr'=>qqF hk.1 hk.2.2 hr') hx)
 have k2:∀j,s∈ofUp (qgL l) j->Lead s:=by
  intro j;induction j with
  | zero=>intro h; simp [ofUp] at h
  | succ j ih =>
   intro h;rw [ofUp,Jaj] at h;rcases h with h|h
   ·exact ih h
   ·exact k1 _ _ h
 exact k2 _ h
theorem qdk:∀{l:List (Sl Rg)}{b:List UInt8},(∀s∈l,Lead s)->0<qax l b->∃c b',b=c::b'/\qax l b=qpV c
 | [],b,_,h=>by simp [qax] at h
 | s::l,b,hl,h=>by
  simp only [qax] at h ⊢;split at h
  ·rename_i hf;rw [Jab hf];exact hl s (by simp) b hf
  ·rename_i hf;rw [Jaa hf];exact qdk (λs hs=>hl s (by simp [hs])) h
theorem qdj:∀{l:List (Sl Rg)}{b:List UInt8},(∀s∈l,Lead s)->qax l b=0->∀s∈l,qbE s.l b≠s.l.length
 | [],b,_,_=>by simp
 | s::l,b,hl,h=>by
  simp only [qax] at h;intro t ht;split at h
  ·rename_i hf;obtain⟨c,b',_,e⟩:=hl s (by simp) b hf;exfalso; rw [h] at e; revert e; unfold qpV; split<;>(try split)<;>(try split)<;>simp
  ·rename_i hf;rcases Jag.1 ht with rfl|ht
   ·exact hf
   ·exact qdj (λs hs=>hl s (by simp [hs])) h t ht
theorem qjM {l:List (Sl Rg)}{b:List UInt8}(hl:∀s∈l,Lead s) {s:Sl Rg}(hs:s∈l) (hf:qbE s.l b=s.l.length):0<qax l b:=by
 refine Nat.pos_of_ne_zero λe=>?_;exact qdj hl e s hs hf
theorem qdT:∀{l:List (Sl Rg)}{b:List UInt8},0<qax l b->∃s∈l,qbE s.l b=s.l.length/\qax l b=s.l.length
 | [],b,h=>by simp [qax] at h
 | s::l,b,h=>by
  simp only [qax] at h ⊢;split at h
  ·rename_i hf; rw [Jab hf]; exact⟨s,by simp,hf,rfl⟩
  ·rename_i hf;rw [Jaa hf];obtain⟨t,ht,h1,h2⟩:=qdT h;exact⟨t,by simp [ht],h1,h2⟩
theorem qiM {l:List (Sl Rg)}{b:List UInt8}(hl:∀s∈l,Lead s) (k:Nat):qax l (b.take k)=if qax l b<=k then qax l b else 0:=by
 by_cases h0:0<qax l (b.take k)
 ·obtain⟨s,hs,h1,h2⟩:=qdT h0;rw [qfH] at h1;have hf:=(qlQ s.l b).1;have h3:qbE s.l b=s.l.length:=by omega
  have h4:=qjM hl hs h3;obtain⟨c,b',e,h5⟩:=qdk hl h4;obtain⟨c',b'',e',h6⟩:=qdk hl h0;have hk:k≠0:=by intro hk; subst hk; simp at e'
  obtain⟨k',rfl⟩:∃k',k=k'+1:=⟨k-1,by omega⟩;rw [e,List.take_succ_cons] at e';injection e' with e1 _;subst e1;rw [Jab (by omega),h5,h6]
 ·have h0':qax l (b.take k)=0:=by omega
  rw [h0'];split
  ·rename_i hk
   by_cases h4:0<qax l b
   ·exfalso;obtain⟨s,hs,h1,h2⟩:=qdT h4;exact qdj hl h0' s hs (by rw [qfH]; omega)
   ·omega
  ·rfl
section
variable {s:Sy}{w:List UInt8}{n:Nat}{x:Int}
theorem qpW {α : Type} [Inhabited α] {l:List α}{n i:Nat}(h:i<n):lat (l.take n) i=lat l i:=by
 by_cases c:i<l.length
 ·rw [qBu (by rw [List.length_take]; omega),qBu c,List.getElem_take]
 ·rw [qkB (l:=l.take n) (by rw [List.length_take]; omega),qkB (l:=l) (by omega)]
theorem qkt (hn:n<=w.length):qcH s (w.take n) x=if x<n then qcH s w x else 0:=by
 have hl:(w.take n).length=n:=by rw [List.length_take]; omega
 unfold qcH;rw [hl]
 by_cases c:x<n
 ·rw [Jab c]
  by_cases c0:0<=x
  ·rw [qpW (by omega)];have:x<(w.length:Int):=by omega
   simp [c,c0,this]
  ·rw [Jaa (by omega),Jaa (by omega)]
 ·rw [Jaa c,Jaa (by omega)]
theorem qmW (hx:0<=x) (h:x<=n):(w.take n).drop x.toNat=(w.drop x.toNat).take (n-x.toNat):=by
 rw [List.drop_take]
theorem qgx {l:List (Sl Rg)}(h0:0<=x) (h1:x<=w.length):qb5 l w x=qax l (w.drop x.toNat):=by
 unfold qb5; rw [Jaa (by omega)]
theorem qzF {l:List (Sl Rg)}(h0:0<=x) (h1:x<=w.length):qzw l w x=qzu l (w.drop x.toNat):=by
 unfold qzw; rw [Jaa (by omega)]
theorem qkx (hn:n<=w.length) (h0:0<=x) (h1:x<=n):qbr s (w.take n) x=if x+qbr s w x<=n then qbr s w x else 0:=by
 have hl:(w.take n).length=n:=by rw [List.length_take]; omega
 unfold qbr
 by_cases c0:s.kind=0
 ·simp only [c0,if_true];rw [qkt hn];have:qcH s w x=0\/qcH s w x=1:=by unfold qcH; split<;>simp
  split<;>split<;>omega
 ·simp only [c0,if_false]
  by_cases c1:s.kind=1
  ·simp only [c1,if_true];unfold qml;rw [qgx h0 (by omega),qgx h0 (by omega),qmW h0 h1,qiM λs hs=>qpK hs]
   by_cases c:qax (ofL s.r.l) (w.drop x.toNat)<=n-x.toNat
   ·rw [Jab c,Jab (by omega)]
   ·rw [Jaa c,Jaa (by omega)]; rfl
  ·simp only [c1,if_false];split<;>rfl
theorem qzN (hn:n<=w.length) (h0:0<=x) (h1:x<=n):x+qzv s (w.take n) x=min (x+qzv s w x) n:=by
 have hl:(w.take n).length=n:=by rw [List.length_take]; omega
 unfold qzv
 by_cases c0:s.kind=0
 ·simp only [c0,if_true];rw [qkt hn];have:qcH s w x=0\/qcH s w x=1:=by unfold qcH; split<;>simp
  split<;>omega
 ·simp only [c0,if_false]
  by_cases c1:s.kind=1
  ·simp only [c1,if_true];unfold qzI;rw [qzF h0 (by omega),qzF h0 (by omega),qmW h0 h1,qzG];omega
  ·simp only [c1,if_false]; omega
theorem qzO (h0:0<=x) (h1:x<=w.length):qbr s w x<=qzv s w x:=by
 unfold qbr qzv;split
 ·omega
 ·split
  ·unfold qml qzI;rw [qgx h0 h1,qzF h0 h1];have:=qzD (ofL s.r.l) (w.drop x.toNat);omega
  ·omega
end
section
variable {g:Gr}{w:List UInt8}{n:Nat}
inductive qzE (g:Gr) (w:List UInt8) (n:Int):List Sy->Int->Prop
 | here {s:Sy}{l:List Sy}{x:Int}(hk:s.kind≠2) (h:x+qzv s w x=n):qzE g w n (s::l) x
 | skipT {s:Sy}{l:List Sy}{x:Int}(hk:s.kind≠2) (hm:0<qbr s w x) (h:qzE g w n l (x+qbr s w x)):qzE g w n (s::l) x
 | skipN {s:Sy}{l:List Sy}{a:Sl Sy}{x y:Int}(hk:s.kind=2) (hn:0<=s.n) (ha:a∈(lat g.p.l s.n.toNat).a.l) (h1:DerL g w a.l x y) (h:qzE g w n l y):qzE g w n (s::l) x
 | into {s:Sy}{l:List Sy}{a:Sl Sy}{x:Int}(hk:s.kind=2) (hn:0<=s.n) (ha:a∈(lat g.p.l s.n.toNat).a.l) (h:qzE g w n a.l x):qzE g w n (s::l) x
theorem DerL.cut (hn:n<=w.length) {l:List Sy}{x y:Int}(h:DerL g w l x y) (h0:0<=x) (h1:x<=n):(y<=n/\DerL g (w.take n) l x y)\/qzE g (w.take n) n l x:=by
 induction h with
 | nil=>exact .inl ⟨h1,.nil⟩
 | @term s l x z hk hm h ih =>
  have e:=qkx (s:=s) (w:=w) (n:=n) (x:=x) hn h0 h1
  by_cases c:x+qbr s w x<=n
  ·rw [Jab c] at e;rcases ih (by omega) c with ⟨a,b⟩|b
   ·exact .inl ⟨a,.term hk (by omega) (by rw [e]; exact b)⟩
   ·exact .inr (.skipT hk (by omega) (by rw [e]; exact b))
  ·refine .inr (.here hk ?_);have:=qzO (s:=s) (w:=w) (x:=x) h0 (by omega);rw [qzN hn h0 h1]; omega
 | @non s l a x y z hk hn' ha d1 d2 ih1 ih2 =>
  rcases ih1 h0 h1 with ⟨p,q⟩|q
  ·have:=d1.mono;rcases ih2 (by omega) p with ⟨p',q'⟩|q'
   ·exact .inl ⟨p',.non hk hn' ha q q'⟩
   ·exact .inr (.skipN hk hn' ha q q')
  ·exact .inr (.into hk hn' ha q)
theorem qzE.append {w':List UInt8}{n:Int}{l m:List Sy}{x:Int}(h:qzE g w' n l x):qzE g w' n (l++m) x:=by
 induction h with
 | here hk h=>exact .here hk h
 | skipT hk hm h ih=>exact .skipT hk hm ih
 | skipN hk hn ha h1 h ih=>exact .skipN hk hn ha h1 ih
 | into hk hn ha h ih=>exact .into hk hn ha h
end
theorem qAf {g:Gr}{w:List UInt8}{f f':Int}(h:qzz g w f) (h':qzz g w f'):f=f':=by
 have key:∀{f f':Int},qzz g w f->qzz g w f'->f<=f':=by
  intro f f' h h';rcases h.1 with e|⟨p,c,hp,hc,e⟩
  ·have:=h'.2.1; omega
  ·have:=h'.2.2 p c hp hc; omega
 have:=key h h';have:=key h' h;omega
theorem qz0 {g:Gr}{w:List UInt8}{f f':Int}(h:qzy g w f) (h':qzy g w f'):f=f':=by
 rcases h with ⟨a,b,c⟩|⟨a,b⟩
 ·rcases h' with ⟨a',b',c'⟩|⟨a',b'⟩
  ·exact qAf c c'
  ·exact absurd ⟨a,b⟩ a'
 ·rcases h' with ⟨a',b',c'⟩|⟨a',b'⟩
  ·exact absurd ⟨a',b'⟩ a
  ·omega
noncomputable def qzM (g:Gr) (w:List UInt8):Int:=Classical.epsilon (qzy g w)
theorem qzU {g:Gr}{w:List UInt8}{f:Int}(h:qzy g w f):qzM g w=f:=qz0 (Classical.epsilon_spec ⟨f,h⟩) h
section
variable {g:Gr}(hg:g.Fine) (hr:∀p∈g.p.l,∀a∈p.a.l,∀s∈a.l,s.r.l.length<1500000)
include hg hr
theorem qAg {w:List UInt8}(hw:w.length<1000000000):qzy g w (qzM g w):=by
 obtain⟨l,N,h0,_,_,h3⟩:=qAD hg hr (w:=⟨(Sl.of w).enc qak,w,0⟩) (mk:=0) (h:=⟨0,.e⟩) (.inl ⟨.of w,rfl,rfl⟩) (Nat.zero_le _) hw
 match l,h0,h3 with
 | r::_,_,h3 =>
  obtain⟨_,f,_,hf⟩:=h3 r (by simp);rw [qzU hf]; exact hf
theorem qAq {w:Wd}{d:Bool}{mk:Nat}{h:Heap}(hB:WB h w) (hm:w.m<=h.n) (hw:w.l.length<1000000000) :
  WF PR d mk (.fn 7 [] []) [.agg g.cells,w.v] h λr=>r=⟨.int .i64 (qzM g w.l),h⟩:=by
 refine qBS (f:=7) (AP:=PR) (F:=f7) (args:=[.agg g.cells,w.v]) (first:=[]) (cap:=[]) rfl rfl rfl (Nat.le_of_ble_eq_true rfl) ?_;refine qef b7 [.tm 4] rfl rfl ?_;unfold b7;have hgc:[Sl.enc Pd.cells g.p,Sl.enc qac g.keys]=g.cells:=rfl;simp -dsimp [Gr.cells];rw [hgc];refine WFS.by (qAj hg hr (h:=h.push (.rows [g.cells])) (hB.keep λi hi=>by rw [qBq,Jaa (by omega)]) (by simp; omega) hw (by simp)) ?_
 rintro v H ⟨K,E,W,f,rfl,hK,hP⟩;simp only at hK;simp -dsimp [qcT,hK];exact (qzU hP).symm
end
abbrev Look:=Int->Int->List En
def qa2 (N:Look) (w:List UInt8) (s:Sy) (e:En):List En :=
 if s.kind=2 then (N s.n e.1).map λf=>(f.1,e.2+f.2)
 else if 0<qbr s w e.1 then [(e.1+qbr s w e.1,e.2)] else []
def qaA (N:Look) (w:List UInt8):List Sy->List En->List En
 | [],now=>now
 | s::l,now=>qaA N w l (qbG (now.flatMap (qa2 N w s)))
def qcr (x:Ev) (n k:Int):List En:=if x.heal=true/\(n=0\/bitB (lat x.g.p.l n.toNat).marks 32=true) then ((qaJ x.w.l).filter λy=>decide (k<y)).map λy=>(y,1) else []
def qcG (x:Ev) (N:Look) (n k:Int):List En:=qbG ((lat x.g.p.l n.toNat).a.l.flatMap λa=>qaA N x.w.l a.l [(k,0)])
def qb4 (x:Ev) (n:Int) (c:List En):List En:=if bitB (lat x.g.p.l n.toNat).marks 1=true then c.drop (c.length-1) else c
def endE (x:Ev) (n k ref:Int) (c:List En):List En:=qbG (((qb4 x n c).filter λe=>qbp x n k e.1 ref)++qcr x n k)
def qb9 (x:Ev):Nat->Int->Int->Int->List En × List En
 | 0,_,_,_=>([],[])
 | m+1,n,k,ref=>(qcG x (λn' k'=>(qb9 x m n' k' (refV x n k ref)).2) n k,endE x n k ref (qcG x (λn' k'=>(qb9 x m n' k' (refV x n k ref)).2) n k))
section
variable {x:Ev}{g:Gr}{w:List UInt8}
end
structure EvW (x:Ev):Prop where
 m:mayB x.g=true
 c:qfg x.g = -1
 w:x.w.l.length<=200
 t0:1<=x.tab
 t1:x.tab<=16
section
variable {x:Ev}(hx:EvW x)
include hx
end
noncomputable def qaL (x:Ev) (n k ref:Int):List En × List En:=qb9 x (muN x.g x.w.l n k+1) n k ref
section
variable {x:Ev}(hx:EvW x)
include hx
end
section
variable {x:Ev}(hx:EvW x) {n k ref:Int}(n0:0<=n) (n1:n<x.g.p.l.length) (k0:0<=k) (k1:k<=x.w.l.length)
include hx n0 n1 k0 k1
end
theorem Rch.trans {g:Gr}{a b c:Int}(h:Rch g a b) (h':Rch g b c):Rch g a c:=by
 induction h' with
 | one h2=>exact .more h h2
 | more _ h2 ih=>exact .more ih h2
def qnp (g:Gr) (n:Int):Bool:=bitB (lat g.p.l n.toNat).marks 32
def Whole (g:Gr) (n:Int):Prop:=∀b,Rch g n b->b≠0/\qnp g b=false
theorem qrc {g:Gr}{n:Int}{a:Sl Sy}(ha:a∈(lat g.p.l n.toNat).a.l) {i:Nat}(hi:i<a.l.length) (hk:(lat a.l i).kind=2):(lat a.l i).n∈qhv g n:=by
 unfold qhv qnq;rw [List.mem_filterMap];refine⟨lat a.l i,?_,by rw [Jab hk]⟩;obtain⟨j,hj,rfl⟩:=List.getElem_of_mem ha;have key:∀m,j<m->m<=(lat g.p.l n.toNat).a.l.length->lat ((lat g.p.l n.toNat).a.l[j]).l i∈qbt (lat g.p.l n.toNat).a.l m:=by
  intro m;induction m with
  | zero=>omega
  | succ m ih =>
   intro h1 h2;simp only [qbt,Jaj]
   by_cases c:j=m
   ·subst c; right; rw [qBu (by omega)]; exact qai hi
   ·left; exact ih (by omega) (by omega)
 exact key _ hj (Jac _)
def qis (p same:Bool) (v:V):Bool:=match v with
 | .bool c=>cond (c == p) same true
 | .tup []=>true
 | _=>false
@[simp] theorem qpw {p same c:Bool}:qis p same (.bool c)=cond (c == p) same true:=(rfl)
@[simp] theorem qrI {d g:Nat}{o:RdO}{h:Heap}{tm:Tm}:qgg (some (Pr.gt d g (.r o))) (some h) tm=qis true (qpi ((qbc o).run tm h) ((gK d).run tm)) ((gK g).run tm):=(rfl)
@[simp] theorem qrJ {d g:Nat}{o:RdO}{h:Heap}{tm:Tm}:qgg (some (Pr.gf d g (.r o))) (some h) tm=qis false (qpi ((qbc o).run tm h) ((gK d).run tm)) ((gK g).run tm):=(rfl)
section
variable {d:Bool}{mk:Nat}{h:Heap}
end
section
variable {d:Bool}{mk:Nat}{h:Heap}
end
section
variable {d:Bool}{mk:Nat}{h:Heap}
end
def qad (e:En):List V:=[.int .i64 e.1,.int .i64 e.2]
@[simp] theorem qcg {l:List En}:(qag l).length=l.length:=by simp [qag]
def slE (l:List En):Sl En:=if l=[] then .nil else .of l
@[simp] theorem qjd (l:List En):(slE l).l=l:=by unfold slE; split<;>simp_all
def qba (x:Ev) (M:Nat):List V:=[x.g.p.enc Pd.cells,x.g.keys.enc qac,x.w.v,.int .i64 x.tab,.bool x.heal,.map M]
def qi8 (n k r:Int):V:=.agg [.int .i64 n,.int .i64 k,.int .i64 r]
abbrev Spt:=Int × Int × Int
def qme (p:Spt):V:=qi8 p.1 p.2.1 p.2.2
def qdQ (f:List En × List En):V:=.agg [(slE f.1).enc qad,(slE f.2).enc qad]
def qm6 (x:Ev) (r0 r:Int):Prop:=r=r0\/∃j:Int,0<=j/\j<=x.w.l.length/\r=colV x.w.l x.tab j
structure SptOk (x:Ev) (r0:Int) (p:Spt):Prop where
 n0:0<=p.1
 n1:p.1<x.g.p.l.length
 k0:0<=p.2.1
 k1:p.2.1<=x.w.l.length
 r:qm6 x r0 p.2.2
theorem qm6.ref {x:Ev}{r0 n k r:Int}(h:qm6 x r0 r) (k0:0<=k) (k1:k<=x.w.l.length):qm6 x r0 (refV x n k r):=by
 unfold refV;split
 ·exact .inr ⟨k,k0,k1,rfl⟩
 ·exact h
structure LkE (x:Ev) (r0:Int) (K M:Nat) (h:Heap):Prop where
 k:h.get K=some (.rows [qba x M])
 m:∃es c S,h.get M=some (.map es c)/\MapR qme qdQ es S/\(S.map (·.1)).Nodup/\∀p v,qaS p S=some v->SptOk x r0 p/\v=qaL x p.1 p.2.1 p.2.2
 lk:K<h.n
 lm:M<h.n
 km:K≠M
 wb:WB h x.w
 mq:x.w.m<=K
 mm:x.w.m<=M
theorem LkE.keep {x:Ev}{r0:Int}{K M:Nat}{h h':Heap}(hL:LkE x r0 K M h) (hn:h.n<=h'.n) (hk:∀i,i<h.n->h'.get i=h.get i):LkE x r0 K M h':=by
 obtain⟨k,⟨es,c,S,e1,e2⟩,lk,lm,km,wb,mk,mm⟩:=hL;exact⟨by rw [hk _ lk,k],⟨es,c,S,by rw [hk _ lm,e1],e2⟩,by omega,by omega,km,wb.keep λi hi=>hk i (by omega),mk,mm⟩
section
variable {x:Ev}{r0:Int}{K M mk l B:Nat}{h0:Heap}
end
structure Dfr (n0:Nat) (ms:List Nat) (H:Heap):Prop where
 u:ms.Nodup
 m:∀m∈ms,n0<=m/\m<H.n/\H.get m=some .dfr
theorem Dfr.move {n0:Nat}{ms:List Nat}{H H':Heap}(hD:Dfr n0 ms H) (hn:H.n<=H'.n) (hk:∀m,n0<=m->m<H.n->H.get m=some .dfr->H'.get m=some .dfr):Dfr n0 ms H' :=
 ⟨hD.u,λm hm=>⟨(hD.m m hm).1,by have:=(hD.m m hm).2.1; omega,hk m (hD.m m hm).1 (hD.m m hm).2.1 (hD.m m hm).2.2⟩⟩
theorem LkE.low {x:Ev}{r0:Int}{K M n0:Nat}{h h':Heap}(hL:LkE x r0 K M h) (hK:K<n0) (hM:M<n0) (hn:n0<=h'.n) (hk:∀i,i<n0->h'.get i=h.get i):LkE x r0 K M h':=by
 obtain⟨k,⟨es,c,S,e1,e2⟩,lk,lm,km,wb,mk,mm⟩:=hL;exact⟨by rw [hk _ hK,k],⟨es,c,S,by rw [hk _ hM,e1],e2⟩,by omega,by omega,km,wb.keep λi hi=>hk i (by omega),mk,mm⟩
structure RdE (x:Ev) (r0:Int) (K M:Nat) (h:Heap) (B:Nat) (s:Sy) (P D:Nat) (H0:Heap) (lp:Obj) (ms:List Nat) (nx:List En) (H:Heap):Prop where
 l:LkE x r0 K M H
 f:Fr1 M h H
 b:H.get B=some (.rows [s.cells])
 o:∃v,H.get (B+1)=some (.rows [[v]])/\Own H (B+2) v 2 (qag nx)/\∀id,slId v=some id->id<P\/D+2<=id
 k:∀i,P<=i->i<D+1->H.get i=H0.get i
 p:H.get (D+1)=some lp
 n:D+2<=H.n
 d:Dfr h.n ms H
 m:∀m∈ms,m<P
section
variable {x:Ev}{r0:Int}{K M:Nat}{h:Heap}{B:Nat}{s:Sy}{P D:Nat}{H0 H H':Heap}{lp:Obj}{ms:List Nat}{nx:List En}
theorem RdE.move (hA:RdE x r0 K M h B s P D H0 lp ms nx H) (hM:M<h.n) (hb:h.n<=B) (hP:B+2<=P) (hD:P<=D) (hl:LkE x r0 K M H') (hf:Fr1 M H H'):RdE x r0 K M h B s P D H0 lp ms nx H':=by
 obtain⟨_,f,b,⟨v,hv,hO,hid⟩,k,p,n,d,m⟩:=hA;have:=hf.1;exact⟨hl,f.trans hf,by rw [hf.2 _ (by omega) (by omega),b],⟨v,by rw [hf.2 _ (by omega) (by omega),hv],hO.ext1 (by omega) hf,hid⟩,λi h1 h2=>by rw [hf.2 i (by omega) (by omega),k i h1 h2],by rw [hf.2 _ (by omega) (by omega),p],by omega,d.move hf.1 λq h1 h2 h3=>by rw [hf.2 q h2 (by omega),h3],m⟩
theorem RdE.app {mk:Nat}(hA:RdE x r0 K M h B s P D H0 lp ms nx H) (hK:K<h.n) (hM:M<h.n) (hb:h.n<=B) (hP:B+2<=P) (hD:P<=D) (hmk:mk<=h.n) (hl:nx.length<100000) (y:En) {v:V}(hv:H.get (B+1)=some (.rows [[v]])) :
  ∃v' H4,qaj mk H 2 16 v (qag [y])=some ⟨v',H4⟩/\v'.cells=[v']/\v'.one=true/\H4.get (B+1)=some (.rows [[v]])/\H.n<=H4.n/\H4.get (D+1)=some lp/\RdE x r0 K M h B s P D H0 lp ms (nx++[y]) (H4.set (B+1) (.rows [[v']])):=by
 obtain⟨l,f,b,⟨v0,hv0,hO,hid⟩,k,p,n,d,m⟩:=hA;rw [hv] at hv0;simp only [Jae,Obj.rows.injEq,List.cons.injEq,and_true] at hv0;subst hv0;obtain⟨v',H4,a1,a2,a3,a4,a5⟩:=qaC (mk:=mk) (bytes:=16) (xs:=qag [y]) hO (by omega) (by
  intro r hr;simp only [qag,Jak] at hr;obtain⟨a,_,rfl⟩:=hr;exact⟨rfl,rfl⟩) (by simp only [qcg,List.length_singleton]; omega) (by omega) (by omega)
 have hf:=f.1;have hlow:∀i,i<B+2->H4.get i=H.get i:=λi hi=>a4 i (by omega) (hO.slId hi);have hmid:∀i,P<=i->i<D+2->H4.get i=H.get i:=λi h1 h2=>a4 i (by omega) λe=>by have:=hid i e; omega
 have hs:∀i,i≠B+1->(H4.set (B+1) (.rows [[v']])).get i=H4.get i:=λi hi=>by rw [qBp,Jaa hi]
 have hdf:∀q∈ms,H4.get q=H.get q:=λq hq=>a4 q (by have:=(d.m q hq).2.1; omega) λe=>by
  rcases hO with ⟨q1,_⟩|⟨id,q1,q2,_⟩
  ·rw [q1] at e; cases e
  ·rw [q1] at e;simp only [slId,Jae] at e;subst e;have:=(d.m id hq).2.2;rw [q2] at this; cases this
 refine⟨v',H4,a1,a2.cells.1,a2.cells.2,by rw [hlow _ (by omega),hv],a3,by rw [hmid _ (by omega) (by omega),p],l.low hK hM (by simp; omega) λi hi=>by rw [hs i (by omega),hlow i (by omega)],⟨by simp; omega,λi hi hiM=>by rw [hs i (by omega),hlow i (by omega),f.2 i hi hiM]⟩,by rw [hs _ (by omega),hlow _ (by omega),b],⟨v',by rw [qBp,Jab rfl],?_,λid e=>?_⟩,λi h1 h2=>by rw [hs i (by omega),hmid i h1 (by omega),k i h1 h2],by rw [hs _ (by omega),hmid _ (by omega) (by omega),p],by simp; omega,⟨d.u,λq hq=>⟨(d.m q hq).1,by have:=(d.m q hq).2.1; simp; omega,?_⟩⟩,m⟩
 ·rcases a2 with ⟨q1,q2⟩|⟨id,q1,q2,q3,q4,q5⟩
  ·simp [qag] at q2
  ·exact .inr ⟨id,by simpa [qag] using q1,by rw [hs _ (by omega),q2]; simp [qag],q3,by simpa using q4,by simp [qag]⟩
 ·rcases a5 id e with e|e
  ·omega
  ·exact hid id e
 ·have hne:q≠B+1:=by
   rintro rfl;have:=(d.m _ hq).2.2;rw [hv] at this; cases this
  rw [hs q hne,hdf q hq,(d.m q hq).2.2]
end
section
variable {x:Ev}{r0:Int}{K M mk:Nat}
end
structure SpE (x:Ev) (r0:Int) (K M:Nat) (h:Heap) (n k r:Int) (p:Pd) (nx:List En) (v:V) (H:Heap):Prop where
 l:LkE x r0 K M H
 f:Fr1 M h H
 b:H.get h.n=some (.rows [[.int .i64 n,.int .i64 k,.int .i64 r]])
 c:H.get (h.n+1)=some (.rows [[.nils,.nils]])
 p:H.get (h.n+3)=some (.rows [p.cells])
 o:Own H (h.n+4) v 2 (qag nx)
 n:h.n+4<=H.n
theorem SpE.move {x:Ev}{r0:Int}{K M:Nat}{h:Heap}{n k r:Int}{p:Pd}{nx:List En}{v:V}{H H':Heap}(hS:SpE x r0 K M h n k r p nx v H) (hM:M<h.n) (hl:LkE x r0 K M H') (hf:Fr1 M H H'):SpE x r0 K M h n k r p nx v H':=by
 obtain⟨_,f,b,c,p,o,n⟩:=hS;have:=hf.1;exact⟨hl,f.trans hf,by rw [hf.2 _ (by omega) (by omega),b],by rw [hf.2 _ (by omega) (by omega),c],by rw [hf.2 _ (by omega) (by omega),p],o.ext1 (by omega) hf,by omega⟩
theorem SpE.app {mk:Nat}{x:Ev}{r0:Int}{K M:Nat}{h:Heap}{n k r:Int}{p:Pd}{nx:List En}{v:V}{H:Heap}(hS:SpE x r0 K M h n k r p nx v H) (hK:K<h.n) (hM:M<h.n) (hmk:mk<=h.n) (ys:List En) (hl:nx.length+ys.length<100000) :
  ∃v' H',qaj mk H 2 16 v (qag ys)=some ⟨v',H'⟩/\SpE x r0 K M h n k r p (nx++ys) v' H':=by
 obtain⟨l,f,b,c,p,o,n⟩:=hS;have hf:=f.1;obtain⟨v',H',a1,a2,a3,a4,_⟩:=qaC (mk:=mk) (bytes:=16) (xs:=qag ys) o (by omega) (by
  intro r hr;simp only [qag,Jak] at hr;obtain⟨a,_,rfl⟩:=hr;exact⟨rfl,rfl⟩) (by simp only [qcg]; omega) (by omega) n
 have hk:∀j,j<h.n+4->H'.get j=H.get j:=λj hj=>a4 j (by omega) (o.slId hj);exact⟨v',H',a1,l.low hK hM (by omega) λi hi=>hk i (by omega),⟨by omega,λi hi hiM=>by rw [hk i (by omega),f.2 i hi hiM]⟩,by rw [hk _ (by omega),b],by rw [hk _ (by omega),c],by rw [hk _ (by omega),p],by simpa [qag] using a2,by omega⟩
structure FdE (x:Ev) (r0:Int) (K M:Nat) (h:Heap) (n k r:Int) (T:Nat) (CC:List En) (nx:List En) (v:V) (H:Heap):Prop where
 l:LkE x r0 K M H
 f:Fr1 M h H
 b:H.get h.n=some (.rows [[.int .i64 n,.int .i64 k,.int .i64 r]])
 c:H.get (h.n+1)=some (.rows [[.nils,.nils]])
 g:H.get T=some (.rows [[(slE CC).enc qad,v]])
 o:Own H (T+1) v 2 (qag nx)
 n:T+1<=H.n
 t:h.n+4<=T
theorem FdE.move {x:Ev}{r0:Int}{K M:Nat}{h:Heap}{n k r:Int}{T:Nat}{CC nx:List En}{v:V}{H H':Heap}(hS:FdE x r0 K M h n k r T CC nx v H) (hM:M<h.n) (hl:LkE x r0 K M H') (hf:Fr1 M H H'):FdE x r0 K M h n k r T CC nx v H':=by
 obtain⟨_,f,b,c,g,o,n,t⟩:=hS;have:=hf.1;exact⟨hl,f.trans hf,by rw [hf.2 _ (by omega) (by omega),b],by rw [hf.2 _ (by omega) (by omega),c],by rw [hf.2 _ (by omega) (by omega),g],o.ext1 (by omega) hf,by omega,t⟩
theorem FdE.app {mk:Nat}{x:Ev}{r0:Int}{K M:Nat}{h:Heap}{n k r:Int}{T:Nat}{CC nx:List En}{v:V}{H:Heap}(hS:FdE x r0 K M h n k r T CC nx v H) (hK:K<h.n) (hM:M<h.n) (hmk:mk<=h.n) (y:En) (hl:nx.length<100000) :
  ∃v' H',qaj mk H 2 16 v (qag [y])=some ⟨v',H'⟩/\v'.cells=[v']/\v'.one=true/\H'.get T=some (.rows [[(slE CC).enc qad,v]])/\FdE x r0 K M h n k r T CC (nx++[y]) v' (H'.set T (.rows [[(slE CC).enc qad,v']])):=by
 obtain⟨l,f,b,c,g,o,n,t⟩:=hS;have hf:=f.1;obtain⟨v',H',a1,a2,a3,a4,_⟩:=qaC (mk:=mk) (bytes:=16) (xs:=qag [y]) o (by omega) (by
  intro r hr;simp only [qag,Jak] at hr;obtain⟨a,_,rfl⟩:=hr;exact⟨rfl,rfl⟩) (by simp only [qcg,List.length_singleton]; omega) (by omega) n
 have hk:∀j,j<T+1->H'.get j=H.get j:=λj hj=>a4 j (by omega) (o.slId hj);have hs:∀j,j≠T->(H'.set T (.rows [[(slE CC).enc qad,v']])).get j=H'.get j:=λj hj=>by rw [qBp,Jaa hj]
 refine⟨v',H',a1,a2.cells.1,a2.cells.2,by rw [hk _ (by omega),g],l.low hK hM (by simp; omega) λi hi=>by rw [hs i (by omega),hk i (by omega)],⟨by simp; omega,λi hi hiM=>by rw [hs i (by omega),hk i (by omega),f.2 i hi hiM]⟩,by rw [hs _ (by omega),hk _ (by omega),b],by rw [hs _ (by omega),hk _ (by omega),c],by rw [qBp,Jab rfl],?_,by simp; omega,t⟩;rcases a2 with ⟨q1,q2⟩|⟨id,q1,q2,q3,q4,q5⟩
 ·simp [qag] at q2
 ·exact .inr ⟨id,by simpa [qag] using q1,by rw [hs _ (by omega),q2]; simp [qag],q3,by simpa using q4,by simp [qag]⟩
noncomputable def mayE (x:Ev):Bool:=decide ((qcP x.g).2=0)&&(decide (x.w.l.length<=200)&&(decide (1<=x.tab)&&decide (x.tab<=16)))
section
variable {d:Bool}{mk:Nat}{h:Heap}
end
theorem qoN {g:Gr}(h:(qcP g).2=0):qhx g = -1/\badI g = -1:=by
 have hm:=(qc8 h).1;have hc:=(qc8 h).2;unfold qcP at h;rw [Jab hm] at h
 by_cases c1:qhx g = -1
 ·refine⟨c1,?_⟩
  by_cases c2:qo9 g = -1
  ·by_cases c3:badI g = -1
   ·exact c3
   ·simp [cnL,qcy,hc,c1,c2,c3] at h
  ·simp [cnL,qcy,hc,c1,c2] at h
 ·simp [cnL,qcy,hc,c1] at h
section
variable {s t:Ev}(hs:mayE s=true) (ht:mayE t=true) (hg:t.g=s.g) (hw:t.w=s.w) (htab:t.tab=s.tab) (hh:s.heal=false)
include hs ht hg hw htab hh
end
def qs5 (p:Pd):Pd:=⟨p.a,0,.nil⟩
structure qtQ (g g':Gr):Prop where
 n:g'.p.l.length=g.p.l.length
 a:∀n,(lat g'.p.l n).a=(lat g.p.l n).a
theorem qtj {g:Gr}{p':Sl Pd}{k:Sl (List UInt8)}(h:p'.l=g.p.l.map qs5):qtQ g ⟨p',k⟩:=by
 refine⟨by simp only [h,List.length_map],λn=>?_⟩;simp only [h]
 by_cases c:n<g.p.l.length
 ·rw [qBu (by simpa using c),qBu c,List.getElem_map]; rfl
 ·have e1:lat (g.p.l.map qs5) n=default:=by unfold lat; rw [getElem!_neg _ _ (by simpa using c)]
  have e2:lat g.p.l n=default:=by unfold lat; rw [getElem!_neg _ _ (by simpa using c)]
  rw [e1,e2]
section
variable {g g':Gr}(h:qtQ g g')
include h
theorem qtf (n:Int):qhv g' n=qhv g n:=by
 unfold qhv qnq; rw [h.a]
theorem qtF (a b:Int):rchB g' a b=rchB g a b:=by
 have key:∀{g g':Gr},qtQ g g'->Rch g a b->Rch g' a b:=λ{g g'} h hr=>by
  induction hr with
  | one hb=>exact .one (by rw [qtf h]; exact hb)
  | more _ hc ih=>exact .more ih (by rw [qtf h]; exact hc)
 have h':qtQ g' g:=⟨h.n.symm,λn=>(h.a n).symm⟩;unfold rchB;rw [Bool.eq_iff_iff];simp only [Jai];exact⟨key h',key h⟩
theorem qto (a:Int):qaB g' a=qaB g a:=by
 unfold qaB;rw [h.n];refine List.map_congr_left λk _=>qtF h a k
theorem qtc (ob:List Bool):∀i,qbj g' ob i=qbj g ob i
 | 0=>rfl
 | i+1=>by simp only [qbj,qtc ob i,h.a]
theorem qte:∀k ob,qfX g' k ob=qfX g k ob
 | 0,_=>rfl
 | k+1,ob=>by
  have ih:=qte k;simp only [qfX,qtc h,h.n,ih]
theorem qtG (k:Int):nulB g' k=nulB g k:=by
 have key:∀T:List (Int × Bool),qcQ g' T g.p.l.length↔qcQ g T g.p.l.length:=λT=>by
  unfold qcQ canB; simp only [h.a]
 unfold nulB;rw [Bool.eq_iff_iff];simp only [Jai,h.n,key]
theorem qtp (hm:mayB g'=mayB g) (n:Int):qaq g' n=qaq g n:=by
 have e:nulB g'=nulB g:=funext λk=>qtG h k;unfold qaq qfD;rw [hm,h.n,h.a,e]
theorem qtq (hm:mayB g'=mayB g) (a b:Int):qcO g' a b=qcO g a b:=by
 have hl:=qtp h hm;unfold qcO;rw [Bool.eq_iff_iff];simp only [Jai];constructor
 ·intro hr;induction hr with
  | one hb=>exact .one (by rw [<-hl]; exact hb)
  | more _ hc ih=>exact .more ih (by rw [<-hl]; exact hc)
 ·intro hr;induction hr with
  | one hb=>exact .one (by rw [hl]; exact hb)
  | more _ hc ih=>exact .more ih (by rw [hl]; exact hc)
end
theorem qtl {g:Gr}(hm:mayB g=true) (h1:qfg g = -1) (h2:qhx g = -1) (h3:qo9 g = -1) (h4:badI g = -1) (h5:qrV g = -1):(qcP g).2=0:=by
 unfold qcP;rw [Jab hm];simp [cnL,qcy,h1,h2,h3,h4,h5]
theorem qts {g:Gr}(h:(qcP g).2=0):qo9 g = -1:=by
 have hm:=(qc8 h).1;have hc:=(qc8 h).2;have hl:=(qoN h).1;unfold qcP at h;rw [Jab hm] at h
 by_cases c:qo9 g = -1
 ·exact c
 ·simp [cnL,qcy,hc,hl,c] at h
theorem qtd {p:Nat->Bool}:∀{n:Nat},(∀j,j<n->p j=false)->qgX p n = -1
 | 0,_=>rfl
 | n+1,h=>by
  simp only [qgX];rw [Jab (qtd λj hj=>h j (by omega)),h n (by omega)];rfl
theorem qtK {g:Gr}{p':Sl Pd}{k:Sl (List UInt8)}(h:p'.l=g.p.l.map qs5) (hm:mayB g=true):mayB ⟨p',k⟩=true:=by
 simp only [mayB,Jad,List.all_eq_true,Jai] at hm ⊢;obtain⟨⟨h1,h2⟩,h3⟩:=hm;refine⟨⟨λp hp=>?_,by simp only [h,List.length_map]; exact h2⟩,by simp only [h,List.length_map]; exact h3⟩;simp only [h,List.length_map] at hp ⊢;obtain⟨q,hq,rfl⟩:=Jak.1 hp;have:=h1 q hq;simp only [qcj,Bool.not_eq_true',Bool.or_eq_false_iff,Jaq] at this ⊢;obtain⟨⟨⟨⟨⟨k1,k2⟩,k3⟩,k4⟩,k5⟩,k6⟩:=this;exact⟨⟨⟨⟨⟨k1,k2⟩,by simp [qs5]⟩,by simp [qs5]⟩,rfl⟩,k6⟩
theorem qtt {g:Gr}{p':Sl Pd}{k:Sl (List UInt8)}(h:p'.l=g.p.l.map qs5) (hc:(qcP g).2=0):(qcP ⟨p',k⟩).2=0:=by
 have hs:=qtj (k:=k) h;have hm:=(qc8 hc).1;have hm':=qtK (k:=k) h hm;have hmm:mayB (⟨p',k⟩:Gr)=mayB g:=by rw [hm,hm']
 have hf:∀q:Nat->Bool,qgY ⟨p',k⟩ q = -1:=λq=>by
  unfold qgY;rw [Jab hm'];refine qtd λj hj=>?_;have:qeB (lat p'.l j)=false:=by
   simp only [h,List.length_map] at hj ⊢;rw [qBu (by simpa using hj),List.getElem_map];have hz:qfC 0 0=false:=by decide
   simp [qeB,qs5,Sl.l,hz]
  simp only [this,Bool.false_and]
 refine qtl hm' ?_ ?_ ?_ (hf _) (hf _)
 ·have:=(qc8 hc).2;unfold qfg at this ⊢;rw [hmm,hs.n];simp only [qtq hs hmm];exact this
 ·have:=(qoN hc).1;unfold qhx at this ⊢;rw [hmm,qto hs];exact this
 ·have:=qts hc;unfold qo9 qe4 at this ⊢;rw [hmm,hs.n];simp only [qte hs];exact this
section
variable {s t:Ev}(hs:mayE s=true) (hg:t.g.p.l=s.g.p.l.map qs5) (hw:t.w=s.w) (htab:t.tab=s.tab) (hh:s.heal=false) (hht:t.heal=false)
include hs hg hw htab
include hh hht
end
theorem qBW {g g':Gr}(h:qtQ g g'):qtQ g' g:=⟨h.n.symm,λn=>(h.a n).symm⟩
theorem qCs {g g':Gr}(h:qtQ g g') {w:List UInt8}{l:List Sy}{x y:Int}(hd:DerL g w l x y):DerL g' w l x y:=by
 induction hd with
 | nil=>exact .nil
 | term hk hm _ ih=>exact .term hk hm ih
 | non hk hn ha _ _ ih1 ih2=>exact .non hk hn (by rw [h.a]; exact ha) ih1 ih2
theorem qCc {g g':Gr}(h:qtQ g g') {w:List UInt8}{p:Int × Int}{c:Int}(hc:Cand g w p c):Cand g' w p c:=by
 obtain⟨a,ha,i,hi,hk,y,hd,e⟩:=hc;exact⟨a,by rw [h.a]; exact ha,i,hi,hk,y,qCs h hd,e⟩
theorem qBQ {g g':Gr}(h:qtQ g g') {w:List UInt8}{p:Int × Int}(hp:Spot g w p):Spot g' w p:=by
 induction hp with
 | root=>exact .root
 | step _ hs ih =>
  obtain⟨a,ha,i,hi,hk,y,hd,e⟩:=hs;exact .step ih ⟨a,by rw [h.a]; exact ha,i,hi,hk,y,qCs h hd,e⟩
theorem qCy {g g':Gr}(h:qtQ g g') (hc:(qcP g).2=0) (hc':(qcP g').2=0) {w:List UInt8}{f:Int}(hp:qzy g w f):qzy g' w f:=by
 rcases hp with ⟨_,hw,a,b,c⟩|⟨a,b⟩
 ·refine .inl ⟨hc',hw,?_,b,λp q hp hq=>c p q (qBQ (qBW h) hp) (qCc (qBW h) hq)⟩;rcases a with a|⟨p,q,h1,h2,h3⟩
  ·exact .inl a
  ·exact .inr ⟨p,q,qBQ h h1,qCc h h2,h3⟩
 ·exact .inr ⟨λh1=>a ⟨hc,h1.2⟩,b⟩
theorem qCx {g g':Gr}(h:qtQ g g') (hc:(qcP g).2=0) (hc':(qcP g').2=0) (w:List UInt8) (k:Int):qA1 g' w k=qA1 g w k:=by
 unfold qA1;rw [h.n];congr 1;refine List.filter_congr λn _=>?_;rw [decide_eq_decide];exact⟨λhs=>⟨hc,hs.2.1,qBQ (qBW h) hs.2.2⟩,λhs=>⟨hc',hs.2.1,qBQ h hs.2.2⟩⟩
theorem qDa (g:Gr) (w:List UInt8) (k:Int):(qA1 g w k).Pairwise (· < ·):=by
 unfold qA1;rw [List.pairwise_map];refine (List.Pairwise.sublist List.filter_sublist (List.pairwise_lt_range (n:=g.p.l.length))).imp λh=>by omega
def barU (l:List Pd) (i:Nat):List Pd:=(l.take i).map qs5++l.drop i
theorem qDD {l:List Pd}{i:Nat}(h:i<l.length):((barU l i).map Pd.cells)[i]?=some (lat l i).cells:=by
 unfold barU;rw [List.getElem?_map,List.getElem?_append_right (by simp; omega),show i-((l.take i).map qs5).length=0 by simp; omega,qbu h];rfl
theorem qDp {l:List Pd}{i:Nat}(h:i<l.length):((barU l i).map Pd.cells).set i (qs5 (lat l i)).cells=(barU l (i+1)).map Pd.cells:=by
 unfold barU;have hl:(l.take i).length=i:=by rw [List.length_take]; omega
 rw [List.map_append,List.set_append_right _ _ (by simp; omega),show i-(((l.take i).map qs5).map Pd.cells).length=0 by simp; omega,qbu h,List.map_cons,List.set_cons_zero,Jap,qaz h];simp
theorem qDq {l:List Pd}{i:Nat}:(barU l i).length=l.length:=by simp [barU]; omega
theorem qDr {l:List Pd}{i:Nat}(h:l.length<=i):barU l i=l.map qs5:=by
 unfold barU; rw [List.take_of_length_le h,List.drop_eq_nil_of_le h,List.append_nil]
theorem qCO {g:Gr}(hg:g.Fine) (hr:∀p∈g.p.l,∀a∈p.a.l,∀s∈a.l,s.r.l.length<1500000) (k:Sl (List UInt8)):(⟨.of (g.p.l.map qs5),k⟩:Gr).Fine/\∀p∈(⟨.of (g.p.l.map qs5),k⟩:Gr).p.l,∀a∈p.a.l,∀s∈a.l,s.r.l.length<1500000:=by
 have hbl:∀p∈(⟨.of (g.p.l.map qs5),k⟩:Gr).p.l,∃q∈g.p.l,p=qs5 q:=λp hp=>by
  have hp':p∈g.p.l.map qs5:=hp;obtain⟨q,hq,rfl⟩:=Jak.1 hp';exact⟨q,hq,rfl⟩
 refine⟨⟨⟨by show (g.p.l.map qs5).length<_; rw [List.length_map]; exact hg.p,λp hp=>?_,λp hp=>?_,λp hp=>?_,λp hp=>?_⟩,λp hp=>?_⟩,λp hp=>?_⟩
 ·obtain⟨q,hq,rfl⟩:=hbl p hp; exact hg.a q hq
 ·obtain⟨q,hq,rfl⟩:=hbl p hp; exact hg.s q hq
 ·obtain⟨q,hq,rfl⟩:=hbl p hp; exact hg.r q hq
 ·obtain⟨q,hq,rfl⟩:=hbl p hp; simp [qs5,Sl.l]
 ·obtain⟨q,hq,rfl⟩:=hbl p hp; exact hg.fr q hq
 ·obtain⟨q,hq,rfl⟩:=hbl p hp; exact hr q hq
theorem qCF (s:Sl Rg) (hs:s.l.length<1000000000) {d:Bool}{mk:Nat}{h:Heap}:WF PR d mk (.fn 35 [] []) [s.enc Rg.cells] h λr=>r=⟨.bool (qji s.l),h⟩:=by
 refine qBt f35 b35 [.tm 2] rfl rfl rfl rfl rfl rfl ?_;unfold b35;have hlen:∀H,lenV .sl (s.enc Rg.cells) H=some (.int .i64 s.l.length):=λH=>by simp
 simp -dsimp;refine qaf (λk st=>∃i:Nat,i+k=s.l.length/\qeg s.l i=true/\(gK 3).run st.tm=.int .i64 i/\st.h=h/\st.defs=[]) s.l.length ⟨0,by omega,rfl,by simp,rfl,rfl⟩ ?_;rintro k ⟨tm,h',defs,round⟩ ⟨i,hi,hx,h3,rfl,rfl⟩ hK;have h0:=hK 0 rfl;simp at h0 h3;clear hK;simp -dsimp [h0,h3,hlen];rw [qaa];refine⟨λhl=>?_,λhl=>?_⟩
 ·have c1:i<s.l.length:=by simpa using hl
  have hia:qaw 2 (s.enc Rg.cells) (.int .i64 i)=some (.ptrR (lat s.l i).cells 0):=by
   have:=qe7 (k:=.i64) (n:=(i:Int)) (s:=s) (by omega) (by omega);rw [this]; simp
  have hf:fw .i64 ((i:Int)+1)=(i:Int)+1:=fw64 (by omega) (by omega);obtain⟨x,hxx⟩:∃x,lat s.l i=x:=⟨_,rfl⟩;rw [hxx] at hia;have hbad:rgOk s.l i=false->qji s.l=false:=λe=>qjh (i:=i+1) (by simp [qeg,e]) (by omega);have hgood:rgOk s.l i=true->qeg s.l (i+1)=true:=λe=>by simp [qeg,e,hx]
  have hok:rgOk s.l i = !(decide (x.lo<0)||decide (x.hi<x.lo)||decide (1114111<x.hi)||(decide (0<i)&&decide (x.lo-1<=(lat s.l (i-1)).hi))):=by rw [<-hxx]; rfl
  simp -dsimp [h0,h3,hia,Rg.cells]
  by_cases d1:x.hi<x.lo
  ·have:=hbad (by rw [hok]; simp [d1]);simp -dsimp [d1,this]
  by_cases d2:x.lo<0
  ·have:=hbad (by rw [hok]; simp [d2]);simp -dsimp [d1,d2,h0,h3,hia,Rg.cells,this]
  by_cases d3:1114111<x.hi
  ·have:=hbad (by rw [hok]; simp [d3]);simp -dsimp [d1,d2,d3,h0,h3,hia,Rg.cells,this]
  by_cases d4:0<i
  ·obtain⟨y,hy⟩:∃y,lat s.l (i-1)=y:=⟨_,rfl⟩;have hyok:0<=y.hi/\y.hi<=1114111:=by
    obtain⟨j,rfl⟩:∃j,i=j+1:=⟨i-1,by omega⟩;simp only [qeg,Jad] at hx;have h2:=hx.2;simp only [Nat.add_sub_cancel] at hy;simp only [rgOk,hy] at h2;simp at h2;omega
   have hi1:fw .i64 ((i:Int)-1)=((i-1:Nat):Int):=by rw [fw64 (by omega) (by omega)]; omega
   have hia2:qaw 2 (s.enc Rg.cells) (.int .i64 ((i-1:Nat):Int))=some (.ptrR y.cells 0):=by
    have:=qe7 (k:=.i64) (n:=((i-1:Nat):Int)) (s:=s) (by omega) (by omega);rw [this]; simp [hy]
   have hf2:fw .i64 (y.hi+2)=y.hi+2:=fw64 (by omega) (by omega)
   by_cases d5:x.lo<y.hi+2
   ·have:=hbad (by rw [hok,hy]; simp [d4]; omega);simp -dsimp [d1,d2,d3,d4,d5,h0,h3,hia,hia2,hi1,hf2,Rg.cells,this]
   ·simp -dsimp [d1,d2,d3,d4,d5,h0,h3,hia,hia2,hi1,hf2,hf,Rg.cells];exact qah.intro (k-1) (by omega) ⟨i+1,by omega,hgood (by rw [hok,hy]; simp [d1,d2,d3]; omega),by simp,rfl,rfl⟩
  ·simp -dsimp [d1,d2,d3,d4,h0,h3,hia,hf,Rg.cells];exact qah.intro (k-1) (by omega) ⟨i+1,by omega,hgood (by rw [hok]; simp [d1,d2,d3,d4]),by simp,rfl,rfl⟩
 ·have hl':¬i<s.l.length:=by simpa using hl
  have:qji s.l=true:=by
   cases hm:qji s.l with
   | true=>rfl
   | false=>rw [qjh hm (j:=i) (by omega)] at hx; exact hx
  simp -dsimp [this]
theorem qDf (s:Sy) (many:Int) (hs:s.r.l.length<1000000000) {d:Bool}{mk:Nat}{h:Heap}:WF PR d mk (.fn 36 [] []) [.agg s.cells,.int .i64 many] h λv=>v=⟨.bool (!badB many s),h⟩:=by
 refine qBt f36 b36 [.tm 4] rfl rfl rfl rfl rfl rfl ?_;unfold b36;have hlen:∀H,lenV .sl (s.r.enc Rg.cells) H=some (.int .i64 s.r.l.length):=λH=>by simp
 have hsc:s.cells=[.int .i64 s.kind,s.r.enc Rg.cells,.int .i64 s.n]:=rfl;simp -dsimp [hsc];refine WFS.by (qCF s.r hs) ?_
 intro v h' e;cases e;simp -dsimp
 by_cases c2:s.kind=2
 ·have key:badB many s=(decide (s.n<0)||decide (many<=s.n)||decide (0<s.r.l.length)):=by simp [badB,c2]
  by_cases n1:0<=s.n
  ·by_cases n2:s.n<many
   ·by_cases n3:s.r.l=[]
    ·simp -dsimp [c2,n1,n2,n3,hlen,key]
    ·have n3':=List.length_pos_iff.2 n3;simp -dsimp [c2,n1,n2,n3,hlen,key,n3']
   ·simp -dsimp [c2,n1,n2,key]
  ·simp -dsimp [c2,n1,key]
 simp -dsimp [c2];obtain⟨p,hp⟩:∃p:Rg->Bool,p=λr=>decide (s.kind=0)&&decide (255<r.hi):=⟨_,rfl⟩;have hset:setB s=(decide (s.n=0) && !(s.r.l.any p)&&qji s.r.l):=by rw [hp]; rfl
 refine qaf (λk st=>∃i:Nat,i+k=s.r.l.length/\(s.r.l.drop i).any p=s.r.l.any p/\(gK 6).run st.tm=.int .i64 i/\st.h.get h.n=some (.rows [s.cells])/\st.defs=[]) s.r.l.length ⟨0,by omega,rfl,by simp,by simp; rfl,rfl⟩ ?_;rintro k ⟨tm,h',defs,round⟩ ⟨i,hi,hx,h6,g0,rfl⟩ hK;have h2:=hK 2 rfl;have h5:=hK 5 rfl;simp at h2 h5 h6 g0;rw [hsc] at g0;clear hK;simp -dsimp [h2,h6,g0,hlen];rw [qaa];refine⟨λhl=>?_,λhl=>?_⟩
 ·have c1:i<s.r.l.length:=by simpa using hl
  obtain⟨x,hxx⟩:∃x,lat s.r.l i=x:=⟨_,rfl⟩;have hia:qaw 2 (s.r.enc Rg.cells) (.int .i64 i)=some (.ptrR x.cells 0):=by
   have:=qe7 (k:=.i64) (n:=(i:Int)) (s:=s.r) (by omega) (by omega);rw [this]; simp [hxx]
  have hf:fw .i64 ((i:Int)+1)=(i:Int)+1:=fw64 (by omega) (by omega);rw [qbu c1,hxx,List.any_cons] at hx
  by_cases c0:s.kind=0
  ·by_cases c5:255<x.hi
   ·have hpx:p x=true:=by rw [hp]; simp [c0,c5]
    have:badB many s=true:=by simp [badB,c0,hset,<-hx,hpx]
    simp -dsimp [h2,h6,g0,c0,hia,Rg.cells,c5,this]
   ·have hpx:p x=false:=by rw [hp]; simp [c5]
    rw [hpx,Bool.false_or] at hx;simp -dsimp [h2,h6,g0,c0,hia,Rg.cells,c5,hf];exact qah.intro (k-1) (by omega) ⟨i+1,by omega,hx,by simp,by rw [hsc]; simpa [c0] using g0,rfl⟩
  ·have hpx:p x=false:=by rw [hp]; simp [c0]
   rw [hpx,Bool.false_or] at hx;simp -dsimp [h2,h6,g0,c0,hf];exact qah.intro (k-1) (by omega) ⟨i+1,by omega,hx,by simp,by rw [hsc]; exact g0,rfl⟩
 ·have hl':¬i<s.r.l.length:=by simpa using hl
  rw [List.drop_eq_nil_of_le (by omega)] at hx;have hany:s.r.l.any p=false:=by rw [<-hx]; rfl
  rw [hany] at hset
  by_cases c0:s.kind=0
  ·have key:badB many s = !(decide (s.n=0)&&qji s.r.l):=by simp [badB,c0,hset]
   rw [key];cases hr:qji s.r.l with
   | false=>simp -dsimp [h2,h5,g0,c0,hr]
   | true=>simp -dsimp [h2,h5,g0,c0,hr]
  ·by_cases c1:s.kind=1
   ·have key:badB many s = !(decide (s.n=0)&&qji s.r.l):=by simp [badB,c1,hset]
    rw [key];cases hr:qji s.r.l with
    | false=>simp -dsimp [h2,h5,g0,c1,hr]
    | true=>simp -dsimp [h2,h5,g0,c1,hr]
   ·have key:badB many s=true:=by simp [badB,c0,c1,c2]
    rw [key];simp -dsimp [h2,g0,c0,c1]
theorem qBI (g:Gr) (hg:g.Small) {d:Bool}{mk:Nat}{h:Heap}:WF PR d mk (.fn 19 [] []) [.agg g.cells] h λv=>v=⟨.bool (mayB g),h⟩:=by
 have hgp:=hg.p;refine qBt f19 b19 [.tm 2] rfl rfl rfl rfl rfl rfl ?_;unfold b19;have hlp:∀H,lenV .sl (g.p.enc Pd.cells) H=some (.int .i64 g.p.l.length):=λH=>by simp
 have hgc:g.cells=[g.p.enc Pd.cells,g.keys.enc qac]:=rfl;simp -dsimp [hgc];refine qaf (λk st=>∃i:Nat,i+k=g.p.l.length/\(g.p.l.drop i).all (qcj g.p.l.length)=g.p.l.all (qcj g.p.l.length)/\(gK 3).run st.tm=.int .i64 i/\h.n+1<=st.h.n/\st.h.get h.n=some (.rows [g.cells])/\st.defs=[]) g.p.l.length ⟨0,by omega,rfl,by simp,by simp,by simp; rfl,rfl⟩ ?_;rintro k ⟨tm,h',defs,round⟩ ⟨i,hi,hx,h3,hn,g0,rfl⟩ hK;have h1:=hK 1 rfl;simp at h1 h3 g0 hn;rw [hgc] at g0;clear hK;simp -dsimp [h1,h3,g0,hlp];rw [qaa];refine⟨λhl=>?_,λhl=>?_⟩
 ·have c1:i<g.p.l.length:=by simpa using hl
  obtain⟨p,hp⟩:∃p,lat g.p.l i=p:=⟨_,rfl⟩;have hm:p∈g.p.l:=by rw [<-hp]; exact qai c1
  have hia:qaw 3 (g.p.enc Pd.cells) (.int .i64 i)=some (.ptrR p.cells 0):=by
   have:=qap (f:=Pd.cells) (s:=g.p) (esz:=3) (k:=.i64) (n:=(i:Int)) (by omega) (by omega) (λ_=>rfl);rw [this]; simp [hp]
  have hf:fw .i64 ((i:Int)+1)=(i:Int)+1:=fw64 (by omega) (by omega);rw [qbu c1,hp,List.all_cons] at hx;have hn1:=hg.a _ hm;have hn2:=hg.s _ hm;have hn3:=hg.r _ hm;have hn4:=hg.no _ hm;have hbad:qcj g.p.l.length p=false->mayB g=false:=λe=>by
   rw [e,Bool.false_and] at hx; simp [mayB,<-hx]
  have hgood:qcj g.p.l.length p=true->(g.p.l.drop (i+1)).all (qcj g.p.l.length)=g.p.l.all (qcj g.p.l.length):=λe=>by
   rw [<-hx,e,Bool.true_and]
  have hpc:p.cells=[p.a.enc qaK,.int .i64 p.marks,p.no.enc Rg.cells]:=rfl;have hpOk:qcj g.p.l.length p = !(decide ((p.a.l.length:Int)=0)||decide (8<(p.a.l.length:Int))||decide (p.marks<0)||decide (63<p.marks) || !qji p.no.l||p.a.l.any (oddB g.p.l.length)):=rfl;have hne:¬h.n=h'.n:=by omega
  have hle:h.n<=h'.n:=by omega
  obtain⟨H,hH⟩:∃H,(h'.push (.rows [[V.nils,V.int .i64 0,V.nils]])).set h'.n (.rows [[p.a.enc qaK,.int .i64 p.marks,p.no.enc Rg.cells]])=H:=⟨_,rfl⟩;have G1:H.get h'.n=some (.rows [[p.a.enc qaK,.int .i64 p.marks,p.no.enc Rg.cells]]):=by rw [<-hH,qBp,Jab rfl]
  have G0:H.get h.n=some (.rows [[g.p.enc Pd.cells,g.keys.enc qac]]):=by rw [<-hH,qBp,Jaa hne,qBq,Jaa hne,g0]
  have nH:H.n=h'.n+1:=by rw [<-hH]; simp
  have hla:∀H,lenV .sl (p.a.enc qaK) H=some (.int .i64 p.a.l.length):=λH=>by simp
  simp -dsimp [h1,h3,g0,hia,hpc,hle,hH,G1];refine WFS.by (qCF p.no hn4) ?_
  intro v h'' e;cases e;simp -dsimp;cases hb5:qji p.no.l with
  | false =>
   have:=hbad (by rw [hpOk,hb5]; simp);simp -dsimp [this]
  | true =>
  by_cases hb1:p.a.l=[]
  ·have:=hbad (by rw [hpOk,hb1]; simp);simp -dsimp [G1,hla,hb1,this]
  have hb1':=List.length_pos_iff.2 hb1;have i1:¬(p.a.l.length:Int)<1:=by omega
  by_cases hb2:(8:Int)<p.a.l.length
  ·have:=hbad (by rw [hpOk]; simp; omega);simp -dsimp [G1,hla,i1,hb2,this]
  by_cases hb3:p.marks<0
  ·have:=hbad (by rw [hpOk]; simp [hb3]);simp -dsimp [G1,hla,i1,hb2,hb3,this]
  by_cases hb4:63<p.marks
  ·have:=hbad (by rw [hpOk]; simp [hb4]);simp -dsimp [G1,hla,i1,hb2,hb3,hb4,this]
  simp -dsimp [G1,hla,i1,hb2,hb3,hb4];have hany:p.a.l.any (oddB g.p.l.length)=false->(g.p.l.drop (i+1)).all (qcj g.p.l.length)=g.p.l.all (qcj g.p.l.length):=λe=>hgood (by rw [hpOk,e,hb5]; simp [hb1]; omega);have hany':p.a.l.any (oddB g.p.l.length)=true->mayB g=false:=λe=>hbad (by rw [hpOk,e]; simp);refine qaf (λm st=>∃j:Nat,j+m=p.a.l.length/\(p.a.l.drop j).any (oddB g.p.l.length)=p.a.l.any (oddB g.p.l.length)/\(gK 6).run st.tm=.int .i64 j/\st.h=H/\st.defs=[]) p.a.l.length ⟨0,by omega,rfl,by simp,rfl,rfl⟩ ?_;rintro m ⟨tm2,h2,defs,round2⟩ ⟨j,hj,hy,h6,rfl,rfl⟩ hK;have u1:=hK 1 rfl;have u3:=hK 3 rfl;have u4:=hK 4 rfl;simp [h1,h3] at u1 u3 u4 h6;clear hK;simp only at G1 G0 nH;simp -dsimp [u4,h6,G1,hla];rw [qaa];refine⟨λhl2=>?_,λhl2=>?_⟩
  ·have d1:j<p.a.l.length:=by simpa using hl2
   obtain⟨a,ha⟩:∃a,lat p.a.l j=a:=⟨_,rfl⟩;have hma:a∈p.a.l:=by rw [<-ha]; exact qai d1
   have hia2:qaw 1 (p.a.enc qaK) (.int .i64 j)=some (.ptrR [a.enc Sy.cells] 0):=by
    have:=qap (f:=qaK) (s:=p.a) (esz:=1) (k:=.i64) (n:=(j:Int)) (by omega) (by omega) (λ_=>rfl);rw [this]; simp [ha,qaK]
   have hf2:fw .i64 ((j:Int)+1)=(j:Int)+1:=fw64 (by omega) (by omega);rw [qbu d1,ha,List.any_cons] at hy;have ha2:=hn2 a hma;have ha3:=hn3 a hma;have hls:∀H,lenV .sl (a.enc Sy.cells) H=some (.int .i64 a.l.length):=λH=>by simp
   have hodd:oddB g.p.l.length a=true->mayB g=false:=λe=>hany' (by rw [<-hy,e]; rfl);have hodd':oddB g.p.l.length a=false->(p.a.l.drop (j+1)).any (oddB g.p.l.length)=p.a.l.any (oddB g.p.l.length):=λe=>by rw [<-hy,e]; rfl
   have hao:oddB g.p.l.length a=(decide (40<(a.l.length:Int))||a.l.any (badB g.p.l.length)):=rfl;simp -dsimp [u4,h6,G1,hia2,hls]
   by_cases e40:(40:Int)<a.l.length
   ·have:=hodd (by rw [hao]; simp [e40]);simp -dsimp [e40,this]
   simp -dsimp [e40];refine qaf (λq st=>∃z:Nat,z+q=a.l.length/\(a.l.drop z).any (badB g.p.l.length)=a.l.any (badB g.p.l.length)/\(gK 7).run st.tm=.int .i64 z/\st.h=h2/\st.defs=[]) a.l.length ⟨0,by omega,rfl,by simp,rfl,rfl⟩ ?_;rintro q ⟨tm3,h3',defs,round3⟩ ⟨z,hz,hw,h7,rfl,rfl⟩ hK;have v1:=hK 1 rfl;have v3:=hK 3 rfl;have v4:=hK 4 rfl;have v6:=hK 6 rfl;simp [u1,u3,u4,h6] at v1 v3 v4 v6 h7;clear hK;simp only at G1 G0 nH;simp -dsimp [v4,v6,h7,G1,hia2,hls];rw [qaa];refine⟨λhl3=>?_,λhl3=>?_⟩
   ·have e1:z<a.l.length:=by simpa using hl3
    obtain⟨s,hs⟩:∃s,lat a.l z=s:=⟨_,rfl⟩;have hms:s∈a.l:=by rw [<-hs]; exact qai e1
    have hia3:qaw 3 (a.enc Sy.cells) (.int .i64 z)=some (.ptrR s.cells 0):=by
     have:=qz7 (k:=.i64) (n:=(z:Int)) (s:=a) (by omega) (by omega);rw [this]; simp [hs]
    have hf3:fw .i64 ((z:Int)+1)=(z:Int)+1:=fw64 (by omega) (by omega);have hsc:s.cells=[.int .i64 s.kind,s.r.enc Rg.cells,.int .i64 s.n]:=rfl;rw [qbu e1,hs,List.any_cons] at hw;simp -dsimp [v1,v4,v6,h7,G1,G0,hia2,hia3,hlp,hsc];rw [<-hsc];refine WFS.by (qDf s g.p.l.length (ha3 s hms)) ?_
    intro v h'' e;cases e;cases hb:badB g.p.l.length s with
    | true =>
     have:=hodd (by rw [hao,<-hw,hb]; simp);simp -dsimp [this]
    | false =>
     simp -dsimp [h7,hf3];exact qah.intro (q-1) (by omega) ⟨z+1,by omega,by rw [<-hw,hb]; rfl,by simp,rfl,rfl⟩
   ·have hl':¬z<a.l.length:=by simpa using hl3
    rw [List.drop_eq_nil_of_le (by omega)] at hw;simp -dsimp [v6,hf2];exact qah.intro (m-1) (by omega) ⟨j+1,by omega,hodd' (by rw [hao,<-hw]; simp; omega),by simp,rfl,rfl⟩
  ·have hl':¬j<p.a.l.length:=by simpa using hl2
   rw [List.drop_eq_nil_of_le (by omega)] at hy;simp -dsimp [u3,hf];exact qah.intro (k-1) (by omega) ⟨i+1,by omega,hany (by rw [<-hy]; rfl),by simp,by simp; omega,by rw [hgc]; exact G0,rfl⟩
 ·have hl':¬i<g.p.l.length:=by simpa using hl
  rw [List.drop_eq_nil_of_le (by omega)] at hx
  by_cases c1:(1:Int)<=g.p.l.length
  ·by_cases c2:(g.p.l.length:Int)<=60
   ·simp -dsimp [h1,g0,hlp,c1,c2];simp [mayB,<-hx]; omega
   ·simp -dsimp [h1,g0,hlp,c1,c2];simp [mayB,<-hx]; omega
  ·simp -dsimp [h1,g0,hlp,c1];simp [mayB]; omega
set_option linter.unusedSimpArgs false
def bN (S:List Bool) (k:Int):Bool:=decide (0<=k)&&S.getD k.toNat false
theorem qBD {S:List Bool}{i:Nat}:bN S i=S.getD i false:=by simp [bN]
def cntT (S:List Bool):Nat:=S.countP id
theorem qDo {S:List Bool}:∀{t:Nat},t<S.length->S.getD t false=false->cntT (S.set t true)=cntT S+1:=by
 induction S with
 | nil=>intro t ht; simp at ht
 | cons b S ih =>
  intro t ht hf;cases t with
  | zero=>simp at hf; subst hf; simp [cntT]
  | succ t =>
   have:=ih (t:=t) (by simpa using ht) (by simpa using hf);simp only [cntT] at this;simp only [cntT,List.set_cons_succ,List.countP_cons,this]; omega
theorem qDd {S:List Bool}{t:Nat}(h:S.getD t false=true):S.set t true=S:=by
 by_cases ht:t<S.length
 ·apply List.ext_getElem (by simp);intro i h1 h2;rw [List.getElem_set];split
  ·rename_i e; subst e; simp [List.getD_eq_getElem?_getD,ht] at h; exact h.symm
  ·rfl
 ·rw [List.set_eq_of_length_le (by omega)]
theorem qB3 {S:List Bool}(h:S.length<=cntT S) {t:Nat}(ht:t<S.length):S.getD t false=true:=by
 have h1:S.countP id=S.length:=Nat.le_antisymm List.countP_le_length h;rw [List.countP_eq_length] at h1;have:=h1 S[t] (List.getElem_mem ht);simp [List.getD_eq_getElem?_getD,ht]; simpa using this
theorem qDn {S:List Bool}{t i:Nat}(ht:t<S.length):(S.set t true).getD i false=if i=t then true else S.getD i false:=by
 simp only [List.getD_eq_getElem?_getD,List.getElem?_set]
 by_cases e:t=i
 ·subst e; simp [ht]
 ·rw [Jaa e,Jaa (λh=>e h.symm)]
def RBs (h:Heap) (v:V) (S:List Bool):Prop:=(∀H,lenV .sl v H=some (.int .i64 S.length))/\∀i:Nat,i<S.length->∃p,qaw 1 v (.int .i64 i)=some p/\qcp none p h=some (.bool (S.getD i false))
theorem qCG {S:List Bool}{v:V}{h:Heap}(hv:RBs h v S) (_hS:S.length<1000000000) (a:Sl Sy) (ha:a.l.length<1000000000) {d:Bool}{mk:Nat} :
  WF PR d mk (.fn 112 [] []) [v,a.enc Sy.cells] h λr=>r=⟨.bool (qeY (bN S) a.l),h⟩:=by
 refine qBt f112 b112 [.tm 4] rfl rfl rfl rfl rfl rfl ?_;unfold b112;obtain⟨hlv,hgv⟩:=hv;have hls:∀H,lenV .sl (a.enc Sy.cells) H=some (.int .i64 a.l.length):=λH=>by simp
 simp -dsimp;refine qaf (λk st=>∃i:Nat,i+k=a.l.length/\(a.l.drop i).any (notN (bN S))=a.l.any (notN (bN S))/\(gK 5).run st.tm=.int .i64 i/\st.h=h/\st.defs=[]) a.l.length ⟨0,by omega,rfl,by simp,rfl,rfl⟩ ?_;rintro k ⟨tm,h',defs,round⟩ ⟨i,hi,hx,h5,rfl,rfl⟩ hK;have h0:=hK 0 rfl;have h1:=hK 1 rfl;simp at h0 h1 h5;clear hK;simp only at hgv;simp -dsimp [h0,h1,h5,hls];rw [qaa];refine⟨λhl=>?_,λhl=>?_⟩
 ·have c1:i<a.l.length:=by simpa using hl
  obtain⟨s,hs⟩:∃s,lat a.l i=s:=⟨_,rfl⟩;have hia:qaw 3 (a.enc Sy.cells) (.int .i64 i)=some (.ptrR s.cells 0):=by
   have:=qz7 (k:=.i64) (n:=(i:Int)) (s:=a) (by omega) (by omega);rw [this]; simp [hs]
  have hf:fw .i64 ((i:Int)+1)=(i:Int)+1:=fw64 (by omega) (by omega);have hsc:s.cells=[.int .i64 s.kind,s.r.enc Rg.cells,.int .i64 s.n]:=rfl;rw [qbu c1,hs,List.any_cons] at hx;have hno:notN (bN S) s=true->qeY (bN S) a.l=false:=λe=>by simp [qeY,<-hx,e]
  simp -dsimp [h0,h1,h5,hia,hsc]
  by_cases c2:s.kind=2
  ·by_cases c3:s.n<0
   ·have:=hno (by simp [notN,bN]; omega);simp -dsimp [c2,c3,h0,h1,h5,hia,hsc,this]
   by_cases c4:(S.length:Int)<=s.n
   ·have:=hno (by simp [notN,bN]; right; right; rw [List.getElem?_eq_none (by omega)]; rfl);simp -dsimp [c2,c3,c4,h0,h1,h5,hia,hsc,hlv,this]
   obtain⟨m,hm⟩:∃m:Nat,s.n=m:=⟨s.n.toNat,by omega⟩;obtain⟨p,hp1,hp2⟩:=hgv m (by omega);have hbn:bN S s.n=S.getD m false:=by rw [hm,qBD]
   have c4':¬(S.length:Int)<=(m:Int):=by omega
   have c3':¬(m:Int)<0:=by omega
   cases hb:S.getD m false with
   | false =>
    have:=hno (by simp only [notN,hbn,hb]; simp);rw [hb] at hp2;simp -dsimp [c2,hm,c3',c4',h0,h1,h5,hia,hsc,hlv,hp1,hp2,this]
   | true =>
    rw [hb] at hp2;simp -dsimp [c2,hm,c3',c4',h0,h1,h5,hia,hsc,hlv,hp1,hp2,hf];exact qah.intro (k-1) (by omega) ⟨i+1,by omega,by rw [<-hx,show notN (bN S) s=false by simp only [notN,hbn,hb,c2]; rfl]; rfl,by simp,rfl,rfl⟩
  ·have:=hno (by simp [notN,c2]);simp -dsimp [c2,this]
 ·have hl':¬i<a.l.length:=by simpa using hl
  rw [List.drop_eq_nil_of_le (by omega)] at hx;have:qeY (bN S) a.l=true:=by simp only [qeY,<-hx]; rfl
  simp -dsimp [this]
set_option linter.unusedSimpArgs false
theorem latB {S:List Bool}{i:Nat}:lat S i=S.getD i false:=by unfold lat; rw [List.getElem!_eq_getElem?_getD,List.getD_eq_getElem?_getD]; rfl
theorem qCd {N M:Int->Bool}(h:∀k,N k=true->M k=true) {l:List Sy}(h1:qeY N l=true):qeY M l=true:=by
 simp only [qeY,notN,Bool.not_eq_true',List.any_eq_false,Bool.or_eq_true,not_or,Jai,Decidable.not_not,Bool.not_eq_true,Bool.not_eq_false'] at h1 ⊢;intro s hs;have h2:=h1 s hs;exact⟨h2.1,by simpa using h _ (by simpa using h2.2)⟩
theorem qCU {g:Gr}{N:Int->Bool}(h:∀k,N k=true->nulB g k=true) {i:Nat}(hi:i<g.p.l.length) {a:Sl Sy}(ha:a∈(lat g.p.l i).a.l) (h1:qeY N a.l=true):nulB g i=true:=by
 simp only [nulB,Jai] at h ⊢;intro T hT;refine hT i hi ?_;simp only [canB,List.any_eq_true];exact⟨a,ha,qCd (λk hk=>h k hk T hT) h1⟩
def CLn (g:Gr) (S:List Bool):Prop:=∀i,i<g.p.l.length->∀a∈(lat g.p.l i).a.l,qeY (bN S) a.l=true->S.getD i false=true
theorem qB2 {S:List Bool}{k:Int}:∀(L:List Nat),isB (L.map λ(i:Nat)=>((i:Int),S.getD i false)) k=(decide (∃i∈L,(i:Int)=k)&&bN S k)
 | []=>by simp [isB,qaS]
 | i::L=>by
  have ih:=qB2 (S:=S) (k:=k) L;simp only [isB] at ih;simp only [List.map_cons,isB,qaS]
  by_cases e:k=(i:Int)
  ·rw [Jab e,e,qBD]; simp
  ·rw [Jaa e,ih];congr 1;simp only [Jag,exists_eq_or_imp,decide_eq_decide];exact⟨.inr,λh=>h.resolve_left λh=>e h.symm⟩
theorem CLn.full {g:Gr}{S:List Bool}(h:CLn g S) {k:Int}(hk:nulB g k=true):bN S k=true:=by
 simp only [nulB,Jai] at hk;have:=hk ((List.range g.p.l.length).map λ(i:Nat)=>((i:Int),S.getD i false)) λi hi hc=>by
  simp only [canB,List.any_eq_true] at hc;obtain⟨a,ha,h1⟩:=hc;have h2:qeY (bN S) a.l=true:=qCd (λk hk=>by rw [qB2] at hk; simp only [Jad] at hk; exact hk.2) h1;have h3:=h i hi a ha h2;rw [qB2,qBD,h3,Bool.and_true,Jai];exact⟨i,List.mem_range.2 hi,rfl⟩
 rw [qB2] at this;simp only [Jad] at this;exact this.2
noncomputable def nulL (g:Gr):List Bool:=(List.range g.p.l.length).map λk:Nat=>nulB g k
@[simp] theorem qDg {g:Gr}:(nulL g).length=g.p.l.length:=by simp [nulL]
theorem qCT {g:Gr}{S:List Bool}(hl:S.length=g.p.l.length) (h:CLn g S) (hs:∀k,bN S k=true->nulB g k=true):S=nulL g:=by
 apply List.ext_getElem (by simp [hl]);intro i h1 h2;simp only [nulL,List.getElem_map,List.getElem_range];have e:S[i]=bN S i:=by rw [qBD,List.getD_eq_getElem?_getD,Jal h1]; rfl
 rw [e,Bool.eq_iff_iff];exact⟨hs i,h.full⟩
def Rd (C:List Bool->Prop) (P:List Bool->Prop) (S0 S:List Bool):Prop:=(S=S0/\P S0)\/(¬C S0/\cntT S0<cntT S)
theorem Rd.one {C P P':List Bool->Prop}{S0 S:List Bool}{t:Nat}{e:Bool}(h:Rd C P S0 S) (ht:t<S.length) (hC:e=true->C S->S.getD t false=true) (hP:P S->(e=true->S.getD t false=true)->P' S) :
  Rd C P' S0 (S.set t (S.getD t false||e)):=by
 cases hb:S.getD t false with
 | true =>
  rw [Bool.true_or,qDd hb];rcases h with ⟨rfl,h⟩|h
  ·exact .inl ⟨rfl,hP h λ_=>hb⟩
  ·exact .inr h
 | false =>
  cases e with
  | false =>
   have:S.set t (false||false)=S:=by
    apply List.ext_getElem (by simp);intro i h1 h2;rw [List.getElem_set];split
    ·rename_i e; subst e; simp [List.getD_eq_getElem?_getD,ht] at hb; exact hb.symm
    ·rfl
   rw [this];rcases h with ⟨rfl,h⟩|h
   ·exact .inl ⟨rfl,hP h λh=>by cases h⟩
   ·exact .inr h
  | true =>
   right;have hc:=qDo ht hb;simp only [Bool.false_or] at hc ⊢;rcases h with ⟨rfl,h⟩|⟨h1,h2⟩
   ·exact⟨λhcl=>absurd (hC rfl hcl) (by rw [hb]; simp),by omega⟩
   ·exact⟨h1,by omega⟩
theorem Rd.done {C P:List Bool->Prop}{S0 S:List Bool}{k:Nat}(h:Rd C P S0 S) (h0:C S0\/k<=cntT S0) (hP:P S0->C S0):C S\/k+1<=cntT S:=by
 rcases h with ⟨rfl,h⟩|⟨h1,h2⟩
 ·exact .inl (hP h)
 ·rcases h0 with h0|h0
  ·exact absurd h0 h1
  ·exact .inr (by omega)
set_option linter.unusedSimpArgs false
noncomputable def allV (g:Gr):V:=if mayB g=true then .slR (qao (nulL g)) false else .nils
structure BS (g:Gr) (N:Int->Bool) (b:Nat) (S:List Bool) (H:Heap):Prop where
 fg:H.get b=some (.rows [g.cells])
 s:H.get (b+1)=some (.rows (qao S))
 n:H.n=b+2
 len:S.length=g.p.l.length
 ok:∀k,bN S k=true->N k=true
theorem BS.rb {g:Gr}{N:Int->Bool}{b:Nat}{S:List Bool}{H:Heap}(h:BS g N b S H) {f:Bool}:RBs H (.sl (b+1) 0 g.p.l.length 1 f) S:=by
 refine⟨λH'=>by simp [h.len],λi hi=>⟨.ptr (b+1) (0+i) 0,?_,?_⟩⟩
 ·have:=qam (e:=1) (id:=b+1) (b:=0) (n:=g.p.l.length) (f:=f) (k:=.i64) (i:=(i:Int)) (by omega) (by have:=h.len; omega);simpa using this
 ·rw [qdL,h.s,qcq,Nat.zero_add,qbv hi,latB]; rfl
theorem qB8 {S:List Bool}{k:Int}(h:bN S k=true):∃i:Nat,k=i/\i<S.length/\S.getD i false=true:=by
 simp only [bN,Jad,Jai] at h;refine⟨k.toNat,by omega,?_,h.2⟩;apply Classical.byContradiction;intro hc;have:=h.2;rw [List.getD_eq_getElem?_getD,List.getElem?_eq_none (by omega)] at this;cases this
theorem qCp {S:List Bool}{t:Nat}{k:Int}{v:Bool}(ht:t<S.length) (h:bN (S.set t v) k=true):(k=t/\v=true)\/bN S k=true:=by
 obtain⟨i,rfl,hi,h1⟩:=qB8 h;rw [<-latB,qcK (by simpa using hi)] at h1
 by_cases e:i=t
 ·subst e; rw [Jab rfl] at h1; exact .inl ⟨rfl,h1⟩
 ·rw [Jaa e,latB] at h1; right; rw [qBD]; exact h1
theorem qCf {n k:Nat}{h:Heap}:∀l:List Bool,allM (allM (freeze n h (k+1))) (qao l)=some (qao l)
 | []=>rfl
 | b::l=>by
  have:=qCf (n:=n) (k:=k) (h:=h) l;simp only [qao] at this;have e:freeze n h (k+1) (.bool b)=some (.bool b):=rfl;simp only [qao,List.map_cons,allM,e,this]
theorem qCo {n id m:Nat}{h:Heap}{l:List Bool}{f:Bool}(hg:h.get id=some (.rows (qao l))) (hn:n<=id) (hm:l.length=m):freeze n h qat (.sl id 0 m 1 f)=some (.slR (qao l) false):=by
 have hr:qal h (.sl id 0 m 1 false)=some (qao l):=by simp [qal,hg,hm]; rw [List.take_of_length_le (by simp [hm])]
 show cond (Nat.ble n id) (match qal h (.sl id 0 m 1 false) with|some rows=>(match allM (allM (freeze n h 15)) rows with|some r=>some (V.slR r false)|none=>none)|none=>none) none=_;rw [hr];simp only [qCf,qa3,hn,decide_true,cond]
theorem qDG (g:Gr) (hg:g.Small) {d:Bool}{mk:Nat}{h:Heap}:WF PR d mk (.fn 111 [] []) [.agg g.cells] h λr=>r=⟨allV g,h⟩:=by
 refine qBt f111 b111 [.tm 2] rfl rfl rfl rfl rfl rfl ?_;unfold b111;have hlp:∀H,lenV .sl (g.p.enc Pd.cells) H=some (.int .i64 g.p.l.length):=λH=>by simp
 have hgc:g.cells=[g.p.enc Pd.cells,g.keys.enc qac]:=rfl;simp -dsimp [hgc];rw [<-hgc];refine WFS.by (qBI g hg) ?_
 intro v h' e;cases e;cases hm:mayB g with
 | false =>
  have:allV g=.nils:=by simp [allV,hm]
  simp -dsimp [this]
 | true =>
 have hok:=qaF hm;have hp60:=hok.p;have hp0:=hok.p0;simp -dsimp [hgc,qgi (n:=g.p.l.length) (by omega)];have hgb:∀S:List Bool,S.length=g.p.l.length->(∀k,bN S k=true->nulB g k=true)->CLn g S\/g.p.l.length<=cntT S->S=nulL g:=λS hl hs h=>by
  rcases h with h|h
  ·exact qCT hl h hs
  ·exact qCT hl (λi hi a ha _=>qB3 (by omega) (by omega)) hs
 refine qaf (λq st=>∃(k:Nat) (S:List Bool),k+q=g.p.l.length/\(gK 5).run st.tm=.int .i64 k/\BS g (nulB g) h.n S st.h/\(CLn g S\/k<=cntT S)/\st.defs=[]) g.p.l.length
  ⟨0,List.replicate g.p.l.length false,by omega,by simp,⟨by simp; exact hgc.symm,by simp [qao],by simp,by simp,λk hk=>?_⟩,.inr (by omega),rfl⟩ ?_
 ·obtain⟨i,rfl,hi,h1⟩:=qB8 hk;simp [List.getD_eq_getElem?_getD,List.getElem?_replicate] at h1;split at h1<;>simp at h1
 rintro q ⟨tm,H,defs,round⟩ ⟨k,S0,hq,h5,hB,hk,rfl⟩ hK;have h1:=hK 1 rfl;have h4:=hK 4 rfl;simp at h1 h4 h5;clear hK;simp only at hB;have gg:=hB.fg;rw [hgc] at gg;simp -dsimp [h1,h5,gg,hlp];rw [qaa];refine⟨λhl=>?_,λhl=>?_⟩
 ·have c1:k<g.p.l.length:=by simpa using hl
  have hf:fw .i64 ((k:Int)+1)=(k:Int)+1:=fw64 (by omega) (by omega);simp -dsimp;refine qaf (λq st=>∃(i:Nat) (S:List Bool),i+q=g.p.l.length/\(gK 6).run st.tm=.int .i64 i/\BS g (nulB g) h.n S st.h/\Rd (CLn g) (λS=>∀i',i'<i->∀a∈(lat g.p.l i').a.l,qeY (bN S) a.l=true->S.getD i' false=true) S0 S/\st.defs=[]) g.p.l.length
   ⟨0,S0,by omega,by simp,hB,.inl ⟨rfl,λi' hi=>by omega⟩,rfl⟩ ?_
  rintro q2 ⟨tm2,H2,defs,round2⟩ ⟨i,S,hq2,h6,hB2,hR2,rfl⟩ hK;have u1:=hK 1 rfl;have u4:=hK 4 rfl;have u5:=hK 5 rfl;simp [h1,h4,h5] at u1 u4 u5 h6;clear hK;simp only at hB2;have gg2:=hB2.fg;rw [hgc] at gg2;simp -dsimp [u1,h6,gg2,hlp];rw [qaa];refine⟨λhl2=>?_,λhl2=>?_⟩
  ·have c2:i<g.p.l.length:=by simpa using hl2
   obtain⟨p,hp⟩:∃p,lat g.p.l i=p:=⟨_,rfl⟩;have hmp:p∈g.p.l:=by rw [<-hp]; exact qai c2
   have hia:qaw 3 (g.p.enc Pd.cells) (.int .i64 i)=some (.ptrR p.cells 0):=by
    have:=qbg (k:=.i64) (n:=(i:Int)) (s:=g.p) (by omega) (by omega);rw [this]; simp [hp]
   have hf2:fw .i64 ((i:Int)+1)=(i:Int)+1:=fw64 (by omega) (by omega);have hpc:p.cells=[p.a.enc qaK,.int .i64 p.marks,p.no.enc Rg.cells]:=rfl;have hla:∀H,lenV .sl (p.a.enc qaK) H=some (.int .i64 p.a.l.length):=λH=>by simp
   have ha8:=hok.a p hmp;simp -dsimp;refine qaf (λq st=>∃(j:Nat) (S:List Bool),j+q=p.a.l.length/\(gK 7).run st.tm=.int .i64 j/\BS g (nulB g) h.n S st.h /\
     Rd (CLn g) (λS=>(∀i',i'<i->∀a∈(lat g.p.l i').a.l,qeY (bN S) a.l=true->S.getD i' false=true)/\∀j',j'<j->qeY (bN S) (lat p.a.l j').l=true->S.getD i false=true) S0 S/\st.defs=[]) p.a.l.length
    ⟨0,S,by omega,by simp,hB2,hR2.imp (λh=>⟨h.1,h.2,λj' hj=>by omega⟩) id,rfl⟩ ?_
   rintro q3 ⟨tm3,H3,defs,round3⟩ ⟨j,S,hq3,h7,hB3,hR3,rfl⟩ hK;have v1:=hK 1 rfl;have v4:=hK 4 rfl;have v6:=hK 6 rfl;simp [u1,u4,h6] at v1 v4 v6 h7;clear hK;simp only at hB3;have gg3:=hB3.fg;rw [hgc] at gg3;simp -dsimp [v1,v6,h7,gg3,hia,hpc,hla];rw [qaa];refine⟨λhl3=>?_,λhl3=>?_⟩
   ·have c3:j<p.a.l.length:=by simpa using hl3
    obtain⟨a,ha⟩:∃a,lat p.a.l j=a:=⟨_,rfl⟩;have hma:a∈p.a.l:=by rw [<-ha]; exact qai c3
    have hia2:qaw 1 (p.a.enc qaK) (.int .i64 j)=some (.ptrR [a.enc Sy.cells] 0):=by
     have:=qap (f:=qaK) (s:=p.a) (esz:=1) (k:=.i64) (n:=(j:Int)) (by omega) (by omega) (λ_=>rfl);rw [this]; simp [ha,qaK]
    have hf3:fw .i64 ((j:Int)+1)=(j:Int)+1:=fw64 (by omega) (by omega);simp -dsimp [v1,v4,v6,h7,gg3,hia,hpc,hia2];refine WFS.by (qCG hB3.rb (by have:=hB3.len; omega) a (by have:=hok.s p hmp a hma; omega)) ?_
    intro v h' e;cases e;have hSl:=hB3.len;have hia3:qaw 1 (.sl (h.n+1) 0 g.p.l.length 1 true) (.int .i64 i)=some (.ptr (h.n+1) i 0):=by
     have:=qam (e:=1) (id:=h.n+1) (b:=0) (n:=g.p.l.length) (f:=true) (k:=.i64) (i:=(i:Int)) (by omega) (by omega);simpa using this
    have hrow:(qao S)[i]?=some [.bool (S.getD i false)]:=by rw [qbv (by omega),latB]
    have hss:=hB3.s;have hnn:h.n<=h.n+1:=by omega
    have hif:(if S.getD i false=true then (true:Bool) else qeY (bN S) a.l)=(S.getD i false||qeY (bN S) a.l):=by cases S.getD i false<;>rfl
    have hfin:∀e:Bool,e=qeY (bN S) a.l->∀H':Heap,H'.get h.n=some (.rows [g.cells])->H'.get (h.n+1)=some (.rows (qao (S.set i (S.getD i false||e))))->H'.n=h.n+2 ->
      ∃S',BS g (nulB g) h.n S' H'/\Rd (CLn g) (λS=>(∀i',i'<i->∀a∈(lat g.p.l i').a.l,qeY (bN S) a.l=true->S.getD i' false=true)/\∀j',j'<j+1->qeY (bN S) (lat p.a.l j').l=true->S.getD i false=true) S0 S':=by
     intro e he H' q1 q2 q3;refine⟨_,⟨q1,q2,q3,by simp [hSl],λk hk=>?_⟩,hR3.one (by omega) (λh1 hC=>hC i c2 a (by rw [hp]; exact hma) (by rw [<-he]; exact h1)) λh1 h2=>⟨h1.1,λj' hj h3=>?_⟩⟩
     ·rcases qCp (by omega) hk with ⟨rfl,h1⟩|h1
      ·simp only [Bool.or_eq_true] at h1;rcases h1 with h1|h1
       ·exact hB3.ok _ (by rw [qBD]; exact h1)
       ·exact qCU hB3.ok c2 (by rw [hp]; exact hma) (by rw [<-he]; exact h1)
      ·exact hB3.ok _ h1
     ·by_cases e2:j'=j
      ·subst e2; rw [ha] at h3; exact h2 (by rw [he]; exact h3)
      ·exact h1.2 j' (by omega) h3
    obtain⟨b0,hb0⟩:∃b0,S.getD i false=b0:=⟨_,rfl⟩;rw [hb0] at hrow;simp only [hb0] at hfin;obtain⟨e,he⟩:∃e,qeY (bN S) a.l=e:=⟨_,rfl⟩;have hfin2:=hfin e he.symm (H3.set (h.n+1) (.rows (qao (S.set i (b0||e))))) (by rw [qBp,Jaa (by omega),hB3.fg]) (by rw [qBp,Jab rfl]) (by rw [qBB,hB3.n]);obtain⟨S',hBB,hRR⟩:=hfin2;rw [he];cases b0 with
    | true =>
     simp -dsimp [v4,v6,h7,hia3,hss,hrow,hnn,qdW,hf3];exact qah.intro (q3-1) (by omega) ⟨j+1,S',by omega,by simp,by simpa using hBB,hRR,rfl⟩
    | false =>
     simp -dsimp [v4,v6,h7,hia3,hss,hrow,hnn,qdW,hf3];exact qah.intro (q3-1) (by omega) ⟨j+1,S',by omega,by simp,by simpa using hBB,hRR,rfl⟩
   ·have hl':¬j<p.a.l.length:=by simpa using hl3
    simp -dsimp [v6,hf2];refine qah.intro (q2-1) (by omega) ⟨i+1,S,by omega,by simp,hB3,hR3.imp (λh=>⟨h.1,λi' hi a ha h2=>?_⟩) id,rfl⟩
    by_cases e:i'=i
    ·subst e;rw [hp] at ha;obtain⟨j',hj1,hj2⟩:=List.getElem_of_mem ha;exact h.2.2 j' (by omega) (by rw [qBu hj1,hj2]; exact h2)
    ·exact h.2.1 i' (by omega) a ha h2
  ·have hl':¬i<g.p.l.length:=by simpa using hl2
   simp -dsimp [u5,hf];exact qah.intro (q-1) (by omega) ⟨k+1,S,by omega,by simp,hB2,hR2.done hk λh i hi=>h i (by omega),rfl⟩
 ·have hl':¬k<g.p.l.length:=by simpa using hl
  have hS:=hgb S0 hB.len hB.ok (hk.imp id λh=>by omega);have:allV g=.slR (qao S0) false:=by rw [hS]; simp [allV,hm]
  rw [this];simp -dsimp [h4];exact qCo hB.s (by omega) hB.len
def CLm (g:Gr) (S:List Bool):Prop:=∀i,i<g.p.l.length->∀a∈(lat g.p.l i).a.l,qjx S a=true->S.getD i false=true
theorem qB4 {S T:List Bool}(h:∀i,S.getD i false=true->T.getD i false=true) {a:Sl Sy}(h1:qjx S a=true):qjx T a=true:=by
 simp only [qjx,Bool.not_eq_true',List.any_eq_false] at h1 ⊢;intro s hs;have h2:=h1 s hs;unfold qmb at h2 ⊢
 by_cases c:s.kind=2
 ·rw [Jab c,latB] at h2 ⊢;simp only [Bool.not_eq_true',Bool.not_eq_false] at h2 ⊢;exact h _ h2
 ·rw [Jaa c] at h2 ⊢;exact h2
theorem qCq {g:Gr}{ob:List Bool}:∀i,(qbj g ob i).2=false->(qbj g ob i).1=ob/\∀j,j<i->lat ob j=true\/(lat g.p.l j).a.l.any (qjx ob)=false
 | 0,_=>⟨rfl,λj hj=>by omega⟩
 | i+1,h=>by
  simp only [qbj] at h ⊢;split at h
  ·cases h
  ·rename_i hc;obtain⟨h1,h2⟩:=qCq (g:=g) i h;rw [Jaa hc];refine⟨h1,λj hj=>?_⟩
   by_cases e:j=i
   ·subst e;rw [h1] at hc;cases hl:lat ob j with
    | true=>exact .inl rfl
    | false =>
     right;cases hx:(lat g.p.l j).a.l.any (qjx ob) with
     | false=>rfl
     | true=>exact absurd ⟨hl,hx⟩ hc
   ·exact h2 j (by omega)
theorem qCQ {g:Gr}{ob T:List Bool}(hT:CLm g T) (hs:∀i,ob.getD i false=true->T.getD i false=true):∀i,i<=g.p.l.length->∀j,(qbj g ob i).1.getD j false=true->T.getD j false=true
 | 0,_,j,h=>hs j h
 | i+1,hi,j,h=>by
  have ih:=qCQ hT hs i (by omega);simp only [qbj] at h;split at h
  ·rename_i hc
   by_cases e:j=i
   ·subst e;obtain⟨a,ha,h1⟩:=List.any_eq_true.1 hc.2;exact hT j (by omega) a ha (qB4 ih h1)
   ·refine ih j ?_;simp only [List.getD_eq_getElem?_getD,List.getElem?_set] at h ⊢
    rwa [Jaa (λh=>e h.symm)] at h
  ·exact ih j h
theorem qB0 {g:Gr}:∀k ob,ob.length=g.p.l.length->ob.count false<k->CLm g (qfX g k ob)/\∀T,CLm g T->(∀i,ob.getD i false=true->T.getD i false=true)->∀i,(qfX g k ob).getD i false=true->T.getD i false=true
 | 0,_,_,h=>by omega
 | k+1,ob,hl,hk=>by
  have hu:=qdf g ob g.p.l.length;have hct:=qe3 g ob g.p.l.length (by omega);simp only [qfX];split
  ·rename_i h2;rw [Jab h2] at hct;obtain⟨a,b⟩:=qB0 (g:=g) k (qbj g ob g.p.l.length).1 (by omega) (by omega);exact⟨a,λT hT hs=>b T hT (qCQ hT hs _ (Jac _))⟩
  ·rename_i h2;obtain⟨h3,h4⟩:=qCq (g:=g) (ob:=ob) g.p.l.length (by simpa using h2);rw [h3];refine⟨λi hi a ha h1=>?_,λT _ hs=>hs⟩;rcases h4 i hi with h|h
   ·rw [<-latB]; exact h
   ·rw [List.any_eq_false] at h; exact absurd h1 (h a ha)
theorem qDx {S:List Bool}{T:List Bool}(h:∀k,bN S k=true->bN T k=true) (i:Nat) (h1:S.getD i false=true):T.getD i false=true:=by
 have:=h i (by rw [qBD]; exact h1)
 rwa [qBD] at this
theorem qBX {g:Gr}(hm:mayB g=true):(qe4 g).l.length=g.p.l.length/\CLm g (qe4 g).l/\∀T,CLm g T->∀i,(qe4 g).l.getD i false=true->T.getD i false=true:=by
 have e:(qe4 g).l=qfX g (g.p.l.length+1) (List.replicate g.p.l.length false):=by rw [qe4,Jab hm]; rfl
 obtain⟨a,b⟩:=qB0 (g:=g) (g.p.l.length+1) (List.replicate g.p.l.length false) (by simp) (by simp);rw [e];refine⟨by rw [qhR]; simp,a,λT hT=>b T hT λi h=>?_⟩;simp [List.getD_eq_getElem?_getD,List.getElem?_replicate] at h;split at h<;>simp at h
theorem mkL_eq {g:Gr}(hm:mayB g=true) {S:List Bool}(hl:S.length=g.p.l.length) (h:CLm g S) (hs:∀k,bN S k=true->bN (qe4 g).l k=true):S=(qe4 g).l:=by
 obtain⟨h1,h2,h3⟩:=qBX hm;apply List.ext_getElem (by omega);intro i i1 i2;have e:∀(L:List Bool) (hL:i<L.length),L[i]=L.getD i false:=λL hL=>by rw [List.getD_eq_getElem?_getD,Jal hL]; rfl
 rw [e S i1,e _ i2,Bool.eq_iff_iff];exact⟨qDx hs i,h3 S h i⟩
theorem qDi {g:Gr}(hm:mayB g=true) {S:List Bool}(hs:∀k,bN S k=true->bN (qe4 g).l k=true) {i:Nat}(hi:i<g.p.l.length) {a:Sl Sy}(ha:a∈(lat g.p.l i).a.l) (h1:qjx S a=true):bN (qe4 g).l i=true:=by
 rw [qBD];exact (qBX hm).2.1 i hi a ha (qB4 (qDx hs) h1)
theorem qCN (l:List Rg):(0:Int)∈qaX l/\(1114112:Int)∈qaX l:=by
 have key:∀i,(0:Int)∈qaO l i/\(1114112:Int)∈qaO l i:=λi=>by
  induction i with
  | zero=>exact⟨by simp [qaO],by simp [qaO]⟩
  | succ i ih=>exact⟨List.mem_append_left _ ih.1,List.mem_append_left _ ih.2⟩
 simp only [qaX,qjw,qc2];exact key _
theorem qC0 {l:List Rg}{n:Int}(h0:0<=n) (h1:n<1114112):∃i,i+1<(qaX l).length/\lat (qaX l) i<=n/\n<lat (qaX l) (i+1):=by
 obtain⟨z0,z1⟩:=qCN l;have key:∀m,m<(qaX l).length->n<lat (qaX l) m->∃i,i+1<(qaX l).length/\lat (qaX l) i<=n/\n<lat (qaX l) (i+1):=by
  intro m;induction m with
  | zero =>
   intro hm hn;obtain⟨k,hk,e⟩:=List.getElem_of_mem z0;rw [<-qBu hk] at e
   by_cases c:k=0
   ·subst c; omega
   ·have:=qiR (l:=l) (i:=0) (j:=k) (by omega) hk; omega
  | succ m ih =>
   intro hm hn
   by_cases c:n<lat (qaX l) m
   ·exact ih (by omega) c
   ·exact⟨m,hm,by omega,hn⟩
 obtain⟨k,hk,e⟩:=List.getElem_of_mem z1;rw [<-qBu hk] at e;exact key k hk (by omega)
theorem qDm {l:List Rg}{r:Rg}(hr:r∈l) {i:Nat}{n:Int}(hi:i+1<(qaX l).length) (h0:lat (qaX l) i<=n) (h1:n<lat (qaX l) (i+1)):inR n r=inR (lat (qaX l) i) r:=by
 have b0:=qj3 (qai (l:=qaX l) (i:=i) (by omega));have b1:=qj3 (qai hi);have m0:min 1114112 (max r.lo 0)∈qaX l:=qn8 hr (by simp [qfM]);have m1:min 1114111 (max r.hi (-1))+1∈qaX l:=qn8 hr (by simp [qfM]);have g0:=λh=>qoR (i:=i) m0 hi h;have g1:=λh=>qoR (i:=i) m1 hi h;rw [Bool.eq_iff_iff];simp only [inR,Jad,Jai];constructor
 ·rintro⟨a,b⟩;constructor
  ·apply Classical.byContradiction; intro c;have:=g0 (by omega); omega
  ·omega
 ·rintro⟨a,b⟩;refine⟨by omega,?_⟩;apply Classical.byContradiction; intro c;have:=g1 (by omega); omega
theorem qCu {l l':List Rg}(hl:∀r∈l',r∈l) {i:Nat}{n:Int}(hi:i+1<(qaX l).length) (h0:lat (qaX l) i<=n) (h1:n<lat (qaX l) (i+1)):hasB l' n=hasB l' (lat (qaX l) i):=by
 unfold hasB;induction l' with
 | nil=>rfl
 | cons r l' ih =>
  rw [List.any_cons,List.any_cons,qDm (hl r (by simp)) hi h0 h1,ih λr hr=>hl r (by simp [hr])]
theorem qCt {p:Int->Bool}{B:List Int}{j:Nat}:∀i,j<i->p (lat B j)=true->qbZ p B i≠[]
 | 0,h,_=>by omega
 | i+1,h,hp=>by
  simp only [qbZ,qbP]
  by_cases c:p (lat B i)=true
  ·rw [Jab c];split
   ·rename_i hc;intro e;have:=congrArg List.length e;simp at this;rw [this] at hc;simp at hc
   ·simp
  ·rw [Jaa c];refine qCt i ?_ hp
   by_cases e:j=i
   ·subst e; exact absurd hp c
   ·omega
theorem qC9 {q:Bool->Bool->Bool}{a b:List Rg}:0<(twoL q a b).length↔∃n:Int,0<=n/\n<=1114111/\q (hasB a n) (hasB b n)=true:=by
 constructor
 ·intro h;have hx:=qai h;obtain⟨h1,h2,h3,m,h4,h5,h6⟩:=qpB hx;have b0:=qj3 h3;have b1:=qj3 (qai (l:=qaX (a++b)) (i:=m+1) (by omega));exact⟨_,b0.1,by omega,h1⟩
 ·rintro⟨n,h0,h1,h2⟩;obtain⟨i,hi,i0,i1⟩:=qC0 (l:=a++b) h0 (by omega);rw [qCu (l':=a) (l:=a++b) (λr hr=>by simp [hr]) hi i0 i1,qCu (l':=b) (l:=a++b) (λr hr=>by simp [hr]) hi i0 i1] at h2;exact List.length_pos_iff.2 (qCt (p:=λn=>q (hasB a n) (hasB b n)) _ (show i<(qaX (a++b)).length-1 by omega) h2)
theorem qDb {l:List Rg}:qtY l=true↔∃n:Int,0<=n/\n<=1114111/\hasB l n=true/\¬(55296<=n/\n<=57343):=by
 unfold qtY;rw [Jai,qC9];simp only [qrR,Jad,Bool.not_eq_true',hasB,List.any_cons,List.any_nil,Bool.or_false,inR,Bool.and_eq_false_iff,Jaq];refine exists_congr λn=>?_;refine and_congr_right λ_=>and_congr_right λ_=>and_congr_right λ_=>?_;omega
def isV (a b:List Rg) (how high n:Int):Bool:=if how=0 then hasB a n||hasB b n else if how=1 then hasB a n&&hasB b n else if how=2 then hasB a n && !hasB b n else !hasB a n&&decide (n<=high)
def qBV (n:Int) (best:Int) (r:Rg):Int :=
 let b:=if n<r.lo/\r.lo<best then r.lo else best
 if n<=r.hi/\r.hi<b-1 then r.hi+1 else b
def qBy (l:List Rg) (n best:Int):Int:=l.foldl (qBV n) best
theorem qCI {n best:Int}{r:Rg}(h:n<best):n<qBV n best r/\qBV n best r<=best/\(n<r.lo->qBV n best r<=r.lo)/\(n<=r.hi->qBV n best r<=r.hi+1):=by
 unfold qBV;simp only;split<;>split<;>omega
theorem qBP {n:Int}:∀{l:List Rg}{best:Int},n<best->n<qBy l n best/\qBy l n best<=best/\∀r∈l,(n<r.lo->qBy l n best<=r.lo)/\(n<=r.hi->qBy l n best<=r.hi+1)
 | [],best,h=>⟨h,Int.le_refl _,λr hr=>by cases hr⟩
 | r::l,best,h=>by
  have h1:=qCI (r:=r) h;obtain⟨a,b,c⟩:=qBP (l:=l) h1.1;refine⟨a,by show qBy l n (qBV n best r)<=best; omega,λx hx=>?_⟩;rcases Jag.1 hx with rfl|hx
  ·exact⟨λh=>Int.le_trans b (h1.2.2.1 h),λh=>Int.le_trans b (h1.2.2.2 h)⟩
  ·exact c x hx
theorem qCh {l:List Rg}{n best m:Int}(h:∀r∈l,(n<r.lo->best<=r.lo)/\(n<=r.hi->best<=r.hi+1)) (h0:n<=m) (h1:m<best):hasB l m=hasB l n:=by
 unfold hasB;induction l with
 | nil=>rfl
 | cons r l ih =>
  rw [List.any_cons,List.any_cons,ih λx hx=>h x (by simp [hx])];congr 1;have:=h r (by simp);rw [Bool.eq_iff_iff];simp only [inR,Jad,Jai];omega
structure OfI (p:Int->Bool) (out:List Rg) (n:Int):Prop where
 r:∀x∈out,0<=x.lo/\x.lo<=x.hi/\x.hi<n
 h:∀m,0<=m->m<n->hasB out m=p m
 l:(out.length:Int)<=n
theorem OfI.none {p:Int->Bool}{out:List Rg}{n n':Int}(h:OfI p out n) (hn:n<n') (hp:∀m,n<=m->m<n'->p m=false):OfI p out n':=by
 refine⟨λx hx=>by have:=h.r x hx; omega,λm m0 m1=>?_,by have:=h.l; omega⟩
 by_cases c:m<n
 ·exact h.h m m0 c
 ·rw [hp m (by omega) m1];simp only [hasB,List.any_eq_false,inR,Jad,Jai];intro x hx;have:=h.r x hx;omega
theorem qBJ {l l':List Rg}{m:Int}:hasB (l++l') m=(hasB l m||hasB l' m):=by simp [hasB]
theorem OfI.more {p:Int->Bool}{out:List Rg}{n n':Int}(h:OfI p out n) (h0:0<=n) (hn:n<n') (hp:∀m,n<=m->m<n'->p m=true):OfI p (out++[⟨n,n'-1⟩]) n':=by
 refine⟨λx hx=>?_,λm m0 m1=>?_,by have:=h.l; simp; omega⟩
 ·rcases Jaj.1 hx with hx|hx
  ·have:=h.r x hx; omega
  ·rw [Jah] at hx; subst hx; simp only; omega
 ·rw [qBJ]
  by_cases c:m<n
  ·rw [h.h m m0 c];have:hasB [(⟨n,n'-1⟩:Rg)] m=false:=by simp [hasB,inR]; omega
   rw [this,Bool.or_false]
  ·rw [hp m (by omega) m1];have:hasB [(⟨n,n'-1⟩:Rg)] m=true:=by simp [hasB,inR]; omega
   rw [this,Bool.or_true]
theorem OfI.last {p:Int->Bool}{out:List Rg}{x:Rg}{n n':Int}(h:OfI p (out++[x]) n) (hx:x.hi=n-1) (hn:n<n') (hp:∀m,n<=m->m<n'->p m=true):OfI p (out++[⟨x.lo,n'-1⟩]) n':=by
 have hxr:=h.r x (by simp);refine⟨λy hy=>?_,λm m0 m1=>?_,by have:=h.l; simp at this ⊢; omega⟩
 ·rcases Jaj.1 hy with hy|hy
  ·have:=h.r y (by simp [hy]); omega
  ·rw [Jah] at hy; subst hy; simp only; omega
 ·by_cases c:m<n
  ·rw [<-h.h m m0 c,qBJ,qBJ];congr 1;simp only [hasB,List.any_cons,List.any_nil,Bool.or_false,inR];rw [show decide (m<=n'-1)=decide (m<=x.hi) by rw [decide_eq_decide]; omega]
  ·rw [hp m (by omega) m1,qBJ];have:hasB [(⟨x.lo,n'-1⟩:Rg)] m=true:=by simp [hasB,inR]; omega
   rw [this,Bool.or_true]
set_option linter.unusedSimpArgs false
theorem qCZ {x:Rg}{l:List Rg}{n:Int}:hasB (x::l) n=(inR n x||hasB l n):=rfl
section
variable {d:Bool}{mk:Nat}{h:Heap}
theorem qCY (s:Sl Rg) (hs:s.l.length<1000000000) (n:Int):WF PR d mk (.fn 213 [] []) [s.enc Rg.cells,.int .i64 n] h λr=>r=⟨.bool (hasB s.l n),h⟩:=by
 refine qBt f213 b213 [.tm 4] rfl rfl rfl rfl rfl rfl ?_;unfold b213;have hlen:∀H,lenV .sl (s.enc Rg.cells) H=some (.int .i64 s.l.length):=λH=>by simp
 simp -dsimp;refine qaf (λk st=>∃i:Nat,i+k=s.l.length/\hasB (s.l.drop i) n=hasB s.l n/\(gK 5).run st.tm=.int .i64 i/\st.h=h/\st.defs=[]) s.l.length ⟨0,by omega,rfl,by simp,rfl,rfl⟩ ?_;rintro k ⟨tm,h',defs,round⟩ ⟨i,hi,hx,h5,rfl,rfl⟩ hK;have h0:=hK 0 rfl;have h1:=hK 1 rfl;simp at h0 h1 h5;clear hK;simp -dsimp [h0,h5,hlen];rw [qaa];refine⟨λhl=>?_,λhl=>?_⟩
 ·have c1:i<s.l.length:=by simpa using hl
  obtain⟨x,hxx⟩:∃x,lat s.l i=x:=⟨_,rfl⟩;have hia:qaw 2 (s.enc Rg.cells) (.int .i64 i)=some (.ptrR x.cells 0):=by
   have:=qe7 (k:=.i64) (n:=(i:Int)) (s:=s) (by omega) (by omega);rw [this]; simp [hxx]
  have hf:fw .i64 ((i:Int)+1)=(i:Int)+1:=fw64 (by omega) (by omega);rw [qbu c1,hxx,qCZ] at hx
  by_cases d1:x.lo<=n
  ·by_cases d2:n<=x.hi
   ·have:hasB s.l n=true:=by rw [<-hx]; simp [inR,d1,d2]
    simp -dsimp [h0,h1,h5,hia,Rg.cells,d1,d2,this]
   ·simp -dsimp [h0,h1,h5,hia,Rg.cells,d1,d2,hf];exact qah.intro (k-1) (by omega) ⟨i+1,by omega,by rw [<-hx]; simp [inR,d1,d2],by simp,rfl,rfl⟩
  ·simp -dsimp [h0,h1,h5,hia,Rg.cells,d1,hf];exact qah.intro (k-1) (by omega) ⟨i+1,by omega,by rw [<-hx]; simp [inR,d1],by simp,rfl,rfl⟩
 ·have hl':¬i<s.l.length:=by simpa using hl
  rw [List.drop_eq_nil_of_le (by omega)] at hx;have:hasB s.l n=false:=by rw [<-hx]; rfl
  simp -dsimp [this]
theorem isR_ok (a b:Sl Rg) (ha:a.l.length<1000000000) (hb:b.l.length<1000000000) (how high n:Int):WF PR d mk (.fn 185 [] []) [a.enc Rg.cells,b.enc Rg.cells,.int .i64 how,.int .i64 high,.int .i64 n] h λr=>r=⟨.bool (isV a.l b.l how high n),h⟩:=by
 refine qBt f185 b185 [.tm 10] rfl rfl rfl rfl rfl rfl ?_;unfold b185;simp -dsimp;refine WFS.by (qCY a ha n) ?_
 intro v h' e;cases e;simp -dsimp;refine WFS.by (qCY b hb n) ?_
 intro v h' e;cases e;unfold isV;obtain⟨p,hp⟩:∃p,hasB a.l n=p:=⟨_,rfl⟩;obtain⟨q,hq⟩:∃q,hasB b.l n=q:=⟨_,rfl⟩;rw [hp,hq]
 by_cases c0:how=0
 ·cases p<;>cases q<;>simp -dsimp [c0]
 by_cases c1:how=1
 ·cases p<;>cases q<;>simp -dsimp [c0,c1]
 by_cases c2:how=2
 ·cases p<;>cases q<;>simp -dsimp [c0,c1,c2]
 ·cases p
  ·by_cases c3:n<=high<;>simp -dsimp [c0,c1,c2,c3]
  ·simp -dsimp [c0,c1,c2]
theorem qCi (s:Sl Rg) (hs:s.l.length<1000000000) {n best:Int}(n0:0<=n) (nb:n<best) (b1:best<=1114112):WF PR d mk (.fn 184 [] []) [s.enc Rg.cells,.int .i64 n,.int .i64 best] h λr=>r=⟨.int .i64 (qBy s.l n best),h⟩:=by
 refine qBt f184 b184 [.tm 6] rfl rfl rfl rfl rfl rfl ?_;unfold b184;have hlen:∀H,lenV .sl (s.enc Rg.cells) H=some (.int .i64 s.l.length):=λH=>by simp
 simp -dsimp;refine qaf (λk st=>∃(i:Nat) (B:Int),i+k=s.l.length/\qBy (s.l.drop i) n B=qBy s.l n best/\n<B/\B<=1114112/\(gK 7).run st.tm=.int .i64 i/\(gK 2).run st.tm=.int .i64 B/\st.h=h/\st.defs=[]) s.l.length ⟨0,best,by omega,rfl,nb,b1,by simp,by simp,rfl,rfl⟩ ?_;rintro k ⟨tm,h',defs,round⟩ ⟨i,B,hi,hx,hB,hB1,h7,h2,rfl,rfl⟩ hK;have h0:=hK 0 rfl;have h1:=hK 1 rfl;simp at h0 h1 h7 h2;clear hK;simp -dsimp [h0,h7,hlen];rw [qaa];refine⟨λhl=>?_,λhl=>?_⟩
 ·have c1:i<s.l.length:=by simpa using hl
  obtain⟨x,hxx⟩:∃x,lat s.l i=x:=⟨_,rfl⟩;have hia:qaw 2 (s.enc Rg.cells) (.int .i64 i)=some (.ptrR x.cells 0):=by
   have:=qe7 (k:=.i64) (n:=(i:Int)) (s:=s) (by omega) (by omega);rw [this]; simp [hxx]
  have hf:fw .i64 ((i:Int)+1)=(i:Int)+1:=fw64 (by omega) (by omega);have hfB:fw .i64 (B-1)=B-1:=fw64 (by omega) (by omega);rw [qbu c1,hxx] at hx;have hb:=qCI (r:=x) hB;have hx':qBy (s.l.drop (i+1)) n (qBV n B x)=qBy s.l n best:=hx
  by_cases d1:n<x.lo/\x.lo<B
  ·obtain⟨d1,d2⟩:=d1;have hfL:fw .i64 (x.lo-1)=x.lo-1:=fw64 (by omega) (by omega)
   by_cases d3:n<=x.hi/\x.hi<x.lo-1
   ·obtain⟨d3,d4⟩:=d3;have e:qBV n B x=x.hi+1:=by simp [qBV,d1,d2,d3,d4]
    rw [e] at hx' hb;have hfH:fw .i64 (x.hi+1)=x.hi+1:=fw64 (by omega) (by omega);simp -dsimp [h0,h1,h2,h7,hia,Rg.cells,d1,d2,d3,d4,hfL,hfH,hf];exact qah.intro (k-1) (by omega) ⟨i+1,x.hi+1,by omega,hx',hb.1,by omega,by simp,by simp,rfl,rfl⟩
   ·have e:qBV n B x=x.lo:=by simp [qBV,d1,d2,d3]
    rw [e] at hx' hb
    by_cases d5:n<=x.hi
    ·have d6:¬x.hi<x.lo-1:=λh=>d3 ⟨d5,h⟩;simp -dsimp [h0,h1,h2,h7,hia,Rg.cells,d1,d2,d5,d6,hfL,hf];exact qah.intro (k-1) (by omega) ⟨i+1,x.lo,by omega,hx',hb.1,by omega,by simp,by simp,rfl,rfl⟩
    ·simp -dsimp [h0,h1,h2,h7,hia,Rg.cells,d1,d2,d5,hfL,hf];exact qah.intro (k-1) (by omega) ⟨i+1,x.lo,by omega,hx',hb.1,by omega,by simp,by simp,rfl,rfl⟩
  ·have e1:qBV n B x=if n<=x.hi/\x.hi<B-1 then x.hi+1 else B:=by simp only [qBV,Jaa d1]
   have d1':¬n<x.lo\/(n<x.lo/\¬x.lo<B):=by
    by_cases c:n<x.lo
    ·exact .inr ⟨c,λh=>d1 ⟨c,h⟩⟩
    ·exact .inl c
   by_cases d3:n<=x.hi/\x.hi<B-1
   ·rw [Jab d3] at e1;obtain⟨d3,d4⟩:=d3;rw [e1] at hx' hb;have hfH:fw .i64 (x.hi+1)=x.hi+1:=fw64 (by omega) (by omega);rcases d1' with d1|⟨d1,d2⟩
    ·simp -dsimp [h0,h1,h2,h7,hia,Rg.cells,d1,d3,d4,hfB,hfH,hf];exact qah.intro (k-1) (by omega) ⟨i+1,x.hi+1,by omega,hx',hb.1,by omega,by simp,by simp,rfl,rfl⟩
    ·simp -dsimp [h0,h1,h2,h7,hia,Rg.cells,d1,d2,d3,d4,hfB,hfH,hf];exact qah.intro (k-1) (by omega) ⟨i+1,x.hi+1,by omega,hx',hb.1,by omega,by simp,by simp,rfl,rfl⟩
   ·rw [Jaa d3] at e1;rw [e1] at hx' hb;have d3':¬n<=x.hi\/(n<=x.hi/\¬x.hi<B-1):=by
     by_cases c:n<=x.hi
     ·exact .inr ⟨c,λh=>d3 ⟨c,h⟩⟩
     ·exact .inl c
    rcases d1' with d1|⟨d1,d2⟩
    ·rcases d3' with d3|⟨d3,d4⟩
     ·simp -dsimp [h0,h1,h2,h7,hia,Rg.cells,d1,d3,hfB,hf];exact qah.intro (k-1) (by omega) ⟨i+1,B,by omega,hx',hB,hB1,by simp,by simpa using h2,rfl,rfl⟩
     ·simp -dsimp [h0,h1,h2,h7,hia,Rg.cells,d1,d3,d4,hfB,hf];exact qah.intro (k-1) (by omega) ⟨i+1,B,by omega,hx',hB,hB1,by simp,by simpa using h2,rfl,rfl⟩
    ·rcases d3' with d3|⟨d3,d4⟩
     ·simp -dsimp [h0,h1,h2,h7,hia,Rg.cells,d1,d2,d3,hfB,hf];exact qah.intro (k-1) (by omega) ⟨i+1,B,by omega,hx',hB,hB1,by simp,by simpa using h2,rfl,rfl⟩
     ·simp -dsimp [h0,h1,h2,h7,hia,Rg.cells,d1,d2,d3,d4,hfB,hf];exact qah.intro (k-1) (by omega) ⟨i+1,B,by omega,hx',hB,hB1,by simp,by simpa using h2,rfl,rfl⟩
 ·have hl':¬i<s.l.length:=by simpa using hl
  rw [List.drop_eq_nil_of_le (by omega)] at hx;have:qBy s.l n best=B:=by rw [<-hx]; rfl
  rw [this];simp -dsimp [h2]
end
section
variable {mk n:Nat}{h:Heap}
theorem qs9 {α : Type}{f : α->List V}{k:Nat}(hf:∀a,allM (freeze n h k) (f a)=some (f a)):∀l:List α,allM (allM (freeze n h k)) (l.map f)=some (l.map f)
 | []=>rfl
 | a::l=>by simp only [List.map_cons,allM,hf,qs9 hf l]
theorem qtm {α : Type}{f : α->List V}{k:Nat}(hf:∀a,allM (freeze n h k) (f a)=some (f a)) (s:Sl α):freeze n h (k+1) (s.enc f)=some (s.enc f):=by
 cases s with
 | nil=>rfl
 | of l=>simp only [Sl.enc,freeze,qs9 hf l]
 | full l=>simp only [Sl.enc,freeze,qs9 hf l]
theorem qtV (k:Nat) (r:Rg):allM (freeze n h (k+1)) r.cells=some r.cells:=rfl
theorem qtU (k:Nat) (s:Sy):allM (freeze n h (k+2)) s.cells=some s.cells:=by
 have:=qtm (n:=n) (h:=h) (qtV k) s.r;simp only [Sy.cells,allM,this]; rfl
theorem qt4 (k:Nat) (a:Sl Sy):allM (freeze n h (k+3)) (qaK a)=some (qaK a):=by
 have:=qtm (n:=n) (h:=h) (qtU k) a;simp only [qaK,allM,this]
theorem frz_pd (k:Nat) (p:Pd):allM (freeze n h (k+4)) p.cells=some p.cells:=by
 have h1:=qtm (n:=n) (h:=h) (qt4 k) p.a;have h2:=qtm (n:=n) (h:=h) (qtV (k+2)) p.no;simp only [Pd.cells,allM,h1,h2]; rfl
theorem qt3 (l:List Pd):allM (allM (freeze n h qat)) (l.map Pd.cells)=some (l.map Pd.cells):=qs9 (frz_pd 12) l
theorem qt1 {H:Heap}{m B:Nat}{v:V}{L:List Pd}{cs:List V}{o:Opd}{tm:Tm}(ho:o.ev tm=.ptr B 0 0) (h1:H.get B=some (.rows [v::cs])) (hO:Own H m v 3 (L.map Pd.cells)) (hne:L≠[]) (hm:mk<=m) (hB:mk<=B) (hBm:slId v≠some B) :
  ∃H',xV (.ldF (cs.length+1) o 0) mk tm H=some ⟨.agg ((Sl.of L).enc Pd.cells::cs),H'⟩/\H'.get B=some (.rows [(Sl.of L).enc Pd.cells::cs])/\H'.n=H.n/\∀j,j≠B->slId v≠some j->H'.get j=H.get j:=by
 rcases hO with ⟨_,q⟩|⟨id,rfl,q2,q3,q4,q5⟩
 ·exact absurd (by simpa using q) hne
 ·have hBi:B≠id:=λe=>hBm (by rw [e]; rfl);have hz:frzV mk ⟨.sl id 0 (L.map Pd.cells).length 3 false,H⟩=some ⟨(Sl.of L).enc Pd.cells,H.kill id⟩:=by
   have hr:qal H (.sl id 0 (L.map Pd.cells).length 3 false)=some (L.map Pd.cells):=by simp [qal,q2]; exact List.take_of_length_le (by simp)
   have hmi:mk<=id:=by omega
   simp only [frzV,hr,qt3,qa3,hmi,decide_true,cond];rfl
  have hk:(H.kill id).get B=some (.rows [V.sl id 0 (L.map Pd.cells).length 3 false::cs]):=by rw [qBr,Jaa (by omega),h1]
  obtain⟨H',hH'⟩:∃H',(H.kill id).set B (.rows [(Sl.of L).enc Pd.cells::cs])=H':=⟨_,rfl⟩;have hg:qs7 mk 0 (.ptr B 0 0) H=some H':=by
   have hone:((Sl.of L).enc Pd.cells).one=true:=qtx;simp only [qs7,h1,nthR,nth,Nat.add_zero,hz,qa3,hB,decide_true,hone,Bool.and_self,cond,hk,List.set_cons_zero];rw [hH']
  have hB':H'.get B=some (.rows [(Sl.of L).enc Pd.cells::cs]):=by rw [<-hH',qBp,Jab rfl]
  refine⟨H',?_,hB',by rw [<-hH']; simp,λj h1 h2=>?_⟩
  ·simp only [xV,ho,hg];have:(qbc (.load (some (cs.length+1)) o)).run tm H'=some (.agg ((Sl.of L).enc Pd.cells::cs)):=by
    simp [ho,hB']
   rw [this]
  ·rw [<-hH',qBp,Jaa h1,qBr,Jaa (λe=>h2 (by simp [slId,e]))]
theorem qtz {H:Heap}{B:Nat}{L:List Pd}{cs:List V}{o:Opd}{tm:Tm}(ho:o.ev tm=.ptr B 0 0) (h1:H.get B=some (.rows [(Sl.of L).enc Pd.cells::cs])) (hB:mk<=B) :
  ∃H',xV (.ldF (cs.length+1) o 0) mk tm H=some ⟨.agg ((Sl.of L).enc Pd.cells::cs),H'⟩/\H'.get B=some (.rows [(Sl.of L).enc Pd.cells::cs])/\H'.n=H.n/\∀j,j≠B->H'.get j=H.get j:=by
 have hz:frzV mk ⟨(Sl.of L).enc Pd.cells,H⟩=some ⟨(Sl.of L).enc Pd.cells,H⟩:=rfl;obtain⟨H',hH'⟩:∃H',H.set B (.rows [(Sl.of L).enc Pd.cells::cs])=H':=⟨_,rfl⟩;have hg:qs7 mk 0 (.ptr B 0 0) H=some H':=by
  have hone:((Sl.of L).enc Pd.cells).one=true:=qtx;simp only [qs7,h1,nthR,nth,Nat.add_zero,hz,qa3,hB,decide_true,hone,Bool.and_self,cond,List.set_cons_zero];rw [hH']
 have hB':H'.get B=some (.rows [(Sl.of L).enc Pd.cells::cs]):=by rw [<-hH',qBp,Jab rfl]
 refine⟨H',?_,hB',by rw [<-hH']; simp,λj h1=>by rw [<-hH',qBp,Jaa h1]⟩;simp only [xV,ho,hg];have:(qbc (.load (some (cs.length+1)) o)).run tm H'=some (.agg ((Sl.of L).enc Pd.cells::cs)):=by
  simp [ho,hB']
 rw [this]
theorem qtD {H:Heap}{m B n':Nat}{v:V}{L:List Pd}{cs:List V}{o:Opd}{tm:Tm}{Q:VH->Prop}(h1:H.get B=some (.rows [v::cs])) (hn:n'=cs.length+1) (ho:o.ev tm=.ptr B 0 0) (hO:Own H m v 3 (L.map Pd.cells)) (hne:L≠[]) (hm:mk<=m) (hB:mk<=B) (hBm:slId v≠some B)
  (hq:∀H',H'.get B=some (.rows [(Sl.of L).enc Pd.cells::cs])->H'.n=H.n->(∀j,j≠B->slId v≠some j->H'.get j=H.get j)->Q ⟨.agg ((Sl.of L).enc Pd.cells::cs),H'⟩):OpS (xV (.ldF n' o 0) mk tm H) Q ⟨⟩:=by
 subst hn;obtain⟨H',e,a,b,c⟩:=qt1 ho h1 hO hne hm hB hBm;exact OpS.intro e (hq H' a b c)
theorem qtR {H:Heap}{B n':Nat}{L:List Pd}{cs:List V}{o:Opd}{tm:Tm}{Q:VH->Prop}(h1:H.get B=some (.rows [(Sl.of L).enc Pd.cells::cs])) (hn:n'=cs.length+1) (ho:o.ev tm=.ptr B 0 0) (hB:mk<=B)
  (hq:∀H',H'.get B=some (.rows [(Sl.of L).enc Pd.cells::cs])->H'.n=H.n->(∀j,j≠B->H'.get j=H.get j)->Q ⟨.agg ((Sl.of L).enc Pd.cells::cs),H'⟩):OpS (xV (.ldF n' o 0) mk tm H) Q ⟨⟩:=by
 subst hn;obtain⟨H',e,a,b,c⟩:=qtz ho h1 hB;exact OpS.intro e (hq H' a b c)
end
set_option linter.unusedSimpArgs false
def qCk (a b:List Rg) (high n:Int):Int:=if n<=high/\high<qBy b n (qBy a n 1114112)-1 then high+1 else qBy b n (qBy a n 1114112)
theorem qDz {a b:List Rg}{how high n:Int}(h1:n<=1114111):n<qCk a b high n/\qCk a b high n<=1114112/\∀m,n<=m->m<qCk a b high n->isV a b how high m=isV a b how high n:=by
 obtain⟨a1,a2,a3⟩:=qBP (l:=a) (show n<1114112 by omega);obtain⟨b1,b2,b3⟩:=qBP (l:=b) a1;have hN:n<qCk a b high n/\qCk a b high n<=qBy b n (qBy a n 1114112)/\(n<=high->qCk a b high n<=high+1):=by
  unfold qCk; split<;>omega
 refine⟨hN.1,by omega,λm m0 m1=>?_⟩;have ea:hasB a m=hasB a n:=qCh (best:=qBy a n 1114112) a3 m0 (by omega);have eb:hasB b m=hasB b n:=qCh (best:=qBy b n (qBy a n 1114112)) b3 m0 (by omega);unfold isV;rw [ea,eb];have:decide (m<=high)=decide (n<=high):=by rw [decide_eq_decide]; omega
 rw [this]
section
variable {d:Bool}{mk:Nat}{h:Heap}
theorem qDw (a b:Sl Rg) (ha:a.l.length<1000000000) (hb:b.l.length<1000000000) {how high:Int}(hh : -1<=high/\high<=1114111):WF PR d mk (.fn 148 [] []) [a.enc Rg.cells,b.enc Rg.cells,.int .i64 how,.int .i64 high] h λr=>r.h=h/\∃s:Sl Rg,r.v=s.enc Rg.cells/\OfI (isV a.l b.l how high) s.l 1114112:=by
 refine qBE (F:=f148) (Q:=λv=>∃s:Sl Rg,v=s.enc Rg.cells/\OfI (isV a.l b.l how high) s.l 1114112) rfl rfl rfl (Nat.le_of_ble_eq_true rfl) ?_;refine qef b148 [.tm 8] rfl rfl ?_;unfold b148;obtain⟨p,hp⟩:∃p,isV a.l b.l how high=p:=⟨_,rfl⟩;rw [hp];simp -dsimp;refine qaf (λk st=>∃(n:Int) (out:List Rg) (v:V),(k:Int)=1114112-n/\0<=n/\(gK 10).run st.tm=.int .i64 n/\(gK 9).run st.tm=v/\Own st.h h.n v 2 (out.map Rg.cells)/\OfI p out n/\h.n<=st.h.n/\st.defs=[]) 1114112
  ⟨0,[],.nils,by omega,by omega,by simp,by simp,.inl ⟨rfl,rfl⟩,⟨λx hx=>(by cases hx),λm _ _=>(by omega),by simp⟩,Jac _,rfl⟩ ?_
 rintro k ⟨tm,H,defs,round⟩ ⟨n,out,v,hk,n0,h10,h9,hO,hI,hn,rfl⟩ hK;have h0:=hK 0 rfl;have h1:=hK 1 rfl;have h2:=hK 2 rfl;have h3:=hK 3 rfl;simp at h0 h1 h2 h3 h10 h9;simp only at hO hn;clear hK;simp -dsimp [h10];rw [qaa];refine⟨λhl=>?_,λhl=>?_⟩
 ·have n1:n<=1114111:=by simpa using hl
  obtain⟨a1,a2,a3⟩:=qBP (l:=a.l) (show n<1114112 by omega);obtain⟨N1,N2,N3⟩:=qDz (a:=a.l) (b:=b.l) (how:=how) (high:=high) n1;rw [hp] at N3;obtain⟨N,hN⟩:∃N,qCk a.l b.l high n=N:=⟨_,rfl⟩;have hN':=hN;unfold qCk at hN';obtain⟨b1,b2,b3⟩:=qBP (l:=b.l) a1;rw [hN] at N1 N2 N3;have hol:=hI.l;have hlen:=λH' (hO':Own H' h.n v 2 (out.map Rg.cells))=>by have:=hO'.len; rw [List.length_map] at this; exact this
  have hlv:=hlen H hO;simp -dsimp [h0,h1,h10];refine WFS.by (qCi a ha n0 (by omega) (by omega)) ?_
  intro v1 h' e;cases e;simp -dsimp;refine WFS.by (qCi b hb n0 a1 (by omega)) ?_
  intro v1 h' e;cases e;obtain⟨M,hM⟩:∃M,qBy b.l n (qBy a.l n 1114112)=M:=⟨_,rfl⟩;rw [hM] at hN' b1 b2 b3 ⊢;have fM:fw .i64 (M-1)=M-1:=fw64 (by omega) (by omega);have fH:fw .i64 (high+1)=high+1:=fw64 (by omega) (by omega);have fN:fw .i64 (N-1)=N-1:=fw64 (by omega) (by omega);have fn:fw .i64 (n-1)=n-1:=fw64 (by omega) (by omega);have hso:=congrFun hp n;simp -dsimp [-qgq];rw [qgq];refine qk6 (λo st=>o=.normal/\st.h=H/\st.defs=[]/\(gK 0).run st.tm=a.enc Rg.cells/\(gK 1).run st.tm=b.enc Rg.cells/\(gK 2).run st.tm=.int .i64 how/\(gK 3).run st.tm=.int .i64 high/\(gK 10).run st.tm=.int .i64 n/\(gK 9).run st.tm=v/\(gK 11).run st.tm=.int .i64 N) ?_ ?_
  ·by_cases c1:n<=high
   ·by_cases c2:high<M-1
    ·rw [Jab ⟨c1,c2⟩] at hN';simp -dsimp [h0,h1,h2,h3,h9,h10,c1,c2,fM,fH];exact hN'
    ·rw [Jaa (λh=>c2 h.2)] at hN';simp -dsimp [h0,h1,h2,h3,h9,h10,c1,c2,fM];exact hN'
   ·rw [Jaa (λh=>c1 h.1)] at hN';simp -dsimp [h0,h1,h2,h3,h9,h10,c1,fM];exact hN'
  rintro o ⟨tm2,H2,defs,round2⟩ ⟨rfl,rfl,rfl,t0,t1,t2,t3,t10,t9,t11⟩;simp only at t0 t1 t2 t3 t10 t9 t11 hO hn hlv;simp -dsimp [t0,t1,t2,t3,t10];refine WFS.by (isR_ok a b ha hb how high n) ?_
  intro v1 h' e;cases e;rw [hso];have fL:fw .i64 ((out.length:Int)-1)=(out.length:Int)-1:=fw64 (by omega) (by omega);cases hpn:p n with
  | false =>
   simp -dsimp [t9,t11,hlv,fL];refine qah.intro (k-(N-n).toNat) (by omega) ⟨N,out,v,by omega,by omega,by simp,by simpa using t9,hO,hI.none N1 λm m0 m1=>by rw [N3 m m0 m1,hpn],hn,rfl⟩
  | true =>
   have hmore:∀m,n<=m->m<N->p m=true:=λm m0 m1=>by rw [N3 m m0 m1,hpn]
   have happ:∃v' H',qaj h.n H2 2 16 v [[.int .i64 n,.int .i64 (N-1)]]=some ⟨v',H'⟩/\Own H' h.n v' 2 ((out++[(⟨n,N-1⟩:Rg)]).map Rg.cells)/\h.n<=H'.n:=by
    obtain⟨v',h4,a1,a2,a3,a4,a5⟩:=qaC (mk:=h.n) (bytes:=16) (xs:=[[.int .i64 n,.int .i64 (N-1)]]) hO (Jac _) (by simp) (by simp; omega) (by omega) hn;exact⟨v',h4,a1,by rw [List.map_append]; exact a2,by omega⟩
   rcases List.eq_nil_or_concat out with ho|⟨init,x,ho⟩
   ·subst ho;obtain⟨v',H',a1,a2,a3⟩:=happ;have fm:fw .i64 (-1) = -1:=fw64 (by omega) (by omega);simp -dsimp [t9,t10,t11,hlv,fN,fm];rw [qaE (xs:=[[.int .i64 n,.int .i64 (N-1)]]) (by simp)];simp -dsimp [t9];refine OpS.intro a1 ?_;simp -dsimp [t11];exact qah.intro (k-(N-n).toNat) (by omega) ⟨N,_,v',by omega,by omega,by simp,by simp,a2,hI.more n0 N1 hmore,a3,rfl⟩
   ·rw [List.concat_eq_append] at ho;subst ho;have hlast:lat (init++[x]) init.length=x:=by rw [qBu (by simp)]; simp
    have hxr:=hI.r x (by simp);rcases hO with ⟨q,q'⟩|⟨id,q3,q4,q5,q6,q7⟩
    ·simp at q'
    have hll:((init++[x]).length:Nat)=init.length+1:=by simp
    rw [List.length_map,hll] at q3;have j3:((init++[x]).map Rg.cells)[init.length]?=some x.cells:=by simp
    have hia:qaw 2 (.sl id 0 (init.length+1) 2 false) (.int .i64 (init.length:Int))=some (.ptr id init.length 0):=by
     have:=qam (e:=2) (id:=id) (b:=0) (n:=init.length+1) (f:=false) (k:=.i64) (i:=(init.length:Int)) (by omega) (by omega);simpa using this
    have fL':fw .i64 (init.length:Int)=(init.length:Int):=fw64 (by omega) (by omega)
    by_cases c5:x.hi=n-1
    ·simp -dsimp [t9,t10,t11,q3,fL',hia,q4,j3,Rg.cells,fn,fN,c5,q5];refine qah.intro (k-(N-n).toNat) (by omega) ⟨N,init++[⟨x.lo,N-1⟩],_,by omega,by omega,by simp,rfl,?_,hI.last c5 N1 hmore,by simpa using hn,rfl⟩;refine .inr ⟨id,by simp [q3,t9],by rw [qBp,Jab rfl,List.map_append]; rfl,q5,by simpa using q6,by simp⟩
    ·simp -dsimp [t9,t10,t11,q3,fL',hia,q4,j3,Rg.cells,fn,fN,c5];obtain⟨v',H',a1,a2,a3⟩:=happ;rw [qaE (xs:=[[.int .i64 n,.int .i64 (N-1)]]) (by simp)];simp -dsimp [t9];refine OpS.intro (by rw [<-q3]; exact a1) ?_;simp -dsimp [t11];exact qah.intro (k-(N-n).toNat) (by omega) ⟨N,_,v',by omega,by omega,by simp,by simp,a2,hI.more n0 N1 hmore,a3,rfl⟩
 ·have n1:n=1114112:=by simp at hl; omega
  subst n1;simp -dsimp [h9];exact⟨_,qiK hO (Jac _),slR out,rfl,by rw [slR_l]; exact hI⟩
theorem qDh (a:Sl Rg) (ha:a.l.length<1000000000):WF PR d mk (.fn 147 [] []) [a.enc Rg.cells] h λr=>r.h=h/\∃s:Sl Rg,r.v=s.enc Rg.cells/\OfI (hasB a.l) s.l 1114112:=by
 refine qBE (F:=f147) (Q:=λv=>∃s:Sl Rg,v=s.enc Rg.cells/\OfI (hasB a.l) s.l 1114112) rfl rfl rfl (Nat.le_of_ble_eq_true rfl) ?_;refine qef b147 [.tm 2] rfl rfl ?_;unfold b147;simp -dsimp;refine WFS.by (qDw a .nil ha (by simp) (how:=0) (high:=-1) (by omega)) ?_
 rintro v h' ⟨e,s,e2,hs⟩;simp only at e e2;subst e e2;simp -dsimp;refine⟨_,qtm (qtV 14) s,s,rfl,?_⟩;have:isV a.l (Sl.nil:Sl Rg).l 0 (-1)=hasB a.l:=by funext n; simp [isV,hasB]
 rwa [this] at hs
theorem qDk (a b:Sl Rg) (ha:a.l.length<1000000000) (hb:b.l.length<1000000000):WF PR d mk (.fn 114 [] []) [a.enc Rg.cells,b.enc Rg.cells] h λr=>r.h=h/\∃s:Sl Rg,r.v=s.enc Rg.cells/\OfI (λn=>hasB a.l n && !hasB b.l n) s.l 1114112:=by
 refine qBE (F:=f114) (Q:=λv=>∃s:Sl Rg,v=s.enc Rg.cells/\OfI (λn=>hasB a.l n && !hasB b.l n) s.l 1114112) rfl rfl rfl (Nat.le_of_ble_eq_true rfl) ?_;refine qef b114 [.tm 4] rfl rfl ?_;unfold b114;simp -dsimp;refine WFS.by (qDw a b ha hb (how:=2) (high:=-1) (by omega)) ?_
 rintro v h' ⟨e,s,e2,hs⟩;simp only at e e2;subst e e2;simp -dsimp;refine⟨_,qtm (qtV 14) s,s,rfl,?_⟩;have:isV a.l b.l 2 (-1)=λn=>hasB a.l n && !hasB b.l n:=by funext n; simp [isV]
 rwa [this] at hs
theorem qDc (a:Sl Rg) (ha:a.l.length<1000000000):WF PR d mk (.fn 113 [] []) [a.enc Rg.cells] h λr=>r.h=h/\∃n:Int,r.v=.int .i64 n/\(0<n↔∃m,0<=m/\m<=1114111/\hasB a.l m=true):=by
 refine qBE (F:=f113) (Q:=λv=>∃n:Int,v=.int .i64 n/\(0<n↔∃m,0<=m/\m<=1114111/\hasB a.l m=true)) rfl rfl rfl (Nat.le_of_ble_eq_true rfl) ?_;refine qef b113 [.tm 2] rfl rfl ?_;unfold b113;simp -dsimp;refine WFS.by (qDh a ha) ?_
 rintro v h' ⟨e,s,e2,hs⟩;simp only at e e2;subst e e2;have hsl:=hs.l;have hlen:∀H,lenV .sl (s.enc Rg.cells) H=some (.int .i64 s.l.length):=λH=>by simp
 simp -dsimp;refine qaf (λk st=>∃(i:Nat) (n:Int),i+k=s.l.length/\(gK 5).run st.tm=.int .i64 i/\(gK 3).run st.tm=.int .i64 n/\0<=n/\n<=1114112 * i/\(0<n↔0<i)/\st.defs=[]) s.l.length ⟨0,0,by omega,by simp,by simp,by omega,by omega,by omega,rfl⟩ ?_;rintro k ⟨tm,H,defs,round⟩ ⟨i,n,hi,h5,h3,n0,n1,n2,rfl⟩ hK;have h4:=hK 4 rfl;simp at h3 h4 h5;clear hK;simp -dsimp [h4,h5,hlen];rw [qaa];refine⟨λhl=>?_,λhl=>?_⟩
 ·have c1:i<s.l.length:=by simpa using hl
  obtain⟨x,hxx⟩:∃x,lat s.l i=x:=⟨_,rfl⟩;have hia:qaw 2 (s.enc Rg.cells) (.int .i64 i)=some (.ptrR x.cells 0):=by
   have:=qe7 (k:=.i64) (n:=(i:Int)) (s:=s) (by omega) (by omega);rw [this]; simp [hxx]
  have hxr:=hs.r x (by rw [<-hxx]; exact qai c1);have hf:fw .i64 ((i:Int)+1)=(i:Int)+1:=fw64 (by omega) (by omega);have f1:fw .i64 (n+x.hi)=n+x.hi:=fw64 (by omega) (by omega);have f2:fw .i64 (n+x.hi-x.lo)=n+x.hi-x.lo:=fw64 (by omega) (by omega);have f3:fw .i64 (n+x.hi-x.lo+1)=n+x.hi-x.lo+1:=fw64 (by omega) (by omega);simp -dsimp [h3,h4,h5,hia,Rg.cells,f1,f2,f3,hf];exact qah.intro (k-1) (by omega) ⟨i+1,n+x.hi-x.lo+1,by omega,by simp,by simp,by omega,by omega,by omega,rfl⟩
 ·have hl':¬i<s.l.length:=by simpa using hl
  simp -dsimp [h3];rw [n2];constructor
  ·intro h0;have hx:=hs.r _ (qai (l:=s.l) (i:=0) (by omega));refine⟨(lat s.l 0).lo,hx.1,by omega,?_⟩;rw [<-hs.h _ hx.1 (by omega)];unfold hasB;rw [List.any_eq_true];exact⟨_,qai (l:=s.l) (i:=0) (by omega),by simp [inR,hx.2.1]⟩
  ·rintro⟨m,m0,m1,m2⟩;rw [<-hs.h m m0 (by omega)] at m2;unfold hasB at m2;rw [List.any_eq_true] at m2;obtain⟨x,hx,_⟩:=m2;have:=List.length_pos_of_mem hx;omega
end
set_option linter.unusedSimpArgs false
open Classical in
noncomputable def lefL (g:Gr) (n:Int):List Int:=((List.range g.p.l.length).filter λi:Nat=>decide ((i:Int)∈qaq g n)).map λi:Nat=>(i:Int)
theorem qDF {g:Gr}(hm:mayB g=true) {h:Heap}:RBs h (allV g) (nulL g):=by
 have hv:allV g=.slR (qao (nulL g)) false:=by simp [allV,hm]
 rw [hv];refine⟨λH=>by simp,λi hi=>⟨.ptrR [.bool ((nulL g).getD i false)] 0,?_,by rfl⟩⟩;have:=qap (f:=λb:Bool=>[V.bool b]) (s:=Sl.of (nulL g)) (esz:=1) (k:=.i64) (n:=(i:Int)) (by omega) (by simpa [Sl.l] using hi) (λ_=>rfl);have e:(Sl.of (nulL g)).enc (λb:Bool=>[V.bool b])=.slR (qao (nulL g)) false:=rfl;rw [e] at this;rw [this];simp [Sl.l,latB]
theorem qDE {g:Gr}{k:Int}(h0:0<=k) (h1:k<g.p.l.length):bN (nulL g) k=nulB g k:=by
 obtain⟨i,rfl⟩:∃i:Nat,k=i:=⟨k.toNat,by omega⟩;rw [qBD,List.getD_eq_getElem?_getD];simp only [nulL,List.getElem?_map];rw [List.getElem?_range (by omega)]; rfl
theorem qCA {N M:Int->Bool}{l:List Sy}(h:∀s∈l,s.kind=2->N s.n=M s.n):qeY N l=qeY M l:=by
 rw [Bool.eq_iff_iff];simp only [qeY,notN,Bool.not_eq_true',List.any_eq_false,Bool.or_eq_true,not_or,Jai,Decidable.not_not,Bool.not_eq_true,Bool.not_eq_false'];constructor
 ·intro h1 s hs;have h2:=h1 s hs;exact⟨h2.1,by rw [<-h s hs h2.1]; exact h2.2⟩
 ·intro h1 s hs;have h2:=h1 s hs;exact⟨h2.1,by rw [h s hs h2.1]; exact h2.2⟩
theorem qCW (g:Gr) (hg:g.Small) (n:Int) {d:Bool}{mk:Nat}{h:Heap}:WF PR d mk (.fn 69 [] []) [.agg g.cells,.int .i64 n] h λr=>r=⟨(slOf (lefL g n)).enc qaM,h⟩:=by
 refine qBt f69 b69 [.tm 4] rfl rfl rfl rfl rfl rfl ?_;unfold b69;have hlp:∀H,lenV .sl (g.p.enc Pd.cells) H=some (.int .i64 g.p.l.length):=λH=>by simp
 have hgc:g.cells=[g.p.enc Pd.cells,g.keys.enc qac]:=rfl;simp -dsimp [hgc];rw [<-hgc];refine WFS.by (qDG g hg) ?_
 intro v h' e;cases e;have hempty:(¬(mayB g=true/\0<=n/\n<g.p.l.length))->lefL g n=[]:=λhn=>by
  have:qaq g n=[]:=by unfold qaq; rw [Jaa hn]
  simp [lefL,this]
 by_cases c0:n<0
 ·have:=hempty (by omega);simp -dsimp [c0,this,slOf];rfl
 cases hm:mayB g with
 | false =>
  have:=hempty (by simp [hm]);have hv:allV g=.nils:=by simp [allV,hm]
  have c1:0<=n:=by omega
  simp -dsimp [c0,c1,hv,this,slOf];rfl
 | true =>
 have hok:=qaF hm;have hp60:=hok.p;have hp0:=hok.p0;have hrb:=λH=>qDF hm (h:=H);have hla:∀H,lenV .sl (allV g) H=some (.int .i64 g.p.l.length):=λH=>by have:=(hrb H).1 H; rwa [qDg] at this
 by_cases c1:(g.p.l.length:Int)<=n
 ·have:=hempty (by omega);simp -dsimp [c0,c1,hla,this,slOf];rfl
 simp -dsimp [hgc,c0,c1,hla,qgi (n:=g.p.l.length) (by omega)];obtain⟨m,hmm⟩:∃m:Nat,n=m:=⟨n.toNat,by omega⟩;obtain⟨p,hp⟩:∃p,lat g.p.l m=p:=⟨_,rfl⟩;have hmp:p∈g.p.l:=by rw [<-hp]; exact qai (by omega)
 have hia:qaw 3 (g.p.enc Pd.cells) (.int .i64 (m:Int))=some (.ptrR p.cells 0):=by
  have:=qbg (k:=.i64) (n:=(m:Int)) (s:=g.p) (by omega) (by omega);rw [this]; simp [hp]
 have hpc:p.cells=[p.a.enc qaK,.int .i64 p.marks,p.no.enc Rg.cells]:=rfl;have hla2:∀H,lenV .sl (p.a.enc qaK) H=some (.int .i64 p.a.l.length):=λH=>by simp
 have ha8:=hok.a p hmp;subst hmm;have hmem:∀y:Int,y∈qaq g m↔y∈qaQ (nulB g) p.a.l p.a.l.length:=λy=>by
  unfold qaq;rw [Jab ⟨hm,by omega,by omega⟩,qjw,qc2,qfD,show ((m:Int)).toNat=m by omega,hp]
 refine qaf (λq st=>∃(j:Nat) (T:List Bool),j+q=p.a.l.length/\(gK 7).run st.tm=.int .i64 j/\BS g (λ_=>true) h.n T st.h/\(∀y:Nat,y<g.p.l.length->(T.getD y false=true↔(y:Int)∈qaQ (nulB g) p.a.l j))/\st.defs=[]) p.a.l.length
  ⟨0,List.replicate g.p.l.length false,by omega,by simp,⟨by simp; exact hgc.symm,by simp [qao],by simp,by simp,λ_ _=>rfl⟩,λy hy=>?_,rfl⟩ ?_
 ·simp [qaQ,List.getD_eq_getElem?_getD,List.getElem?_replicate,hy]
 rintro q ⟨tm,H,defs,round⟩ ⟨j,T,hq,h7,hB,hT,rfl⟩ hK;have h1:=hK 1 rfl;have h2:=hK 2 rfl;have h5:=hK 5 rfl;have h6:=hK 6 rfl;simp at h1 h2 h5 h6 h7;clear hK;simp only at hB;have gg:=hB.fg;rw [hgc] at gg;simp -dsimp [h1,h2,h7,gg,hia,hpc,hla2];rw [qaa];refine⟨λhl=>?_,λhl=>?_⟩
 ·have d1:j<p.a.l.length:=by simpa using hl
  obtain⟨a,ha⟩:∃a,lat p.a.l j=a:=⟨_,rfl⟩;have hma:a∈p.a.l:=by rw [<-ha]; exact qai d1
  have hia2:qaw 1 (p.a.enc qaK) (.int .i64 j)=some (.ptrR [a.enc Sy.cells] 0):=by
   have:=qap (f:=qaK) (s:=p.a) (esz:=1) (k:=.i64) (n:=(j:Int)) (by omega) (by omega) (λ_=>rfl);rw [this]; simp [ha,qaK]
  have hf:fw .i64 ((j:Int)+1)=(j:Int)+1:=fw64 (by omega) (by omega);have ha40:=hok.s p hmp a hma;have hls:∀H,lenV .sl (a.enc Sy.cells) H=some (.int .i64 a.l.length):=λH=>by simp
  simp -dsimp [h1,h2,h7,gg,hia,hpc,hia2];refine qaf (λq st=>∃(i:Nat) (T:List Bool),i+q=a.l.length/\(gK 9).run st.tm=.int .i64 i/\BS g (λ_=>true) h.n T st.h/\(∀y:Nat,y<g.p.l.length->(T.getD y false=true↔(y:Int)∈qaQ (nulB g) p.a.l j++qa6 (nulB g) a.l i))/\st.defs=[]) a.l.length
   ⟨0,T,by omega,by simp,hB,λy hy=>by rw [hT y hy]; simp [qa6],rfl⟩ ?_
  rintro q2 ⟨tm2,H2,defs,round2⟩ ⟨i,T2,hq2,h9,hB2,hT2,rfl⟩ hK;have u5:=hK 5 rfl;have u6:=hK 6 rfl;have u7:=hK 7 rfl;have u8:=hK 8 rfl;simp [h5,h6,h7] at u5 u6 u7 u8 h9;clear hK;simp only at hB2;simp -dsimp [u8,h9,hls];rw [qaa];refine⟨λhl2=>?_,λhl2=>?_⟩
  ·have d2:i<a.l.length:=by simpa using hl2
   obtain⟨s,hs⟩:∃s,lat a.l i=s:=⟨_,rfl⟩;have hms:s∈a.l:=by rw [<-hs]; exact qai d2
   have hia3:qaw 3 (a.enc Sy.cells) (.int .i64 i)=some (.ptrR s.cells 0):=by
    have:=qz7 (k:=.i64) (n:=(i:Int)) (s:=a) (by omega) (by omega);rw [this]; simp [hs]
   have hsc:s.cells=[.int .i64 s.kind,s.r.enc Rg.cells,.int .i64 s.n]:=rfl;have hf2:fw .i64 ((i:Int)+1)=(i:Int)+1:=fw64 (by omega) (by omega);have hup:qa6 (nulB g) a.l (i+1)=qa6 (nulB g) a.l i++(if decide (s.kind=2)&&qeY (nulB g) (a.l.take i) then [s.n] else []):=by rw [qa6,hs]
   simp -dsimp [u5,u8,h9];refine OpS.intro (x:=(a.cut 0 i).enc Sy.cells) (qdD (λ_=>rfl) λfl=>by simp [qaY (n:=(i:Int)) (top:=a.l.length) (by omega) (by omega),qdl]) ?_;simp -dsimp;refine WFS.by (qCG (hrb _) (by simp; omega) (a.cut 0 i) (by simp; omega)) ?_
   intro v h' e;cases e;have hon:qeY (bN (nulL g)) (a.cut 0 i).l=qeY (nulB g) (a.l.take i):=by
    have e0:(a.cut 0 i).l=a.l.take i:=by simp
    rw [e0];refine qCA λs hs hk=>?_;have:=(hok.sy p hmp a hma s (List.mem_of_mem_take hs)).non hk;exact qDE this.1 this.2.1
   rw [hon];obtain⟨e,he⟩:∃e,qeY (nulB g) (a.l.take i)=e:=⟨_,rfl⟩;rw [he] at hup ⊢;have hss:=hB2.s;have hnn:h.n<=h.n+1:=by omega
   have hkeep:(decide (s.kind=2)&&e)=false->∀y:Nat,y<g.p.l.length->(T2.getD y false=true↔(y:Int)∈qaQ (nulB g) p.a.l j++qa6 (nulB g) a.l (i+1)):=λh0 y hy=>by
    rw [hT2 y hy,hup,h0]; simp
   cases e with
   | false =>
    simp -dsimp [h9,hf2];exact qah.intro (q2-1) (by omega) ⟨i+1,T2,by omega,by simp,hB2,hkeep (by simp),rfl⟩
   | true =>
    by_cases ck:s.kind=2
    ·obtain⟨k0,k1,_⟩:=(hok.sy p hmp a hma s hms).non ck;obtain⟨z,hz⟩:∃z:Nat,s.n=z:=⟨s.n.toNat,by omega⟩;have hia4:qaw 1 (.sl (h.n+1) 0 g.p.l.length 1 true) (.int .i64 z)=some (.ptr (h.n+1) z 0):=by
      have:=qam (e:=1) (id:=h.n+1) (b:=0) (n:=g.p.l.length) (f:=true) (k:=.i64) (i:=(z:Int)) (by omega) (by omega);simpa using this
     have hTl:=hB2.len;have hrow:(qao T2)[z]?=some [.bool (lat T2 z)]:=qbv (by omega);simp -dsimp [u6,u8,h9,hia3,hsc,ck,hz,hia4,hss,hrow,hnn,qdW,hf2];refine qah.intro (q2-1) (by omega) ⟨i+1,T2.set z true,by omega,by simp,⟨by simp only []; rw [qBp,Jaa (by omega),hB2.fg],by simp only []; rw [qBp,Jab rfl],by simp only [qBB]; exact hB2.n,by simp [hTl],λ_ _=>rfl⟩,λy hy=>?_,rfl⟩;rw [hup,qDn (by omega)];have hu:(y:Int)∈qaQ (nulB g) p.a.l j++(qa6 (nulB g) a.l i++if (decide (s.kind=2)&&true)=true then [s.n] else [])↔((y:Int)∈qaQ (nulB g) p.a.l j++qa6 (nulB g) a.l i\/y=z):=by
      have hyz:((y:Int)=(z:Int))↔y=z:=by omega
      rw [Jab (by simp [ck]),hz];simp only [Jaj,Jah,hyz,or_assoc]
     rw [hu,<-hT2 y hy]
     by_cases e:y=z
     ·simp [e]
     ·simp [e]
    ·simp -dsimp [u8,h9,hia3,hsc,ck,hf2];exact qah.intro (q2-1) (by omega) ⟨i+1,T2,by omega,by simp,hB2,hkeep (by simp [ck]),rfl⟩
  ·have hl':¬i<a.l.length:=by simpa using hl2
   simp -dsimp [u7,hf];exact qah.intro (q-1) (by omega) ⟨j+1,T2,by omega,by simp,hB2,λy hy=>by rw [hT2 y hy,qaQ,ha,show i=a.l.length by omega],rfl⟩
 ·have hl':¬j<p.a.l.length:=by simpa using hl
  have hT':∀y:Nat,y<g.p.l.length->(T.getD y false=true↔(y:Int)∈qaq g m):=λy hy=>by rw [hT y hy,hmem,show j=p.a.l.length by omega]
  have hTl:=hB.len;have hlef:lefL g m=((List.range g.p.l.length).filter λy=>T.getD y false).map λy:Nat=>(y:Int):=by
   unfold lefL;congr 1;apply List.filter_congr;intro y hy;rw [Bool.eq_iff_iff,Jai];exact (hT' y (List.mem_range.1 hy)).symm
  obtain⟨Q,hQ⟩:∃Q:Nat->Bool,Q=λy=>T.getD y false:=⟨_,rfl⟩;rw [<-hQ] at hlef;simp -dsimp;refine qaf (λq st=>∃(i:Nat) (v:V),i+q=g.p.l.length/\(gK 12).run st.tm=.int .i64 i/\(gK 11).run st.tm=v/\st.h.get (h.n+1)=some (.rows (qao T))/\Own st.h (h.n+2) v 1 (qab (((List.range i).filter Q).map λy:Nat=>(y:Int)))/\h.n+2<=st.h.n/\st.defs=[]) g.p.l.length
   ⟨0,.nils,by omega,by simp,by simp,hB.s,.inl ⟨rfl,rfl⟩,by have:=hB.n; simp only; omega,rfl⟩ ?_
  rintro q2 ⟨tm2,H1,defs,round2⟩ ⟨i,v,hi,t12,t11,hs1,hO,hn1,rfl⟩ hK;have u6:=hK 6 rfl;simp [h6] at u6 t12 t11;simp only at hs1 hO hn1;clear hK;simp -dsimp [t12,u6];rw [qaa];refine⟨λhc=>?_,λhc=>?_⟩
  ·have d1:i<g.p.l.length:=by simpa using hc
   have hia5:qaw 1 (.sl (h.n+1) 0 g.p.l.length 1 true) (.int .i64 i)=some (.ptr (h.n+1) i 0):=by
    have:=qam (e:=1) (id:=h.n+1) (b:=0) (n:=g.p.l.length) (f:=true) (k:=.i64) (i:=(i:Int)) (by omega) (by omega);simpa using this
   have hrow:(qao T)[i]?=some [.bool (Q i)]:=by rw [qbv (by omega),latB,hQ]
   have hr1:((List.range (i+1)).filter Q).map (λn:Nat=>(n:Int))=((List.range i).filter Q).map (λn:Nat=>(n:Int))++if Q i=true then [(i:Int)] else []:=by
    rw [List.range_succ,List.filter_append,List.map_append];congr 1;rw [List.filter_cons];split<;>simp
   have f3:fw .i64 ((i:Int)+1)=((i+1:Nat):Int):=by rw [fw64 (by omega) (by omega)]; rfl
   cases hq:Q i with
   | true =>
    rw [hq,Jab rfl] at hr1;rw [hq] at hrow;obtain⟨v3,H3,a1,a2,a3,a4,a5⟩:=qaC (mk:=h.n) (bytes:=8) (xs:=qab [(i:Int)]) hO (by omega) (λq hq=>by simp only [qab,List.map_cons,List.map_nil,Jah] at hq; subst hq; exact⟨rfl,rfl⟩) (by
     have:=List.length_filter_le Q (List.range i);simp [qab] at this ⊢; omega) (by omega) hn1
    simp -dsimp [t12,u6,hia5,hs1,hrow];rw [qaE (xs:=qab [(i:Int)]) (by simp [qal,qab])];simp -dsimp [t11];refine OpS.intro a1 ?_;simp -dsimp [t12,f3];refine qah.intro (q2-1) (by omega) ⟨i+1,v3,by omega,by simp,by simp,by simp only; rw [a4 (h.n+1) (by omega) (hO.slId (by omega)),hs1],?_,by simp only; omega,rfl⟩;rw [hr1];simpa [qab] using a2
   | false =>
    rw [hq] at hr1 hrow;simp only [Jan,if_false,List.append_nil] at hr1;simp -dsimp [t12,u6,hia5,hs1,hrow,f3];exact qah.intro (q2-1) (by omega) ⟨i+1,v,by omega,by simp,by simpa using t11,hs1,by rw [hr1]; exact hO,hn1,rfl⟩
  ·have d1:i=g.p.l.length:=by simp at hc; omega
   subst d1;simp -dsimp [t11];rw [hlef];exact qhL hO (by omega)
set_option linter.unusedSimpArgs false
def lefC (l:List Int):List V:=[(slOf l).enc qaM]
def slLL (l:List (List Int)):Sl (List Int):=if l=[] then .nil else .of l
noncomputable def qB1 (g:Gr):List (List Int):=(List.range g.p.l.length).map λi:Nat=>lefL g i
theorem qDB {n k:Nat}{h:Heap}(l:List Int):freeze n h (k+2) ((slOf l).enc qaM)=some ((slOf l).enc qaM):=by
 unfold slOf;split
 ·rfl
 ·have:=qcL (mk:=n) (k:=k) (h:=h) l;show (match allM (allM (freeze n h (k+1))) (l.map qaM) with|some r=>some (V.slR r false)|none=>none)=_;have e:l.map qaM=qab l:=rfl;rw [e,this]; rfl
theorem qCH {n k:Nat}{h:Heap}:∀l:List (List Int),allM (allM (freeze n h (k+2))) (l.map lefC)=some (l.map lefC)
 | []=>rfl
 | x::l=>by
  have ih:=qCH (n:=n) (k:=k) (h:=h) l;simp only [List.map_cons,allM,ih,lefC,qDB]
theorem qCz {H:Heap}{m n:Nat}{v:V}{l:List (List Int)}(hO:Own H m v 1 (l.map lefC)) (h:n<=m):freeze n H qat v=some ((slLL l).enc lefC):=by
 rcases hO with ⟨rfl,q⟩|⟨id,rfl,q2,q3,q4,q5⟩
 ·have:l=[]:=by simpa using q
  subst this; rfl
 ·have hne:l≠[]:=by intro e; rw [e] at q5; exact q5 rfl
  have hr:qal H (.sl id 0 (l.map lefC).length 1 false)=some (l.map lefC):=by simp [qal,q2]; exact List.take_of_length_le (by simp)
  have hmi:n<=id:=by omega
  have hs:slLL l=.of l:=by unfold slLL; rw [Jaa hne]
  rw [hs];show (cond (Nat.ble n id) (match qal H (.sl id 0 (l.map lefC).length 1 false) with|some rows=>(match allM (allM (freeze n H 15)) rows with|some rs=>some (V.slR rs false)|none=>none)|none=>none) _)=_;rw [hr,show Nat.ble n id=true from Nat.ble_eq_true_of_le hmi];simp only [cond,qCH];rfl
theorem qCK (g:Gr) (hg:g.Small) {d:Bool}{mk:Nat}{h:Heap}:WF PR d mk (.fn 37 [] []) [.agg g.cells] h λr=>r=⟨(slLL (qB1 g)).enc lefC,h⟩:=by
 refine qBt f37 b37 [.tm 2] rfl rfl rfl rfl rfl rfl ?_;unfold b37;have hlp:∀H,lenV .sl (g.p.enc Pd.cells) H=some (.int .i64 g.p.l.length):=λH=>by simp
 have hgc:g.cells=[g.p.enc Pd.cells,g.keys.enc qac]:=rfl;have hgp:=hg.p;simp -dsimp [hgc];refine qaf (λq st=>∃(i:Nat) (v:V),i+q=g.p.l.length/\(gK 4).run st.tm=.int .i64 i/\(gK 3).run st.tm=v/\st.h.get h.n=some (.rows [g.cells])/\Own st.h (h.n+1) v 1 (((List.range i).map λi:Nat=>lefL g i).map lefC)/\h.n+1<=st.h.n/\st.defs=[]) g.p.l.length
  ⟨0,.nils,by omega,by simp,by simp,by simp; exact hgc.symm,.inl ⟨rfl,rfl⟩,by simp,rfl⟩ ?_
 rintro q2 ⟨tm2,H1,defs,round2⟩ ⟨i,v,hi,t4,t3,g0,hO,hn1,rfl⟩ hK;have u1:=hK 1 rfl;simp at u1 t4 t3;simp only at g0 hO hn1;have gg:=g0;rw [hgc] at gg;clear hK;simp -dsimp [t4,u1,gg,hlp];rw [qaa];refine⟨λhc=>?_,λhc=>?_⟩
 ·have d1:i<g.p.l.length:=by simpa using hc
  have f3:fw .i64 ((i:Int)+1)=((i+1:Nat):Int):=by rw [fw64 (by omega) (by omega)]; rfl
  simp -dsimp [t4,t3,u1,gg];rw [<-hgc];refine WFS.by (qCW g hg i) ?_
  intro v' h' e;cases e;obtain⟨v3,H3,a1,a2,a3,a4,a5⟩:=qaC (mk:=h.n) (bytes:=24) (xs:=[lefC (lefL g i)]) hO (by omega) (λq hq=>by simp only [Jah] at hq; subst hq; exact⟨rfl,by simp [lefC]⟩) (by simp; omega) (by omega) hn1;have hr1:((List.range (i+1)).map λi:Nat=>lefL g i).map lefC=((List.range i).map λi:Nat=>lefL g i).map lefC++[lefC (lefL g i)]:=by
   rw [List.range_succ]; simp
  simp -dsimp [t3];rw [qaE (xs:=[lefC (lefL g i)]) (by simp [qal,lefC])];simp -dsimp [t3];refine OpS.intro a1 ?_;simp -dsimp [t4,f3];refine qah.intro (q2-1) (by omega) ⟨i+1,v3,by omega,by simp,by simp,by simp only; rw [a4 h.n (by omega) (hO.slId (by omega)),g0],?_,by simp only; omega,rfl⟩;rw [hr1];exact a2
 ·have d1:i=g.p.l.length:=by simp at hc; omega
  subst d1;simp -dsimp [t3];exact qCz hO (by omega)
set_option linter.unusedSimpArgs false
theorem qBR {g:Gr}{n y:Int}:y∈lefL g n↔y∈qaq g n:=by
 simp only [lefL,Jak,List.mem_filter,List.mem_range,Jai];constructor
 ·rintro⟨i,⟨_,h⟩,rfl⟩; exact h
 ·intro h;have:=qfY h;exact⟨y.toNat,⟨by omega,by rw [show ((y.toNat:Nat):Int)=y by omega]; exact h⟩,by omega⟩
theorem qDl {g:Gr}{n:Int}:(lefL g n).length<=g.p.l.length:=by
 simp only [lefL,List.length_map];exact Jaf (List.length_filter_le _ _) (by simp)
def CLc (g:Gr) (a:Nat) (S:List Bool):Prop:=∀i:Nat,i<g.p.l.length->(i=a\/S.getD i false=true)->∀y∈lefL g i,bN S y=true
theorem CLc.full {g:Gr}{a:Nat}(ha:a<g.p.l.length) {S:List Bool}(h:CLc g a S) {k:Int}(hk:qdZ g a k):bN S k=true:=by
 induction hk with
 | one h1=>exact h a ha (.inl rfl) _ (qBR.2 h1)
 | @more b c h1 h2 ih =>
  obtain⟨i,rfl,hi,h3⟩:=qB8 ih;have hb:(i:Int)<g.p.l.length:=by
   cases h1 with
   | one h=>exact (qfY h).2
   | more _ h=>exact (qfY h).2
  exact h i (by omega) (.inr h3) _ (qBR.2 h2)
noncomputable def comL (g:Gr) (a:Nat):List Bool:=(List.range g.p.l.length).map λk:Nat=>qcO g a k
@[simp] theorem comL_len {g:Gr}{a:Nat}:(comL g a).length=g.p.l.length:=by simp [comL]
theorem qDC {g:Gr}{a:Nat}(ha:a<g.p.l.length) {S:List Bool}(hl:S.length=g.p.l.length) (h:CLc g a S) (hs:∀k,bN S k=true->qcO g a k=true):S=comL g a:=by
 apply List.ext_getElem (by simp [hl]);intro i h1 h2;simp only [comL,List.getElem_map,List.getElem_range];have e:S[i]=bN S i:=by rw [qBD,List.getD_eq_getElem?_getD,Jal h1]; rfl
 rw [e,Bool.eq_iff_iff];exact⟨hs i,λh3=>h.full ha (by simpa [qcO] using h3)⟩
set_option linter.unusedSimpArgs false
structure B1 (m:Nat) (N:Int->Bool) (b:Nat) (S:List Bool) (H:Heap):Prop where
  s:H.get b=some (.rows (qao S))
  n:H.n=b+1
  len:S.length=m
  ok:∀k,bN S k=true->N k=true
theorem B1.put {m:Nat}{N:Int->Bool}{b:Nat}{S:List Bool}{H:Heap}(h:B1 m N b S H) {t:Nat}(ht:t<m) (hN:N t=true):B1 m N b (S.set t true) (H.set b (.rows (qao (S.set t true)))):=by
  have hl:=h.len;refine⟨by rw [qBp,Jab rfl],by rw [qBB,h.n],by simp [h.len],λk hk=>?_⟩;rcases qCp (by omega) hk with ⟨rfl,_⟩|h1
  · exact hN
  · exact h.ok _ h1
@[simp] theorem slLL_l {l:List (List Int)}:(slLL l).l=l:=by unfold slLL; split<;>simp_all
theorem noT {m:Nat}{N:Int->Bool}(k:Int) (hk:bN (List.replicate m false) k=true):N k=true:=by
  obtain⟨i,rfl,hi,h1⟩:=qB8 hk;simp [List.getD_eq_getElem?_getD,List.getElem?_replicate] at h1;split at h1<;>simp at h1
theorem qCr {S:List Bool}{t i:Nat}(h:S.getD i false=true):(S.set t true).getD i false=true:=by
  simp only [List.getD_eq_getElem?_getD,List.getElem?_set] at h ⊢;split
  · split
    · rfl
    · rename_i e1 e2; subst e1; rw [List.getElem?_eq_none (by omega)] at h; cases h
  · exact h
theorem qCL (g:Gr) (hg60:g.p.l.length<=60) (a:Nat) (ha:a<g.p.l.length) {d:Bool}{mk:Nat}{h:Heap}:WF PR d mk (.fn 38 [] []) [(slLL (qB1 g)).enc lefC,.int .i64 a] h λr=>r=⟨.slR (qao (comL g a)) false,h⟩:=by
  refine qBt f38 b38 [.tm 4] rfl rfl rfl rfl rfl rfl ?_;unfold b38;have hll:(qB1 g).length=g.p.l.length:=by simp [qB1]
  have hlp:∀H,lenV .sl ((slLL (qB1 g)).enc lefC) H=some (.int .i64 g.p.l.length):=λH=>by simp [hll]
  have hrow:∀i:Nat,i<g.p.l.length->qaw 1 ((slLL (qB1 g)).enc lefC) (.int .i64 i)=some (.ptrR [(slOf (lefL g i)).enc qaM] 0):=λi hi=>by
    have:=qap (f:=lefC) (s:=slLL (qB1 g)) (esz:=1) (k:=.i64) (n:=(i:Int)) (by omega) (by simp [hll]; omega) (λ_=>rfl);rw [this];have:lat (qB1 g) i=lefL g i:=by rw [qBu (by omega)]; simp [qB1]
    simp [lefC,this]
  simp -dsimp [hlp,qgi (n:=g.p.l.length) (by omega)];refine qaf (λq st=>∃(k:Nat) (S:List Bool),k+q=g.p.l.length/\(gK 6).run st.tm=.int .i64 k/\B1 g.p.l.length (λk=>qcO g a k) h.n S st.h/\(CLc g a S\/k<=cntT S)/\st.defs=[]) g.p.l.length
    ⟨0,List.replicate g.p.l.length false,by omega,by simp,⟨by simp [qao],by simp,by simp,noT⟩,.inr (by omega),rfl⟩ ?_
  rintro q ⟨tm,H,defs,round⟩ ⟨k,S0,hq,h6,hB,hk,rfl⟩ hK;have h0:=hK 0 rfl;have h1:=hK 1 rfl;have h5:=hK 5 rfl;simp at h0 h1 h5 h6;clear hK;simp only at hB;simp -dsimp [h0,h6,hlp];rw [qaa];refine⟨λhl=>?_,λhl=>?_⟩
  · have c1:k<g.p.l.length:=by simpa using hl
    have hf:fw .i64 ((k:Int)+1)=(k:Int)+1:=fw64 (by omega) (by omega);simp -dsimp;refine qaf (λq st=>∃(i:Nat) (S:List Bool),i+q=g.p.l.length/\(gK 7).run st.tm=.int .i64 i/\B1 g.p.l.length (λk=>qcO g a k) h.n S st.h/\Rd (CLc g a) (λS=>∀i':Nat,i'<i->(i'=a\/S.getD i' false=true)->∀y∈lefL g i',bN S y=true) S0 S/\st.defs=[]) g.p.l.length
      ⟨0,S0,by omega,by simp,hB,.inl ⟨rfl,λi' hi=>by omega⟩,rfl⟩ ?_
    rintro q2 ⟨tm2,H2,defs,round2⟩ ⟨i,S,hq2,h7,hB2,hR2,rfl⟩ hK;have u0:=hK 0 rfl;have u1:=hK 1 rfl;have u5:=hK 5 rfl;have u6:=hK 6 rfl;simp [h0,h1,h5,h6] at u0 u1 u5 u6 h7;clear hK;simp only at hB2;simp -dsimp [u0,h7,hlp];rw [qaa];refine⟨λhl2=>?_,λhl2=>?_⟩
    · have c2:i<g.p.l.length:=by simpa using hl2
      have hSl:=hB2.len;have hia:qaw 1 (.sl h.n 0 g.p.l.length 1 true) (.int .i64 i)=some (.ptr h.n i 0):=by
        have:=qam (e:=1) (id:=h.n) (b:=0) (n:=g.p.l.length) (f:=true) (k:=.i64) (i:=(i:Int)) (by omega) (by omega);simpa using this
      have hrw:(qao S)[i]?=some [.bool (S.getD i false)]:=by rw [qbv (by omega),latB]
      have hss:=hB2.s;have hf2:fw .i64 ((i:Int)+1)=(i:Int)+1:=fw64 (by omega) (by omega);have hcond:((i:Int)=(a:Int))↔i=a:=by omega
      have hskip:¬(i=a\/S.getD i false=true)->Rd (CLc g a) (λS=>∀i':Nat,i'<i+1->(i'=a\/S.getD i' false=true)->∀y∈lefL g i',bN S y=true) S0 S:=λhn=>hR2.imp (λh=>⟨h.1,λi' hi hc=>by
        by_cases e:i'=i
        · subst e; rw [h.1] at hn; exact absurd hc hn
        · exact h.2 i' (by omega) hc⟩) id
      have hcases:(i=a)\/(i≠a/\S.getD i false=true)\/¬(i=a\/S.getD i false=true):=by
        by_cases e:i=a
        · exact .inl e
        · cases hS:S.getD i false with
          | true=>exact .inr (.inl ⟨e,rfl⟩)
          | false=>exact .inr (.inr (by rintro (h|h); exact e h; cases h))
      obtain⟨L,hL⟩:∃L,lefL g i=L:=⟨_,rfl⟩;have hLl:L.length<=g.p.l.length:=by rw [<-hL]; exact qDl
      have hri:=hrow i c2;rw [hL] at hri;have hlL:∀H,lenV .sl ((slOf L).enc qaM) H=some (.int .i64 L.length):=λH=>by simp
      have hnn:h.n<=h.n:=Jac _;rcases hcases with e|⟨e,e2⟩|e;rotate_left 2
      · have z1:((i:Int)=(a:Int))=False:=eq_false (λh=>e (.inl (by omega)))
        have z2:(i=a)=False:=eq_false (λh=>e (.inl h));have e3:S.getD i false=false:=by
          cases hS:S.getD i false with
          | true=>exact absurd (.inr hS) e
          | false=>rfl
        rw [e3] at hrw;simp -dsimp [u0,u1,u5,h7,z1,z2,hia,hss,hrw,hf2];exact qah.intro (q2-1) (by omega) ⟨i+1,S,by omega,by simp,hB2,hskip e,rfl⟩
      all_goals
        have hc3:i=a\/S.getD i false=true:=by first|exact .inl e|exact .inr e2
        first
          | (have z1 : ((i : Int) = (a : Int)) = True := eq_true (by omega)
             have z2:(i=a)=True:=eq_true e;simp -dsimp [u0,u1,u5,h7,z1,z2])
          | (have z1 : ((i : Int) = (a : Int)) = False := eq_false (fun h => e (by omega))
             have z2:(i=a)=False:=eq_false e;rw [e2] at hrw;simp -dsimp [u0,u1,u5,h7,z1,z2,hia,hss,hrw])
        refine qaf (fun q st => ∃ (j : Nat) (S : List Bool), j + q = L.length ∧ (gK 8).run st.tm = .int .i64 j ∧ B1 g.p.l.length (fun k => qcO g a k) h.n S st.h ∧ (i = a ∨ S.getD i false = true) ∧
            Rd (CLc g a) (λS=>(∀i':Nat,i'<i->(i'=a\/S.getD i' false=true)->∀y∈lefL g i',bN S y=true)/\∀j',j'<j->bN S (lat L j')=true) S0 S/\st.defs=[]) L.length
          ⟨0,S,by omega,by simp,hB2,hc3,hR2.imp (λh=>⟨h.1,h.2,λj' hj=>by omega⟩) id,rfl⟩ ?_
        rintro q4 ⟨tm4,H4,defs,round4⟩ ⟨j,S4,hq4,h8,hB4,hc4,hR4,rfl⟩ hK;have w0:=hK 0 rfl;have w5:=hK 5 rfl;have w7:=hK 7 rfl;simp [u0,u5,h7] at w0 w5 w7 h8;clear hK;simp only at hB4;simp -dsimp [w0,w7,h8,hri,hlL];rw [qaa];refine⟨λhl4=>?_,λhl4=>?_⟩
        · have d1:j<L.length:=by simpa using hl4
          have hyL:lat L j∈lefL g i:=by rw [hL]; exact qai d1
          obtain⟨r0,r1⟩:=qfY (qBR.1 hyL);obtain⟨z,hz⟩:∃z:Nat,lat L j=z:=⟨(lat L j).toNat,by omega⟩;have hia3:qaw 1 ((slOf L).enc qaM) (.int .i64 j)=some (.ptrR [.int .i64 z] 0):=by
            have:=qap (f:=qaM) (s:=slOf L) (esz:=1) (k:=.i64) (n:=(j:Int)) (by omega) (by simp; omega) (λ_=>rfl);rw [this]; simp [qaM,hz]
          have hia4:qaw 1 (.sl h.n 0 g.p.l.length 1 true) (.int .i64 z)=some (.ptr h.n z 0):=by
            have:=qam (e:=1) (id:=h.n) (b:=0) (n:=g.p.l.length) (f:=true) (k:=.i64) (i:=(z:Int)) (by omega) (by omega);simpa using this
          have hSl4:=hB4.len;have hss4:=hB4.s;have hrw4:(qao S4)[z]?=some [.bool (lat S4 z)]:=qbv (by omega);have hf4:fw .i64 ((j:Int)+1)=(j:Int)+1:=fw64 (by omega) (by omega);have hN:qcO g a z=true:=by
            rw [<-hz];have hok:=hB4.ok;simp only [qcO,Jai] at hok ⊢;rcases hc4 with rfl|hc
            · exact .one (qBR.1 hyL)
            · exact .more (hok i (by rw [qBD]; exact hc)) (qBR.1 hyL)
          have hO:=hR4.one (t:=z) (e:=true) (P':=λS=>(∀i':Nat,i'<i->(i'=a\/S.getD i' false=true)->∀y∈lefL g i',bN S y=true)/\∀j',j'<j+1->bN S (lat L j')=true) (by omega)
            (λ_ hC=>by have:=hC i c2 hc4 _ hyL; rwa [hz,qBD] at this)
            (λh1 h2=>⟨h1.1,λj' hj'=>by
              by_cases e5:j'=j
              · subst e5; rw [hz,qBD]; exact h2 rfl
              · exact h1.2 j' (by omega)⟩)
          rw [Bool.or_true] at hO;simp -dsimp [w0,w5,w7,h8,hri,hia3,hia4,hss4,hrw4,hnn,qdW,hf4];exact qah.intro (q4-1) (by omega) ⟨j+1,S4.set z true,by omega,by simp,hB4.put (by omega) hN,hc4.imp id qCr,hO,rfl⟩
        · have hl':¬j<L.length:=by simpa using hl4
          simp -dsimp [w7,hf2]
          exact qah.intro (q2-1) (by omega) ⟨i+1,S4,by omega,by simp,hB4,hR4.imp (λh=>⟨h.1,λi' hi hc y hy=>by
            by_cases e5:i'=i
            · subst e5
              rw [hL] at hy;obtain⟨j',hj',rfl⟩:=List.getElem_of_mem hy;have:=h.2.2 j' (by omega)
              rwa [qBu hj'] at this
            · exact h.2.1 i' (by omega) hc y hy⟩) id,rfl⟩
    · have hl':¬i<g.p.l.length:=by simpa using hl2
      simp -dsimp [u6,hf];exact qah.intro (q-1) (by omega) ⟨k+1,S,by omega,by simp,hB2,hR2.done hk λh i hi=>h i (by omega),rfl⟩
  · have hl':¬k<g.p.l.length:=by simpa using hl
    have hS:S0=comL g a:=by
      refine qDC ha hB.len ?_ hB.ok;rcases hk with h|h
      · exact h
      · intro i hi _ y hy
        have:=qfY (qBR.1 hy);rw [show y=((y.toNat:Nat):Int) by omega,qBD];exact qB3 (by have:=hB.len; omega) (by have:=hB.len; omega)
    rw [<-hS];simp -dsimp [h5];exact qCo hB.s (by omega) hB.len
theorem qCB (g:Gr) (hg:g.Small) {d:Bool}{mk:Nat}{h:Heap}:WF PR d mk (.fn 20 [] []) [.agg g.cells] h λr=>r=⟨.int .i64 (qfg g),h⟩:=by
  refine qBt f20 b20 [.tm 2] rfl rfl rfl rfl rfl rfl ?_;unfold b20;have hgc:g.cells=[g.p.enc Pd.cells,g.keys.enc qac]:=rfl;have hll:(qB1 g).length=g.p.l.length:=by simp [qB1]
  have hlp:∀H,lenV .sl ((slLL (qB1 g)).enc lefC) H=some (.int .i64 g.p.l.length):=λH=>by simp [hll]
  have hgp:=hg.p;simp -dsimp [hgc];rw [<-hgc];refine WFS.by (qBI g hg) ?_
  intro v h' e;cases e;simp -dsimp [hgc];rw [<-hgc];refine WFS.by (qCK g hg) ?_
  intro v h' e;cases e;simp -dsimp;cases hm:mayB g with
  | false =>
    have hc:qfg g = -1:=by rw [qfg,Jaa (by simp [hm])]
    rw [hc];refine qaf (λq st=>(gK 5).run st.tm=.int .i64 0/\st.defs=[]) 0 ⟨by simp,rfl⟩ ?_;rintro q ⟨tm,H,defs,round⟩ ⟨h5,rfl⟩ hK;have h3:=hK 3 rfl;have h4:=hK 4 rfl;simp at h3 h4 h5;clear hK
    by_cases c:0<g.p.l.length
    · simp -dsimp [h3,h4,h5,hm,hlp,c]
    · simp -dsimp [h3,h4,h5,hm,hlp,c]
  | true =>
  have hok:=qaF hm;have hp60:=hok.p;refine qaf (λq st=>∃i:Nat,i+q=g.p.l.length/\(gK 5).run st.tm=.int .i64 i/\idxP (λn:Nat=>qcO g n n) ((List.range g.p.l.length).drop i) i=qfg g/\st.defs=[]) g.p.l.length
    ⟨0,by omega,by simp,by rw [qfg,Jab hm]; rfl,rfl⟩ ?_
  rintro q ⟨tm,H,defs,round⟩ ⟨i,hi,h5,hx,rfl⟩ hK;have h3:=hK 3 rfl;have h4:=hK 4 rfl;simp at h3 h4 h5;clear hK;simp -dsimp [h3,h4,h5,hlp]
  by_cases c:i<g.p.l.length
  · have hf:fw .i64 ((i:Int)+1)=(i:Int)+1:=fw64 (by omega) (by omega)
    have hia:qaw 1 (.slR (qao (comL g i)) false) (.int .i64 i)=some (.ptrR [.bool (qcO g i i)] 0):=by
      rw [qg7 (by omega) (by simp; omega),qBu (by simp; omega)];simp [comL]
    rw [qbu (by simpa using c),qof c] at hx;simp only [idxP] at hx;simp -dsimp [c,h3,h4,h5];refine WFS.by (qCL g hp60 i c) ?_
    intro v h' e;cases e;simp -dsimp [h5,hia];cases hb:qcO g i i with
    | true =>
      simp only [hb,if_true] at hx;simp -dsimp [h5,<-hx]
    | false =>
      simp only [hb,Jan,if_false] at hx;simp -dsimp [h5,hf];exact qah.intro (q-1) (by omega) ⟨i+1,by omega,by simp,hx,rfl⟩
  · have hd:(List.range g.p.l.length).drop i=[]:=List.drop_eq_nil_of_le (by simp; omega)
    rw [hd] at hx;simp only [idxP] at hx;simp -dsimp [c,<-hx]
set_option linter.unusedSimpArgs false
def CLr (g:Gr) (a:Nat) (S:List Bool):Prop:=∀i:Nat,i<g.p.l.length->(i=a\/S.getD i false=true)->∀y∈qhv g i,bN S y=true
theorem CLr.full {g:Gr}(hm:mayB g=true) {a:Nat}(ha:a<g.p.l.length) {S:List Bool}(h:CLr g a S) {k:Int}(hk:Rch g a k):bN S k=true/\k<g.p.l.length:=by
  induction hk with
  | one h1=>exact⟨h a ha (.inl rfl) _ h1,(qcY hm (by omega) (by omega) h1).2⟩
  | @more b c h1 h2 ih =>
    obtain⟨i,rfl,hi,h3⟩:=qB8 ih.1;exact⟨h i (by have:=ih.2; omega) (.inr h3) _ h2,(qcY hm (by omega) ih.2 h2).2⟩
theorem qCS {g:Gr}(hm:mayB g=true) {a:Nat}(ha:a<g.p.l.length) {S:List Bool}(hl:S.length=g.p.l.length) (h:CLr g a S) (hs:∀k,bN S k=true->rchB g a k=true):S=qaB g a:=by
  apply List.ext_getElem (by simp [hl,qaB]);intro i h1 h2;simp only [qaB,List.getElem_map,List.getElem_range];have e:S[i]=bN S i:=by rw [qBD,List.getD_eq_getElem?_getD,Jal h1]; rfl
  rw [e,Bool.eq_iff_iff];exact⟨hs i,λh3=>(h.full hm ha (by simpa [rchB] using h3)).1⟩
noncomputable def qBO (g:Gr) (n:Int):V:=if mayB g=true/\0<=n/\n<g.p.l.length then .slR (qao (qaB g n)) false else .nils
theorem qDe {g:Gr}{a i:Nat}{S:List Bool}(hs:∀k,bN S k=true->rchB g a k=true) (hc:i=a\/S.getD i false=true) {y:Int}(hy:y∈qhv g i):rchB g a y=true:=by
  simp only [rchB,Jai] at hs ⊢;rcases hc with rfl|hc
  · exact .one hy
  · exact .more (hs i (by rw [qBD]; exact hc)) hy
theorem BS.put {g:Gr}{N:Int->Bool}{b:Nat}{S:List Bool}{H:Heap}(h:BS g N b S H) {t:Nat}(ht:t<g.p.l.length) (hN:N t=true):BS g N b (S.set t true) (H.set (b+1) (.rows (qao (S.set t true)))):=by
  have hl:=h.len;refine⟨by rw [qBp,Jaa (by omega),h.fg],by rw [qBp,Jab rfl],by rw [qBB,h.n],by simp [h.len],λk hk=>?_⟩;rcases qCp (by omega) hk with ⟨rfl,_⟩|h1
  · exact hN
  · exact h.ok _ h1
theorem qB7 (g:Gr) (hg:g.Small) (n:Int) {d:Bool}{mk:Nat}{h:Heap}:WF PR d mk (.fn 39 [] []) [.agg g.cells,.int .i64 n] h λr=>r=⟨qBO g n,h⟩:=by
  refine qBt f39 b39 [.tm 4] rfl rfl rfl rfl rfl rfl ?_;unfold b39;have hlp:∀H,lenV .sl (g.p.enc Pd.cells) H=some (.int .i64 g.p.l.length):=λH=>by simp
  have hgc:g.cells=[g.p.enc Pd.cells,g.keys.enc qac]:=rfl;simp -dsimp [hgc];rw [<-hgc];refine WFS.by (qBI g hg) ?_
  intro v h' e;cases e;cases hm:mayB g with
  | false =>
    have:qBO g n=.nils:=by simp [qBO,hm]
    simp -dsimp [this]
  | true =>
  have hok:=qaF hm;have hp60:=hok.p;have hp0:=hok.p0
  by_cases c0:n<0
  · have:qBO g n=.nils:=by unfold qBO; rw [Jaa (by omega)]
    simp -dsimp [c0,this]
  by_cases c1:(g.p.l.length:Int)<=n
  · have:qBO g n=.nils:=by unfold qBO; rw [Jaa (by omega)]
    simp -dsimp [hgc,c0,c1,hlp,this]
  obtain⟨a,ha⟩:∃a:Nat,n=a:=⟨n.toNat,by omega⟩;subst ha;have haL:a<g.p.l.length:=by omega
  have c1':¬g.p.l.length<=a:=by omega
  have c0':¬(a:Int)<0:=by omega
  simp -dsimp [hgc,c0',c1,c1',hlp,qgi (n:=g.p.l.length) (by omega)];have hfv:qBO g (a:Int)=.slR (qao (qaB g (a:Int))) false:=by unfold qBO; rw [Jab ⟨hm,by omega,by omega⟩]
  rw [hfv];refine qaf (λq st=>∃(k:Nat) (S:List Bool),k+q=g.p.l.length/\(gK 7).run st.tm=.int .i64 k/\BS g (λk=>rchB g a k) h.n S st.h/\(CLr g a S\/k<=cntT S)/\st.defs=[]) g.p.l.length
    ⟨0,List.replicate g.p.l.length false,by omega,by simp,⟨by simp; exact hgc.symm,by simp [qao],by simp,by simp,noT⟩,.inr (by omega),rfl⟩ ?_
  rintro q ⟨tm,H,defs,round⟩ ⟨k,S0,hq,h7,hB,hk,rfl⟩ hK;have h1:=hK 1 rfl;have h2:=hK 2 rfl;have h6:=hK 6 rfl;simp at h1 h2 h6 h7;clear hK;simp only at hB;have gg:=hB.fg;rw [hgc] at gg;simp -dsimp [h2,h7,gg,hlp];rw [qaa];refine⟨λhl=>?_,λhl=>?_⟩
  · have c1:k<g.p.l.length:=by simpa using hl
    have hf:fw .i64 ((k:Int)+1)=(k:Int)+1:=fw64 (by omega) (by omega);simp -dsimp;refine qaf (λq st=>∃(i:Nat) (S:List Bool),i+q=g.p.l.length/\(gK 8).run st.tm=.int .i64 i/\BS g (λk=>rchB g a k) h.n S st.h/\Rd (CLr g a) (λS=>∀i':Nat,i'<i->(i'=a\/S.getD i' false=true)->∀y∈qhv g i',bN S y=true) S0 S/\st.defs=[]) g.p.l.length
      ⟨0,S0,by omega,by simp,hB,.inl ⟨rfl,λi' hi=>by omega⟩,rfl⟩ ?_
    rintro q2 ⟨tm2,H2,defs,round2⟩ ⟨i,S,hq2,h8,hB2,hR2,rfl⟩ hK;have u1:=hK 1 rfl;have u2:=hK 2 rfl;have u6:=hK 6 rfl;have u7:=hK 7 rfl;simp [h1,h2,h6,h7] at u1 u2 u6 u7 h8;clear hK;simp only at hB2;have gg2:=hB2.fg;rw [hgc] at gg2;simp -dsimp [u2,h8,gg2,hlp];rw [qaa];refine⟨λhl2=>?_,λhl2=>?_⟩
    · have c2:i<g.p.l.length:=by simpa using hl2
      obtain⟨p,hp⟩:∃p,lat g.p.l i=p:=⟨_,rfl⟩;have hmp:p∈g.p.l:=by rw [<-hp]; exact qai c2
      have hia:qaw 3 (g.p.enc Pd.cells) (.int .i64 i)=some (.ptrR p.cells 0):=by
        have:=qbg (k:=.i64) (n:=(i:Int)) (s:=g.p) (by omega) (by omega);rw [this]; simp [hp]
      have hf2:fw .i64 ((i:Int)+1)=(i:Int)+1:=fw64 (by omega) (by omega);have hpc:p.cells=[p.a.enc qaK,.int .i64 p.marks,p.no.enc Rg.cells]:=rfl;have hla:∀H,lenV .sl (p.a.enc qaK) H=some (.int .i64 p.a.l.length):=λH=>by simp
      have ha8:=hok.a p hmp;have hst:∀y∈qhv g i,∃j,j<p.a.l.length/\∃s∈(lat p.a.l j).l,s.kind=2/\s.n=y:=λy hy=>by
        simp only [qhv,List.mem_filterMap] at hy;obtain⟨s,hs,e⟩:=hy;split at e
        · rename_i hk
          cases e;unfold qnq at hs;rw [show ((i:Int)).toNat=i by omega,hp] at hs;obtain⟨al,ha,hs⟩:=qjZ (Jac _) hs;obtain⟨j,hj,rfl⟩:=List.getElem_of_mem ha;exact⟨j,hj,s,by rw [qBu hj]; exact hs,hk,rfl⟩
        · cases e
      have hts:∀{j m:Nat},j<p.a.l.length->m<(lat p.a.l j).l.length->(lat (lat p.a.l j).l m).kind=2->(lat (lat p.a.l j).l m).n∈qhv g i:=λhj hm hk=>by
        refine qrc (n:=(i:Int)) ?_ hm hk;rw [show ((i:Int)).toNat=i by omega,hp]; exact qai hj
      simp -dsimp;refine qaf (fun q st => ∃ (j : Nat) (S : List Bool), j + q = p.a.l.length ∧ (gK 9).run st.tm = .int .i64 j ∧ BS g (fun k => rchB g a k) h.n S st.h ∧ (0 < j → i = a ∨ S.getD i false = true) ∧
          Rd (CLr g a) (λS=>(∀i':Nat,i'<i->(i'=a\/S.getD i' false=true)->∀y∈qhv g i',bN S y=true)/\∀j',j'<j->∀s∈(lat p.a.l j').l,s.kind=2->bN S s.n=true) S0 S/\st.defs=[]) p.a.l.length
        ⟨0,S,by omega,by simp,hB2,λh=>by omega,hR2.imp (λh=>⟨h.1,h.2,λj' hj=>by omega⟩) id,rfl⟩ ?_
      rintro q3 ⟨tm3,H3,defs,round3⟩ ⟨j,S,hq3,h9,hB3,hcur,hR3,rfl⟩ hK;have v1:=hK 1 rfl;have v2:=hK 2 rfl;have v6:=hK 6 rfl;have v8:=hK 8 rfl;simp [u1,u2,u6,h8] at v1 v2 v6 v8 h9;clear hK;simp only at hB3;have gg3:=hB3.fg;rw [hgc] at gg3;have hSl:=hB3.len;have hss:=hB3.s;have hiaS:qaw 1 (.sl (h.n+1) 0 g.p.l.length 1 true) (.int .i64 i)=some (.ptr (h.n+1) i 0):=by
        have:=qam (e:=1) (id:=h.n+1) (b:=0) (n:=g.p.l.length) (f:=true) (k:=.i64) (i:=(i:Int)) (by omega) (by omega);simpa using this
      have hrw:(qao S)[i]?=some [.bool (S.getD i false)]:=by rw [qbv (by omega),latB]
      have hend:(j<p.a.l.length->¬(i=a\/S.getD i false=true))->∃S',BS g (λk=>rchB g a k) h.n S' H3/\Rd (CLr g a) (λS=>∀i':Nat,i'<i+1->(i'=a\/S.getD i' false=true)->∀y∈qhv g i',bN S y=true) S0 S':=λhx=>by
        refine⟨S,hB3,hR3.imp (λh=>⟨h.1,λi' hi hc y hy=>?_⟩) id⟩
        by_cases e:i'=i
        · subst e
          by_cases cj:j<p.a.l.length
          · rw [h.1] at hx; exact absurd hc (hx cj)
          · obtain⟨j',hj',s,hs,hk,rfl⟩:=hst y hy
            exact h.2.2 j' (by omega) s hs hk
        · exact h.2.1 i' (by omega) hc y hy
      by_cases cj:j<p.a.l.length
      · have hcases : (i = a) ∨ (i ≠ a ∧ S.getD i false = true) ∨ ¬ (i = a ∨ S.getD i false = true) := by
          by_cases e:i=a
          · exact .inl e
          · cases hS:S.getD i false with
            | true=>exact .inr (.inl ⟨e,rfl⟩)
            | false=>exact .inr (.inr (by rintro (h|h); exact e h; cases h))
        obtain⟨al,hal⟩:∃al,lat p.a.l j=al:=⟨_,rfl⟩;have hma:al∈p.a.l:=by rw [<-hal]; exact qai cj
        have hia2:qaw 1 (p.a.enc qaK) (.int .i64 j)=some (.ptrR [al.enc Sy.cells] 0):=by
          have:=qap (f:=qaK) (s:=p.a) (esz:=1) (k:=.i64) (n:=(j:Int)) (by omega) (by omega) (λ_=>rfl);rw [this]; simp [hal,qaK]
        have ha40:=hok.s p hmp al hma;have hls:∀H,lenV .sl (al.enc Sy.cells) H=some (.int .i64 al.l.length):=λH=>by simp
        have hf3:fw .i64 ((j:Int)+1)=(j:Int)+1:=fw64 (by omega) (by omega);have hnn:h.n<=h.n+1:=by omega
        rcases hcases with e|⟨e,e2⟩|e;rotate_left 2
        · obtain⟨S',e1,e2⟩:=hend λ_=>e
          have z1:((i:Int)=(a:Int))=False:=eq_false (λh=>e (.inl (by omega)));have z2:(i=a)=False:=eq_false (λh=>e (.inl h));have e3:S.getD i false=false:=by
            cases hS:S.getD i false with
            | true=>exact absurd (.inr hS) e
            | false=>rfl
          rw [e3] at hrw;simp -dsimp [v1,v2,v6,v8,h9,gg3,hia,hpc,hla,cj,z1,z2,hiaS,hss,hrw,hf2];exact qah.intro (q2-1) (by omega) ⟨i+1,S',by omega,by simp,e1,e2,rfl⟩
        all_goals
          have hc3:i=a\/S.getD i false=true:=by first|exact .inl e|exact .inr e2
          first
            | (have z1 : ((i : Int) = (a : Int)) = True := eq_true (by omega)
               have z2:(i=a)=True:=eq_true e;simp -dsimp [v1,v2,v6,v8,h9,gg3,hia,hpc,hla,cj,z1,z2])
            | (have z1 : ((i : Int) = (a : Int)) = False := eq_false (fun h => e (by omega))
               have z2:(i=a)=False:=eq_false e;rw [e2] at hrw;simp -dsimp [v1,v2,v6,v8,h9,gg3,hia,hpc,hla,cj,z1,z2,hiaS,hss,hrw])
          refine qaf (fun q st => ∃ (m : Nat) (S : List Bool), m + q = al.l.length ∧ (gK 10).run st.tm = .int .i64 m ∧ BS g (fun k => rchB g a k) h.n S st.h ∧ (i = a ∨ S.getD i false = true) ∧
              Rd (CLr g a) (λS=>(∀i':Nat,i'<i->(i'=a\/S.getD i' false=true)->∀y∈qhv g i',bN S y=true)/\(∀j',j'<j->∀s∈(lat p.a.l j').l,s.kind=2->bN S s.n=true)/\∀m',m'<m->(lat al.l m').kind=2->bN S (lat al.l m').n=true) S0 S/\st.defs=[]) al.l.length
            ⟨0,S,by omega,by simp,hB3,hc3,hR3.imp (λh=>⟨h.1,h.2.1,h.2.2,λm' hm=>by omega⟩) id,rfl⟩ ?_
          rintro q4 ⟨tm4,H4,defs,round4⟩ ⟨m,S4,hq4,h10,hB4,hc4,hR4,rfl⟩ hK;have w2:=hK 2 rfl;have w6:=hK 6 rfl;have w8:=hK 8 rfl;have w9:=hK 9 rfl;simp [v2,v6,v8,h9] at w2 w6 w8 w9 h10;clear hK;simp only at hB4;have gg4:=hB4.fg;rw [hgc] at gg4;simp -dsimp [w2,w8,w9,h10,gg4,hia,hpc,hia2,hls];rw [qaa];refine⟨λhl4=>?_,λhl4=>?_⟩
          · have d1:m<al.l.length:=by simpa using hl4
            obtain⟨s,hs⟩:∃s,lat al.l m=s:=⟨_,rfl⟩;have hms:s∈al.l:=by rw [<-hs]; exact qai d1
            have hia3:qaw 3 (al.enc Sy.cells) (.int .i64 m)=some (.ptrR s.cells 0):=by
              have:=qz7 (k:=.i64) (n:=(m:Int)) (s:=al) (by omega) (by omega);rw [this]; simp [hs]
            have hsc:s.cells=[.int .i64 s.kind,s.r.enc Rg.cells,.int .i64 s.n]:=rfl;have hf4:fw .i64 ((m:Int)+1)=(m:Int)+1:=fw64 (by omega) (by omega)
            by_cases ck:s.kind=2
            · obtain⟨k0,k1,_⟩:=(hok.sy p hmp al hma s hms).non ck
              obtain⟨z,hz⟩:∃z:Nat,s.n=z:=⟨s.n.toNat,by omega⟩;have hia4:qaw 1 (.sl (h.n+1) 0 g.p.l.length 1 true) (.int .i64 z)=some (.ptr (h.n+1) z 0):=by
                have:=qam (e:=1) (id:=h.n+1) (b:=0) (n:=g.p.l.length) (f:=true) (k:=.i64) (i:=(z:Int)) (by omega) (by omega);simpa using this
              have hSl4:=hB4.len;have hss4:=hB4.s;have hrow:(qao S4)[z]?=some [.bool (lat S4 z)]:=qbv (by omega);have hy:s.n∈qhv g i:=by
                have:=hts (m:=m) cj (by rw [hal]; exact d1) (by rw [hal,hs]; exact ck)
                rwa [hal,hs] at this
              have hN:rchB g a z=true:=by rw [<-hz]; exact qDe hB4.ok hc4 hy
              have hO:=hR4.one (t:=z) (e:=true) (P':=λS=>(∀i':Nat,i'<i->(i'=a\/S.getD i' false=true)->∀y∈qhv g i',bN S y=true)/\(∀j',j'<j->∀s∈(lat p.a.l j').l,s.kind=2->bN S s.n=true)/\∀m',m'<m+1->(lat al.l m').kind=2->bN S (lat al.l m').n=true) (by omega)
                (λ_ hC=>by have:=hC i c2 hc4 _ hy; rwa [hz,qBD] at this)
                (λh1 h2=>⟨h1.1,h1.2.1,λm' hm' hk'=>by
                  by_cases e5:m'=m
                  · subst e5; rw [hs,hz,qBD]; exact h2 rfl
                  · exact h1.2.2 m' (by omega) hk'⟩)
              rw [Bool.or_true] at hO;simp -dsimp [w2,w6,w8,w9,h10,gg4,hia,hpc,hia2,hia3,hsc,ck,hz,hia4,hss4,hrow,hnn,qdW,hf4];exact qah.intro (q4-1) (by omega) ⟨m+1,S4.set z true,by omega,by simp,hB4.put (by omega) hN,hc4.imp id qCr,hO,rfl⟩
            · simp -dsimp [w2,w8,w9,h10,gg4,hia,hpc,hia2,hia3,hsc,ck,hf4]
              exact qah.intro (q4-1) (by omega) ⟨m+1,S4,by omega,by simp,hB4,hc4,hR4.imp (λh=>⟨h.1,h.2.1,h.2.2.1,λm' hm' hk'=>by
                by_cases e5:m'=m
                · subst e5; rw [hs] at hk'; exact absurd hk' ck
                · exact h.2.2.2 m' (by omega) hk'⟩) id,rfl⟩
          · have hl':¬m<al.l.length:=by simpa using hl4
            simp -dsimp [w9,hf3]
            exact qah.intro (q3-1) (by omega) ⟨j+1,S4,by omega,by simp,hB4,λ_=>hc4,hR4.imp (λh=>⟨h.1,h.2.1,λj' hj' s hs hk=>by
              by_cases e5:j'=j
              · subst e5
                rw [hal] at hs;obtain⟨m',hm',rfl⟩:=List.getElem_of_mem hs;have:=h.2.2.2 m' (by omega) (by rw [qBu hm']; exact hk)
                rwa [qBu hm'] at this
              · exact h.2.2.1 j' (by omega) s hs hk⟩) id,rfl⟩
      · obtain⟨S',e1,e2⟩:=hend λh=>absurd h cj
        simp -dsimp [v2,v8,h9,gg3,hia,hpc,hla,cj,hf2];exact qah.intro (q2-1) (by omega) ⟨i+1,S',by omega,by simp,e1,e2,rfl⟩
    · have hl':¬i<g.p.l.length:=by simpa using hl2
      simp -dsimp [u7,hf];exact qah.intro (q-1) (by omega) ⟨k+1,S,by omega,by simp,hB2,hR2.done hk λh i hi=>h i (by omega),rfl⟩
  · have hl':¬k<g.p.l.length:=by simpa using hl
    have hS:S0=qaB g a:=by
      refine qCS hm haL hB.len ?_ hB.ok;rcases hk with h|h
      · exact h
      · intro i hi _ y hy
        have:=qcY hm (by omega) (by omega) hy;rw [show y=((y.toNat:Nat):Int) by omega,qBD];exact qB3 (by have:=hB.len; omega) (by have:=hB.len; omega)
    rw [<-hS];simp -dsimp [h6];exact qCo hB.s (by omega) hB.len
set_option linter.unusedSimpArgs false
section
variable {d:Bool}{mk:Nat}{h:Heap}
theorem qCR {S:List Bool}{v:V}(hv:∀o,RBs (h.push o) v S) (s:Sy) (hs:SyOk S.length s) (hr:s.r.l.length<40000000):WF PR d mk (.fn 70 [] []) [v,.agg s.cells] h λr=>r=⟨.bool (!qmb S s),h⟩:=by
 refine qBt f70 b70 [.tm 4] rfl rfl rfl rfl rfl rfl ?_;unfold b70;have hsc:s.cells=[.int .i64 s.kind,s.r.enc Rg.cells,.int .i64 s.n]:=rfl;have hlr:∀H,lenV .sl (s.r.enc Rg.cells) H=some (.int .i64 s.r.l.length):=λH=>by simp
 by_cases c2:s.kind=2
 ·obtain⟨k0,k1,_⟩:=hs.non c2;obtain⟨m,hm⟩:∃m:Nat,s.n=m:=⟨s.n.toNat,by omega⟩;obtain⟨p,hp1,hp3⟩:=(hv (.rows [[.int .i64 2,s.r.enc Rg.cells,.int .i64 m]])).2 m (by omega);have hvs:qmb S s = !(S.getD m false):=by unfold qmb; rw [Jab c2,hm,show ((m:Int)).toNat=m by omega,latB]
  simp -dsimp [hsc,c2,hm,hp1,hp3,hvs]
 by_cases c0:s.kind=0
 ·have hvs:qmb S s=decide (s.r.l=[]):=by unfold qmb; rw [Jaa c2,Jab c0]
  by_cases e:s.r.l=[]
  ·simp -dsimp [hsc,c0,hlr,hvs,e]
  ·have:=List.length_pos_iff.2 e;simp -dsimp [hsc,c0,hlr,hvs,e,this]
 ·have hvs:qmb S s = !qtY s.r.l:=by unfold qmb; rw [Jaa c2,Jaa c0]
  simp -dsimp [hsc,c0,c2];refine WFS.by (qDk s.r (Sl.full [⟨55296,57343⟩]) (by omega) (by simp)) ?_
  rintro v1 h1 ⟨e,t,e2,ht⟩;simp only at e e2;subst e e2;have htl:=ht.l;simp -dsimp;refine WFS.by (qDc t (by omega)) ?_
  rintro v1 h1 ⟨e,n,e2,hn⟩;simp only at e e2;subst e e2;have hb:decide (0<n)=qtY s.r.l:=by
   rw [Bool.eq_iff_iff,Jai,hn,qDb];refine exists_congr λm=>?_;refine and_congr_right λm0=>and_congr_right λm1=>?_;rw [ht.h m m0 (by omega)];simp only [hasB,qlE,List.any_cons,List.any_nil,Bool.or_false,inR,Jad,Bool.not_eq_true',Bool.and_eq_false_iff,Jaq];refine and_congr_right λ_=>?_;omega
  simp -dsimp [hvs,hb]
end
theorem BS.rbp {g:Gr}{N:Int->Bool}{b:Nat}{S:List Bool}{H:Heap}(h:BS g N b S H) {f:Bool}(o:Obj):RBs (H.push o) (.sl (b+1) 0 g.p.l.length 1 f) S:=by
 have hn:=h.n;refine⟨λH'=>by simp [h.len],λi hi=>⟨.ptr (b+1) (0+i) 0,?_,?_⟩⟩
 ·have:=qam (e:=1) (id:=b+1) (b:=0) (n:=g.p.l.length) (f:=f) (k:=.i64) (i:=(i:Int)) (by omega) (by have:=h.len; omega);simpa using this
 ·rw [qdL,qBq,Jaa (by omega),h.s,qcq,Nat.zero_add,qbv hi,latB]; rfl
theorem qC1 {S:List Bool}{l:List Sy}{m:Nat}(hm:m<l.length) (s:Sy) (hs:lat l m=s):(l.take (m+1)).any (qmb S)=((l.take m).any (qmb S)||qmb S s):=by
 rw [Jap,qaz hm,hs]; simp [List.any_append]
theorem qCJ (g:Gr) (hg:g.Fine) {d:Bool}{mk:Nat}{h:Heap}:WF PR d mk (.fn 40 [] []) [.agg g.cells] h λr=>r=⟨(if mayB g=true then .slR (qao (qe4 g).l) false else .nils),h⟩:=by
 refine qBt f40 b40 [.tm 2] rfl rfl rfl rfl rfl rfl ?_;unfold b40;have hlp:∀H,lenV .sl (g.p.enc Pd.cells) H=some (.int .i64 g.p.l.length):=λH=>by simp
 have hgc:g.cells=[g.p.enc Pd.cells,g.keys.enc qac]:=rfl;simp -dsimp [hgc];rw [<-hgc];refine WFS.by (qBI g hg.toSmall) ?_
 intro v h' e;cases e;cases hm:mayB g with
 | false =>
  simp -dsimp
 | true =>
 have hok:=qaF hm;have hp60:=hok.p;have hp0:=hok.p0;have hif:(if true=true then V.slR (qao (qe4 g).l) false else .nils)=V.slR (qao (qe4 g).l) false:=Jab rfl;rw [hif];simp -dsimp [hgc,hlp,qgi (n:=g.p.l.length) (by omega)];refine qaf (λq st=>∃(k:Nat) (S:List Bool),k+q=g.p.l.length/\(gK 5).run st.tm=.int .i64 k/\BS g (bN (qe4 g).l) h.n S st.h/\(CLm g S\/k<=cntT S)/\st.defs=[]) g.p.l.length
  ⟨0,List.replicate g.p.l.length false,by omega,by simp,⟨by simp; exact hgc.symm,by simp [qao],by simp,by simp,noT⟩,.inr (by omega),rfl⟩ ?_
 rintro q ⟨tm,H,defs,round⟩ ⟨k,S0,hq,h5,hB,hk,rfl⟩ hK;have h1:=hK 1 rfl;have h4:=hK 4 rfl;simp at h1 h4 h5;clear hK;simp only at hB;have gg:=hB.fg;rw [hgc] at gg;simp -dsimp [h1,h5,gg,hlp];rw [qaa];refine⟨λhl=>?_,λhl=>?_⟩
 ·have c1:k<g.p.l.length:=by simpa using hl
  have hf:fw .i64 ((k:Int)+1)=(k:Int)+1:=fw64 (by omega) (by omega);simp -dsimp;refine qaf (λq st=>∃(i:Nat) (S:List Bool),i+q=g.p.l.length/\(gK 6).run st.tm=.int .i64 i/\BS g (bN (qe4 g).l) h.n S st.h/\Rd (CLm g) (λS=>∀i',i'<i->∀a∈(lat g.p.l i').a.l,qjx S a=true->S.getD i' false=true) S0 S/\st.defs=[]) g.p.l.length
   ⟨0,S0,by omega,by simp,hB,.inl ⟨rfl,λi' hi=>by omega⟩,rfl⟩ ?_
  rintro q2 ⟨tm2,H2,defs,round2⟩ ⟨i,S,hq2,h6,hB2,hR2,rfl⟩ hK;have u1:=hK 1 rfl;have u4:=hK 4 rfl;have u5:=hK 5 rfl;simp [h1,h4,h5] at u1 u4 u5 h6;clear hK;simp only at hB2;have gg2:=hB2.fg;rw [hgc] at gg2;simp -dsimp [u1,h6,gg2,hlp];rw [qaa];refine⟨λhl2=>?_,λhl2=>?_⟩
  ·have c2:i<g.p.l.length:=by simpa using hl2
   obtain⟨p,hp⟩:∃p,lat g.p.l i=p:=⟨_,rfl⟩;have hmp:p∈g.p.l:=by rw [<-hp]; exact qai c2
   have hia:qaw 3 (g.p.enc Pd.cells) (.int .i64 i)=some (.ptrR p.cells 0):=by
    have:=qbg (k:=.i64) (n:=(i:Int)) (s:=g.p) (by omega) (by omega);rw [this]; simp [hp]
   have hf2:fw .i64 ((i:Int)+1)=(i:Int)+1:=fw64 (by omega) (by omega);have hpc:p.cells=[p.a.enc qaK,.int .i64 p.marks,p.no.enc Rg.cells]:=rfl;have hla:∀H,lenV .sl (p.a.enc qaK) H=some (.int .i64 p.a.l.length):=λH=>by simp
   have ha8:=hok.a p hmp;simp -dsimp;refine qaf (λq st=>∃(j:Nat) (S:List Bool),j+q=p.a.l.length/\(gK 7).run st.tm=.int .i64 j/\BS g (bN (qe4 g).l) h.n S st.h /\
     Rd (CLm g) (λS=>(∀i',i'<i->∀a∈(lat g.p.l i').a.l,qjx S a=true->S.getD i' false=true)/\∀j',j'<j->qjx S (lat p.a.l j')=true->S.getD i false=true) S0 S/\st.defs=[]) p.a.l.length
    ⟨0,S,by omega,by simp,hB2,hR2.imp (λh=>⟨h.1,h.2,λj' hj=>by omega⟩) id,rfl⟩ ?_
   rintro q3 ⟨tm3,H3,defs,round3⟩ ⟨j,S,hq3,h7,hB3,hR3,rfl⟩ hK;have v1:=hK 1 rfl;have v4:=hK 4 rfl;have v6:=hK 6 rfl;simp [u1,u4,h6] at v1 v4 v6 h7;clear hK;simp only at hB3;have gg3:=hB3.fg;rw [hgc] at gg3;simp -dsimp [v1,v6,h7,gg3,hia,hpc,hla];rw [qaa];refine⟨λhl3=>?_,λhl3=>?_⟩
   ·have c3:j<p.a.l.length:=by simpa using hl3
    obtain⟨a,ha⟩:∃a,lat p.a.l j=a:=⟨_,rfl⟩;have hma:a∈p.a.l:=by rw [<-ha]; exact qai c3
    have hia2:qaw 1 (p.a.enc qaK) (.int .i64 j)=some (.ptrR [a.enc Sy.cells] 0):=by
     have:=qap (f:=qaK) (s:=p.a) (esz:=1) (k:=.i64) (n:=(j:Int)) (by omega) (by omega) (λ_=>rfl);rw [this]; simp [ha,qaK]
    have hf3:fw .i64 ((j:Int)+1)=(j:Int)+1:=fw64 (by omega) (by omega);have ha40:=hok.s p hmp a hma;have hls:∀H,lenV .sl (a.enc Sy.cells) H=some (.int .i64 a.l.length):=λH=>by simp
    have hSl:=hB3.len;have hss:=hB3.s;have hnn:h.n<=h.n+1:=by omega
    have hia3:qaw 1 (.sl (h.n+1) 0 g.p.l.length 1 true) (.int .i64 i)=some (.ptr (h.n+1) i 0):=by
     have:=qam (e:=1) (id:=h.n+1) (b:=0) (n:=g.p.l.length) (f:=true) (k:=.i64) (i:=(i:Int)) (by omega) (by omega);simpa using this
    have hrow:(qao S)[i]?=some [.bool (S.getD i false)]:=by rw [qbv (by omega),latB]
    simp -dsimp;refine qaf (λq st=>∃m:Nat,m+q=a.l.length/\(gK 9).run st.tm=.int .i64 m/\(gK 8).run st.tm=.bool (!((a.l.take m).any (qmb S)))/\st.h=H3/\st.defs=[]) a.l.length
     ⟨0,by omega,by simp,by simp,rfl,rfl⟩ ?_
    rintro q4 ⟨tm4,H4,defs,round4⟩ ⟨m,hq4,h9,h8,rfl,rfl⟩ hK;have w1:=hK 1 rfl;have w4:=hK 4 rfl;have w6:=hK 6 rfl;have w7:=hK 7 rfl;simp [v1,v4,v6,h7] at w1 w4 w6 w7 h9 h8;clear hK;simp only at hB3 gg3 hss;simp -dsimp [w1,w6,w7,h9,gg3,hia,hpc,hia2,hls];rw [qaa];refine⟨λhl4=>?_,λhl4=>?_⟩
    ·have d1:m<a.l.length:=by simpa using hl4
     obtain⟨s,hs⟩:∃s,lat a.l m=s:=⟨_,rfl⟩;have hms:s∈a.l:=by rw [<-hs]; exact qai d1
     have hia4:qaw 3 (a.enc Sy.cells) (.int .i64 m)=some (.ptrR s.cells 0):=by
      have:=qz7 (k:=.i64) (n:=(m:Int)) (s:=a) (by omega) (by omega);rw [this]; simp [hs]
     have hf4:fw .i64 ((m:Int)+1)=(m:Int)+1:=fw64 (by omega) (by omega);simp -dsimp [w1,w4,w6,w7,h9,gg3,hia,hpc,hia2,hia4];refine WFS.by (qCR (λo=>hB3.rbp o) s (by rw [hSl]; exact hok.sy p hmp a hma s hms) (hg.fr p hmp a hma s hms)) ?_
     intro v h' e;cases e;have ht:=qC1 (S:=S) d1 s hs;cases hx:(a.l.take m).any (qmb S) with
     | true =>
      rw [hx] at h8 ht;simp at h8;simp -dsimp [h8,h9,hf4];exact qah.intro (q4-1) (by omega) ⟨m+1,by omega,by simp,by rw [ht]; simp,rfl,rfl⟩
     | false =>
      rw [hx] at h8 ht;simp at h8;simp -dsimp [h8,h9,hf4];exact qah.intro (q4-1) (by omega) ⟨m+1,by omega,by simp,by rw [ht]; simp,rfl,rfl⟩
    ·have hl':¬m<a.l.length:=by simpa using hl4
     rw [List.take_of_length_le (by omega)] at h8;have h8':(gK 8).run tm4=.bool (qjx S a):=by rw [h8]; simp [qjx]
     have hfin:∀e:Bool,e=qjx S a->∀H':Heap,H'.get h.n=some (.rows [g.cells])->H'.get (h.n+1)=some (.rows (qao (S.set i (S.getD i false||e))))->H'.n=h.n+2 ->
       ∃S',BS g (bN (qe4 g).l) h.n S' H'/\Rd (CLm g) (λS=>(∀i',i'<i->∀a∈(lat g.p.l i').a.l,qjx S a=true->S.getD i' false=true)/\∀j',j'<j+1->qjx S (lat p.a.l j')=true->S.getD i false=true) S0 S':=by
      intro e he H' q1 q2 q3;refine⟨_,⟨q1,q2,q3,by simp [hSl],λk hk=>?_⟩,hR3.one (by omega) (λh1 hC=>hC i c2 a (by rw [hp]; exact hma) (by rw [<-he]; exact h1)) λh1 h2=>⟨h1.1,λj' hj h3=>?_⟩⟩
      ·rcases qCp (by omega) hk with ⟨rfl,h1⟩|h1
       ·simp only [Bool.or_eq_true] at h1;rcases h1 with h1|h1
        ·exact hB3.ok _ (by rw [qBD]; exact h1)
        ·exact qDi hm hB3.ok c2 (by rw [hp]; exact hma) (by rw [<-he]; exact h1)
       ·exact hB3.ok _ h1
      ·by_cases e2:j'=j
       ·subst e2; rw [ha] at h3; exact h2 (by rw [he]; exact h3)
       ·exact h1.2 j' (by omega) h3
     obtain⟨b0,hb0⟩:∃b0,S.getD i false=b0:=⟨_,rfl⟩;rw [hb0] at hrow;simp only [hb0] at hfin;obtain⟨e,he⟩:∃e,qjx S a=e:=⟨_,rfl⟩;rw [he] at h8';obtain⟨S',hBB,hRR⟩:=hfin e he.symm (H4.set (h.n+1) (.rows (qao (S.set i (b0||e))))) (by rw [qBp,Jaa (by omega),hB3.fg]) (by rw [qBp,Jab rfl]) (by rw [qBB,hB3.n]);cases b0 with
     | true =>
      simp -dsimp [w4,w6,w7,h8',hia3,hss,hrow,hnn,qdW,hf3];exact qah.intro (q3-1) (by omega) ⟨j+1,S',by omega,by simp,by simpa using hBB,hRR,rfl⟩
     | false =>
      simp -dsimp [w4,w6,w7,h8',hia3,hss,hrow,hnn,qdW,hf3];exact qah.intro (q3-1) (by omega) ⟨j+1,S',by omega,by simp,by simpa using hBB,hRR,rfl⟩
   ·have hl':¬j<p.a.l.length:=by simpa using hl3
    simp -dsimp [v6,hf2];refine qah.intro (q2-1) (by omega) ⟨i+1,S,by omega,by simp,hB3,hR3.imp (λh=>⟨h.1,λi' hi a ha h2=>?_⟩) id,rfl⟩
    by_cases e:i'=i
    ·subst e;rw [hp] at ha;obtain⟨j',hj1,hj2⟩:=List.getElem_of_mem ha;exact h.2.2 j' (by omega) (by rw [qBu hj1,hj2]; exact h2)
    ·exact h.2.1 i' (by omega) a ha h2
  ·have hl':¬i<g.p.l.length:=by simpa using hl2
   simp -dsimp [u5,hf];exact qah.intro (q-1) (by omega) ⟨k+1,S,by omega,by simp,hB2,hR2.done hk λh i hi=>h i (by omega),rfl⟩
 ·have hl':¬k<g.p.l.length:=by simpa using hl
  have hS:S0=(qe4 g).l:=by
   refine mkL_eq hm hB.len ?_ hB.ok;rcases hk with h|h
   ·exact h
   ·exact λi hi a ha _=>qB3 (by have:=hB.len; omega) (by have:=hB.len; omega)
  rw [<-hS];simp -dsimp [h4];exact qCo hB.s (by omega) hB.len
set_option linter.unusedSimpArgs false
def qBN (m n:Int):Bool:=decide (m / n % 2=1)
theorem qCn:∀m:Nat,m<64->(qfC m 0=(qBN m 1||qBN m 2))/\(qfC m 1=(qBN m 4||(qBN m 8||qBN m 16)))/\qfC m 2=qBN m 32:=by decide
section
variable {d:Bool}{mk:Nat}{h:Heap}
theorem qBY (m n:Int) (m0:0<=m) (m1:m<=63) (hn:n=1\/n=2\/n=4\/n=8\/n=16\/n=32):WF PR d mk (.fn 42 [] []) [.int .i64 m,.int .i64 n] h λr=>r=⟨.bool (qBN m n),h⟩:=by
 refine qBt f42 b42 [.tm 4] rfl rfl rfl rfl rfl rfl ?_;unfold b42;have hn0:n≠0:=by omega
 have hq:fw .i64 (m.tdiv n)=m / n:=by
  rw [Int.tdiv_eq_ediv_of_nonneg m0,fw64 (by have:=Int.ediv_nonneg m0 (show 0<=n by omega); omega)];have:=Int.ediv_le_self n m0; omega
 have hr:(m / n).tmod 2=m / n % 2:=Int.tmod_eq_emod_of_nonneg (Int.ediv_nonneg m0 (by omega));simp -dsimp [qsu hn0,hq,qst (show (2:Int)≠0 by decide),hr,qBN]
theorem qCg (p:Pd) (m0:0<=p.marks) (m1:p.marks<=63):WF PR d mk (.fn 41 [] []) [.agg p.cells] h λr=>r=⟨.bool (qeB p),h⟩:=by
 refine qBt f41 b41 [.tm 2] rfl rfl rfl rfl rfl rfl ?_;unfold b41;have hpc:p.cells=[p.a.enc qaK,.int .i64 p.marks,p.no.enc Rg.cells]:=rfl;have hln:∀H,lenV .sl (p.no.enc Rg.cells) H=some (.int .i64 p.no.l.length):=λH=>by simp
 have hf:qeB p=(qBN p.marks 1||qBN p.marks 2||decide (0<p.no.l.length)):=by
  unfold qeB;have:=(qCn p.marks.toNat (by omega)).1;rw [show ((p.marks.toNat:Nat):Int)=p.marks by omega] at this;rw [this]
 rw [hf];simp -dsimp [hpc];refine WFS.by (qBY p.marks 1 m0 m1 (by omega)) ?_
 intro v h' e;cases e;simp -dsimp;refine WFS.by (qBY p.marks 2 m0 m1 (by omega)) ?_
 intro v h' e;cases e;cases qBN p.marks 1<;>cases qBN p.marks 2<;>simp -dsimp [hln]
theorem qDA (p:Pd) (m0:0<=p.marks) (m1:p.marks<=63):WF PR d mk (.fn 43 [] []) [.agg p.cells] h λr=>r=⟨.bool (qfC p.marks 1),h⟩:=by
 refine qBt f43 b43 [.tm 2] rfl rfl rfl rfl rfl rfl ?_;unfold b43;have hpc:p.cells=[p.a.enc qaK,.int .i64 p.marks,p.no.enc Rg.cells]:=rfl;have hf:qfC p.marks 1=(qBN p.marks 4||(qBN p.marks 8||qBN p.marks 16)):=by
  have:=(qCn p.marks.toNat (by omega)).2.1
  rwa [show ((p.marks.toNat:Nat):Int)=p.marks by omega] at this
 rw [hf];simp -dsimp [hpc];refine WFS.by (qBY p.marks 4 m0 m1 (by omega)) ?_
 intro v h' e;cases e;simp -dsimp;refine WFS.by (qBY p.marks 8 m0 m1 (by omega)) ?_
 intro v h' e;cases e;simp -dsimp;refine WFS.by (qBY p.marks 16 m0 m1 (by omega)) ?_
 intro v h' e;cases e;cases qBN p.marks 4<;>cases qBN p.marks 8<;>cases qBN p.marks 16<;>simp -dsimp
theorem qB5 {L:List Bool}(i:Nat) (hi:i<L.length):idxP (λx=>false == x) (L.drop i) i=if L.getD i false=true then idxP (λx=>false == x) (L.drop (i+1)) ((i:Int)+1) else i:=by
 rw [qbu hi,latB];simp only [idxP];cases L.getD i false<;>simp
theorem qCP (g:Gr) (hg:g.Fine):WF PR d mk (.fn 22 [] []) [.agg g.cells] h λr=>r=⟨.int .i64 (qo9 g),h⟩:=by
 refine qBt f22 b22 [.tm 2] rfl rfl rfl rfl rfl rfl ?_;unfold b22;have hgc:g.cells=[g.p.enc Pd.cells,g.keys.enc qac]:=rfl;simp -dsimp [hgc];rw [<-hgc];refine WFS.by (qCJ g hg) ?_
 intro v h' e;cases e;cases hm:mayB g with
 | false =>
  have hv:qo9 g = -1:=by unfold qo9 qe4; rw [hm]; rfl
  rw [hv];simp -dsimp;refine qaf (λq st=>(gK 4).run st.tm=.int .i64 0/\st.defs=[]) 0 ⟨by simp,rfl⟩ ?_;rintro q ⟨tm,H,defs,round⟩ ⟨h4,rfl⟩ hK;have h3:=hK 3 rfl;simp at h3 h4;clear hK;simp -dsimp [h3,h4]
 | true =>
 have hp60:=(qaF hm).p;obtain⟨L,hL⟩:∃L,(qe4 g).l=L:=⟨_,rfl⟩;have hLl:L.length=g.p.l.length:=by rw [<-hL]; exact (qBX hm).1
 have hv:qo9 g=idxP (λx=>false == x) L 0:=by unfold qo9; rw [hL]
 rw [hv,hL,Jab rfl];have hlen:∀H,lenV .sl (.slR (qao L) false) H=some (.int .i64 L.length):=λH=>by simp [qao]
 simp -dsimp;refine qaf (λq st=>∃i:Nat,i+q=L.length/\(gK 4).run st.tm=.int .i64 i/\idxP (λx=>false == x) (L.drop i) i=idxP (λx=>false == x) L 0/\st.defs=[]) L.length ⟨0,by omega,by simp,rfl,rfl⟩ ?_;rintro q ⟨tm,H,defs,round⟩ ⟨i,hi,h4,hx,rfl⟩ hK;have h3:=hK 3 rfl;simp at h3 h4;clear hK;simp -dsimp [h3,h4,hlen]
 by_cases c:i<L.length
 ·have hf:fw .i64 ((i:Int)+1)=(i:Int)+1:=fw64 (by omega) (by omega);have hia:qaw 1 (.slR (qao L) false) (.int .i64 i)=some (.ptrR [.bool (L.getD i false)] 0):=by
   rw [qg7 (by omega) (by omega)]; simp [latB]
  rw [qB5 i c] at hx;cases hb:L.getD i false with
  | true =>
   rw [hb] at hx hia;simp -dsimp [c,h3,h4,hia,hf];exact qah.intro (q-1) (by omega) ⟨i+1,by omega,by simp,by simpa using hx,rfl⟩
  | false =>
   rw [hb] at hx hia;rw [<-hx];simp -dsimp [c,h3,h4,hia]
 ·rw [List.drop_eq_nil_of_le (by omega)] at hx;simp only [idxP] at hx;rw [<-hx];simp -dsimp [c]
theorem qCV (g:Gr) (hg:g.Small):WF PR d mk (.fn 21 [] []) [.agg g.cells] h λr=>r=⟨.int .i64 (qhx g),h⟩:=by
 refine qBt f21 b21 [.tm 2] rfl rfl rfl rfl rfl rfl ?_;unfold b21;have hgc:g.cells=[g.p.enc Pd.cells,g.keys.enc qac]:=rfl;simp -dsimp [hgc];rw [<-hgc];refine WFS.by (qB7 g hg 0) ?_
 intro v h' e;cases e;cases hm:mayB g with
 | false =>
  have hv:qhx g = -1:=by unfold qhx; rw [hm]; rfl
  have hfv:qBO g 0=.nils:=by simp [qBO,hm]
  rw [hv,hfv];simp -dsimp;refine qaf (λq st=>(gK 4).run st.tm=.int .i64 1/\st.defs=[]) 0 ⟨by simp,rfl⟩ ?_;rintro q ⟨tm,H,defs,round⟩ ⟨h4,rfl⟩ hK;have h3:=hK 3 rfl;simp at h3 h4;clear hK;simp -dsimp [h3,h4]
 | true =>
 have hp60:=(qaF hm).p;have hp0:=(qaF hm).p0;obtain⟨R,hR⟩:∃R,qaB g 0=R:=⟨_,rfl⟩;have hRl:R.length=g.p.l.length:=by rw [<-hR]; simp [qaB]
 obtain⟨L,hL⟩:∃L,R.set 0 true=L:=⟨_,rfl⟩;have hLl:L.length=R.length:=by rw [<-hL]; simp
 have hLg:∀i,0<i->L.getD i false=R.getD i false:=λi hi=>by
  rw [<-hL];simp only [List.getD_eq_getElem?_getD,List.getElem?_set];rw [Jaa (by omega)]
 have hL0:L.getD 0 false=true:=by rw [<-hL]; simp [List.getD_eq_getElem?_getD,show 0<R.length by omega]
 have hv:qhx g=idxP (λx=>false == x) L 0:=by unfold qhx; rw [Jab hm,hR,hL]
 have hfv:qBO g 0=.slR (qao R) false:=by unfold qBO; rw [Jab ⟨hm,by omega,by omega⟩,hR]
 rw [hv,hfv];have hlen:∀H,lenV .sl (.slR (qao R) false) H=some (.int .i64 R.length):=λH=>by simp [qao]
 simp -dsimp;refine qaf (λq st=>∃i:Nat,0<i/\i+q=R.length/\(gK 4).run st.tm=.int .i64 i/\idxP (λx=>false == x) (L.drop i) i=idxP (λx=>false == x) L 0/\st.defs=[]) (R.length-1) ⟨1,by omega,by omega,by simp,?_,rfl⟩ ?_
 ·have:=qB5 (L:=L) 0 (by omega);rw [hL0,Jab rfl] at this;exact this.symm
 rintro q ⟨tm,H,defs,round⟩ ⟨i,i0,hi,h4,hx,rfl⟩ hK;have h3:=hK 3 rfl;simp at h3 h4;clear hK;simp -dsimp [h3,h4,hlen]
 by_cases c:i<R.length
 ·have hf:fw .i64 ((i:Int)+1)=(i:Int)+1:=fw64 (by omega) (by omega);have hia:qaw 1 (.slR (qao R) false) (.int .i64 i)=some (.ptrR [.bool (L.getD i false)] 0):=by
   rw [qg7 (by omega) (by omega),hLg i i0]; simp [latB]
  rw [qB5 i (by omega)] at hx;cases hb:L.getD i false with
  | true =>
   rw [hb] at hx hia;simp -dsimp [c,h3,h4,hia,hf];exact qah.intro (q-1) (by omega) ⟨i+1,by omega,by omega,by simp,by simpa using hx,rfl⟩
  | false =>
   rw [hb] at hx hia;rw [<-hx];simp -dsimp [c,h3,h4,hia]
 ·rw [List.drop_eq_nil_of_le (by omega)] at hx;simp only [idxP] at hx;rw [<-hx];simp -dsimp [c]
end
theorem qCl {Q:Nat->Bool}{n i:Nat}(hi:i<n) (hq:Q i=true) (h:∀j,j<i->Q j=false):qgX Q n=i :=
 qgW n (.inr ⟨i,rfl,hi,hq⟩) λj _ hp=>⟨by omega,by
  apply Classical.byContradiction;intro c;rw [h j (by omega)] at hp; cases hp⟩
theorem qCe {Q:Nat->Bool}{n:Nat}(h:∀j,j<n->Q j=false):qgX Q n = -1 :=
 qgW n (.inl rfl) λj hj hp=>by rw [h j hj] at hp; cases hp
theorem qB9 {Q:Nat->Bool}{n:Nat}:(List.range n).any Q=true↔∃k,k<n/\Q k=true:=by simp
section
variable {d:Bool}{mk:Nat}{h:Heap}
theorem qDs (g:Gr) (hg:g.Small):WF PR d mk (.fn 23 [] []) [.agg g.cells] h λr=>r=⟨.int .i64 (badI g),h⟩:=by
 refine qBt f23 b23 [.tm 2] rfl rfl rfl rfl rfl rfl ?_;unfold b23;have hlp:∀H,lenV .sl (g.p.enc Pd.cells) H=some (.int .i64 g.p.l.length):=λH=>by simp
 have hgc:g.cells=[g.p.enc Pd.cells,g.keys.enc qac]:=rfl;have hgp:=hg.p;simp -dsimp [hgc];rw [<-hgc];refine WFS.by (qBI g hg) ?_
 intro v h' e;cases e;cases hm:mayB g with
 | false =>
  have hv:badI g = -1:=by unfold badI qgY; rw [hm]; rfl
  rw [hv];simp -dsimp;refine qaf (λq st=>(gK 4).run st.tm=.int .i64 0/\st.h.get h.n=some (.rows [g.cells])/\st.defs=[]) 0 ⟨by simp,by simp,rfl⟩ ?_;rintro q ⟨tm,H,defs,round⟩ ⟨h4,hG,rfl⟩ hK;have h1:=hK 1 rfl;have h3:=hK 3 rfl;simp at h1 h3 h4;simp only at hG;rw [hgc] at hG;clear hK
  by_cases c:0<g.p.l.length
  ·simp -dsimp [h1,h3,h4,hG,hlp,c]
  ·simp -dsimp [h1,h3,h4,hG,hlp,c]
 | true =>
 have hok:=qaF hm;have hp60:=hok.p;obtain⟨Q,hQ⟩:∃Q:Nat->Bool,(λn:Nat=>qeB (lat g.p.l n)&&(lat (qaB g n) n||qhw g (qaB g n) 2))=Q:=⟨_,rfl⟩;have hv:badI g=qgX Q g.p.l.length:=by unfold badI qgY; rw [Jab hm,hQ]
 rw [hv];simp -dsimp;refine qaf (λq st=>∃i:Nat,i+q=g.p.l.length/\(gK 4).run st.tm=.int .i64 i/\(∀j,j<i->Q j=false)/\st.h.get h.n=some (.rows [g.cells])/\st.defs=[]) g.p.l.length ⟨0,by omega,by simp,λj hj=>by omega,by simp,rfl⟩ ?_;rintro q ⟨tm,H,defs,round⟩ ⟨i,hi,h4,hQi,hG,rfl⟩ hK;have h1:=hK 1 rfl;have h3:=hK 3 rfl;simp at h1 h3 h4;simp only at hG;have gg:=hG;rw [hgc] at gg;clear hK;simp -dsimp [h1,h3,h4,gg,hlp]
 by_cases c:i<g.p.l.length
 ·obtain⟨p,hp⟩:∃p,lat g.p.l i=p:=⟨_,rfl⟩;have hmp:p∈g.p.l:=by rw [<-hp]; exact qai c
  have hia:qaw 3 (g.p.enc Pd.cells) (.int .i64 i)=some (.ptrR p.cells 0):=by
   have:=qbg (k:=.i64) (n:=(i:Int)) (s:=g.p) (by omega) (by omega);rw [this]; simp [hp]
  have hf:fw .i64 ((i:Int)+1)=(i:Int)+1:=fw64 (by omega) (by omega);have hmk:=hok.marks p hmp;obtain⟨R,hR⟩:∃R,qaB g i=R:=⟨_,rfl⟩;have hRl:R.length=g.p.l.length:=by rw [<-hR]; simp [qaB]
  have hfv:qBO g (i:Int)=.slR (qao R) false:=by unfold qBO; rw [Jab ⟨hm,by omega,by omega⟩,hR]
  have hQe:Q i=(qeB p&&(lat R i||qhw g R 2)):=by rw [<-hQ]; simp only [hp,hR]
  have hiaR:∀j:Nat,j<g.p.l.length->qaw 1 (.slR (qao R) false) (.int .i64 j)=some (.ptrR [.bool (lat R j)] 0):=λj hj=>by
   rw [qg7 (by omega) (by omega)]; simp
  have hnext:Q i=false->∀j,j<i+1->Q j=false:=λe j hj=>by
   by_cases e2:j=i
   ·rw [e2,e]
   ·exact hQi j (by omega)
  have hpg:[p.a.enc qaK,V.int .i64 p.marks,p.no.enc Rg.cells]=p.cells:=rfl;have hl3:p.cells.length=3:=rfl;simp -dsimp [c,h1,h3,h4,gg,hia,hpg];refine WFS.by (qCg p hmk.1 hmk.2) ?_
  intro v h' e;cases e;simp -dsimp [h1,h4,gg];rw [<-hgc];refine WFS.by (qB7 g hg i) ?_
  intro v h' e;cases e;rw [hfv];cases hfb:qeB p with
  | false =>
   simp -dsimp [h4];refine qaf (λq st=>(gK 7).run st.tm=.int .i64 0/\st.h.get h.n=some (.rows [g.cells])/\st.defs=[]) 0 ⟨by simp,hG,rfl⟩ ?_;rintro q2 ⟨tm2,H2,defs,round2⟩ ⟨h7,hG2,rfl⟩ hK;have u1:=hK 1 rfl;have u4:=hK 4 rfl;have u5:=hK 5 rfl;simp [h1,h4] at u1 u4 u5 h7;simp only at hG2;have gg2:=hG2;rw [hgc] at gg2;clear hK;have c0:0<g.p.l.length:=by omega
   simp -dsimp [u1,u4,u5,h7,gg2,hlp,c0,hf];exact qah.intro (q-1) (by omega) ⟨i+1,by omega,by simp,hnext (by rw [hQe,hfb]; rfl),hG2,rfl⟩
  | true =>
   rw [hfb,Bool.true_and] at hQe;cases hri:lat R i with
   | true =>
    rw [hri,Bool.true_or] at hQe;have:=hiaR i c;rw [hri] at this;rw [qCl c hQe hQi];simp -dsimp [h4,this]
   | false =>
    rw [hri,Bool.false_or] at hQe;have hri2:=hiaR i c;rw [hri] at hri2;simp -dsimp [h4,hri2];refine qaf (λq st=>∃k:Nat,k+q=g.p.l.length/\(gK 7).run st.tm=.int .i64 k/\(∀j,j<k->(lat R j&&qfC (lat g.p.l j).marks 2)=false)/\st.h.get h.n=some (.rows [g.cells])/\st.defs=[]) g.p.l.length ⟨0,by omega,by simp,λj hj=>by omega,hG,rfl⟩ ?_;rintro q2 ⟨tm2,H2,defs,round2⟩ ⟨k,hk,h7,hS,hG2,rfl⟩ hK;have u1:=hK 1 rfl;have u4:=hK 4 rfl;have u5:=hK 5 rfl;have u6:=hK 6 rfl;simp [h1,h4] at u1 u4 u5 u6 h7;simp only at hG2;have gg2:=hG2;rw [hgc] at gg2;clear hK;simp -dsimp [u1,u5,h7,gg2,hlp]
    by_cases c2:k<g.p.l.length
    ·obtain⟨s,hs⟩:∃s,lat g.p.l k=s:=⟨_,rfl⟩;have hms:s∈g.p.l:=by rw [<-hs]; exact qai c2
     have hia2:qaw 3 (g.p.enc Pd.cells) (.int .i64 k)=some (.ptrR s.cells 0):=by
      have:=qbg (k:=.i64) (n:=(k:Int)) (s:=g.p) (by omega) (by omega);rw [this]; simp [hs]
     have hsc:s.cells=[s.a.enc qaK,.int .i64 s.marks,s.no.enc Rg.cells]:=rfl;have hf2:fw .i64 ((k:Int)+1)=(k:Int)+1:=fw64 (by omega) (by omega);have hmk2:=hok.marks s hms;have hh:=(qCn s.marks.toNat (by omega)).2.2;rw [show ((s.marks.toNat:Nat):Int)=s.marks by omega] at hh;have hrk:=hiaR k c2;simp -dsimp [c2,u1,u5,h7,gg2,hia2,hsc];refine WFS.by (qBY s.marks 32 hmk2.1 hmk2.2 (by omega)) ?_
     intro v h' e;cases e;rw [<-hh];simp -dsimp [u6,h7,hrk];have hstep:(lat R k&&qfC s.marks 2)=false->∀j,j<k+1->(lat R j&&qfC (lat g.p.l j).marks 2)=false:=λe j hj=>by
      by_cases e2:j=k
      ·rw [e2,hs,e]
      ·exact hS j (by omega)
     cases hrb:lat R k with
     | false =>
      simp -dsimp [h7,hf2];exact qah.intro (q2-1) (by omega) ⟨k+1,by omega,by simp,hstep (by rw [hrb]; rfl),hG2,rfl⟩
     | true =>
      cases hmb:qfC s.marks 2 with
      | false =>
       simp -dsimp [h7,hf2];exact qah.intro (q2-1) (by omega) ⟨k+1,by omega,by simp,hstep (by rw [hmb]; simp),hG2,rfl⟩
      | true =>
       have:Q i=true:=by rw [hQe]; unfold qhw; rw [qB9]; exact⟨k,by omega,by rw [hs,hrb,hmb]; rfl⟩
       rw [qCl c this hQi];simp -dsimp [u4]
    ·have:Q i=false:=by
      rw [hQe,Bool.eq_false_iff];unfold qhw;rw [Ne,qB9];rintro⟨j,hj,e⟩;rw [hS j (by omega)] at e; cases e
     simp -dsimp [c2,u4,hf];exact qah.intro (q-1) (by omega) ⟨i+1,by omega,by simp,hnext this,hG2,rfl⟩
 ·rw [qCe (n:=g.p.l.length) λj hj=>hQi j (by omega)];simp -dsimp [c]
theorem qCX (g:Gr) (hg:g.Small):WF PR d mk (.fn 24 [] []) [.agg g.cells] h λr=>r=⟨.int .i64 (qrV g),h⟩:=by
 refine qBt f24 b24 [.tm 2] rfl rfl rfl rfl rfl rfl ?_;unfold b24;have hlp:∀H,lenV .sl (g.p.enc Pd.cells) H=some (.int .i64 g.p.l.length):=λH=>by simp
 have hgc:g.cells=[g.p.enc Pd.cells,g.keys.enc qac]:=rfl;have hgp:=hg.p;simp -dsimp [hgc];rw [<-hgc];refine WFS.by (qBI g hg) ?_
 intro v h' e;cases e;cases hm:mayB g with
 | false =>
  have hv:qrV g = -1:=by unfold qrV qgY; rw [hm]; rfl
  rw [hv];simp -dsimp;refine qaf (λq st=>(gK 4).run st.tm=.int .i64 0/\st.h.get h.n=some (.rows [g.cells])/\st.defs=[]) 0 ⟨by simp,by simp,rfl⟩ ?_;rintro q ⟨tm,H,defs,round⟩ ⟨h4,hG,rfl⟩ hK;have h1:=hK 1 rfl;have h3:=hK 3 rfl;simp at h1 h3 h4;simp only at hG;rw [hgc] at hG;clear hK
  by_cases c:0<g.p.l.length
  ·simp -dsimp [h1,h3,h4,hG,hlp,c]
  ·simp -dsimp [h1,h3,h4,hG,hlp,c]
 | true =>
 have hok:=qaF hm;have hp60:=hok.p;obtain⟨Q,hQ⟩:∃Q:Nat->Bool,(λn:Nat=>qeB (lat g.p.l n)&&(qfC (lat g.p.l n).marks 1||qhw g (qaB g n) 1))=Q:=⟨_,rfl⟩;have hv:qrV g=qgX Q g.p.l.length:=by unfold qrV qgY; rw [Jab hm,hQ]
 rw [hv];simp -dsimp;refine qaf (λq st=>∃i:Nat,i+q=g.p.l.length/\(gK 4).run st.tm=.int .i64 i/\(∀j,j<i->Q j=false)/\st.h.get h.n=some (.rows [g.cells])/\st.defs=[]) g.p.l.length ⟨0,by omega,by simp,λj hj=>by omega,by simp,rfl⟩ ?_;rintro q ⟨tm,H,defs,round⟩ ⟨i,hi,h4,hQi,hG,rfl⟩ hK;have h1:=hK 1 rfl;have h3:=hK 3 rfl;simp at h1 h3 h4;simp only at hG;have gg:=hG;rw [hgc] at gg;clear hK;simp -dsimp [h1,h3,h4,gg,hlp]
 by_cases c:i<g.p.l.length
 ·obtain⟨p,hp⟩:∃p,lat g.p.l i=p:=⟨_,rfl⟩;have hmp:p∈g.p.l:=by rw [<-hp]; exact qai c
  have hia:qaw 3 (g.p.enc Pd.cells) (.int .i64 i)=some (.ptrR p.cells 0):=by
   have:=qbg (k:=.i64) (n:=(i:Int)) (s:=g.p) (by omega) (by omega);rw [this]; simp [hp]
  have hf:fw .i64 ((i:Int)+1)=(i:Int)+1:=fw64 (by omega) (by omega);have hmk:=hok.marks p hmp;obtain⟨R,hR⟩:∃R,qaB g i=R:=⟨_,rfl⟩;have hRl:R.length=g.p.l.length:=by rw [<-hR]; simp [qaB]
  have hfv:qBO g (i:Int)=.slR (qao R) false:=by unfold qBO; rw [Jab ⟨hm,by omega,by omega⟩,hR]
  have hQe:Q i=(qeB p&&(qfC p.marks 1||qhw g R 1)):=by rw [<-hQ]; simp only [hp,hR]
  have hiaR:∀j:Nat,j<g.p.l.length->qaw 1 (.slR (qao R) false) (.int .i64 j)=some (.ptrR [.bool (lat R j)] 0):=λj hj=>by
   rw [qg7 (by omega) (by omega)]; simp
  have hnext:Q i=false->∀j,j<i+1->Q j=false:=λe j hj=>by
   by_cases e2:j=i
   ·rw [e2,e]
   ·exact hQi j (by omega)
  have hpg:[p.a.enc qaK,V.int .i64 p.marks,p.no.enc Rg.cells]=p.cells:=rfl;have hl3:p.cells.length=3:=rfl;simp -dsimp [c,h1,h3,h4,gg,hia,hpg];refine WFS.by (qCg p hmk.1 hmk.2) ?_
  intro v h' e;cases e;simp -dsimp [h1,h4,gg];rw [<-hgc];refine WFS.by (qB7 g hg i) ?_
  intro v h' e;cases e;rw [hfv];cases hfb:qeB p with
  | false =>
   simp -dsimp [h4];refine qaf (λq st=>(gK 7).run st.tm=.int .i64 0/\st.h.get h.n=some (.rows [g.cells])/\st.defs=[]) 0 ⟨by simp,hG,rfl⟩ ?_;rintro q2 ⟨tm2,H2,defs,round2⟩ ⟨h7,hG2,rfl⟩ hK;have u1:=hK 1 rfl;have u4:=hK 4 rfl;have u5:=hK 5 rfl;simp [h1,h4] at u1 u4 u5 h7;simp only at hG2;have gg2:=hG2;rw [hgc] at gg2;clear hK;have c0:0<g.p.l.length:=by omega
   simp -dsimp [u1,u4,u5,h7,gg2,hlp,c0,hf];exact qah.intro (q-1) (by omega) ⟨i+1,by omega,by simp,hnext (by rw [hQe,hfb]; rfl),hG2,rfl⟩
  | true =>
   rw [hfb,Bool.true_and] at hQe;simp -dsimp [h4];refine qaf (λq st=>∃k:Nat,k+q=g.p.l.length/\(gK 7).run st.tm=.int .i64 k/\(∀j,j<k->(qfC (lat g.p.l j).marks 1&&(decide (j=i)||lat R j))=false)/\st.h.get h.n=some (.rows [g.cells])/\st.defs=[]) g.p.l.length ⟨0,by omega,by simp,λj hj=>by omega,hG,rfl⟩ ?_;rintro q2 ⟨tm2,H2,defs,round2⟩ ⟨k,hk,h7,hS,hG2,rfl⟩ hK;have u1:=hK 1 rfl;have u4:=hK 4 rfl;have u5:=hK 5 rfl;have u6:=hK 6 rfl;simp [h1,h4] at u1 u4 u5 u6 h7;simp only at hG2;have gg2:=hG2;rw [hgc] at gg2;clear hK;simp -dsimp [u1,u5,h7,gg2,hlp];have hQall:Q i=true↔∃j,j<g.p.l.length/\(qfC (lat g.p.l j).marks 1&&(decide (j=i)||lat R j))=true:=by
    rw [hQe];unfold qhw;rw [Bool.or_eq_true,qB9,hRl];constructor
    ·rintro (e|⟨j,hj,e⟩)
     ·exact⟨i,c,by rw [hp,e]; simp⟩
     ·rw [Jad] at e;exact⟨j,hj,by rw [e.2,e.1]; simp⟩
    ·rintro⟨j,hj,e⟩;rw [Jad,Bool.or_eq_true,Jai] at e;rcases e with ⟨e1,rfl|e2⟩
     ·left; rw [<-hp]; exact e1
     ·exact .inr ⟨j,hj,by rw [e1,e2]; rfl⟩
   by_cases c2:k<g.p.l.length
   ·obtain⟨s,hs⟩:∃s,lat g.p.l k=s:=⟨_,rfl⟩;have hms:s∈g.p.l:=by rw [<-hs]; exact qai c2
    have hia2:qaw 3 (g.p.enc Pd.cells) (.int .i64 k)=some (.ptrR s.cells 0):=by
     have:=qbg (k:=.i64) (n:=(k:Int)) (s:=g.p) (by omega) (by omega);rw [this]; simp [hs]
    have hsg:[s.a.enc qaK,V.int .i64 s.marks,s.no.enc Rg.cells]=s.cells:=rfl;have hf2:fw .i64 ((k:Int)+1)=(k:Int)+1:=fw64 (by omega) (by omega);have hmk2:=hok.marks s hms;have hrk:=hiaR k c2;simp -dsimp [c2,u1,u5,h7,gg2,hia2,hsg];refine WFS.by (qDA s hmk2.1 hmk2.2) ?_
    intro v h' e;cases e;have hstep:(qfC s.marks 1&&(decide (k=i)||lat R k))=false->∀j,j<k+1->(qfC (lat g.p.l j).marks 1&&(decide (j=i)||lat R j))=false:=λe j hj=>by
     by_cases e2:j=k
     ·rw [e2,hs,e]
     ·exact hS j (by omega)
    have hyes:(qfC s.marks 1&&(decide (k=i)||lat R k))=true->qgX Q g.p.l.length=i:=λe=>qCl c (hQall.2 ⟨k,c2,by rw [hs]; exact e⟩) hQi;cases hmb:qfC s.marks 1 with
    | false =>
     simp -dsimp [u4,u6,h7,hf2];exact qah.intro (q2-1) (by omega) ⟨k+1,by omega,by simp,hstep (by rw [hmb]; rfl),hG2,rfl⟩
    | true =>
     by_cases e:k=i
     ·have z1:((k:Int)=(i:Int))=True:=eq_true (by omega);have z2:(k=i)=True:=eq_true e;rw [hyes (by rw [hmb,e]; simp)];simp -dsimp [u4,u6,h7,z1,z2]
     ·have z1:((k:Int)=(i:Int))=False:=eq_false (by omega);have z2:(k=i)=False:=eq_false e;cases hrb:lat R k with
      | false =>
       rw [hrb] at hrk;simp -dsimp [u4,u6,h7,z1,z2,hrk,hf2];exact qah.intro (q2-1) (by omega) ⟨k+1,by omega,by simp,hstep (by rw [hmb,hrb]; simp [e]),hG2,rfl⟩
      | true =>
       rw [hrb] at hrk;rw [hyes (by rw [hmb,hrb]; simp)];simp -dsimp [u4,u6,h7,z1,z2,hrk]
   ·have:Q i=false:=by
     rw [Bool.eq_false_iff,Ne,hQall];rintro⟨j,hj,e⟩;rw [hS j (by omega)] at e; cases e
    simp -dsimp [c2,u4,hf];exact qah.intro (q-1) (by omega) ⟨i+1,by omega,by simp,hnext this,hG2,rfl⟩
 ·rw [qCe (n:=g.p.l.length) λj hj=>hQi j (by omega)];simp -dsimp [c]
end
theorem qCm {α : Type}{p : α->Bool}:∀{l:List α}{i:Int},0<=i->idxP p l i = -1\/0<=idxP p l i
 | [],_,_=>.inl rfl
 | a::l,i,h=>by
  simp only [idxP];split
  ·exact .inr h
  ·exact qCm (by omega)
theorem qB6 {p:Nat->Bool}:∀n,qgX p n = -1\/0<=qgX p n
 | 0=>.inl rfl
 | n+1=>by
  simp only [qgX];split
  ·split
   ·exact .inr (by omega)
   ·exact .inl rfl
  ·exact qB6 n
theorem cn_ge (g:Gr):(qfg g = -1\/0<=qfg g)/\(qhx g = -1\/0<=qhx g)/\(qo9 g = -1\/0<=qo9 g)/\(badI g = -1\/0<=badI g)/\(qrV g = -1\/0<=qrV g):=by
 refine⟨?_,?_,qCm (by omega),?_,?_⟩
 ·unfold qfg; split
  ·exact qCm (by omega)
  ·exact .inl rfl
 ·unfold qhx; split
  ·exact qCm (by omega)
  ·exact .inl rfl
 ·unfold badI qgY; split
  ·exact qB6 _
  ·exact .inl rfl
 ·unfold qrV qgY; split
  ·exact qB6 _
  ·exact .inl rfl
section
variable {d:Bool}{mk:Nat}{h:Heap}
theorem qCM (g:Gr) (hg:g.Fine):WF PR d mk (.fn 14 [] []) [.agg g.cells] h λr=>r=⟨.tup [.int .i64 (qcP g).1,.int .i64 (qcP g).2],h⟩:=by
 refine qBt f14 b14 [.tm 2,.tm 3] rfl rfl rfl rfl rfl rfl ?_;unfold b14;have hgc:g.cells=[g.p.enc Pd.cells,g.keys.enc qac]:=rfl;obtain⟨g1,g2,g3,g4,g5⟩:=cn_ge g;simp -dsimp [hgc];rw [<-hgc];refine WFS.by (qBI g hg.toSmall) ?_
 intro v h' e;cases e;cases hm:mayB g with
 | false =>
  have:qcP g=(0,1):=by unfold qcP; rw [hm]; rfl
  rw [this];simp -dsimp
 | true =>
 have hck:qcP g=match qcy (cnL g) with
  | none=>(-1,0)
  | some x=>(x.v,x.e):=by unfold qcP; rw [Jab hm]; cases qcy (cnL g)<;>rfl
 simp only [cnL,qcy] at hck;simp -dsimp [hgc];rw [<-hgc];refine WFS.by (qCB g hg.toSmall) ?_
 intro v h' e;cases e
 by_cases c1:¬qfg g = -1
 ·have:0<=qfg g:=g1.resolve_left c1;rw [Jaa c1] at hck;rw [hck];simp -dsimp [this]
 have c1:=Classical.not_not.1 c1;rw [Jab c1] at hck;simp -dsimp [c1,hgc];rw [<-hgc];refine WFS.by (qCV g hg.toSmall) ?_
 intro v h' e;cases e
 by_cases c2:¬qhx g = -1
 ·have:0<=qhx g:=g2.resolve_left c2;rw [Jaa c2] at hck;rw [hck];simp -dsimp [this]
 have c2:=Classical.not_not.1 c2;rw [Jab c2] at hck;simp -dsimp [c2,hgc];rw [<-hgc];refine WFS.by (qCP g hg) ?_
 intro v h' e;cases e
 by_cases c3:¬qo9 g = -1
 ·have:0<=qo9 g:=g3.resolve_left c3;rw [Jaa c3] at hck;rw [hck];simp -dsimp [this]
 have c3:=Classical.not_not.1 c3;rw [Jab c3] at hck;simp -dsimp [c3,hgc];rw [<-hgc];refine WFS.by (qDs g hg.toSmall) ?_
 intro v h' e;cases e
 by_cases c4:¬badI g = -1
 ·have:0<=badI g:=g4.resolve_left c4;rw [Jaa c4] at hck;rw [hck];simp -dsimp [this]
 have c4:=Classical.not_not.1 c4;rw [Jab c4] at hck;simp -dsimp [c4,hgc];rw [<-hgc];refine WFS.by (qCX g hg.toSmall) ?_
 intro v h' e;cases e
 by_cases c5:¬qrV g = -1
 ·have:0<=qrV g:=g5.resolve_left c5;rw [Jaa c5] at hck;rw [hck];simp -dsimp [this]
 have c5:=Classical.not_not.1 c5;rw [Jab c5] at hck;rw [hck];simp -dsimp [c5]
end
set_option linter.unusedSimpArgs false
theorem qDj (x:Ev) (hg:x.g.Fine) {d:Bool}{mk:Nat}{h:Heap}(hB:WB h x.w):WF PR d mk (.fn 8 [] []) [.agg x.cells] h λv=>v=⟨.bool (mayE x),h⟩:=by
 refine qBt f8 b8 [.tm 2] rfl rfl rfl rfl rfl rfl ?_;unfold b8;have e2:[Sl.enc Pd.cells x.g.p,Sl.enc qac x.g.keys]=x.g.cells:=rfl;have hlw:∀H,lenV .sl x.w.v H=some (.int .i64 x.w.l.length):=λH=>hB.len;simp -dsimp [Ev.cells];rw [e2];refine WFS.by (qCM x.g hg) ?_
 intro v h' e;cases e;have hm:mayE x=(decide ((qcP x.g).2=0)&&(decide (x.w.l.length<=200)&&(decide (1<=x.tab)&&decide (x.tab<=16)))):=rfl
 by_cases c1:(qcP x.g).2=0
 ·by_cases c2:x.w.l.length<=200
  ·have c2':(x.w.l.length:Int)<=200:=by omega
   by_cases c3:1<=x.tab
   ·by_cases c4:x.tab<=16<;>simp -dsimp [c1,c2,c2',c3,c4,hm,hlw,Ev.cells]
   ·simp -dsimp [c1,c2,c2',c3,hm,hlw,Ev.cells]
  ·have c2':¬(x.w.l.length:Int)<=200:=by omega
   simp -dsimp [c1,c2,c2',hm,hlw,Ev.cells]
 ·simp -dsimp [c1,hm]
set_option linter.unusedSimpArgs false
theorem farMarks_ok (hA:Awake 5) (x:Ev) (hx:x.Ok) (_hkl:x.g.keys.l.length<1000000000) (s:Sl UInt8) (hs:x.w=⟨s.enc qak,s.l,0⟩) (k:Int) :
  WF PR false 0 (.fn 4 [] []) [.agg x.cells,.int .i64 k] ⟨0,.e⟩ λr=>r.v=.bool true:=by
 refine WF.go f4 b4 [.tm 4] rfl rfl rfl rfl rfl rfl ?_;unfold b4;have hB0:∀H,WB H x.w:=λH=>.inl ⟨s,by rw [hs],by rw [hs]⟩;have hxc:[x.g.p.enc Pd.cells,x.g.keys.enc qac,x.w.v,.int .i64 x.tab,.bool x.heal]=x.cells:=rfl;have hgc:[x.g.p.enc Pd.cells,x.g.keys.enc qac]=x.g.cells:=rfl;have hm0:x.w.m=0:=by rw [hs]
 have hwc:=(hB0 ⟨0,.e⟩).cells;simp -dsimp [-qar];rw [qar];simp -dsimp [Ev.cells,-qar];rw [hxc];obtain⟨h1,hh1⟩:∃h1,(Heap.push ⟨0,.e⟩ (Obj.rows [x.cells]):Heap)=h1:=⟨_,rfl⟩;have g1:h1.get 0=some (.rows [[x.g.p.enc Pd.cells,x.g.keys.enc qac,x.w.v,.int .i64 x.tab,.bool x.heal]]):=by rw [<-hh1]; simp; rfl
 have n1:h1.n=1:=by rw [<-hh1]; simp
 rw [qar];simp -dsimp [-qar];refine WFS.by (hA _ _ _ (Nat.zero_le _)) ?_
 intro v h' e;cases e;rw [hh1];simp -dsimp [-qar];rw [qar];simp -dsimp [g1,-qar];rw [hxc];refine WFS.by (qe5 x hx.few (hB0 _)) ?_
 rintro v h' ⟨e0,b,e1,hb⟩;simp only at e0 e1;subst e0 e1;have hy0:[x.g.p.enc Pd.cells,x.g.keys.enc qac,x.w.v,V.int .i64 1,V.bool false]=(⟨x.g,x.w,1,false⟩:Ev).cells:=rfl;simp -dsimp [g1,qbW,Gr.cells,hwc];rw [hy0];refine WFS.by (qDj (⟨x.g,x.w,1,false⟩:Ev) hx.g (hB0 _)) ?_
 intro v h' e;cases e;cases b with
 | false=>simp -dsimp
 | true =>
 obtain⟨hp16,hw16⟩:=hb rfl;cases hm:mayE (⟨x.g,x.w,1,false⟩:Ev) with
 | false=>simp -dsimp
 | true =>
 simp only [mayE,Jad,Jai] at hm;have hck:(qcP x.g).2=0:=hm.1;have hp0:=(qaF (qc8 hck).1).p0;simp -dsimp [g1,n1,Gr.cells];obtain⟨H1,hH1⟩:∃H1,(h'.push (Obj.rows [[V.nils,V.nils]])).set 1 (Obj.rows [[Sl.enc Pd.cells x.g.p,Sl.enc qac x.g.keys]])=H1:=⟨_,rfl⟩;have G0:H1.get 0=some (.rows [[x.g.p.enc Pd.cells,x.g.keys.enc qac,x.w.v,.int .i64 x.tab,.bool x.heal]]):=by rw [<-hH1,qBp,Jaa (by omega),qBq,Jaa (by omega),g1]
 have G1:H1.get 1=some (.rows [[x.g.p.enc Pd.cells,x.g.keys.enc qac]]):=by rw [<-hH1,qBp,Jab rfl]
 have N1:H1.n=2:=by rw [<-hH1]; simp [n1]
 rw [hH1];rw [qaE (xs:=x.g.p.l.map Pd.cells) (by simp)];have hgp:=hx.g.p;obtain⟨v2,H2,a1,a2,a3,a4,a5⟩:=qaC (h:=H1) (mk:=0) (m0:=2) (esz:=3) (bytes:=56) (v:=.nils) (rows:=[]) (xs:=x.g.p.l.map Pd.cells) (.inl ⟨rfl,rfl⟩) (Nat.zero_le _) (λq hq=>by obtain⟨p,_,rfl⟩:=Jak.1 hq; exact⟨rfl,by simp [Pd.cells]⟩) (by simp; omega) (by omega) (by omega);simp -dsimp;refine OpS.intro a1 ?_;have K0:H2.get 0=some (.rows [[x.g.p.enc Pd.cells,x.g.keys.enc qac,x.w.v,.int .i64 x.tab,.bool x.heal]]):=by rw [a4 0 (by omega) (by simp [slId]),G0]
 have K1:H2.get 1=some (.rows [[x.g.p.enc Pd.cells,x.g.keys.enc qac]]):=by rw [a4 1 (by omega) (by simp [slId]),G1]
 have v2c:=a2.cells;simp -dsimp [K1,v2c.1,v2c.2];rcases a2 with ⟨_,q⟩|⟨id,e2,b1,b2,b3,b4⟩
 ·exact absurd (by simpa using q) (List.length_pos_iff.1 hp0)
 rw [List.nil_append,List.length_map] at e2;rw [List.nil_append] at b1;have hlen2:∀H,lenV .sl (.sl id 0 x.g.p.l.length 3 false) H=some (.int .i64 x.g.p.l.length):=λH=>by simp
 obtain⟨P,hP⟩:∃P,x.g.p.l=P:=⟨_,rfl⟩;rw [hP] at hp0 hp16 b1 e2 hlen2 hgp;rw [e2];refine qaf (λq st=>∃i:Nat,i+q=P.length/\(gK 9).run st.tm=.int .i64 i/\st.h.get 0=some (.rows [[x.g.p.enc Pd.cells,x.g.keys.enc qac,x.w.v,.int .i64 x.tab,.bool x.heal]])/\st.h.get 1=some (.rows [[.sl id 0 P.length 3 false,x.g.keys.enc qac]])/\st.h.get id=some (.rows ((barU P i).map Pd.cells))/\st.h.n=H2.n/\st.defs=[]) P.length
  ⟨0,by omega,by simp,by simp only; rw [qBp,Jaa (by omega),K0],by simp only; rw [qBp,Jab rfl],by simp only; rw [qBp,Jaa (by omega),b1]; simp [barU],by simp,rfl⟩ ?_
 rintro q ⟨tm,H,defs,round⟩ ⟨i,hi,h9,A0,A1,A2,A3,rfl⟩ hK;have t1:=hK 1 rfl;have t2:=hK 2 rfl;have t8:=hK 8 rfl;simp at t1 t2 t8 h9;simp only at A0 A1 A2 A3;clear hK;simp -dsimp [t8,h9,A1,hlen2];rw [qaa];refine⟨λhl=>?_,λhl=>?_⟩
 ·have c1:i<P.length:=by simpa using hl
  have hia:qaw 3 (.sl id 0 P.length 3 false) (.int .i64 (i:Int))=some (.ptr id i 0):=by
   have:=qam (e:=3) (id:=id) (b:=0) (n:=P.length) (f:=false) (k:=.i64) (i:=(i:Int)) (by omega) (by omega);simpa using this
  have hr:=qDD c1;obtain⟨p,hp⟩:∃p,lat P i=p:=⟨_,rfl⟩;rw [hp] at hr;have hset:=qDp c1;rw [hp] at hset;have hpc:p.cells=[p.a.enc qaK,.int .i64 p.marks,p.no.enc Rg.cells]:=rfl;rw [hpc] at hr;have hf:fw .i64 ((i:Int)+1)=(i:Int)+1:=fw64 (by omega) (by omega);have ne1:¬1=id:=by omega
  have ne2:¬id=1:=by omega
  have hr2:((((barU P i).map Pd.cells).set i [p.a.enc qaK,.int .i64 0,p.no.enc Rg.cells]))[i]?=some [p.a.enc qaK,.int .i64 0,p.no.enc Rg.cells]:=by
   rw [List.getElem?_set,Jab rfl,Jab (by rw [List.length_map,qDq]; exact c1)]
  have hbp:[p.a.enc qaK,.int .i64 0,V.nils]=(qs5 p).cells:=rfl;simp -dsimp [t8,h9,A1,hia,A2,hr,hr2,ne1,hf];rw [hbp,hset];exact qah.intro (q-1) (by omega) ⟨i+1,by omega,by simp,by simp only; rw [qBp,Jaa (by omega),qBp,Jaa (by omega),A0],by simp only; rw [qBp,Jaa (by omega),qBp,Jaa (by omega),A1],by simp only; rw [qBp,Jab rfl],by simp [A3],rfl⟩
 ·have c1:i=P.length:=by simp at hl; omega
  subst c1;rw [qDr (Jac _)] at A2;have hwc':=hwc;simp -dsimp [t1,t2,A0];rw [hgc];refine WFS.by (qBm hx.g hx.r (hB0 _) (by omega) hx.w k) ?_
  intro v h' e;cases e;simp -dsimp [t8];have hne:P.map qs5≠[]:=by
   intro e;have:=congrArg List.length e;simp at this;rw [this] at hp0; simp at hp0
  have hOwn:Own H 2 (.sl id 0 P.length 3 false) 3 ((P.map qs5).map Pd.cells):=.inr ⟨id,by simp,A2,b2,by omega,by simpa using hne⟩;refine qtD (cs:=[x.g.keys.enc qac]) A1 rfl (by simp [t8]) hOwn hne (Nat.zero_le _) (Nat.zero_le _) (by simp [slId]; omega) ?_;intro H3 D1 D2 D3;obtain⟨y,hy⟩:∃y:Gr,(⟨.of (P.map qs5),x.g.keys⟩:Gr)=y:=⟨_,rfl⟩;have hyc:[(Sl.of (P.map qs5)).enc Pd.cells,x.g.keys.enc qac]=y.cells:=by rw [<-hy]; rfl
  have hyf:=qCO hx.g hx.r x.g.keys;rw [hP,hy] at hyf;obtain⟨hyF,hyR⟩:=hyf;have hsA:qtQ x.g y:=by rw [<-hy]; exact qtj (by rw [hP]; rfl)
  have hcy:(qcP y).2=0:=by rw [<-hy]; exact qtt (by rw [hP]; rfl) hck
  have D0:H3.get 0=some (.rows [[x.g.p.enc Pd.cells,x.g.keys.enc qac,x.w.v,.int .i64 x.tab,.bool x.heal]]):=by rw [D3 0 (by omega) (by simp [slId]; omega),A0]
  rw [hyc];simp -dsimp [t1,t2,D0];refine WFS.by (qBm hyF hyR (hB0 _) (by omega) hx.w k) ?_
  intro v h' e;cases e;rw [qCx hsA hck hcy];obtain⟨L,hL⟩:∃L,qA1 x.g x.w.l k=L:=⟨_,rfl⟩;have hLp:L.Pairwise (· < ·):=by rw [<-hL]; exact qDa _ _ _
  have hLl:L.length<=16:=by
   rw [<-hL];simp only [qA1,List.length_map];exact Jaf (List.length_filter_le _ _) (by rw [List.length_range,hP]; exact hp16)
  have hlen:∀H,lenV .sl ((slOf L).enc qaM) H=some (.int .i64 L.length):=λH=>by simp
  rw [hL];have hiaI:∀{i:Nat},i<L.length->qaw 1 ((slOf L).enc qaM) (.int .i64 i)=some (.ptrR [.int .i64 (lat L i)] 0):=λ{i} hi=>by
   have:=qap (f:=qaM) (s:=slOf L) (esz:=1) (k:=.i64) (n:=(i:Int)) (by omega) (by simp; omega) (λ_=>rfl);rw [this]; simp [qaM]
  simp -dsimp [hlen];refine qaf (λm st=>∃i:Nat,i+m=L.length/\(gK 12).run st.tm=.int .i64 i/\st.h=H3/\st.defs=[]) L.length ⟨0,by omega,by simp,rfl,rfl⟩ ?_;rintro m ⟨tm2,h2,defs,round2⟩ ⟨i,hi,h12,rfl,rfl⟩ hK;have u1:=hK 1 rfl;have u2:=hK 2 rfl;have u8:=hK 8 rfl;have u10:=hK 10 rfl;have u11:=hK 11 rfl;simp [t1,t2,t8] at u1 u2 u8 u10 u11 h12;clear hK;simp only at D0 D1 D2 D3;simp -dsimp [h12,u10,hlen]
  by_cases c:i<L.length
  ·have hf:fw .i64 ((i:Int)+1)=(i:Int)+1:=fw64 (by omega) (by omega);have h1:=hiaI c
   by_cases z:i=0
   ·have z0:¬0<i:=by omega
    simp -dsimp [c,z0,h12,u10,u11,h1,hf];exact qah.intro (m-1) (by omega) ⟨i+1,by omega,by simp,rfl,rfl⟩
   ·have z0:0<i:=by omega
    have hf1:fw .i64 ((i:Int)-1)=((i-1:Nat):Int):=by rw [fw64 (by omega) (by omega)]; omega
    have h0:=hiaI (i:=i-1) (by omega);have hlt:lat L (i-1)<lat L i:=by
     rw [List.pairwise_iff_getElem] at hLp;rw [qBu (by omega),qBu c];exact hLp _ _ (by omega) c (by omega)
    have hnl:¬lat L i<=lat L (i-1):=by omega
    simp -dsimp [c,z0,h12,u10,u11,h1,hf1,h0,hnl,hf];exact qah.intro (m-1) (by omega) ⟨i+1,by omega,by simp,rfl,rfl⟩
  ·have hpl:=qAg hx.g hx.r (w:=x.w.l) hx.w;have hpe:qzM y x.w.l=qzM x.g x.w.l:=qzU (qCy hsA hck hcy hpl);simp -dsimp [c,u2,u8,D0];refine OneS.by (One.of (h':=h2) rfl (qAq hx.g hx.r (hB0 _) (by omega) hx.w)) ?_
   simp -dsimp [u8];refine qtR (cs:=[x.g.keys.enc qac]) D1 rfl (by simp [u8]) (Nat.zero_le _) ?_;intro H4 E1 E2 E3;have E0:H4.get 0=some (.rows [[x.g.p.enc Pd.cells,x.g.keys.enc qac,x.w.v,.int .i64 x.tab,.bool x.heal]]):=by rw [E3 0 (by omega),D0]
   rw [hyc];simp -dsimp [u2,E0];refine WFS.by (qAq hyF hyR (hB0 _) (by omega) hx.w) ?_
   intro v h' e;cases e;rw [hpe];simp -dsimp;refine⟨qA6 rfl rfl (v:=.agg x.g.cells) ?_ ?_,qA6 rfl rfl (v:=x.w.v) ?_ ?_,qBj rfl rfl ?_,qA6 rfl rfl (v:=x.w.v) ?_ ?_⟩
   ·simp -dsimp [E0]; rfl
   ·simp -dsimp; rfl
   ·simp -dsimp [E0]
   ·simp -dsimp
   ·simp -dsimp;exact One.of rfl (qAq hx.g hx.r (hB0 _) (by omega) hx.w)
   ·simp -dsimp [D0]
   ·simp -dsimp
end Go.Abs

