/- The evaluator is sound: what it comes to the machine comes to. -/
import Derived.Calls
import Derived.AtR
import Derived.Laws.Sem
import Derived.Laws.World
import Derived.Laws.Cells
import Derived.Lib.Strings
import Derived.Lib.SmallJoins
import Derived.Laws.StructEq
import Derived.Laws.BytesArg
import Derived.Laws.MakeOwn
import Derived.Test.YtaknodpgafomdabGreatDoorAb1
set_option linter.unusedSimpArgs false
set_option linter.unusedVariables false
namespace Go.Abs
open Go
structure Plc where
 blk:Nat
 base:Nat
 esz:Nat
 sz:Nat
abbrev Inj:=Nat->Option Plc
abbrev RO:=Nat->Option (Array Value)
structure Num where
 f:Nat->Nat
 t:Nat->Nat
 kb:Nat->Option Go.Obj:=λ_=>none
def Plc.at(w:Plc)(r o:Nat):Addr:=⟨w.blk,w.base+r * w.esz+o,none⟩
section
variable (N:Num) (ι:Inj) (ro:RO)
mutual
def VR:V->Value->Prop
 | .any,_=>True
 | .bool b,v=>v=.bool b
 | .int k n,v=>v=.int k n
 | .str l,v=>∃s:ByteArray,v=.string s/\s.data.toList=l
 | .nilp,v=>v=.pointer none
 | .ptr i r o,v=>∃w,ι i=some w/\v=.pointer (some (w.at r o))
 | .ptrR row o,v=>∃b a c,v=.pointer (some ⟨b,a+o,none⟩)/\ro b=some c/\∃cr,VRs row cr/\∀j x,cr[j]?=some x->c[a+j]?=some x
 | .nils,v=>v=.slice none 0 0
 | .sl i lo len esz full,v=>∃w,ι i=some w/\w.esz=esz/\∃a cap,v=.slice (some a) len cap/\len<=cap/\(full=true->cap=len) /\
   ((len=0/\cap=0)\/(a=w.at lo 0/\w.base+(lo+cap) * w.esz<=w.sz))
 | .slR rows full,v=>∃a cap,v=.slice (some a) rows.length cap/\rows.length<=cap/\(full=true->cap=rows.length) /\
   (rows=[]\/(a.spot=none/\∃c esz cr,ro a.block=some c/\VRrs rows cr/\(∀r∈cr,r.length=esz) /\
    ∀(i:Nat) (r:List Value),cr[i]?=some r->∀j x,r[j]?=some x->c[a.off+i * esz+j]?=some x))
 | .nilm,v=>v=.map none
 | .map i,v=>∃w,ι i=some w/\v=.map (some w.blk)
 | .fn f a b,v=>∃a' b',v=.func (.func (N.f f)) a' b'/\VRs a a'.toList/\VRs b b'.toList
 | .yld i,v=>∃w,ι i=some w/\v=.func (.yield w.blk) #[] #[]
 | .nilf,v=>v=.nilFunc
 | .iface t x,v=>∃x',v=.iface (N.t t) x'/\VR x x'
 | .nili,v=>v=.nilIface
 | .agg cs,v=>∃a,v=.agg a/\VRs cs a.toList
 | .tup cs,v=>∃a,v=.tuple a/\VRs cs a.toList
def VRs:List V->List Value->Prop
 | [],l=>l=[]
 | v::r,l=>∃x m,l=x::m/\VR v x/\VRs r m
def VRrs:List (List V)->List (List Value)->Prop
 | [],l=>l=[]
 | v::r,l=>∃x m,l=x::m/\VRs v x/\VRrs r m
end
end
structure Ext (n:Nat) (ι:Inj) (ro:RO) (ι':Inj) (ro':RO):Prop where
 inj:∀i,i<n->ι' i=ι i
 old:∀i w,ι i=some w->ι' i=some w
 ro:∀b c,ro b=some c->ro' b=some c
theorem Ext.refl(n:Nat)(ι:Inj)(ro:RO):Ext n ι ro ι ro:=⟨λ_ _=>rfl,λ_ _ h=>h,λ_ _ h=>h⟩
theorem Ext.trans{n m:Nat}{ι ι' ι'':Inj}{ro ro' ro'':RO}(h:Ext n ι ro ι' ro')(k:Ext m ι' ro' ι'' ro'')(hn:n<=m):Ext n ι ro ι'' ro'' :=
 ⟨λi hi=>(k.inj i (Nat.lt_of_lt_of_le hi hn)).trans (h.inj i hi),λi w hw=>k.old i w (h.old i w hw),λb c hc=>k.ro b c (h.ro b c hc)⟩
section mono
variable {N:Num}{ι ι':Inj}{ro ro':RO}
mutual
theorem VR.mono(hi:∀i w,ι i=some w->ι' i=some w)(hr:∀b c,ro b=some c->ro' b=some c):∀(v:V) (x:Value),VR N ι ro v x->VR N ι' ro' v x
 | .any,_,_=>by simp[VR]
 | .bool _,_,h=>by simpa[VR]using h
 | .int _ _,_,h=>by simpa[VR]using h
 | .str _,_,h=>by simpa[VR]using h
 | .nilp,_,h=>by simpa[VR]using h
 | .ptr _ _ _,_,h=>by
  simp only[VR]at h ⊢;obtain⟨w,hw,h⟩:=h;exact⟨w,hi _ _ hw,h⟩
 | .ptrR row _,_,h=>by
  simp only[VR]at h ⊢;obtain⟨b,a,c,h1,h2,cr,h3,h4⟩:=h;exact⟨b,a,c,h1,hr _ _ h2,cr,VRs.mono hi hr row cr h3,h4⟩
 | .nils,_,h=>by simpa[VR]using h
 | .sl _ _ _ _ _,_,h=>by
  simp only[VR]at h ⊢;obtain⟨w,hw,h⟩:=h;exact⟨w,hi _ _ hw,h⟩
 | .slR rows _,_,h=>by
  simp only[VR]at h ⊢;obtain⟨a,cap,h1,h2,h3,h4⟩:=h;refine⟨a,cap,h1,h2,h3,?_⟩;rcases h4 with h4|⟨h4,c,esz,cr,h5,h6,h7⟩
  ·exact .inl h4
  ·exact .inr ⟨h4,c,esz,cr,hr _ _ h5,VRrs.mono hi hr rows cr h6,h7⟩
 | .nilm,_,h=>by simpa[VR]using h
 | .map _,_,h=>by
  simp only[VR]at h ⊢;obtain⟨w,hw,h⟩:=h;exact⟨w,hi _ _ hw,h⟩
 | .fn _ a b,_,h=>by
  simp only[VR]at h ⊢;obtain⟨a',b',h1,h2,h3⟩:=h;exact⟨a',b',h1,VRs.mono hi hr a _ h2,VRs.mono hi hr b _ h3⟩
 | .yld _,_,h=>by
  simp only[VR]at h ⊢;obtain⟨w,hw,h⟩:=h;exact⟨w,hi _ _ hw,h⟩
 | .nilf,_,h=>by simpa[VR]using h
 | .iface _ v,_,h=>by
  simp only[VR]at h ⊢;obtain⟨x',h1,h2⟩:=h;exact⟨x',h1,VR.mono hi hr v x' h2⟩
 | .nili,_,h=>by simpa[VR]using h
 | .agg cs,_,h=>by
  simp only[VR]at h ⊢;obtain⟨a,h1,h2⟩:=h;exact⟨a,h1,VRs.mono hi hr cs _ h2⟩
 | .tup cs,_,h=>by
  simp only[VR]at h ⊢;obtain⟨a,h1,h2⟩:=h;exact⟨a,h1,VRs.mono hi hr cs _ h2⟩
theorem VRs.mono(hi:∀i w,ι i=some w->ι' i=some w)(hr:∀b c,ro b=some c->ro' b=some c):∀(l:List V) (m:List Value),VRs N ι ro l m->VRs N ι' ro' l m
 | [],_,h=>by simpa[VRs]using h
 | v::l,_,h=>by
  simp only[VRs]at h ⊢;obtain⟨x,m,h1,h2,h3⟩:=h;exact⟨x,m,h1,VR.mono hi hr v x h2,VRs.mono hi hr l m h3⟩
theorem VRrs.mono(hi:∀i w,ι i=some w->ι' i=some w)(hr:∀b c,ro b=some c->ro' b=some c):∀(l:List (List V)) (m:List (List Value)),VRrs N ι ro l m->VRrs N ι' ro' l m
 | [],_,h=>by simpa[VRrs]using h
 | v::l,_,h=>by
  simp only[VRrs]at h ⊢;obtain⟨x,m,h1,h2,h3⟩:=h;exact⟨x,m,h1,VRs.mono hi hr v x h2,VRrs.mono hi hr l m h3⟩
end
end mono
section lists
variable {N:Num}{ι:Inj}{ro:RO}
theorem VRs.nil:VRs N ι ro [] []:=by simp[VRs]
theorem VRs.cons{v:V}{x:Value}{l:List V}{m:List Value}(h:VR N ι ro v x)(k:VRs N ι ro l m):VRs N ι ro (v::l) (x::m):=by
 simp only[VRs]; exact⟨x,m,rfl,h,k⟩
theorem VRs.nil_inv{m:List Value}(h:VRs N ι ro [] m):m=[]:=by simpa[VRs]using h
theorem VRs.cons_inv{v:V}{l:List V}{m:List Value}(h:VRs N ι ro (v::l) m):∃x r,m=x::r/\VR N ι ro v x/\VRs N ι ro l r:=by
 simpa only[VRs]using h
theorem VRs.length:∀{l:List V}{m:List Value},VRs N ι ro l m->l.length=m.length
 | [],_,h=>by have:=VRs.nil_inv h; subst this; rfl
 | _::_,_,h=>by
  obtain⟨x,r,rfl,_,h⟩:=VRs.cons_inv h;simp[VRs.length h]
theorem VRs.get:∀{l:List V}{m:List Value},VRs N ι ro l m->∀{i:Nat}{v:V},l[i]?=some v->∃x,m[i]?=some x/\VR N ι ro v x
 | [],_,_,_,_,h=>by simp at h
 | _::_,_,h,i,v,hv=>by
  obtain⟨x,r,rfl,h1,h2⟩:=VRs.cons_inv h;cases i with
  | zero=>simp at hv; subst hv; exact⟨x,by simp,h1⟩
  | succ i=>simpa using VRs.get h2 (i:=i) (v:=v) (by simpa using hv)
theorem VRs.of_get:∀{l:List V}{m:List Value},l.length=m.length->(∀(i:Nat) (v:V) (x:Value),l[i]?=some v->m[i]?=some x->VR N ι ro v x)->VRs N ι ro l m
 | [],[],_,_=>VRs.nil
 | _::_,[],h,_=>by simp at h
 | [],_::_,h,_=>by simp at h
 | v::l,x::m,h,k=>VRs.cons (k 0 v x (by simp) (by simp)) (VRs.of_get (by simpa using h) λi v x hv hx=>k (i+1) v x (by simpa using hv) (by simpa using hx))
theorem VRs.getD{l:List V}{m:List Value}(h:VRs N ι ro l m)(i:Nat)(u:Value):VR N ι ro (l.getD i .any) (m.getD i u):=by
 cases hv:l[i]? with
 | none=>simp[List.getD_eq_getElem?_getD,hv,VR]
 | some v =>
  obtain⟨x,hx,hr⟩:=h.get hv;simpa[List.getD_eq_getElem?_getD,hv,hx]using hr
theorem VRs.set{l:List V}{m:List Value}(h:VRs N ι ro l m)(i:Nat){v:V}{x:Value}(hv:VR N ι ro v x):VRs N ι ro (l.set i v) (m.set i x):=by
 refine VRs.of_get (by simp[h.length]) λj u y hu hy=>?_;rw[List.getElem?_set]at hu hy;split at hu
 ·rename_i e;simp only[e,if_true]at hy;split at hu
  ·split at hy
   ·cases hu; cases hy; exact hv
   ·cases hy
  ·cases hu
 ·rename_i e;simp only[e,if_false]at hy;obtain⟨y',hy',hr⟩:=h.get hu;rw[hy]at hy'; cases hy'; exact hr
theorem VRs.append{l l':List V}{m m':List Value}(h:VRs N ι ro l m)(h':VRs N ι ro l' m'):VRs N ι ro (l++l') (m++m'):=by
 refine VRs.of_get (by simp[h.length,h'.length]) λi v x hv hx=>?_;rw[List.getElem?_append]at hv hx;rw[h.length]at hv;split at hv
 ·rename_i e;simp only[e,if_true]at hx;obtain⟨y,hy,hr⟩:=h.get hv;rw[hx]at hy; cases hy; exact hr
 ·rename_i e;simp only[e,if_false]at hx;obtain⟨y,hy,hr⟩:=h'.get hv;rw[hx]at hy; cases hy; exact hr
theorem VRs.replicate(n:Nat){v:V}{x:Value}(h:VR N ι ro v x):VRs N ι ro (List.replicate n v) (List.replicate n x):=by
 induction n with
 | zero=>exact VRs.nil
 | succ n ih=>simpa[List.replicate_succ]using VRs.cons h ih
theorem VRs.drop{l:List V}{m:List Value}(h:VRs N ι ro l m)(k:Nat):VRs N ι ro (l.drop k) (m.drop k):=by
 refine VRs.of_get (by simp[h.length]) λi v x hv hx=>?_;rw[List.getElem?_drop]at hv hx;obtain⟨y,hy,hr⟩:=h.get hv;rw[hx]at hy; cases hy; exact hr
theorem VRs.take{l:List V}{m:List Value}(h:VRs N ι ro l m)(k:Nat):VRs N ι ro (l.take k) (m.take k):=by
 refine VRs.of_get (by simp[h.length]) λi v x hv hx=>?_;rw[List.getElem?_take]at hv hx;split at hv
 ·rename_i e;simp only[e,if_true]at hx;obtain⟨y,hy,hr⟩:=h.get hv;rw[hx]at hy; cases hy; exact hr
 ·cases hv
theorem VRs.map{α : Type}(l:List α)(f : α->V)(g : α->Value)(h:∀a∈l,VR N ι ro (f a) (g a)):VRs N ι ro (l.map f) (l.map g):=by
 induction l with
 | nil=>exact VRs.nil
 | cons a l ih=>exact VRs.cons (h a (by simp)) (ih λb hb=>h b (by simp[hb]))
theorem VRrs.nil:VRrs N ι ro [] []:=by simp[VRrs]
theorem VRrs.cons{v:List V}{x:List Value}{l:List (List V)}{m:List (List Value)}(h:VRs N ι ro v x)(k:VRrs N ι ro l m):VRrs N ι ro (v::l) (x::m):=by
 simp only[VRrs]; exact⟨x,m,rfl,h,k⟩
theorem VRrs.nil_inv{m:List (List Value)}(h:VRrs N ι ro [] m):m=[]:=by simpa[VRrs]using h
theorem VRrs.cons_inv{v:List V}{l:List (List V)}{m:List (List Value)}(h:VRrs N ι ro (v::l) m):∃x r,m=x::r/\VRs N ι ro v x/\VRrs N ι ro l r:=by
 simpa only[VRrs]using h
theorem VRrs.length:∀{l:List (List V)}{m:List (List Value)},VRrs N ι ro l m->l.length=m.length
 | [],_,h=>by have:=VRrs.nil_inv h; subst this; rfl
 | _::_,_,h=>by
  obtain⟨x,r,rfl,_,h⟩:=VRrs.cons_inv h;simp[VRrs.length h]
theorem VRrs.get:∀{l:List (List V)}{m:List (List Value)},VRrs N ι ro l m->∀{i:Nat}{v:List V},l[i]?=some v->∃x,m[i]?=some x/\VRs N ι ro v x
 | [],_,_,_,_,h=>by simp at h
 | _::_,_,h,i,v,hv=>by
  obtain⟨x,r,rfl,h1,h2⟩:=VRrs.cons_inv h;cases i with
  | zero=>simp at hv; subst hv; exact⟨x,by simp,h1⟩
  | succ i=>simpa using VRrs.get h2 (i:=i) (v:=v) (by simpa using hv)
theorem VRrs.of_get:∀{l:List (List V)}{m:List (List Value)},l.length=m.length->(∀(i:Nat) (v:List V) (x:List Value),l[i]?=some v->m[i]?=some x->VRs N ι ro v x)->VRrs N ι ro l m
 | [],[],_,_=>VRrs.nil
 | _::_,[],h,_=>by simp at h
 | [],_::_,h,_=>by simp at h
 | v::l,x::m,h,k=>VRrs.cons (k 0 v x (by simp) (by simp)) (VRrs.of_get (by simpa using h) λi v x hv hx=>k (i+1) v x (by simpa using hv) (by simpa using hx))
end lists
def qau(N:Num)(ι:Inj)(ro:RO)(rs:List (List V))(c:Array Value)(a esz:Nat):Prop :=
 (∀r∈rs,r.length=esz)/\∀(i:Nat) (r:List V),rs[i]?=some r->∀(j:Nat) (v:V),r[j]?=some v->∃x,c[a+i * esz+j]?=some x/\VR N ι ro v x
section rows
variable {N:Num}{ι ι':Inj}{ro ro':RO}
theorem qau.mono{rs:List (List V)}{c:Array Value}{a esz:Nat}(h:qau N ι ro rs c a esz)(hi:∀i w,ι i=some w->ι' i=some w)(hr:∀b c,ro b=some c->ro' b=some c):qau N ι' ro' rs c a esz :=
 ⟨h.1,λi r hir j v hv=>let ⟨x,hx,k⟩:=h.2 i r hir j v hv; ⟨x,hx,VR.mono hi hr _ _ k⟩⟩
theorem qgz{r:List V}{c:Array Value}{a:Nat}(h:∀(j:Nat) (v:V),r[j]?=some v->∃x,c[a+j]?=some x/\VR N ι ro v x) :
  ∃cr,VRs N ι ro r cr/\∀j x,cr[j]?=some x->c[a+j]?=some x:=by
 induction r generalizing a with
 | nil=>exact⟨[],VRs.nil,λj x hx=>by simp at hx⟩
 | cons v r ih =>
  obtain⟨x,hx,hv⟩:=h 0 v (by simp);obtain⟨cr,h1,h2⟩:=ih (a:=a+1) λj u hu=>by
   obtain⟨y,hy,k⟩:=h (j+1) u (by simpa using hu);exact⟨y,by rw[show a+1+j=a+(j+1) by omega]; exact hy,k⟩
  refine⟨x::cr,VRs.cons hv h1,λj y hy=>?_⟩;cases j with
  | zero=>simp at hy; subst hy; simpa using hx
  | succ j=>rw[show a+(j+1)=a+1+j by omega]; exact h2 j y (by simpa using hy)
theorem qmo{rs:List (List V)}{c:Array Value}{a esz:Nat}(h:qau N ι ro rs c a esz) :
  ∃cr,VRrs N ι ro rs cr/\(∀r∈cr,r.length=esz)/\∀(i:Nat) (r:List Value),cr[i]?=some r->∀j x,r[j]?=some x->c[a+i * esz+j]?=some x:=by
 induction rs generalizing a with
 | nil=>exact⟨[],VRrs.nil,by simp,λi r hr=>by simp at hr⟩
 | cons r rs ih =>
  obtain⟨x,h1,h2⟩:=qgz (a:=a) λj v hv=>by
   obtain⟨y,hy,k⟩:=h.2 0 r (by simp) j v hv;exact⟨y,by simpa using hy,k⟩
  obtain⟨cr,k1,k2,k3⟩:=ih (a:=a+esz) ⟨λq hq=>h.1 q (by simp[hq]),λi q hq j v hv=>by
   obtain⟨y,hy,k⟩:=h.2 (i+1) q (by simpa using hq) j v hv;exact⟨y,by rw[show a+esz+i * esz+j=a+(i+1) * esz+j by rw[Nat.succ_mul]; omega]; exact hy,k⟩⟩
  refine⟨x::cr,VRrs.cons h1 k1,?_,?_⟩
  ·intro q hq;rcases Jag.1 hq with rfl|hq
   ·rw[<-h1.length]; exact h.1 r (by simp)
   ·exact k2 q hq
  ·intro i q hq j y hy;cases i with
   | zero=>simp at hq; subst hq; simpa using h2 j y hy
   | succ i=>rw[show a+(i+1) * esz+j=a+esz+i * esz+j by rw[Nat.succ_mul]; omega]; exact k3 i q (by simpa using hq) j y hy
theorem qiq{rs:List (List V)}{cr:List (List Value)}{c:Array Value}{a esz:Nat}(h:VRrs N ι ro rs cr)(hl:∀r∈cr,r.length=esz)
  (hc:∀(i:Nat) (r:List Value),cr[i]?=some r->∀j x,r[j]?=some x->c[a+i * esz+j]?=some x):qau N ι ro rs c a esz:=by
 refine⟨λr hr=>?_,λi r hir j v hv=>?_⟩
 ·obtain⟨i,hi⟩:=List.getElem?_of_mem hr;obtain⟨x,hx,k⟩:=h.get hi;rw[k.length]; exact hl x (Jar hx)
 ·obtain⟨x,hx,k⟩:=h.get hir;obtain⟨y,hy,q⟩:=k.get hv;exact⟨y,hc i x hx j y hy,q⟩
theorem qBx{rows:List (List V)}{full:Bool}{v:Value} :
  VR N ι ro (.slR rows full) v↔∃a cap,v=.slice (some a) rows.length cap/\rows.length<=cap/\(full=true->cap=rows.length) /\
   (rows=[]\/(a.spot=none/\∃c esz,ro a.block=some c/\qau N ι ro rows c a.off esz)):=by
 simp only[VR];constructor
 ·rintro⟨a,cap,h1,h2,h3,h4⟩;refine⟨a,cap,h1,h2,h3,h4.imp id ?_⟩;rintro⟨h5,c,esz,cr,h6,h7,h8,h9⟩;exact⟨h5,c,esz,h6,qiq h7 h8 h9⟩
 ·rintro⟨a,cap,h1,h2,h3,h4⟩;refine⟨a,cap,h1,h2,h3,h4.imp id ?_⟩;rintro⟨h5,c,esz,h6,h7⟩;obtain⟨cr,k1,k2,k3⟩:=qmo h7;exact⟨h5,c,esz,cr,h6,k1,k2,k3⟩
theorem qBA{row:List V}{o:Nat}{v:Value} :
  VR N ι ro (.ptrR row o) v↔∃b a c,v=.pointer (some ⟨b,a+o,none⟩)/\ro b=some c/\∀(j:Nat) (u:V),row[j]?=some u->∃x,c[a+j]?=some x/\VR N ι ro u x:=by
 simp only[VR];constructor
 ·rintro⟨b,a,c,h1,h2,cr,h3,h4⟩;refine⟨b,a,c,h1,h2,λj u hu=>?_⟩;obtain⟨x,hx,k⟩:=h3.get hu;exact⟨x,h4 j x hx,k⟩
 ·rintro⟨b,a,c,h1,h2,h3⟩;obtain⟨cr,k1,k2⟩:=qgz h3;exact⟨b,a,c,h1,h2,cr,k1,k2⟩
end rows
section
variable (P:Program) (N:Num)
mutual
def okV:V->Value->Bool
 | .any,_=>true
 | .bool a,.bool b=>a == b
 | .int k n,.int l m=>k == l&&n == m
 | .str l,.string s=>l == s.data.toList
 | .nilp,.pointer none=>true
 | .nils,.slice none 0 0=>true
 | .nilm,.map none=>true
 | .nilf,.nilFunc=>true
 | .nili,.nilIface=>true
 | .agg l,.agg a=>okVs l a.toList
 | .tup l,.tuple a=>okVs l a.toList
 | _,_=>false
def okVs:List V->List Value->Bool
 | [],[]=>true
 | v::l,x::m=>okV v x&&okVs l m
 | _,_=>false
end
def okO:Opd->Operand->Bool
 | .t i,.tmp j=>i == j
 | .c v,.const x=>okV v x
 | .c .any,.global _=>true
 | .c (.fn f [] []),.func g=>N.f f == g
 | _,_=>false
def okOs:List Opd->List Operand->Bool
 | [],[]=>true
 | x::l,y::m=>okO N x y&&okOs l m
 | _,_=>false
def okOo:Option Opd->Option Operand->Bool
 | none,none=>true
 | some x,some y=>okO N x y
 | _,_=>false
def aggT(t:TypeId):Option Bool :=
 match P.underlying t with
 | some (.struct _)=>some true
 | some (.array _ _)=>some true
 | some _=>some false
 | none=>none
def qbA(t:TypeId):Option Nat:=(P.info? t).map (·.size)
def qf6(t:TypeId):Option Nat:=(P.info? t).map (·.bytes)
def okN(n:Option Nat)(t:TypeId):Bool :=
 match n with
 | none=>aggT P t == some false
 | some m=>aggT P t == some true&&qbA P t == some m
def qht(t:TypeId):Option Value:=(P.info? t).bind (·.zero)
def okZ(z:V)(t:TypeId):Bool :=
 match qht P t with
 | some x=>okV z x
 | none=>false
def okZs(z:List V)(t:TypeId):Bool :=
 match qht P t with
 | some x=>okVs z x.cells.toList&&ones z&&qbA P t == some z.length
 | none=>false
def okSK(s:SK)(t:TypeId):Bool :=
 match s,P.underlying t with
 | .bool,some .bool=>true
 | .int,some (.int _)=>true
 | .str,some .string=>true
 | _,_=>false
def qcx:List SK->List Field->Nat->Bool
 | [],[],_=>true
 | s::ss,f::fs,i=>f.offset == i&&f.name != "_" && okSK P s f.type&&qcx ss fs (i+1)
 | _,_,_=>false
def qt7:List SK->List Field->Nat->Bool
 | ss,[],_=>ss.isEmpty
 | ss,f::fs,i=>f.offset == i&&f.name != "_" && (match P.underlying f.type with
  | some (.struct gs)=>qcx P (ss.take gs.size) gs.toList 0 && !P.stoodInHeld f.type&&qbA P f.type == some gs.size&&qt7 (ss.drop gs.size) fs (i+gs.size)
  | _=>(match ss with
   | s::ss=>okSK P s f.type&&qt7 ss fs (i+1)
   | []=>false))
def qjL(ss:List SK)(t:TypeId):Bool :=
 match P.underlying t with
 | some (.struct fs)=>qt7 P ss fs.toList 0 && !P.stoodInHeld t
 | _=>false
def qfz(k:KK)(t:TypeId):Bool :=
 match k with
 | .one s=>okSK P s t
 | .agg ss=>qjL P ss t
def qg1:Operand->Bool
 | .const .nilIface=>true
 | _=>false
def okEq(k:EqK)(t:TypeId)(x y:Operand):Bool :=
 match k,P.underlying t with
 | .bool,some .bool=>true
 | .slice,some (.slice _)=>true
 | .func,some (.func _ _ _)=>true
 | .ptr,some (.pointer _)=>true
 | .iface,some (.interface _)=>qg1 x||qg1 y
 | .struct n,some (.struct _)=>qjL P n t
 | _,_=>false
def qfy(fs:Array Field):List (Nat × Nat × Opd)->List (Nat × Operand)->Bool
 | [],[]=>true
 | (off,sz,x)::l,(i,y)::m=>(match fs[i]? with
   | some f=>f.offset == off&&qbA P f.type == some sz
   | none=>false)&&okO N x y&&qfy fs l m
 | _,_=>false
def qd3(sz:Nat):List (Nat × Nat × Opd)->List (Nat × Operand)->Bool
 | [],[]=>true
 | (off,s,x)::l,(i,y)::m=>off == i * sz&&s == sz&&okO N x y&&qd3 sz l m
 | _,_=>false
def qd2:List (Nat × Opd)->List (Nat × Operand)->Bool
 | [],[]=>true
 | (i,x)::l,(j,y)::m=>i == j&&okO N x y&&qd2 l m
 | _,_=>false
def okP(o:PO)(p:Op):Bool :=
 match o,p with
 | .mov x,.move y=>okO N x y
 | .mov x,.assign y=>okO N x y
 | .pick c a b,.pick c' a' b'=>okO N c c'&&okO N a a'&&okO N b b'
 | .build zero parts,.build t ps=>okZs P zero t&&(match P.underlying t with
   | some (.struct fs)=>fs.all (λf=>(qbA P f.type).isSome)&&qfy P N fs parts ps.toList
   | some (.array _ e)=>(match qbA P e with
    | some sz=>qd3 N sz parts ps.toList
    | none=>false)
   | _=>false)
 | .nilc x,.nilCheck y=>okO N x y
 | .bin op x y,.binOp op' _ x' y' _=>op == op'&&okO N x x'&&okO N y y'
 | .eqo neg k x y,.binOp op t x' y' _=>op == (if neg then .neq else .eql)&&okEq P k t x' y'&&okO N x x'&&okO N y y'
 | .un op x,.unOp op' _ y=>op == op'&&okO N x y
 | .ci k x,.convert s d y=>(P.underlying s).isSome&&okO N x y&&(match P.underlying d with
   | some (.int l)=>k == l
   | _=>false)
 | .sliceS x none none,.convert s d y=>okO N x y&&(match P.underlying s,P.underlying d with
   | some .string,some .string=>true
   | _,_=>false)
 | .mki t x,.makeInterface t' y=>N.t t == t'&&okO N x y&&(match P.underlying t' with
   | some (.interface _)=>false
   | some _=>true
   | none=>false)
 | .asrt t ok zero x,.typeAssert y _ t' ok'=>N.t t == t'&&ok == ok'&&okO N x y&&okZ P zero t'&&(match P.underlying t' with
   | some (.interface _)=>false
   | some _=>true
   | none=>false)
 | .mkf f xs ys,.makeFunc (.func g) xs' ys'=>N.f f == g&&okOs N xs xs'.toList&&okOs N ys ys'.toList
 | .slice esz x lo hi mx,.slice t y lo' hi' mx'=>okO N x y&&okOo N lo lo'&&okOo N hi hi'&&okOo N mx mx'&&(mx.isNone||hi.isSome)&&(match P.underlying t with
   | some (.slice e)=>qbA P e == some esz
   | _=>false)
 | .sliceS x lo hi,.slice t y lo' hi' none=>okO N x y&&okOo N lo lo'&&okOo N hi hi'&&(match P.underlying t with
   | some .string=>true
   | _=>false)
 | .faddr off a,.fieldAddr s y f=>okO N a y&&(match P.underlying s with
   | some (.struct fs)=>(match fs[f]? with
    | some g=>g.offset == off&&(match qbA P g.type with
     | some 0=>false
     | some _=>true
     | none=>false)
    | none=>false)
   | _=>false)
 | .fld off n x,.field s y f=>okO N x y&&(match P.underlying s with
   | some (.struct fs)=>(match fs[f]? with
    | some g=>g.offset == off&&okN P n g.type
    | none=>false)
   | _=>false)
 | .iaddr esz x i,.indexAddr t y j=>okO N x y&&okO N i j&&(match P.underlying t with
   | some (.slice e)=>qbA P e == some esz
   | _=>false)
 | .iaddrA len esz x i,.indexAddr t y j=>okO N x y&&okO N i j&&(match P.underlying t with
   | some (.array n e)=>n == len&&qbA P e == some esz
   | _=>false)
 | .idxS x i,.index t y j=>okO N x y&&okO N i j&&(match P.underlying t with
   | some .string=>true
   | _=>false)
 | .idxA len esz ag x i,.index t y j=>okO N x y&&okO N i j&&(match P.underlying t with
   | some (.array n e)=>n == len&&qbA P e == some esz&&aggT P e == some ag
   | _=>false)
 | .ext i x,.extract y j=>i == j&&okO N x y
 | .min x xs,.call { callee:=.builtin .min,args,argTypes:=_ }=>okOs N (x::xs) args.toList
 | .max x xs,.call { callee:=.builtin .max,args,argTypes:=_ }=>okOs N (x::xs) args.toList
 | .cap x,.call { callee:=.builtin .cap,args,argTypes }=>okOs N [x] args.toList&&(match argTypes[0]? with
   | some t=>(match P.underlying t with
    | some (.slice _)=>true
    | _=>false)
   | none=>false)
 | _,_=>false
def okR(o:RdO)(p:Op):Bool :=
 match o,p with
 | .load n a,.load t y=>okN P n t&&okO N a y
 | .b2s x,.convert s d y=>okO N x y&&(match P.underlying s,P.underlying d with
   | some (.slice e),some .string=>(match P.underlying e with
    | some (.int .u8)=>true
    | _=>false)
   | _,_=>false)
 | .lookup kn zero ok m k,.lookup t y j ok'=>ok == ok'&&okO N m y&&okO N k j&&(match P.underlying t with
   | some (.map key e)=>qfz P kn key&&okZ P zero e
   | _=>false)
 | .len k x,.call { callee:=.builtin .len,args,argTypes }=>okOs N [x] args.toList&&(match argTypes[0]? with
   | some t=>(match k,P.underlying t with
    | .sl,some (.slice _)=>true
    | .str,some .string=>true
    | .map,some (.map _ _)=>true
    | _,_=>false)
   | none=>false)
 | .entry it,.entry y=>okO N it y
 | _,_=>false
def okA(o:AO)(p:Op):Bool :=
 match o,p with
 | .alloc cells,.alloc t=>Nat.blt 0 cells.length&&okZs P cells t
 | .box _ x,.box _ y=>okO N x y
 | .bslice _ zero len parts,.buildSlice t len' ps=>len == len'&&qd2 N parts ps.toList&&Nat.ble (len * zero.length) 16777216&&Nat.blt 0 zero.length&&(match P.underlying t with
   | some (.slice e)=>okZs P zero e
   | _=>false)
 | .s2b _ x,.convert s d y=>okO N x y&&(match P.underlying s,P.underlying d with
   | some .string,some (.slice e)=>(match P.underlying e with
    | some (.int .u8)=>true
    | _=>false)
   | _,_=>false)
 | .mkm,.makeMap _ none=>true
 | .mks zero bytes l c,.makeSlice t l' c'=>okO N l l'&&okO N c c'&&Nat.blt 0 zero.length&&(match P.underlying t with
   | some (.slice e)=>okZs P zero e&&qf6 P e == some bytes
   | _=>false)
 | .rngS x,.range t y=>okO N x y&&(match P.underlying t with
   | some .string=>true
   | _=>false)
 | _,_=>false
def qln(e:TypeId)(esz:Nat):Bool :=
 match qht P e with
 | some z=>Nat.beq z.cells.size esz
 | none=>false
def okW(o:WO)(p:Op):Bool :=
 match o,p with
 | .store n a x,.store t y z=>qbA P t == some n&&okO N a y&&okO N x z
 | .mupd kn m k v,.mapUpdate t m' k' v'=>okO N m m'&&okO N k k'&&okO N v v'&&(match P.underlying t with
   | some (.map key _)=>qfz P kn key
   | _=>false)
 | .mupd kn m k v,.insert t m' k' v'=>okO N m m'&&okO N k k'&&okO N v v'&&(match P.underlying t with
   | some (.map key _)=>qfz P kn key
   | _=>false)
 | .del kn m k,.call { callee:=.builtin .delete,args,argTypes }=>okOs N [m,k] args.toList&&(match argTypes[0]? with
   | some t=>(match P.underlying t with
    | some (.map key _)=>qfz P kn key
    | _=>false)
   | none=>false)
 | .rngM x,.range t y=>okO N x y&&(match P.underlying t with
   | some (.map _ _)=>true
   | _=>false)
 | .nxtS it,.next y true=>okO N it y
 | .append esz bytes s x,.call { callee:=.builtin .append,args,argTypes }=>okOs N [s,x] args.toList&&(match argTypes[0]?,argTypes[1]? with
   | some t,some u=>(match P.underlying t,P.underlying u with
    | some (.slice e),some (.slice _)=>qbA P e == some esz&&qf6 P e == some bytes&&qln P e esz
    | _,_=>false)
   | _,_=>false)
 | .appendS s x,.call { callee:=.builtin .append,args,argTypes }=>okOs N [s,x] args.toList&&(match argTypes[0]?,argTypes[1]? with
   | some t,some u=>(match P.underlying t,P.underlying u with
    | some (.slice e),some .string=>qbA P e == some 1&&qf6 P e == some 1&&qln P e 1
    | _,_=>false)
   | _,_=>false)
 | .appendZ zero bytes s n,.call { callee:=.builtin .append,args,argTypes }=>okOs N [s,n] args.toList&&Nat.blt 0 zero.length&&(match argTypes[0]?,argTypes[1]? with
   | some t,some u=>(match P.underlying t,P.underlying u with
    | some (.slice e),some (.int _)=>okZs P zero e&&qf6 P e == some bytes&&qbA P e == some zero.length
    | _,_=>false)
   | _,_=>false)
 | .clear zero x,.call { callee:=.builtin .clear,args,argTypes }=>okOs N [x] args.toList&&Nat.blt 0 zero.length&&(match argTypes[0]? with
   | some t=>(match P.underlying t with
    | some (.slice e)=>okZs P zero e
    | _=>false)
   | none=>false)
 | .same x,.convert s d y=>okO N x y&&s == d&&(match P.underlying d with
   | some (.slice e)=>(match P.underlying e with
    | some (.int .u8)=>true
    | _=>false)
   | _=>false)
 | _,_=>false
def qjs(c:Cal)(d:Callee):Bool :=
 match c,d with
 | .dir f,.value (.func g)=>N.f f == g
 | .val x,.value y=>okO N x y
 | .inv x m,.invoke y m'=>m == m'&&okO N x y
 | _,_=>false
def okOp(o:IOp)(p:Op):Bool :=
 match o,p with
 | .p o,p=>okP P N o p
 | .r o,p=>okR P N o p
 | .a o _,p=>okA P N o p
 | .w o,p=>okW P N o p
 | .fz (.wf o),p=>okW P N o p
 | .fz (.ldF n a _),p=>okR P N (.load (some n) a) p
 | .call c args _,.call { callee,args:=args',argTypes:=_ }=>qjs N c callee&&okOs N args args'.toList
 | .callP f args,.call { callee,args:=args',argTypes:=_ }=>qjs N (.dir f) callee&&okOs N args args'.toList
 | .nxtM it,.next y false=>okO N it y
 | .defer x,.defer { callee:=.value y,args,argTypes:=_ }=>okO N x y&&args.isEmpty
 | .recover,.call { callee:=.builtin .recover,args:=_,argTypes:=_ }=>true
 | .bad,_=>true
 | _,_=>false
def qiy(ops:Array Oper)(g:Option (Nat × Bool))(h:Option (Nat × Bool)):Bool :=
 match g,h with
 | none,none=>true
 | some (s,b),some (j,b')=>b == b'&&(match ops[j]? with
   | some o=>o.dst == some s
   | none=>false)
 | _,_=>false
def qpJ(nt:Nat)(ops:Array Oper)(i:Ins)(o:Oper):Bool :=
 i.dst == o.dst&&qiy ops i.guard o.guard&&okOp P N i.op o.op&&(match i.dst with
  | some d=>Nat.blt d nt
  | none=>true)
def okL(nt:Nat)(ops:Array Oper):List Ins->List Oper->Bool
 | [],[]=>true
 | i::l,o::m=>qpJ P N nt ops i o&&okL nt ops l m
 | _,_=>false
inductive Cls where
 | n|r|a (j:Nat)|w
def IOp.cls:IOp->Cls
 | .p _=>.n
 | .r _=>.r
 | .callP _ _=>.r
 | .a (.bslice true _ _ _) _=>.n
 | .a (.s2b true _) _=>.n
 | .a _ (some j)=>.a j
 | .recover=>.n
 | _=>.w
end
def VRtm(N:Num)(ι:Inj)(ro:RO)(tm:Tm)(a:Array Value):Prop:=∀i,VR N ι ro ((gK i).run tm) (a.getD i undef)
section
variable {N:Num}{ι ι':Inj}{ro ro':RO}
theorem VR.undef:VR N ι ro (.tup []) Go.undef:=by simp only[VR]; exact⟨#[],rfl,VRs.nil⟩
theorem VRtm.mono{tm:Tm}{a:Array Value}(h:VRtm N ι ro tm a)(hi:∀i w,ι i=some w->ι' i=some w)(hr:∀b c,ro b=some c->ro' b=some c):VRtm N ι' ro' tm a :=
 λi=>VR.mono hi hr _ _ (h i)
theorem VRtm.set{tm:Tm}{a:Array Value}(h:VRtm N ι ro tm a){i:Nat}{v:V}{x:Value}(hi:i<a.size)(hv:VR N ι ro v x):VRtm N ι ro ((sK i).run v tm) (a.setIfInBounds i x):=by
 intro j;rw[qgb]
 by_cases e:j=i
 ·subst e; simp[hi,hv]
 ·rw[Jaa e];have:=h j;simp only[Array.getD_eq_getD_getElem?,Array.getElem?_setIfInBounds]at this ⊢;rw[Jaa (λh=>e h.symm)]; exact this
theorem qC4{l:List V}{m:List Value}(h:VRs N ι ro l m)(k:Nat):VRtm N ι ro (Tm.ofL 0 l .e) (m.toArray++Array.replicate k Go.undef):=by
 intro i;rw[qn2];simp only[Nat.zero_le,if_true,Nat.sub_zero,gK_e];cases hl:l[i]? with
 | some v =>
  obtain⟨x,hx,hr⟩:=h.get hl;have hlt:i<m.length:=(Jam.1 hx).1;simp only[Array.getD_eq_getD_getElem?];rw[Array.getElem?_append_left (by simpa using hlt)];simp[hx,hr]
 | none =>
  have hge:m.length<=i:=by rw[<-h.length]; exact List.getElem?_eq_none_iff.1 hl
  simp only[Array.getD_eq_getD_getElem?];rw[Array.getElem?_append_right (by simpa using hge)];simp only[List.size_toArray,Array.getElem?_replicate];split<;>exact VR.undef
variable (P:Program)
mutual
theorem okV_VR:∀(v:V) (x:Value),okV v x=true->VR N ι ro v x
 | .any,_,_=>by simp[VR]
 | .bool _,x,h=>by cases x<;>simp[okV,VR]at h ⊢; exact h.symm
 | .int _ _,x,h=>by cases x<;>simp[okV,VR]at h ⊢; exact⟨h.1.symm,h.2.symm⟩
 | .str _,x,h=>by cases x<;>simp[okV,VR]at h ⊢; exact h.symm
 | .nilp,x,h=>by
  cases x with
  | pointer a=>cases a<;>simp[okV,VR]at h ⊢
  | _=>simp[okV]at h
 | .nils,x,h=>by
  cases x with
  | slice a l c =>
   unfold okV at h;split at h<;>simp_all[VR]
  | _=>simp[okV]at h
 | .nilm,x,h=>by
  cases x with
  | map a=>cases a<;>simp[okV,VR]at h ⊢
  | _=>simp[okV]at h
 | .nilf,x,h=>by cases x<;>simp[okV,VR]at h ⊢
 | .nili,x,h=>by cases x<;>simp[okV,VR]at h ⊢
 | .agg l,x,h=>by
  cases x with
  | agg a=>simp only[okV]at h; simp only[VR]; exact⟨a,rfl,okVs_VRs l a.toList h⟩
  | _=>simp[okV]at h
 | .tup l,x,h=>by
  cases x with
  | tuple a=>simp only[okV]at h; simp only[VR]; exact⟨a,rfl,okVs_VRs l a.toList h⟩
  | _=>simp[okV]at h
 | .ptr _ _ _,x,h=>by cases x<;>simp[okV]at h
 | .ptrR _ _,x,h=>by cases x<;>simp[okV]at h
 | .sl _ _ _ _ _,x,h=>by cases x<;>simp[okV]at h
 | .slR _ _,x,h=>by cases x<;>simp[okV]at h
 | .map _,x,h=>by cases x<;>simp[okV]at h
 | .fn _ _ _,x,h=>by cases x<;>simp[okV]at h
 | .yld _,x,h=>by cases x<;>simp[okV]at h
 | .iface _ _,x,h=>by cases x<;>simp[okV]at h
theorem okVs_VRs:∀(l:List V) (m:List Value),okVs l m=true->VRs N ι ro l m
 | [],[],_=>VRs.nil
 | [],_::_,h=>by simp[okVs]at h
 | _::_,[],h=>by simp[okVs]at h
 | v::l,x::m,h=>by
  simp only[okVs,Jad]at h;exact VRs.cons (okV_VR v x h.1) (okVs_VRs l m h.2)
end
theorem qan{tm:Tm}{a:Act}(htm:VRtm N ι ro tm a.tmps){x:Opd}{y:Operand}(h:okO N x y=true):VR N ι ro (x.ev tm) (a.eval y):=by
 cases x with
 | t i =>
  cases y<;>simp[okO]at h
  subst h; exact htm i
 | c v =>
  cases y with
  | const x=>simp only[okO]at h; exact okV_VR v x h
  | global g =>
   cases v<;>simp[okO]at h
   simp[Opd.ev,opdK,VR]
  | func g =>
   unfold okO at h;split at h<;>simp_all[Opd.ev,opdK,VR,Act.eval,VRs]
  | tmp t=>simp[okO]at h
theorem qd4{tm:Tm}{a:Act}(htm:VRtm N ι ro tm a.tmps):∀{l:List Opd}{m:List Operand},okOs N l m=true->VRs N ι ro ((qcE l).run tm) (m.map a.eval)
 | [],[],_=>VRs.nil
 | [],_::_,h=>by simp[okOs]at h
 | _::_,[],h=>by simp[okOs]at h
 | x::l,y::m,h=>by
  simp only[okOs,Jad]at h;exact VRs.cons (qan htm h.1) (qd4 htm h.2)
theorem VR.one{v:V}{x:Value}(h:VR N ι ro v x)(k:v.one=true):x.oneCell'=true:=by
 cases v<;>simp[V.one]at k<;>simp only[VR]at h
 all_goals
  first
  | (subst h; rfl)
  | (obtain⟨_,rfl,_⟩:=h; rfl)
  | (obtain⟨_,_,rfl⟩:=h; rfl)
  | (obtain⟨_,_,_,rfl,_⟩:=h; rfl)
  | (obtain⟨_,_,_,_,_,rfl,_⟩:=h; rfl)
  | (obtain⟨_,_,rfl,_⟩:=h; rfl)
theorem qBT{v:V}{x:Value}(h:VR N ι ro v x)(hv:v≠.any):VRs N ι ro v.cells x.cells.toList:=by
 cases v with
 | agg cs=>simp only[VR]at h; obtain⟨a,rfl,h⟩:=h; exact h
 | any=>exact absurd rfl hv
 | tup cs =>
  have h':=h;simp only[VR]at h; obtain⟨a,rfl,_⟩:=h;simp only[V.cells,Value.cells]; exact VRs.cons h' VRs.nil
 | _ =>
  have h':=h;have:=VR.one h rfl;cases x<;>simp[Value.oneCell']at this<;>simpa[V.cells,Value.cells,VRs]using h'
end
def qdY(N:Num)(ι:Inj)(ro:RO)(e:Nat × V × V)(e':MapEntry):Prop:=e'.born=e.1/\VR N ι ro e.2.1 e'.key/\VR N ι ro e.2.2 e'.val
inductive All2 {α β : Type}(R : α->β->Prop):List α->List β->Prop
 | nil:All2 R [] []
 | cons {a : α}{b : β}{l:List α}{m:List β}(h:R a b) (k:All2 R l m):All2 R (a::l) (b::m)
def qk2:Option IC->Option Code->Prop
 | none,none=>True
 | some .ret,some .ret=>True
 | some (.exit i),some (.exit j)=>i=j
 | _,_=>False
section
variable (N:Num) (CR:Nat->IC->Code->Prop) (ι:Inj) (ro:RO)
def ORel(o:Obj)(w:Plc)(c:Go.Obj):Prop :=
 match o with
 | .rows rs=>∃cells elem fz,c=.cells cells elem fz/\cells.size=w.sz/\(fz.1=fz.2\/cells.size<=fz.1)/\w.base+rs.length * w.esz<=w.sz/\qau N ι ro rs cells w.base w.esz
 | .map es clock=>∃es',c=.map es' clock/\All2 (qdY N ι ro) es es'.toList
 | .strIter s pos=>w.base=0/\∃s':ByteArray,c=.stringIter s' pos/\s'.data.toList=s
 | .mapIter m since seen last=>w.base=0/\∃wm,ι m=some wm/\c=.mapIter (some wm.blk) since seen.reverse.toArray last
 | .loop st pend tm ps asg body=>∃l:Loop,c=.loop l/\l.state=st/\qk2 pend l.pending/\VRtm N ι ro tm l.tmps/\l.params.toList=ps /\
   ∃nt,nt<=l.tmps.size/\CR nt asg l.assign/\CR nt body l.body/\∀p∈ps,p<nt
 | .dfr=>c=.deferred (some [])
structure HR (h:Heap) (w:World):Prop where
 live:∀i o,h.get i=some o->i<h.n/\∃wn,ι i=some wn/\∃c,w.heap[wn.blk]?=some c/\ORel N CR ι ro o wn c
 dist:∀i j oi oj wi wj,h.get i=some oi->h.get j=some oj->ι i=some wi->ι j=some wj->wi.blk=wj.blk->i=j
 rd:∀b c,ro b=some c->(∃e fz,w.heap[b]?=some (.cells c e fz))/\∀i o wn,h.get i=some o->ι i=some wn->wn.blk≠b
 fresh:∀i,h.n<=i->ι i=none
 kb:∀b o,N.kb b=some o->w.heap[b]?=some o/\∀i oi wn,h.get i=some oi->ι i=some wn->wn.blk≠b
end
structure qbM (w w':World):Prop where
 os:w'.os=w.os
 output:w'.output=w.output
 tape:w'.tape=w.tape
 drawn:w.drawn<=w'.drawn
 size:w.heap.size<=w'.heap.size
theorem qbM.refl(w:World):qbM w w:=⟨rfl,rfl,rfl,Jac _,Jac _⟩
theorem qbM.trans{a b c:World}(h:qbM a b)(k:qbM b c):qbM a c:=⟨k.os.trans h.os,k.output.trans h.output,k.tape.trans h.tape,Jaf h.drawn k.drawn,Jaf h.size k.size⟩
section
variable {N:Num}{CR:Nat->IC->Code->Prop}{ι ι':Inj}{ro ro':RO}
theorem All2.length{α β : Type}{R : α->β->Prop}{l:List α}{m:List β}(h:All2 R l m):l.length=m.length:=by induction h<;>simp_all
theorem All2.get{α β : Type}{R : α->β->Prop}{l:List α}{m:List β}(h:All2 R l m):∀{i:Nat}{a : α},l[i]?=some a->∃b,m[i]?=some b/\R a b:=by
 induction h with
 | nil=>intro i a h; simp at h
 | cons h k ih =>
  intro i a ha;cases i with
  | zero=>simp at ha; subst ha; exact⟨_,by simp,h⟩
  | succ i=>simpa using ih (i:=i) (by simpa using ha)
theorem All2.mono{α β : Type}{R R' : α->β->Prop}{l:List α}{m:List β}(h:All2 R l m)(k:∀a b,R a b->R' a b):All2 R' l m:=by
 induction h with
 | nil=>exact .nil
 | cons h _ ih=>exact .cons (k _ _ h) ih
theorem All2.append{α β : Type}{R : α->β->Prop}{l l':List α}{m m':List β}(h:All2 R l m)(k:All2 R l' m'):All2 R (l++l') (m++m'):=by
 induction h with
 | nil=>exact k
 | cons h _ ih=>exact .cons h ih
theorem ORel.mono{o:Obj}{w:Plc}{c:Go.Obj}(h:ORel N CR ι ro o w c)(hi:∀i w,ι i=some w->ι' i=some w)(hr:∀b c,ro b=some c->ro' b=some c):ORel N CR ι' ro' o w c:=by
 cases o with
 | rows rs=>obtain⟨a,b,c,h1,h2,h3,h4,h5⟩:=h; exact⟨a,b,c,h1,h2,h3,h4,h5.mono hi hr⟩
 | map es clock=>obtain⟨a,h1,h2⟩:=h; exact⟨a,h1,h2.mono λ_ _ h=>⟨h.1,VR.mono hi hr _ _ h.2.1,VR.mono hi hr _ _ h.2.2⟩⟩
 | strIter s p=>exact h
 | mapIter m a b c=>obtain⟨h0,wm,h1,h2⟩:=h; exact⟨h0,wm,hi _ _ h1,h2⟩
 | loop st pend tm ps asg body=>obtain⟨l,h1,h2,h3,h4,h5⟩:=h; exact⟨l,h1,h2,h3,h4.mono hi hr,h5⟩
 | dfr=>exact h
theorem HR.same{h:Heap}{w w':World}(hh:HR N CR ι ro h w)(hw:∀b,b<w.heap.size->w'.heap[b]?=w.heap[b]?):HR N CR ι ro h w' where
 live:=λi o hi=>by
  obtain⟨h1,wn,h2,c,h3,h4⟩:=hh.live i o hi;refine⟨h1,wn,h2,c,?_,h4⟩;rw[hw _ (Array.getElem?_eq_some_iff.1 h3).1]; exact h3
 dist:=hh.dist
 rd:=λb c hb=>by
  obtain⟨⟨e,fz,h1⟩,h2⟩:=hh.rd b c hb;refine⟨⟨e,fz,?_⟩,h2⟩;rw[hw _ (Array.getElem?_eq_some_iff.1 h1).1]; exact h1
 fresh:=hh.fresh
 kb:=λb o hb=>by
  obtain⟨h1,h2⟩:=hh.kb b o hb;exact⟨by rw[hw _ (Array.getElem?_eq_some_iff.1 h1).1]; exact h1,h2⟩
theorem HR.put{h:Heap}{w w':World}(hh:HR N CR ι ro h w){i:Nat}{o:Obj}{wn:Plc}{c:Go.Obj}{h':Heap}
  (hi:ι i=none) (hin:i<h'.n) (hnn:h.n<=h'.n)
  (hg:∀j,h'.get j=if j=i then some o else h.get j)
  (hliv:∀j oj u,h.get j=some oj->ι j=some u->u.blk≠wn.blk) (hro:∀b c,ro b=some c->b≠wn.blk) (hkb:∀b o,N.kb b=some o->b≠wn.blk)
  (hw:∀b,b≠wn.blk->b<w.heap.size->w'.heap[b]?=w.heap[b]?) (hnew:w'.heap[wn.blk]?=some c)
  (ho:ORel N CR (λj=>if j=i then some wn else ι j) ro o wn c) :
  HR N CR (λj=>if j=i then some wn else ι j) ro h' w':=by
 have hext:∀j u,ι j=some u->(if j=i then some wn else ι j)=some u:=λj u hj=>by
  by_cases e:j=i
  ·subst e; rw[hi]at hj; cases hj
  ·rw[Jaa e]; exact hj
 refine⟨?_,?_,?_,?_,?_⟩
 ·intro j oj hj;rw[hg]at hj
  by_cases e:j=i
  ·subst e;simp only[if_true]at hj;cases hj;exact⟨hin,wn,by simp,c,hnew,ho⟩
  ·rw[Jaa e]at hj;obtain⟨h1,u,h2,c',h3,h4⟩:=hh.live j oj hj;exact⟨Nat.lt_of_lt_of_le h1 hnn,u,hext j u h2,c',by rw[hw _ (hliv j oj u hj h2) (Array.getElem?_eq_some_iff.1 h3).1]; exact h3,h4.mono hext λ_ _ h=>h⟩
 ·intro j k oj ok uj uk hj hk huj huk e;rw[hg]at hj hk
  by_cases ej:j=i<;>by_cases ek:k=i
  ·rw[ej,ek]
  ·subst ej;simp only[if_true]at huj; cases huj;rw[Jaa ek]at huk hk;exact absurd e.symm (hliv k ok uk hk huk)
  ·subst ek;simp only[if_true]at huk; cases huk;rw[Jaa ej]at huj hj;exact absurd e (hliv j oj uj hj huj)
  ·rw[Jaa ej]at huj hj;rw[Jaa ek]at huk hk;exact hh.dist j k oj ok uj uk hj hk huj huk e
 ·intro b c' hb;obtain⟨⟨e,fz,h1⟩,h2⟩:=hh.rd b c' hb;refine⟨⟨e,fz,by rw[hw _ (hro b c' hb) (Array.getElem?_eq_some_iff.1 h1).1]; exact h1⟩,λj oj u hj hu=>?_⟩;rw[hg]at hj
  by_cases ej:j=i
  ·subst ej;simp only[if_true]at hu; cases hu;exact λe=>hro b c' hb e.symm
  ·rw[Jaa ej]at hu hj;exact h2 j oj u hj hu
 ·intro j hj;have:j≠i:=by omega
  simp only[Jaa this];exact hh.fresh j (Jaf hnn hj)
 ·intro b o' hb;obtain⟨h1,h2⟩:=hh.kb b o' hb;refine⟨by rw[hw _ (hkb b o' hb) (Array.getElem?_eq_some_iff.1 h1).1]; exact h1,λj oj u hj hu=>?_⟩;rw[hg]at hj
  by_cases ej:j=i
  ·subst ej;simp only[if_true]at hu; cases hu;exact λe=>hkb b o' hb e.symm
  ·rw[Jaa ej]at hu hj;exact h2 j oj u hj hu
theorem HR.put_new{h:Heap}{w w':World}(hh:HR N CR ι ro h w){i:Nat}{o:Obj}{wn:Plc}{c:Go.Obj}{h':Heap}
  (hi:ι i=none) (hin:i<h'.n) (hnn:h.n<=h'.n)
  (hg:∀j,h'.get j=if j=i then some o else h.get j)
  (hblk:wn.blk=w.heap.size) (hw:∀b,b<w.heap.size->w'.heap[b]?=w.heap[b]?) (hnew:w'.heap[wn.blk]?=some c)
  (ho:ORel N CR (λj=>if j=i then some wn else ι j) ro o wn c) :
  HR N CR (λj=>if j=i then some wn else ι j) ro h' w' :=
 hh.put hi hin hnn hg
  (λj oj u hj hu e=>by
   obtain⟨_,u',hu',c',hc',_⟩:=hh.live j oj hj;rw[hu]at hu'; cases hu';have:=(Array.getElem?_eq_some_iff.1 hc').1;omega)
  (λb c hb e=>by
   obtain⟨⟨_,_,h1⟩,_⟩:=hh.rd b c hb;have:=(Array.getElem?_eq_some_iff.1 h1).1;omega)
  (λb o hb e=>by
   have:=(Array.getElem?_eq_some_iff.1 (hh.kb b o hb).1).1;omega)
  (λb _ hb=>hw b hb) hnew ho
theorem HR.read{h:Heap}{w:World}(hh:HR N CR ι ro h w){b:Nat}{c:Array Value}{e:TypeId}{fz:Nat × Nat}(hb:w.heap[b]?=some (.cells c e fz))
  (hn:∀j oj u,h.get j=some oj->ι j=some u->u.blk≠b) (hr:∀c',ro b=some c'->c'=c) :
  HR N CR ι (λb'=>if b'=b then some c else ro b') h w:=by
 have hext:∀b' c',ro b'=some c'->(if b'=b then some c else ro b')=some c':=λb' c' h'=>by
  by_cases e:b'=b
  ·subst e; simp[hr c' h']
  ·rw[Jaa e]; exact h'
 refine⟨λi o hi=>?_,hh.dist,λb' c' hb'=>?_,hh.fresh,hh.kb⟩
 ·obtain⟨h1,u,h2,c',h3,h4⟩:=hh.live i o hi;exact⟨h1,u,h2,c',h3,h4.mono (λ_ _ h=>h) hext⟩
 ·by_cases e':b'=b
  ·subst e';simp only[if_true]at hb'; cases hb';exact⟨⟨e,fz,hb⟩,λj oj u hj hu=>hn j oj u hj hu⟩
  ·simp only[Jaa e']at hb';exact hh.rd b' c' hb'
theorem HR.set{h:Heap}{w w':World}(hh:HR N CR ι ro h w){i:Nat}{o o':Obj}{wn:Plc}{c:Go.Obj}
  (hi:h.get i=some o) (hwn:ι i=some wn) (hw:∀b,b≠wn.blk->w'.heap[b]?=w.heap[b]?) (hc:w'.heap[wn.blk]?=some c) (ho:ORel N CR ι ro o' wn c) :
  HR N CR ι ro (h.set i o') w':=by
 have hg:∀j,(h.set i o').get j=if j=i then some o' else h.get j:=λj=>qBp h i j o';refine⟨?_,?_,?_,hh.fresh,?_⟩
 ·intro j oj hj;rw[hg]at hj
  by_cases e:j=i
  ·subst e;simp only[if_true]at hj; cases hj;exact⟨(hh.live j o hi).1,wn,hwn,c,hc,ho⟩
  ·rw[Jaa e]at hj;obtain⟨h1,u,h2,c',h3,h4⟩:=hh.live j oj hj;refine⟨h1,u,h2,c',?_,h4⟩;rw[hw _ λe'=>e (hh.dist j i oj o u wn hj hi h2 hwn e')]; exact h3
 ·intro j k oj ok uj uk hj hk huj huk e;have f:∀m om,(h.set i o').get m=some om->∃om',h.get m=some om':=λm om hm=>by
   rw[hg]at hm
   by_cases e:m=i
   ·subst e; exact⟨o,hi⟩
   ·rw[Jaa e]at hm; exact⟨om,hm⟩
  obtain⟨oj',hj'⟩:=f j oj hj;obtain⟨ok',hk'⟩:=f k ok hk;exact hh.dist j k oj' ok' uj uk hj' hk' huj huk e
 ·intro b c' hb;obtain⟨⟨e,fz,h1⟩,h2⟩:=hh.rd b c' hb;refine⟨⟨e,fz,?_⟩,λj oj u hj hu=>?_⟩
  ·rw[hw _ λe'=>h2 i o wn hi hwn e'.symm]; exact h1
  ·rw[hg]at hj
   by_cases e:j=i
   ·subst e; exact h2 j o u hi hu
   ·rw[Jaa e]at hj; exact h2 j oj u hj hu
 ·intro b o2 hb;obtain⟨h1,h2⟩:=hh.kb b o2 hb;refine⟨?_,λj oj u hj hu=>?_⟩
  ·rw[hw _ λe'=>h2 i o wn hi hwn e'.symm]; exact h1
  ·rw[hg]at hj
   by_cases e:j=i
   ·subst e; exact h2 j o u hi hu
   ·rw[Jaa e]at hj; exact h2 j oj u hj hu
theorem HR.kill{h:Heap}{w:World}(hh:HR N CR ι ro h w)(i:Nat):HR N CR ι ro (h.kill i) w:=by
 have hg:∀j,(h.kill i).get j=if j=i then none else h.get j:=qBr h i;have f:∀m om,(h.kill i).get m=some om->h.get m=some om:=λm om hm=>by
  rw[hg]at hm
  by_cases e:m=i
  ·rw[Jab e]at hm; cases hm
  ·rw[Jaa e]at hm; exact hm
 exact⟨λj oj hj=>hh.live j oj (f j oj hj),λj k oj ok uj uk hj hk=>hh.dist j k oj ok uj uk (f j oj hj) (f k ok hk),
  λb c hb=>⟨(hh.rd b c hb).1,λj oj u hj=>(hh.rd b c hb).2 j oj u (f j oj hj)⟩,hh.fresh,
  λb o hb=>⟨(hh.kb b o hb).1,λj oj u hj=>(hh.kb b o hb).2 j oj u (f j oj hj)⟩⟩
end
variable {N:Num}{ι:Inj}{ro:RO}{P:Program}{tm:Tm}{a:Act}{v:V}{p:Op}
def qa5(P:Program)(N:Num)(ι:Inj)(ro:RO)(a:Act)(p:Op)(v:V):Prop :=
 ∃x,VR N ι ro v x/\∀(o:Oper) (w:World),o.op=p->(execOp a.eval o).run P w=.ok (.value x) w
theorem qBL{b:Bool}:VR N ι ro (.bool b) (.bool b):=by simp only[VR]
theorem qBz{k:IntKind}{n:Int}:VR N ι ro (.int k n) (.int k n):=by simp only[VR]
theorem sP_mov{x:Opd}(hok:okP P N (.mov x) p=true)(htm:VRtm N ι ro tm a.tmps)(hev:(qas (.mov x)).run tm=some v):qa5 P N ι ro a p v:=by
 simp only[qas,Jae]at hev;subst hev;cases p<;>simp[okP]at hok
 all_goals exact⟨_,qan htm hok,λo w h=>by simp[execOp,h]⟩
theorem qrs{c x y:Opd}(hok:okP P N (.pick c x y) p=true)(htm:VRtm N ι ro tm a.tmps)(hev:(qas (.pick c x y)).run tm=some v):qa5 P N ι ro a p v:=by
 simp only[qas]at hev;cases p<;>simp[okP]at hok
 obtain⟨⟨h1,h2⟩,h3⟩:=hok;have h1:=qan htm h1;have h2:=qan htm h2;have h3:=qan htm h3;split at hev
 ·rename_i t ht;rw[ht]at h1;simp only[VR]at h1;cases t<;>simp only[cond,Jae]at hev<;>subst hev
  ·exact⟨_,h3,λo w h=>by simp[execOp,h,h1,asBool]⟩
  ·exact⟨_,h2,λo w h=>by simp[execOp,h,h1,asBool]⟩
 ·cases hev
theorem qqi{f:Int->Int->Bool}{x y v:V}(h:cmpV f x y=some v):∃k n m,x=.int k n/\y=.int k m/\v=.bool (f n m):=by
 unfold cmpV at h;cases x<;>simp only[reduceCtorEq]at h
 cases y<;>simp only[reduceCtorEq]at h
 rename_i k n l m;cases hk:ikB k l<;>simp[hk]at h
 rw[qf0]at hk; simp at hk; subst hk;exact⟨k,n,m,rfl,rfl,h.symm⟩
theorem qiS{f:IntKind->Int->Int->Option Int}{x y v:V}(h:ariV f x y=some v):∃k n m r,x=.int k n/\y=.int k m/\f k n m=some r/\v=.int k r:=by
 unfold ariV at h;cases x<;>simp only[reduceCtorEq]at h
 cases y<;>simp only[reduceCtorEq]at h
 rename_i k n l m;cases hk:ikB k l<;>simp[hk]at h
 rw[qf0]at hk; simp at hk; subst hk;cases hr:f k n m<;>simp[hr]at h
 exact⟨k,n,m,_,rfl,rfl,hr,h.symm⟩
theorem qlf{f:IntKind->Int->Nat->Int}{x y v:V}(h:shiV f x y=some v):∃k n l m,x=.int k n/\y=.int l (.ofNat m)/\v=.int k (f k n (Nat.min m k.bits)):=by
 unfold shiV at h;cases x<;>simp only[reduceCtorEq]at h
 cases y<;>simp only[reduceCtorEq]at h
 rename_i k n l m;cases m<;>simp at h
 exact⟨k,n,l,_,rfl,rfl,h.symm⟩
theorem qoH{x y:V}{b:Bool}(h:eqV x y=some b):(∃k n m,x=.int k n/\y=.int k m/\b=decide (n=m))\/(∃s t,x=.str s/\y=.str t/\b=(s == t)):=by
 unfold eqV at h;cases x<;>simp only[reduceCtorEq]at h
 ·cases y<;>simp only[reduceCtorEq]at h
  rename_i k n l m;cases hk:ikB k l<;>simp[hk]at h
  rw[qf0]at hk; simp at hk; subst hk;rw[qek]at h;exact .inl ⟨k,n,m,rfl,rfl,h.symm⟩
 ·cases y<;>simp only[reduceCtorEq]at h
  simp at h;exact .inr ⟨_,_,rfl,rfl,h.symm⟩
theorem sP_bin{op:BinOp}{x y:Opd}(hok:okP P N (.bin op x y) p=true)(htm:VRtm N ι ro tm a.tmps)(hev:(qas (.bin op x y)).run tm=some v):qa5 P N ι ro a p v:=by
 simp only[qas]at hev;cases p<;>simp[okP]at hok
 obtain⟨⟨rfl,hx⟩,hy⟩:=hok;have hx:=qan htm hx;have hy:=qan htm hy;cases op<;>simp only[binK]at hev
 case add =>
  unfold addV at hev;cases hxv:x.ev tm<;>simp only[hxv,reduceCtorEq]at hev
  ·cases hyv:y.ev tm<;>simp only[hyv,reduceCtorEq]at hev
   rename_i k n l m;cases hk:ikB k l<;>simp[hk]at hev
   rw[qf0]at hk; simp at hk; subst hk;rw[hxv]at hx; rw[hyv]at hy;simp only[VR]at hx hy;subst hev;exact⟨.int k _,qBz,λo w h=>by simp[execOp,h,hx,hy,eqGuard,binOp,Op.intArith,qiI]⟩
  ·cases hyv:y.ev tm<;>simp only[hyv,reduceCtorEq]at hev
   rename_i s t;cases hk:Nat.blt (s.length+t.length) 4294967296<;>simp[hk]at hev
   rw[Nat.blt_eq]at hk;rw[hxv]at hx; rw[hyv]at hy;simp only[VR]at hx hy;obtain⟨s',hs',rfl⟩:=hx;obtain⟨t',ht',rfl⟩:=hy;subst hev;have h1:s'.size=s'.data.toList.length:=by rw[<-ByteArray.size_data]; simp
   have h2:t'.size=t'.data.toList.length:=by rw[<-ByteArray.size_data]; simp
   refine⟨.string (s'++t'),by simp only[VR]; exact⟨_,rfl,by simp[Joins.data_append]⟩,λo w h=>?_⟩;have hb:¬(((s'.size+t'.size:Nat):Int) > IntKind.i64.max):=by
    rw[h1,h2]; simp[IntKind.max,IntKind.signed,IntKind.bits]; omega
   have hr:(Op.stringOp .add s' t').run P w=.ok (.string (s'++t')) w:=by
    unfold Op.stringOp;simp only;rw[Jaa hb];rfl
   simp[execOp,h,hs',ht',eqGuard,binOp,hr]
 case eql =>
  cases he:eqV (x.ev tm) (y.ev tm)<;>simp[he]at hev
  subst hev;rcases qoH he with ⟨k,n,m,h1,h2,rfl⟩|⟨s,t,h1,h2,rfl⟩
  ·rw[h1]at hx; rw[h2]at hy;simp only[VR]at hx hy;exact⟨.bool (decide (n=m)),qBL,λo w h=>by simp[execOp,h,hx,hy,eqGuard,binOp,Op.intCmp]; rfl⟩
  ·rw[h1]at hx; rw[h2]at hy;simp only[VR]at hx hy;obtain⟨s',hs',rfl⟩:=hx;obtain⟨t',ht',rfl⟩:=hy;exact⟨.bool _,qBL,λo w h=>by simp[execOp,h,hs',ht',eqGuard,binOp,Op.stringOp,ByteArray.toList_eq]⟩
 case neq =>
  cases he:eqV (x.ev tm) (y.ev tm)<;>simp[he]at hev
  subst hev;rcases qoH he with ⟨k,n,m,h1,h2,rfl⟩|⟨s,t,h1,h2,rfl⟩
  ·rw[h1]at hx; rw[h2]at hy;simp only[VR]at hx hy;exact⟨.bool (!decide (n=m)),qBL,λo w h=>by simp[execOp,h,hx,hy,eqGuard,binOp,Op.intCmp]; rfl⟩
  ·rw[h1]at hx; rw[h2]at hy;simp only[VR]at hx hy;obtain⟨s',hs',rfl⟩:=hx;obtain⟨t',ht',rfl⟩:=hy;exact⟨.bool _,qBL,λo w h=>by simp[execOp,h,hs',ht',eqGuard,binOp,Op.stringOp,ByteArray.toList_eq]⟩
 case quo =>
  obtain⟨k,n,m,r,h1,h2,h3,rfl⟩:=qiS hev;rw[h1]at hx; rw[h2]at hy;simp only[VR]at hx hy;rw[qek]at h3
  by_cases hm:m=0
  ·simp[hm]at h3
  ·simp[hm]at h3; subst h3;exact⟨.int k _,qBz,λo w h=>by simp[execOp,h,hx,hy,eqGuard,binOp,Op.intDiv,hm,qiI]⟩
 case rem =>
  obtain⟨k,n,m,r,h1,h2,h3,rfl⟩:=qiS hev;rw[h1]at hx; rw[h2]at hy;simp only[VR]at hx hy;rw[qek]at h3
  by_cases hm:m=0
  ·simp[hm]at h3
  ·simp[hm]at h3; subst h3;exact⟨.int k _,qBz,λo w h=>by simp[execOp,h,hx,hy,eqGuard,binOp,Op.intDiv,hm]⟩
 case shl =>
  obtain⟨k,n,l,m,h1,h2,rfl⟩:=qlf hev;have hm:¬(Int.ofNat m<0):=by simp
  have hm':(Int.ofNat m).toNat=m:=rfl;rw[h1]at hx; rw[h2]at hy;simp only[VR]at hx hy;exact⟨.int k _,qBz,λo w h=>by simp[execOp,h,hx,hy,eqGuard,binOp,Op.shift,qiI,Nat.min_def,hm,hm',-Int.ofNat_eq_natCast]⟩
 case shr =>
  obtain⟨k,n,l,m,h1,h2,rfl⟩:=qlf hev;have hm:¬(Int.ofNat m<0):=by simp
  have hm':(Int.ofNat m).toNat=m:=rfl;rw[h1]at hx; rw[h2]at hy;simp only[VR]at hx hy;exact⟨.int k _,qBz,λo w h=>by simp[execOp,h,hx,hy,eqGuard,binOp,Op.shift,Nat.min_def,hm,hm',-Int.ofNat_eq_natCast]⟩
 case lss|leq|gtr|geq =>
  obtain⟨k,n,m,h1,h2,rfl⟩:=qqi hev;rw[h1]at hx; rw[h2]at hy;simp only[VR]at hx hy;exact⟨.bool _,qBL,λo w h=>by simp[execOp,h,hx,hy,eqGuard,binOp,Op.intCmp,qgP,qgZ]⟩
 all_goals
  obtain⟨k,n,m,r,h1,h2,h3,rfl⟩:=qiS hev;rw[h1]at hx; rw[h2]at hy;simp only[VR]at hx hy;cases h3;exact⟨.int k _,qBz,λo w h=>by simp[execOp,h,hx,hy,eqGuard,binOp,Op.intArith,Op.intBits,qiI]⟩
theorem sP_un{op:UnOp}{x:Opd}(hok:okP P N (.un op x) p=true)(htm:VRtm N ι ro tm a.tmps)(hev:(qas (.un op x)).run tm=some v):qa5 P N ι ro a p v:=by
 simp only[qas]at hev;cases p<;>simp[okP]at hok
 obtain⟨rfl,hx⟩:=hok;have hx:=qan htm hx;cases op<;>cases hxv:x.ev tm<;>simp[hxv,unV]at hev<;>rw[hxv]at hx<;>simp only[VR]at hx<;>subst hev
 ·exact⟨.int _ _,qBz,λo w h=>by simp[execOp,h,hx,Op.unary,Op.intArith,qiI]⟩
 ·exact⟨.int _ _,qBz,λo w h=>by simp[execOp,h,hx,Op.unary,Op.intBits,qiI]⟩
 ·exact⟨.bool _,qBL,λo w h=>by simp[execOp,h,hx,Op.unary]⟩
theorem sP_ci{k:IntKind}{x:Opd}(hok:okP P N (.ci k x) p=true)(htm:VRtm N ι ro tm a.tmps)(hev:(qas (.ci k x)).run tm=some v):qa5 P N ι ro a p v:=by
 simp only[qas]at hev;cases p<;>simp[okP]at hok
 rename_i s d y;obtain⟨⟨hs,hx⟩,hd⟩:=hok;have hx:=qan htm hx;obtain⟨us,hus⟩:=Option.isSome_iff_exists.1 hs;split at hd
 ·rename_i l hl;simp at hd; subst hd;cases hxv:x.ev tm<;>simp[hxv]at hev
  rw[hxv]at hx; simp only[VR]at hx; subst hev;exact⟨.int _ _,qBz,λo w h=>by simp[execOp,h,hx,convert,underlying,hus,hl,Conv.intToInt,qiI]⟩
 ·cases hd
theorem sP_mki{t:Nat}{x:Opd}(hok:okP P N (.mki t x) p=true)(htm:VRtm N ι ro tm a.tmps)(hev:(qas (.mki t x)).run tm=some v):qa5 P N ι ro a p v:=by
 simp only[qas,Jae]at hev;subst hev;cases p<;>simp[okP]at hok
 obtain⟨⟨rfl,hx⟩,hd⟩:=hok;have hx:=qan htm hx;refine⟨.iface _ _,by simp only[VR]; exact⟨_,rfl,hx⟩,λo w h=>?_⟩;cases hu:P.underlying (N.t t)with
 | none=>simp[hu]at hd
 | some d=>cases d<;>simp[hu]at hd<;>simp[execOp,h,Instr.makeInterface,underlying,hu]
theorem sP_mkf{f:Nat}{xs ys:List Opd}(hok:okP P N (.mkf f xs ys) p=true)(htm:VRtm N ι ro tm a.tmps)(hev:(qas (.mkf f xs ys)).run tm=some v):qa5 P N ι ro a p v:=by
 simp only[qas,Jae]at hev;subst hev;cases p<;>try (simp[okP]at hok; done)
 rename_i fn xs' ys';cases fn<;>simp[okP]at hok
 obtain⟨⟨rfl,hx⟩,hy⟩:=hok;refine⟨.func (.func (N.f f)) (xs'.map a.eval) (ys'.map a.eval),?_,λo w h=>by simp[execOp,h,Instr.makeFunc]⟩;simp only[VR];exact⟨_,_,rfl,by simpa using qd4 htm hx,by simpa using qd4 htm hy⟩
theorem sP_ext{i:Nat}{x:Opd}(hok:okP P N (.ext i x) p=true)(htm:VRtm N ι ro tm a.tmps)(hev:(qas (.ext i x)).run tm=some v):qa5 P N ι ro a p v:=by
 simp only[qas]at hev;cases p<;>simp[okP]at hok
 obtain⟨rfl,hx⟩:=hok;have hx:=qan htm hx;cases hxv:x.ev tm<;>simp[hxv]at hev
 rw[hxv]at hx;simp only[VR]at hx;obtain⟨t,ht,hl⟩:=hx;rw[qjt]at hev;obtain⟨z,hz,hr⟩:=hl.get hev;exact⟨z,hr,λo w h=>by simp[execOp,h,ht,Instr.extract,show t[i]?=some z by simpa using hz]⟩
theorem qrt{x:Opd}(hok:okP P N (.nilc x) p=true)(htm:VRtm N ι ro tm a.tmps)(hev:(qas (.nilc x)).run tm=some v):qa5 P N ι ro a p v:=by
 simp only[qas]at hev;cases p<;>simp[okP]at hok
 have hx:=qan htm hok;have hv:v=x.ev tm:=by
  cases hxv:x.ev tm<;>simp[hxv,qcT]at hev<;>exact hev.symm
 rw[<-hv]at hx;refine⟨_,hx,λo w h=>?_⟩;rw[<-hv]at hev;cases v<;>simp[qcT]at hev<;>simp only[VR]at hx
 ·obtain⟨_,_,e⟩:=hx; simp[execOp,h,e]
 ·obtain⟨_,_,_,e,_⟩:=hx; simp[execOp,h,e]
 ·obtain⟨_,_,_,_,_,e,_⟩:=hx; simp[execOp,h,e]
 ·obtain⟨_,_,e,_⟩:=hx; simp[execOp,h,e]
 ·obtain⟨_,_,e⟩:=hx; simp[execOp,h,e]
 ·obtain⟨_,_,e,_⟩:=hx; simp[execOp,h,e]
 ·obtain⟨_,_,e⟩:=hx; simp[execOp,h,e]
 ·obtain⟨_,e,_⟩:=hx; simp[execOp,h,e]
theorem qrw{t:Nat}{ok:Bool}{zero:V}{x:Opd}(hN:∀t u,N.t t=N.t u->t=u)(hok:okP P N (.asrt t ok zero x) p=true)(htm:VRtm N ι ro tm a.tmps)(hev:(qas (.asrt t ok zero x)).run tm=some v):qa5 P N ι ro a p v:=by
 simp only[qas]at hev;cases p<;>simp[okP]at hok
 obtain⟨⟨⟨⟨rfl,rfl⟩,hx⟩,hz⟩,hd⟩:=hok;have hx:=qan htm hx;unfold okZ at hz;split at hz
 ·rename_i z hz';have hz:=okV_VR (N:=N) (ι:=ι) (ro:=ro) zero z hz;unfold qht at hz';cases hi:P.info? (N.t t)with
  | none=>simp[hi]at hz'
  | some info =>
   simp[hi]at hz';have htup:∀{v:V}{x:Value}{b:Bool},VR N ι ro v x->VR N ι ro (.tup [v,.bool b]) (.tuple #[x,.bool b]):=λh=>by
    simp only[VR]; exact⟨_,rfl,VRs.cons h (VRs.cons (by simp only[VR]) VRs.nil)⟩
   cases hu:P.underlying (N.t t)with
   | none=>simp[hu]at hd
   | some d =>
    cases hxv:x.ev tm<;>simp[hxv]at hev<;>rw[hxv]at hx<;>simp only[VR]at hx
    ·rename_i u y;obtain⟨y',e,hy⟩:=hx;cases hb:Nat.beq t u
     ·cases ok<;>simp[hb]at hev
      subst hev;have hne:¬N.t u=N.t t:=λe=>by have:=hN _ _ e; subst this; simp at hb
      refine⟨_,htup hz,λo w h=>?_⟩;cases d<;>simp[hu]at hd<;>simp[execOp,h,e,Instr.typeAssert,underlying,hu,hne,zeroValue,typeInfo,hi,hz']
     ·rw[Jas]at hb;subst hb;cases ok<;>simp at hev<;>subst hev
      ·refine⟨_,hy,λo w h=>?_⟩;cases d<;>simp[hu]at hd<;>simp[execOp,h,e,Instr.typeAssert,underlying,hu]
      ·refine⟨_,htup hy,λo w h=>?_⟩;cases d<;>simp[hu]at hd<;>simp[execOp,h,e,Instr.typeAssert,underlying,hu]
    ·cases ok<;>simp at hev
     subst hev;refine⟨_,htup hz,λo w h=>?_⟩;cases d<;>simp[hu]at hd<;>simp[execOp,h,hx,Instr.typeAssert,underlying,hu,zeroValue,typeInfo,hi,hz']
 ·cases hz
variable {N:Num}{ι:Inj}{ro:RO}{P:Program}{tm:Tm}{a:Act}{v:V}{p:Op}
theorem qa4{t:TypeId}{n:Nat}(h:qbA P t=some n)(w:World):(sizeOf t).run P w=.ok n w:=by
 unfold qbA at h;cases hi:P.info? t with
 | none=>simp[hi]at h
 | some i=>simp[hi]at h; subst h; simp[sizeOf,typeInfo,hi]
theorem qct{t:TypeId}{b:Bool}(h:aggT P t=some b)(w:World):(isAgg t).run P w=.ok b w:=by
 unfold aggT at h;cases hu:P.underlying t with
 | none=>simp[hu]at h
 | some d=>cases d<;>simp[hu]at h<;>subst h<;>simp[isAgg,underlying,hu]
theorem qg6{i:V}{len j:Nat}(h:idx i len=some j):∃k,i=.int k (.ofNat j)/\j<len:=by
 unfold idx at h;cases i<;>simp only[reduceCtorEq]at h
 rename_i k n;cases n<;>simp only[reduceCtorEq]at h
 rename_i m;cases hb:Nat.blt m len<;>simp[hb]at h
 rw[Nat.blt_eq]at hb;subst h;exact⟨k,rfl,hb⟩
theorem qBU(w:Plc)(r o d:Nat):(w.at r o).add d=w.at r (o+d):=by
 unfold Addr.add Plc.at
 split
 ·subst_vars; rfl
 ·simp; omega
theorem qBv(b x d:Nat):(⟨b,x,none⟩:Addr).add d=⟨b,x+d,none⟩:=by
 unfold Addr.add;split
 ·subst_vars; rfl
 ·rfl
theorem qpo{off:Nat}{x:Opd}(hok:okP P N (.faddr off x) p=true)(htm:VRtm N ι ro tm a.tmps)(hev:(qas (.faddr off x)).run tm=some v):qa5 P N ι ro a p v:=by
 simp only[qas]at hev;cases p<;>simp[okP]at hok
 rename_i s y f;obtain⟨hx,hd⟩:=hok;have hx:=qan htm hx;cases hu:P.underlying s with
 | none=>simp[hu]at hd
 | some d =>
  cases d<;>simp[hu]at hd
  rename_i fs;cases hf:fs[f]? with
  | none=>simp[hf]at hd
  | some g =>
   simp only[hf,Jad,beq_iff_eq]at hd;obtain⟨hg,hs⟩:=hd;subst hg;cases hsz:qbA P g.type with
   | none=>simp[hsz]at hs
   | some n =>
    have hn:n≠0:=by rintro rfl; simp[hsz]at hs
    have hsr:=qa4 hsz;cases hxv:x.ev tm<;>simp only[hxv,reduceCtorEq,Jae]at hev<;>rw[hxv]at hx<;>subst hev
    ·simp only[VR]at hx;obtain⟨wn,hi,e⟩:=hx;refine⟨.pointer (some (wn.at _ (_+g.offset))),by simp only[VR]; exact⟨wn,hi,rfl⟩,λo w h=>?_⟩;simp[execOp,h,Instr.fieldAt,underlying,hu,hf,e,Instr.sureAddr,fieldPlace,hsr,hn,qBU]
    ·rw[qBA]at hx;obtain⟨b,ad,c,e,hro,hc⟩:=hx;refine⟨.pointer (some ⟨b,ad+(_+g.offset),none⟩),by rw[qBA]; exact⟨b,ad,c,rfl,hro,hc⟩,λo w h=>?_⟩;simp[execOp,h,Instr.fieldAt,underlying,hu,hf,e,Instr.sureAddr,fieldPlace,hsr,hn,qBv,Nat.add_assoc]
theorem qpn{esz:Nat}{x i:Opd}(hok:okP P N (.iaddr esz x i) p=true)(htm:VRtm N ι ro tm a.tmps)(hev:(qas (.iaddr esz x i)).run tm=some v):qa5 P N ι ro a p v:=by
 simp only[qas]at hev;cases p<;>simp[okP]at hok
 rename_i t y j;obtain⟨⟨hx,hi⟩,hd⟩:=hok;have hx:=qan htm hx;have hi:=qan htm hi;cases hu:P.underlying t with
 | none=>simp[hu]at hd
 | some d =>
  cases d<;>simp[hu]at hd
  rename_i e;have hsr:=qa4 hd;cases hxv:x.ev tm<;>simp only[hxv,reduceCtorEq]at hev<;>rw[hxv]at hx
  ·rename_i id lo len ez full;cases he:Nat.beq ez esz<;>simp[he]at hev
   rw[Jas]at he; subst he;split at hev
   ·rename_i q hq;cases hev;obtain⟨k,hik,hlt⟩:=qg6 hq;rw[hik]at hi;simp only[VR]at hx hi;obtain⟨wn,hw,hez,ad,cap,e1,h1,h2,h3⟩:=hx;have h3:ad=wn.at lo 0:=h3.elim (λh3=>by omega) (λh3=>h3.1);subst h3;refine⟨.pointer (some (wn.at (lo+q) 0)),by simp only[VR]; exact⟨wn,hw,rfl⟩,λo w h=>?_⟩;have hlt':(0:Int)<=Int.ofNat q/\Int.ofNat q<(len:Int):=by simp; omega
    have ha:(wn.at lo 0).add (q * ez)=wn.at (lo+q) 0:=by
     rw[qBU]; unfold Plc.at; simp[hez,Nat.add_mul]; omega
    simp[execOp,h,Instr.indexAt,asIntOf,hi,underlying,hu,e1,hsr];rw[Jab (by simpa using hlt')];simp[ha]
   ·cases hev
  ·rename_i rows full;split at hev
   ·rename_i q hq;obtain⟨k,hik,hlt⟩:=qg6 hq;rw[qcS]at hev;cases hr:rows[q]? with
    | none=>simp[hr]at hev
    | some r =>
     simp only[hr]at hev;cases he:Nat.beq r.length esz<;>simp[he]at hev
     rw[Jas]at he;subst hev;rw[hik]at hi;rw[qBx]at hx;simp only[VR]at hi;obtain⟨ad,cap,e1,h1,h2,h3⟩:=hx;rcases h3 with h3|⟨h3,c,ez,h4,h5⟩
     ·subst h3; simp at hr
     ·have hez:ez=esz:=by rw[<-he]; exact(h5.1 r (Jar hr)).symm
      subst hez;refine⟨.pointer (some ⟨ad.block,(ad.off+q * ez)+0,none⟩),by rw[qBA]; exact⟨ad.block,_,c,rfl,h4,λj u hj=>h5.2 q r hr j u hj⟩,λo w h=>?_⟩;have hlt':(0:Int)<=Int.ofNat q/\Int.ofNat q<((rows.length:Nat):Int):=by simp; omega
      have ha:ad.add (q * ez)=⟨ad.block,ad.off+q * ez,none⟩:=by
       cases ad; simp only at h3; subst h3; rw[qBv]
      simp[execOp,h,Instr.indexAt,asIntOf,hi,underlying,hu,e1,hsr];rw[Jab (by simpa using hlt')];simp[ha]
   ·cases hev
theorem qnE{len esz:Nat}{x i:Opd}(hok:okP P N (.iaddrA len esz x i) p=true)(htm:VRtm N ι ro tm a.tmps)(hev:(qas (.iaddrA len esz x i)).run tm=some v):qa5 P N ι ro a p v:=by
 simp only[qas]at hev;cases p<;>simp[okP]at hok
 rename_i t y j;obtain⟨⟨hx,hi⟩,hd⟩:=hok;have hx:=qan htm hx;have hi:=qan htm hi;cases hu:P.underlying t with
 | none=>simp[hu]at hd
 | some d =>
  cases d<;>simp[hu]at hd
  rename_i n e;obtain⟨rfl,hd⟩:=hd;have hsr:=qa4 hd;split at hev
  ·rename_i q hq;obtain⟨k,hik,hlt⟩:=qg6 hq;rw[hik]at hi;simp only[VR]at hi;have hlt':(0:Int)<=Int.ofNat q/\Int.ofNat q<((n:Nat):Int):=by simp; omega
   cases hxv:x.ev tm<;>simp only[hxv,reduceCtorEq,Jae]at hev<;>rw[hxv]at hx<;>subst hev
   ·simp only[VR]at hx;obtain⟨wn,hw,e1⟩:=hx;refine⟨.pointer (some (wn.at _ (_+q * esz))),by simp only[VR]; exact⟨wn,hw,rfl⟩,λo w h=>?_⟩;simp[execOp,h,Instr.indexAt,asIntOf,hi,underlying,hu,e1,hsr,Instr.sureAddr];rw[Jab (by simpa using hlt')];simp[qBU]
   ·rw[qBA]at hx;obtain⟨b,ad,c,e1,hro,hc⟩:=hx;refine⟨.pointer (some ⟨b,ad+(_+q * esz),none⟩),by rw[qBA]; exact⟨b,ad,c,rfl,hro,hc⟩,λo w h=>?_⟩;simp[execOp,h,Instr.indexAt,asIntOf,hi,underlying,hu,e1,hsr,Instr.sureAddr];rw[Jab (by simpa using hlt')];simp[qBv,Nat.add_assoc]
  ·cases hev
theorem qhT{cs:List V}{xs:Array Value}(h:VRs N ι ro cs xs.toList){off:Nat}{n:Option Nat}{t:TypeId}(hn:okN P n t=true)(hl:qca cs off n=some v) :
  ∃x,VR N ι ro v x/\∀w,(part t xs off).run P w=.ok x w:=by
 cases n with
 | none =>
  simp only[qca,qjt]at hl;obtain⟨x,hx,hr⟩:=h.get hl;refine⟨x,hr,λw=>?_⟩;simp only[okN,beq_iff_eq]at hn;simp[part,qct hn,show xs[off]?=some x by simpa using hx]
 | some n =>
  simp only[okN,Jad,beq_iff_eq]at hn;simp only[qca]at hl;cases hb:Nat.ble (off+n) cs.length<;>simp[hb]at hl
  subst hl;refine⟨.agg (xs.extract off (off+n)),?_,λw=>by simp[part,qct hn.1,qa4 hn.2]⟩;simp only[VR];refine⟨_,rfl,?_⟩;rw[Array.toList_extract];simp only[List.extract];rw[show off+n-off=n by omega];exact(h.drop off).take n
theorem sP_fld{off:Nat}{n:Option Nat}{x:Opd}(hok:okP P N (.fld off n x) p=true)(htm:VRtm N ι ro tm a.tmps)(hev:(qas (.fld off n x)).run tm=some v):qa5 P N ι ro a p v:=by
 simp only[qas]at hev;cases p<;>simp[okP]at hok
 rename_i s y f;obtain⟨hx,hd⟩:=hok;have hx:=qan htm hx;cases hu:P.underlying s with
 | none=>simp[hu]at hd
 | some d =>
  cases d<;>simp[hu]at hd
  rename_i fs;cases hf:fs[f]? with
  | none=>simp[hf]at hd
  | some g =>
   simp only[hf,Jad,beq_iff_eq]at hd;obtain⟨hg,hs⟩:=hd;subst hg;cases hxv:x.ev tm<;>simp only[hxv,reduceCtorEq]at hev
   rw[hxv]at hx;simp only[VR]at hx;obtain⟨xs,e1,hl⟩:=hx;obtain⟨z,hz,hr⟩:=qhT hl hs hev;exact⟨z,hz,λo w h=>by simp[execOp,h,Instr.field,underlying,hu,hf,e1,asAgg,hr]⟩
theorem qrv{len esz:Nat}{ag:Bool}{x i:Opd}(hok:okP P N (.idxA len esz ag x i) p=true)(htm:VRtm N ι ro tm a.tmps)(hev:(qas (.idxA len esz ag x i)).run tm=some v):qa5 P N ι ro a p v:=by
 simp only[qas]at hev;cases p<;>simp[okP]at hok
 rename_i t y j;obtain⟨⟨hx,hi⟩,hd⟩:=hok;have hx:=qan htm hx;have hi:=qan htm hi;cases hu:P.underlying t with
 | none=>simp[hu]at hd
 | some d =>
  cases d<;>simp[hu]at hd
  rename_i n e;obtain⟨⟨rfl,hd⟩,hag⟩:=hd;have hsr:=qa4 hd;cases hxv:x.ev tm<;>simp only[hxv,reduceCtorEq]at hev
  rw[hxv]at hx;simp only[VR]at hx;obtain⟨xs,e1,hl⟩:=hx;split at hev
  ·rename_i q hq;obtain⟨k,hik,hlt⟩:=qg6 hq;rw[hik]at hi;simp only[VR]at hi;have hlt':(0:Int)<=Int.ofNat q/\Int.ofNat q<((n:Nat):Int):=by simp; omega
   have hok:okN P (cond ag (some esz) none) e=true:=by cases ag<;>simp[okN,hag,hd]
   obtain⟨z,hz,hr⟩:=qhT hl hok hev;refine⟨z,hz,λo w h=>?_⟩;simp[execOp,h,Instr.index,asIntOf,hi,underlying,hu,e1,hsr];rw[Jab (by simpa using hlt')];simp[hr]
  ·cases hev
theorem size_data(s:ByteArray):s.data.toList.length=s.size:=by rw[<-ByteArray.size_data]; simp
theorem qiH(s:ByteArray)(j:Nat):s[j]?=s.data.toList[j]?:=by
 by_cases h:j<s.size
 ·rw[ByteArray.getElem?_lt' s j h,Jal (by rw[size_data]; exact h)]; rfl
 ·rw[ByteArray.getElem?_ge' s j h,List.getElem?_eq_none (by rw[size_data]; omega)]
theorem qru{x i:Opd}(hok:okP P N (.idxS x i) p=true)(htm:VRtm N ι ro tm a.tmps)(hev:(qas (.idxS x i)).run tm=some v):qa5 P N ι ro a p v:=by
 simp only[qas]at hev;cases p<;>simp[okP]at hok
 rename_i t y j;obtain⟨⟨hx,hi⟩,hd⟩:=hok;have hx:=qan htm hx;have hi:=qan htm hi;cases hu:P.underlying t with
 | none=>simp[hu]at hd
 | some d =>
  cases d<;>simp[hu]at hd
  cases hxv:x.ev tm<;>simp only[hxv,reduceCtorEq]at hev
  rw[hxv]at hx;simp only[VR]at hx;obtain⟨s,e1,rfl⟩:=hx;split at hev
  ·rename_i q hq;obtain⟨k,hik,hlt⟩:=qg6 hq;rw[hik]at hi;simp only[VR]at hi;cases hc:s.data.toList[q]? with
   | none=>simp[hc]at hev
   | some c =>
    simp only[hc,Jae]at hev;subst hev;refine⟨_,qBz,λo w h=>?_⟩;have hq':(0:Int)<=Int.ofNat q:=by simp
    have hq'':(Int.ofNat q).toNat=q:=rfl;simp[execOp,h,Instr.index,asIntOf,hi,underlying,hu,e1,hq',hq'',qiH,show s.data[q]?=some c by simpa using hc,-Int.ofNat_eq_natCast];rfl
  ·cases hev
theorem sP_cap{x:Opd}(hok:okP P N (.cap x) p=true)(htm:VRtm N ι ro tm a.tmps)(hev:(qas (.cap x)).run tm=some v):qa5 P N ι ro a p v:=by
 simp only[qas]at hev;cases p<;>try (simp[okP]at hok; done)
 rename_i c;obtain⟨callee,args,ats⟩:=c;cases callee<;>try (simp[okP]at hok; done)
 rename_i b;cases b<;>simp[okP]at hok
 obtain⟨hx,hd⟩:=hok;obtain⟨args⟩:=args;cases args with
 | nil=>simp[okOs]at hx
 | cons y r =>
  cases r with
  | cons _ _=>simp[okOs]at hx
  | nil =>
   simp only[okOs,Bool.and_true]at hx;have hx:=qan htm hx;cases ht:ats[0]? with
   | none=>simp[ht]at hd
   | some t =>
    simp only[ht]at hd;cases hu:P.underlying t with
    | none=>simp[hu]at hd
    | some d =>
     cases d<;>simp[hu]at hd
     cases hxv:x.ev tm<;>simp only[hxv,reduceCtorEq]at hev<;>rw[hxv]at hx
     ·simp only[VR]at hx;cases hev;exact⟨_,qBz,λo w h=>by simp[execOp,h,resolve,invoke,builtin,Builtin.cap_,ht,underlying,hu,hx,goInt]⟩
     ·rename_i id lo len ez full;cases full<;>simp at hev
      subst hev;simp only[VR]at hx;obtain⟨wn,hw,hez,ad,cap,e1,h1,h2,h3⟩:=hx;have:=h2 trivial;subst this;exact⟨_,qBz,λo w h=>by simp[execOp,h,resolve,invoke,builtin,Builtin.cap_,ht,underlying,hu,e1,goInt]⟩
     ·rename_i rows full;cases full<;>simp at hev
      subst hev;rw[qBx]at hx;obtain⟨ad,cap,e1,h1,h2,h3⟩:=hx;have:=h2 rfl;subst this;exact⟨_,qBz,λo w h=>by simp[execOp,h,resolve,invoke,builtin,Builtin.cap_,ht,underlying,hu,e1,goInt]⟩
theorem qeX{x:Option Opd}{y:Option Operand}(htm:VRtm N ι ro tm a.tmps)(h:okOo N x y=true){d top n:Nat}(hev:(optK x).run d top tm=some n) :
  (x=none/\y=none/\n=d)\/(∃x' y' k,x=some x'/\y=some y'/\a.eval y'=.int k (.ofNat n)/\n<=top):=by
 cases x with
 | none=>cases y<;>simp[okOo]at h; simp[optK]at hev; exact .inl ⟨rfl,rfl,hev.symm⟩
 | some x =>
  cases y with
  | none=>simp[okOo]at h
  | some y =>
   simp only[okOo]at h;have hx:=qan htm h;simp only[optK]at hev;cases hxv:x.ev tm<;>simp only[hxv,reduceCtorEq]at hev
   rename_i k m;cases m<;>simp only[bnd,reduceCtorEq]at hev
   rename_i m;cases hb:Nat.ble m top<;>simp[hb]at hev
   rw[Jat]at hb;subst hev;rw[hxv]at hx;simp only[VR]at hx;exact .inr ⟨x,y,k,rfl,rfl,hx,hb⟩
theorem qcC{k:IntKind}{n y:Nat}{code:BoundsCode}(h:n<=y)(w:World):(Instr.sliceBound (.int k (n:Int)) y code).run P w=.ok n w:=by
 have h1:(0:Int)<=(n:Int)/\(n:Int)<=(y:Int):=by omega
 have h2:((n:Nat):Int).toNat=n:=rfl;simp only[Instr.sliceBound,asIntOf,Sem.run_bind,Sem.run_pure,Result.andThen_ok];rw[Jab h1,h2]; rfl
theorem qgm{lo hi mx:Option Opd}{lo' hi' mx':Option Operand}(htm:VRtm N ι ro tm a.tmps)(h1:okOo N lo lo'=true)(h2:okOo N hi hi'=true)(h3:okOo N mx mx'=true)
  (hm:mx=none\/hi.isSome=true) {len cap:Nat}{full:Bool}{c:Cut}(hc:len<=cap) (hev:(cutK lo hi mx).run len full tm=some c) (isSlice:Bool) :
  c.lo<=c.hi/\c.hi<=len/\∃m,c.hi<=m/\m<=cap/\(c.full=true->(mx=none->full=true->cap=len)->m=c.hi) /\
   ∀w,(Instr.sliceBounds isSlice len cap (lo'.map a.eval) (hi'.map a.eval) (mx'.map a.eval)).run P w=.ok (c.lo,c.hi,m) w:=by
 cases mx with
 | none =>
  cases mx' with
  | some _=>simp[okOo]at h3
  | none =>
   simp only[cutK]at hev;cases hh:(optK hi).run len len tm with
   | none=>simp[hh]at hev
   | some h =>
    simp only[hh]at hev;cases hl:(optK lo).run 0 h tm with
    | none=>simp[hl]at hev
    | some l =>
     simp only[hl,Jae]at hev;subst hev;have hhi:=qeX htm h2 hh;have hlo:=qeX htm h1 hl;have e1:h<=len:=by rcases hhi with ⟨_,_,rfl⟩|⟨_,_,_,_,_,_,k⟩<;>omega
     have e2:l<=h:=by rcases hlo with ⟨_,_,rfl⟩|⟨_,_,_,_,_,_,k⟩<;>omega
     refine⟨e2,e1,cap,by simp only; omega,Jac _,λhf hc'=>?_,λw=>?_⟩
     ·simp only[Jad,Jas]at hf;rw[hf.2]; exact hc' rfl hf.1
     ·rcases hhi with ⟨_,rfl,rfl⟩|⟨_,y1,k1,_,rfl,hy1,b1⟩<;>rcases hlo with ⟨_,rfl,rfl⟩|⟨_,y2,k2,_,rfl,hy2,b2⟩
      ·simp[Instr.sliceBounds]
      ·simp[Instr.sliceBounds,hy2,qcC b2]
      ·have:=λw=>qcC (P:=P) (k:=k1) (code:=if isSlice=true then BoundsCode.sliceAcap else BoundsCode.sliceAlen) (Jaf b1 hc) w;simp[Instr.sliceBounds,hy1,this]
      ·have:=λw=>qcC (P:=P) (k:=k1) (code:=if isSlice=true then BoundsCode.sliceAcap else BoundsCode.sliceAlen) (Jaf b1 hc) w;simp[Instr.sliceBounds,hy1,this,hy2,qcC b2]
 | some mx =>
  cases mx' with
  | none=>simp[okOo]at h3
  | some m' =>
   simp only[cutK]at hev;cases hmm:(optK (some mx)).run len len tm with
   | none=>simp[hmm]at hev
   | some m =>
    simp only[hmm]at hev;cases hh:(optK hi).run len m tm with
    | none=>simp[hh]at hev
    | some h =>
     simp only[hh]at hev;cases hl:(optK lo).run 0 h tm with
     | none=>simp[hl]at hev
     | some l =>
      simp only[hl,Jae]at hev;subst hev;have hmx:=qeX htm h3 hmm;have hhi:=qeX htm h2 hh;have hlo:=qeX htm h1 hl;rcases hmx with ⟨h,_⟩|⟨_,y0,k0,_,h,hy0,b0⟩
      ·cases h
      cases h;rcases hhi with ⟨h,_,rfl⟩|⟨_,y1,k1,_,rfl,hy1,b1⟩
      ·rcases hm with hm|hm
       ·cases hm
       ·rw[h]at hm; cases hm
      have e2:l<=h:=by rcases hlo with ⟨_,_,rfl⟩|⟨_,_,_,_,_,_,k⟩<;>omega
      refine⟨e2,by simp only; omega,m,b1,by omega,λhf _=>by simp only[Jas]at hf; exact hf.symm,λw=>?_⟩;have r0:=λw=>qcC (P:=P) (k:=k0) (code:=if isSlice=true then BoundsCode.slice3Acap else BoundsCode.slice3Alen) (Jaf b0 hc) w;have r1:=λw=>qcC (P:=P) (k:=k1) (code:=BoundsCode.slice3B) b1 w;rcases hlo with ⟨_,rfl,rfl⟩|⟨_,y2,k2,_,rfl,hy2,b2⟩
      ·simp[Instr.sliceBounds,hy0,r0,hy1,r1]
      ·simp[Instr.sliceBounds,hy0,r0,hy1,r1,hy2,qcC b2]
theorem qau.cut{rows:List (List V)}{c:Array Value}{b ez:Nat}(h:qau N ι ro rows c b ez)(l n:Nat):qau N ι ro ((rows.drop l).take n) c (b+l * ez) ez:=by
 refine⟨λr hr=>h.1 r (List.mem_of_mem_drop (List.mem_of_mem_take hr)),λi r hr j u hu=>?_⟩;rw[List.getElem?_take]at hr;split at hr
 ·rw[List.getElem?_drop]at hr;obtain⟨x,hx,k⟩:=h.2 (l+i) r hr j u hu;exact⟨x,by rw[show b+l * ez+i * ez+j=b+(l+i) * ez+j by rw[Nat.add_mul]; omega]; exact hx,k⟩
 ·cases hr
theorem qpm{esz:Nat}{x:Opd}{lo hi mx:Option Opd}(hok:okP P N (.slice esz x lo hi mx) p=true)(htm:VRtm N ι ro tm a.tmps)(hev:(qas (.slice esz x lo hi mx)).run tm=some v):qa5 P N ι ro a p v:=by
 simp only[qas]at hev;cases p<;>simp[okP]at hok
 rename_i t y lo' hi' mx';obtain⟨⟨⟨⟨⟨hx,h1⟩,h2⟩,h3⟩,hm⟩,hd⟩:=hok;have hx:=qan htm hx;have hm:mx=none\/hi.isSome=true:=hm;cases hu:P.underlying t with
 | none=>simp[hu]at hd
 | some d =>
  cases d<;>simp[hu]at hd
  rename_i e;have hsr:=qa4 hd;unfold qaT at hev;cases hxv:x.ev tm<;>simp only[hxv,reduceCtorEq]at hev<;>rw[hxv]at hx
  ·simp only[VR]at hx;split at hev
   ·rename_i c hc;cases hev;obtain⟨k1,k2,m,k3,k4,k5,hr⟩:=qgm (P:=P) htm h1 h2 h3 hm (Jac 0) hc true;have e1:c.lo=0:=by omega
    have e2:c.hi=0:=by omega
    have e3:m=0:=by omega
    rw[e1,e2,e3]at hr;exact⟨.slice none 0 0,by simp only[VR],λo w h=>by simp[execOp,h,Instr.sliceAt,Instr.slice,underlying,hu,hx,hr,hsr]⟩
   ·cases hev
  ·rename_i id b n ez full;cases he:Nat.beq ez esz<;>simp[he]at hev
   rw[Jas]at he; subst he;split at hev
   ·rename_i c hc;cases hev;simp only[VR]at hx;obtain⟨wn,hw,hez,ad,cap,e1,g1,g2,g3⟩:=hx;obtain⟨k1,k2,m,k3,k4,k5,hr⟩:=qgm (P:=P) htm h1 h2 h3 hm g1 hc true;refine⟨.slice (some (if m=c.lo then ad else ad.add (c.lo * ez))) (c.hi-c.lo) (m-c.lo),?_,λo w h=>?_⟩
    ·simp only[VR];refine⟨wn,hw,hez,_,_,rfl,by omega,λhf=>?_,?_⟩
     ·have:=k5 hf (λ_ h=>g2 h); omega
     ·by_cases hml:m=c.lo
      ·left; omega
      ·right;rw[Jaa hml];rcases g3 with g3|⟨g3,g4⟩
       ·omega
       ·subst g3;refine⟨by rw[qBU]; unfold Plc.at; simp[hez,Nat.add_mul]; omega,?_⟩;have:(b+c.lo+(m-c.lo))<=b+cap:=by omega
        exact Jaf (Nat.add_le_add_left (Nat.mul_le_mul_right _ this) _) g4
    ·simp[execOp,h,Instr.sliceAt,Instr.slice,underlying,hu,e1,hr,hsr];split<;>rfl
   ·cases hev
  ·rename_i rows full;cases he:qa9 esz rows<;>simp[he]at hev
   split at hev
   ·rename_i c hc;cases hev;rw[qBx]at hx;obtain⟨ad,cap,e1,g1,g2,g3⟩:=hx;obtain⟨k1,k2,m,k3,k4,k5,hr⟩:=qgm (P:=P) htm h1 h2 h3 hm g1 hc true;have hlen:((rows.drop c.lo).take (c.hi-c.lo)).length=c.hi-c.lo:=by simp; omega
    refine⟨.slice (some (if m=c.lo then ad else ad.add (c.lo * esz))) (c.hi-c.lo) (m-c.lo),?_,λo w h=>?_⟩
    ·rw[qBx];refine⟨_,_,by rw[hlen],by rw[hlen]; omega,λhf=>?_,?_⟩
     ·have:=k5 hf (λ_ h=>g2 h); rw[hlen]; omega
     ·rcases g3 with g3|⟨g3,cc,ez,g4,g5⟩
      ·subst g3; left; simp
      ·cases rows with
       | nil=>left; simp
       | cons r rows =>
        by_cases hml:m=c.lo
        ·left; apply List.eq_nil_of_length_eq_zero; rw[hlen]; omega
        ·right;rw[Jaa hml];simp only[qa9,Jas]at he;have hez:ez=esz:=by rw[<-he]; exact(g5.1 r (by simp)).symm
         subst hez;cases ad; simp only at g3 g4 g5; subst g3;rw[qBv];exact⟨rfl,cc,ez,g4,g5.cut c.lo (c.hi-c.lo)⟩
    ·simp[execOp,h,Instr.sliceAt,Instr.slice,underlying,hu,e1,hr,hsr];split<;>rfl
   ·cases hev
theorem qnD{x:Opd}{lo hi:Option Opd}(hok:okP P N (.sliceS x lo hi) p=true)(htm:VRtm N ι ro tm a.tmps)(hev:(qas (.sliceS x lo hi)).run tm=some v):qa5 P N ι ro a p v:=by
 simp only[qas]at hev;cases hxv:x.ev tm<;>simp only[hxv,reduceCtorEq]at hev
 rename_i s;split at hev
 ·rename_i c hc;cases hev;cases p
  case convert s d y =>
   cases lo<;>cases hi<;>try (simp[okP]at hok; done)
   simp[okP]at hok;obtain⟨hx,hd⟩:=hok;have hx:=qan htm hx;rw[hxv]at hx;simp only[VR]at hx;obtain⟨s',e1,rfl⟩:=hx;simp only[cutK,optK,Jae]at hc;subst hc;refine⟨.string s',by simp only[VR]; exact⟨s',rfl,by simp only[List.drop_zero,Nat.sub_zero,List.take_length]⟩,λo w h=>?_⟩;cases hs:P.underlying s with
   | none=>simp[hs]at hd
   | some ds =>
    cases hdd:P.underlying d with
    | none=>cases ds<;>simp[hs,hdd]at hd
    | some dd =>
     cases ds<;>simp[hs,hdd]at hd
     cases dd<;>simp at hd
     simp[execOp,h,convert,underlying,hs,hdd,e1]
  case slice t y lo' hi' mx' =>
   cases mx'<;>try (simp[okP]at hok; done)
   simp[okP]at hok;obtain⟨⟨⟨hx,h1⟩,h2⟩,hd⟩:=hok;have hx:=qan htm hx;rw[hxv]at hx;simp only[VR]at hx;obtain⟨s',e1,rfl⟩:=hx;cases hu:P.underlying t with
   | none=>simp[hu]at hd
   | some d =>
    cases d<;>simp[hu]at hd
    obtain⟨k1,k2,m,k3,k4,k5,hr⟩:=qgm (P:=P) (cap:=s'.data.toList.length) htm h1 h2 (mx:=none) (mx':=none) rfl (.inl rfl) (Jac _) hc false;rw[size_data]at hr;refine⟨.string (s'.extract c.lo c.hi),by simp only[VR]; exact⟨_,rfl,Lib.extract_data s' _ _⟩,λo w h=>?_⟩;have hr':∀w,(Instr.sliceBounds false s'.size s'.size (Option.map a.eval lo') (Option.map a.eval hi') none).run P w=.ok (c.lo,c.hi,m) w:=hr;simp[execOp,h,Instr.sliceAt,Instr.slice,underlying,hu,e1,hr']
  all_goals (cases lo<;>cases hi<;>simp[okP]at hok)
 ·cases hev
variable {N:Num}{ι:Inj}{ro:RO}{P:Program}{tm:Tm}{a:Act}{v:V}{p:Op}
theorem qdF:∀(vs row:List V) (o:Nat),(qbW row o vs).length=row.length
 | [],_,_=>rfl
 | v::vs,row,o=>by simp[qbW,qdF vs]
theorem qf1:∀{vs:List V}{xs:List Value}(_:VRs N ι ro vs xs) {cells:List V}{cs:Array Value}(_:VRs N ι ro cells cs.toList) (off k:Nat),
  VRs N ι ro (qbW cells (off+k) vs) ((xs.zipIdx k).foldl (λcs (c,j)=>cs.setIfInBounds (off+j) c) cs).toList
 | [],xs,h,cells,cs,hc,off,k=>by have:=VRs.nil_inv h; subst this; simpa[qbW]using hc
 | v::vs,xs,h,cells,cs,hc,off,k=>by
  obtain⟨x,r,rfl,h1,h2⟩:=VRs.cons_inv h;simp only[qbW,List.zipIdx_cons,List.foldl_cons];rw[Nat.add_assoc];exact qf1 h2 (by simpa using hc.set (off+k) h1) off (k+1)
theorem qeC{place:Nat->Option (Nat × Nat)}:∀{ps:List (Nat × Nat × Opd)}{qs:List (Nat × Operand)}{cells l:List V}{cs:Array Value}(_:VRtm N ι ro tm a.tmps)
  (_:All2 (λ(p:Nat × Nat × Opd) (q:Nat × Operand)=>place q.1=some (p.1,p.2.1)/\okO N p.2.2 q.2=true) ps qs) (_:VRs N ι ro cells cs.toList) (_:qbI cells tm ps=some l),
  ∃cs',VRs N ι ro l cs'.toList/\Instr.fill place cs (qs.map λ(i,x)=>(i,a.eval x))=some cs'
 | [],_,cells,l,cs,htm,h,hc,hev=>by
  cases h; simp[qbI]at hev; subst hev; exact⟨cs,hc,by simp[Instr.fill]⟩
 | (off,size,x)::ps,_,cells,l,cs,htm,h,hc,hev=>by
  obtain⟨⟩|⟨⟨h1,h2⟩,h3⟩:=h;rename_i q qs;simp only[qbI]at hev;cases hb:(Nat.beq (V.cells (x.ev tm)).length size&&Nat.blt 0 size&&Nat.ble (off+size) cells.length)<;>simp only[hb,cond,reduceCtorEq]at hev
  simp only[Jad,Jas,Jat,Nat.blt_eq]at hb;obtain⟨⟨hb1,hb3⟩,hb2⟩:=hb;have hx:=qan htm h2
  by_cases hany:x.ev tm=.any
  ·rw[hany]at hb1; simp[V.cells]at hb1; omega
  ·have hcs:=qBT hx hany;have hl1:=hcs.length;have hl2:=hc.length;have hput:=qf1 hcs hc off 0;obtain⟨cs',k1,k2⟩:=qeC htm h3 hput (by simpa using hev);refine⟨cs',k1,?_⟩;simp only[List.map_cons,Instr.fill,h1];have e1:(a.eval q.2).cells.size=size:=by rw[<-hb1,hl1]; simp
   have e2:¬(off+(a.eval q.2).cells.size > cs.size):=by rw[e1]; simp at hl2; omega
   rw[Jaa (by simp[e1]; simp at hl2; omega)];rw[<-k2];congr 1;rw[<-Array.foldl_toList];simp[Array.toList_zipIdx]
theorem qgI{fs:Array Field}:∀{ps:List (Nat × Nat × Opd)}{qs:List (Nat × Operand)},qfy P N fs ps qs=true ->
  All2 (λ(p:Nat × Nat × Opd) (q:Nat × Operand)=>(∃f,fs[q.1]?=some f/\f.offset=p.1/\qbA P f.type=some p.2.1)/\okO N p.2.2 q.2=true) ps qs
 | [],[],_=>.nil
 | [],_::_,h=>by simp[qfy]at h
 | _::_,[],h=>by simp[qfy]at h
 | (off,sz,x)::ps,(i,y)::qs,h=>by
  simp only[qfy,Jad]at h;obtain⟨⟨h1,h2⟩,h3⟩:=h;refine .cons ⟨?_,h2⟩ (qgI h3);cases hf:fs[i]? with
  | none=>simp[hf]at h1
  | some f=>simp[hf]at h1; exact⟨f,rfl,h1.1,h1.2⟩
theorem qfR{sz:Nat}:∀{ps:List (Nat × Nat × Opd)}{qs:List (Nat × Operand)},qd3 N sz ps qs=true ->
  All2 (λ(p:Nat × Nat × Opd) (q:Nat × Operand)=>(p.1=q.1 * sz/\p.2.1=sz)/\okO N p.2.2 q.2=true) ps qs
 | [],[],_=>.nil
 | [],_::_,h=>by simp[qd3]at h
 | _::_,[],h=>by simp[qd3]at h
 | (off,sz,x)::ps,(i,y)::qs,h=>by
  simp only[qd3,Jad,beq_iff_eq]at h;exact .cons ⟨⟨h.1.1.1,h.1.1.2⟩,h.1.2⟩ (qfR h.2)
theorem qky{fs:List Field}(h:∀f∈fs,∃n,qbA P f.type=some n)(w:World) :
  (fs.mapM λf=>(do pure (f.offset,<-sizeOf f.type):Sem (Nat × Nat))).run P w=.ok (fs.map λf=>(f.offset,(qbA P f.type).getD 0)) w:=by
 induction fs with
 | nil=>rfl
 | cons f fs ih =>
  obtain⟨n,hn⟩:=h f (by simp);rw[List.mapM_cons];simp only[Sem.run_bind,qa4 hn,Result.andThen_ok,Sem.run_pure,ih (λg hg=>h g (by simp[hg])),List.map_cons,hn,Option.getD_some]
theorem qmE{α β : Type}(f : α->Sem β)(xs:Array α)(w:World){ys:List β}(h:(xs.toList.mapM f).run P w=.ok ys w):(xs.mapM f).run P w=.ok ys.toArray w:=by
 have:xs.mapM f=(List.toArray <$> xs.toList.mapM f):=by
  rw[<-Array.toArray_toList (xs:=xs)];rw[List.mapM_toArray]
 rw[this];simp[h]
theorem qd1{zero:List V}{t:TypeId}(h:okZs P zero t=true):∃z,VRs N ι ro zero z.cells.toList/\qbA P t=some zero.length/\ones zero=true/\qht P t=some z/\∀w,(zeroValue t).run P w=.ok z w:=by
 unfold okZs at h;split at h
 ·rename_i z hz;simp only[Jad,beq_iff_eq]at h;refine⟨z,okVs_VRs _ _ h.1.1,h.2,h.1.2,hz,λw=>?_⟩;unfold qht at hz;cases hi:P.info? t with
  | none=>simp[hi]at hz
  | some i=>simp[hi]at hz; simp[zeroValue,typeInfo,hi,hz]
 ·cases h
theorem qpp{zero:List V}{parts:List (Nat × Nat × Opd)}(hok:okP P N (.build zero parts) p=true)(htm:VRtm N ι ro tm a.tmps)(hev:(qas (.build zero parts)).run tm=some v):qa5 P N ι ro a p v:=by
 simp only[qas]at hev;cases p<;>simp[okP]at hok
 rename_i t ps;obtain⟨hz,hd⟩:=hok;obtain⟨z,hz1,_,_,_,hz2⟩:=qd1 (N:=N) (ι:=ι) (ro:=ro) hz;split at hev
 ·rename_i l hl;cases hev;cases hu:P.underlying t with
  | none=>simp[hu]at hd
  | some d =>
   cases d<;>simp[hu]at hd
   ·rename_i len e;cases hs:qbA P e with
    | none=>simp[hs]at hd
    | some sz =>
     simp only[hs]at hd;have hall:=qfR hd;obtain⟨cs',k1,k2⟩:=qeC (place:=λi=>some (i * sz,sz)) htm (hall.mono λp q h=>⟨by simp[h.1.1,h.1.2],h.2⟩) hz1 hl;refine⟨.agg cs',by simp only[VR]; exact⟨cs',rfl,k1⟩,λo w h=>?_⟩;simp only[execOp,h];simp[Instr.build,hz2,underlying,hu,qa4 hs,k2]
   ·rename_i fs;obtain⟨hsz,hd⟩:=hd;have hsz':∀f∈fs.toList,∃n,qbA P f.type=some n:=λf hf=>by
     obtain⟨i,hi⟩:=List.getElem?_of_mem hf;obtain⟨hlt,he⟩:=Jam.1 hi;have:=hsz i (by simpa using hlt);simp only[Array.getElem_toList]at he;rw[he]at this;exact Option.isSome_iff_exists.1 this
    have hall:=qgI hd;have hpl:=λw=>qmE (P:=P) (λf:Field=>(do pure (f.offset,<-sizeOf f.type):Sem (Nat × Nat))) fs w (qky hsz' w);obtain⟨cs',k1,k2⟩:=qeC (place:=λi=>(fs.toList.map λf=>(f.offset,(qbA P f.type).getD 0)).toArray[i]?) htm
     (hall.mono λp q h=>⟨by obtain⟨⟨f,h1,h2,h3⟩,_⟩:=h; simp[h1,h2,h3],h.2⟩) hz1 hl
    refine⟨.agg cs',by simp only[VR]; exact⟨cs',rfl,k1⟩,λo w h=>?_⟩;simp only[execOp,h];simp only[Instr.build,Sem.run_bind,hz2,Result.andThen_ok,underlying,run_program,hu,Sem.run_pure,hpl];have k3:Instr.fill (λx=>(fs.toList.map λf=>(f.offset,(qbA P f.type).getD 0)).toArray[x]?) z.cells (ps.map λx=>match x with|(i,x)=>(i,a.eval x)).toList=some cs':=by simpa using k2
    simp only[k3];rfl
 ·cases hev
theorem qn7{k:IntKind}:∀{xs:List Opd}{ys:List Operand}{n:Int}(_:VRtm N ι ro tm a.tmps) (_:okOs N xs ys=true) (_:qbS k tm n xs=some v),
  ∃m,v=.int k m/\∀w,((ys.map a.eval).foldlM Builtin.min2 (.int k n)).run P w=.ok (.int k m) w
 | [],[],n,_,_,h=>by simp[qbS]at h; exact⟨n,h.symm,λw=>rfl⟩
 | [],_::_,_,_,h,_=>by simp[okOs]at h
 | _::_,[],_,_,h,_=>by simp[okOs]at h
 | x::xs,y::ys,n,htm,h,hev=>by
  simp only[okOs,Jad]at h;have hx:=qan htm h.1;simp only[qbS]at hev;cases hxv:x.ev tm<;>simp only[hxv,reduceCtorEq]at hev
  rename_i l m;rw[hxv]at hx; simp only[VR]at hx;obtain⟨r,hr,hw⟩:=qn7 htm h.2 hev;refine⟨r,hr,λw=>?_⟩;rw[List.map_cons,List.foldlM_cons];simp only[Sem.run_bind,hx,Builtin.min2,Sem.run_pure,Result.andThen_ok];rw[<-hw w];rw[qgP]
  by_cases e:m<n<;>simp[e]
theorem qn9{k:IntKind}:∀{xs:List Opd}{ys:List Operand}{n:Int}(_:VRtm N ι ro tm a.tmps) (_:okOs N xs ys=true) (_:qco k tm n xs=some v),
  ∃m,v=.int k m/\∀w,((ys.map a.eval).foldlM Builtin.max2 (.int k n)).run P w=.ok (.int k m) w
 | [],[],n,_,_,h=>by simp[qco]at h; exact⟨n,h.symm,λw=>rfl⟩
 | [],_::_,_,_,h,_=>by simp[okOs]at h
 | _::_,[],_,_,h,_=>by simp[okOs]at h
 | x::xs,y::ys,n,htm,h,hev=>by
  simp only[okOs,Jad]at h;have hx:=qan htm h.1;simp only[qco]at hev;cases hxv:x.ev tm<;>simp only[hxv,reduceCtorEq]at hev
  rename_i l m;rw[hxv]at hx; simp only[VR]at hx;obtain⟨r,hr,hw⟩:=qn9 htm h.2 hev;refine⟨r,hr,λw=>?_⟩;rw[List.map_cons,List.foldlM_cons];simp only[Sem.run_bind,hx,Builtin.max2,Sem.run_pure,Result.andThen_ok];rw[<-hw w];rw[qgP]
  by_cases e:n<m<;>simp[e]
theorem qgJ{x:Opd}{xs:List Opd}{m:List Operand}(h:okOs N (x::xs) m=true):∃y ys,m=y::ys/\okO N x y=true/\okOs N xs ys=true:=by
 cases m with
 | nil=>simp[okOs]at h
 | cons y ys=>simp only[okOs,Jad]at h; exact⟨y,ys,rfl,h.1,h.2⟩
theorem sP_min{x:Opd}{xs:List Opd}(hok:okP P N (.min x xs) p=true)(htm:VRtm N ι ro tm a.tmps)(hev:(qas (.min x xs)).run tm=some v):qa5 P N ι ro a p v:=by
 simp only[qas]at hev;cases p<;>try (simp[okP]at hok; done)
 rename_i c;obtain⟨callee,args,ats⟩:=c;cases callee<;>try (simp[okP]at hok; done)
 rename_i b;cases b<;>simp[okP]at hok
 obtain⟨y,ys,hargs,hx,hxs⟩:=qgJ hok;have hx:=qan htm hx;cases hxv:x.ev tm<;>simp only[hxv,reduceCtorEq]at hev
 rename_i k n;rw[hxv]at hx; simp only[VR]at hx;obtain⟨m,rfl,hr⟩:=qn7 (P:=P) htm hxs hev;refine⟨_,qBz,λo w h=>?_⟩;simp only[execOp,h,resolve,invoke,builtin,Builtin.min_,Sem.run_bind,Sem.run_pure,Result.andThen_ok,Array.toList_map,hargs,List.map_cons,hx,hr]
theorem sP_max{x:Opd}{xs:List Opd}(hok:okP P N (.max x xs) p=true)(htm:VRtm N ι ro tm a.tmps)(hev:(qas (.max x xs)).run tm=some v):qa5 P N ι ro a p v:=by
 simp only[qas]at hev;cases p<;>try (simp[okP]at hok; done)
 rename_i c;obtain⟨callee,args,ats⟩:=c;cases callee<;>try (simp[okP]at hok; done)
 rename_i b;cases b<;>simp[okP]at hok
 obtain⟨y,ys,hargs,hx,hxs⟩:=qgJ hok;have hx:=qan htm hx;cases hxv:x.ev tm<;>simp only[hxv,reduceCtorEq]at hev
 rename_i k n;rw[hxv]at hx; simp only[VR]at hx;obtain⟨m,rfl,hr⟩:=qn9 (P:=P) htm hxs hev;refine⟨_,qBz,λo w h=>?_⟩;simp only[execOp,h,resolve,invoke,builtin,Builtin.max_,Sem.run_bind,Sem.run_pure,Result.andThen_ok,Array.toList_map,hargs,List.map_cons,hx,hr]
variable {N:Num}{ι:Inj}{ro:RO}{P:Program}{tm:Tm}{a:Act}{v:V}{p:Op}
theorem qlo{s:SK}{t:TypeId}(h:okSK P s t=true):aggT P t=some false:=by
 unfold okSK at h;unfold aggT;cases hu:P.underlying t with
 | none=>cases s<;>simp[hu]at h
 | some d=>cases s<;>cases d<;>simp[hu]at h<;>rfl
theorem qsg{s:SK}{x y:V}{x' y':Value}{b:Bool}(h:eq1 x y=some b)(hs:s.ok x=true)(hx:VR N ι ro x x')(hy:VR N ι ro y y'){t:TypeId}(ht:okSK P s t=true)
  (d:Nat) (w:World):(Op.equalIn (d+1) t x' y').run P w=.ok b w:=by
 unfold eq1 at h;split at h
 ·rename_i k n l m;cases hk:ikB k l<;>simp[hk]at h
  rw[qf0]at hk; simp at hk; subst hk;rw[qek]at h;subst h;cases s<;>simp[SK.ok]at hs
  simp only[VR]at hx hy;subst hx; subst hy;unfold okSK at ht;cases hu:P.underlying t with
  | none=>simp[hu]at ht
  | some d=>cases d<;>simp[hu]at ht; rw[run_equalIn_int w _ t k _ n m hu]; rfl
 ·cases h;cases s<;>simp[SK.ok]at hs
  simp only[VR]at hx hy;subst hx; subst hy;unfold okSK at ht;cases hu:P.underlying t with
  | none=>simp[hu]at ht
  | some d=>cases d<;>simp[hu]at ht; exact run_equalIn_bool' w _ t _ _ hu
 ·cases h;cases s<;>simp[SK.ok]at hs
  simp only[VR]at hx hy;obtain⟨x1,rfl,rfl⟩:=hx;obtain⟨y1,rfl,rfl⟩:=hy;unfold okSK at ht;cases hu:P.underlying t with
  | none=>simp[hu]at ht
  | some d=>cases d<;>simp[hu]at ht; rw[run_equalIn_string w _ t _ _ hu,ByteArray.toList_eq,ByteArray.toList_eq]
 ·cases h
theorem qlO(d:Nat)(w:World):∀{ss:List SK}{fs:List Field}{i:Nat}{l m:List V}{xs ys:Array Value}{b:Bool},qcx P ss fs i=true->VRs N ι ro l (xs.toList.drop i)->VRs N ι ro m (ys.toList.drop i) ->
  okKs ss l=true->eqL l m=some b->(Op.eqFields (d+1) xs ys fs).run P w=.ok b w
 | [],[],i,l,m,xs,ys,b,_,_,_,hk,h=>by
  cases l with
  | nil=>cases m<;>simp[eqL]at h; subst h; simp[Op.eqFields]
  | cons _ _=>simp[okKs]at hk
 | [],_::_,_,_,_,_,_,_,h,_,_,_,_=>by simp[qcx]at h
 | _::_,[],_,_,_,_,_,_,h,_,_,_,_=>by simp[qcx]at h
 | s::ss,f::fs,i,l,m,xs,ys,b,hf,hx,hy,hk,h=>by
  simp only[qcx,Jad,beq_iff_eq,bne_iff_ne]at hf;obtain⟨⟨⟨h1,h2⟩,h3⟩,h4⟩:=hf;cases l with
  | nil=>simp[okKs]at hk
  | cons x l =>
   cases m with
   | nil=>simp[eqL]at h
   | cons y m =>
    simp only[okKs,Jad]at hk;simp only[eqL]at h;cases e1:eq1 x y with
    | none=>simp[e1]at h
    | some b1 =>
     cases e2:eqL l m with
     | none=>simp[e1,e2]at h
     | some b2 =>
      simp[e1,e2]at h;obtain⟨x',rx,hx0,hx1,hx2⟩:=VRs.cons_inv hx;obtain⟨y',ry,hy0,hy1,hy2⟩:=VRs.cons_inv hy;have gx:xs[i]?=some x':=by
       have:(xs.toList.drop i)[0]?=some x':=by rw[hx0]; rfl
       simpa using this
      have gy:ys[i]?=some y':=by
       have:(ys.toList.drop i)[0]?=some y':=by rw[hy0]; rfl
       simpa using this
      have tx:xs.toList.drop (i+1)=rx:=by rw[<-List.drop_drop,hx0]; rfl
      have ty:ys.toList.drop (i+1)=ry:=by rw[<-List.drop_drop,hy0]; rfl
      have hag:=qlo h3;have px:(part f.type xs f.offset).run P w=.ok x' w:=by simp[part,qct hag,h1,gx]
      have py:(part f.type ys f.offset).run P w=.ok y' w:=by simp[part,qct hag,h1,gy]
      have he:=qsg e1 hk.1 hx1 hy1 h3 d w;have hrest:=qlO d w h4 (by rw[tx]; exact hx2) (by rw[ty]; exact hy2) hk.2 e2;rw[Op.eqFields];simp only[Jab h2,Sem.run_bind,px,py,he,Result.andThen_ok];subst h;cases b1
      ·simp
      ·simpa using hrest
theorem qjO{ss:List SK}{fs:List Field}{i:Nat}(h:qcx P ss fs i=true)(d:Nat):(fs.any λf=>f.name != "_" && P.eqGuardType (d+1) f.type)=false:=by
 induction ss generalizing fs i with
 | nil=>cases fs<;>simp[qcx]at h ⊢
 | cons s ss ih =>
  cases fs with
  | nil=>simp[qcx]at h
  | cons f fs =>
   simp only[qcx,Jad]at h;have h3:=h.1.2;simp only[List.any_cons,Bool.or_eq_false_iff];refine⟨?_,ih h.2⟩;have:P.eqGuardType (d+1) f.type=false:=by
    unfold okSK at h3;cases hu:P.underlying f.type with
    | none=>cases s<;>simp[hu]at h3
    | some e=>cases s<;>cases e<;>simp[hu]at h3<;>simp[Program.eqGuardType,hu]
   simp[this]
theorem quh:∀(k:Nat) {l m:List V}{b:Bool},eqL l m=some b->∃b1 b2,eqL (l.take k) (m.take k)=some b1/\eqL (l.drop k) (m.drop k)=some b2/\b=(b1&&b2)
 | 0,l,m,b,h=>⟨true,b,by simp[eqL],by simpa using h,by simp⟩
 | k+1,[],m,b,h=>by
  cases m with
  | nil=>simp[eqL]at h; subst h; exact⟨true,true,by simp[eqL],by simp[eqL],rfl⟩
  | cons _ _=>simp[eqL]at h
 | k+1,x::l,[],b,h=>by simp[eqL]at h
 | k+1,x::l,y::m,b,h=>by
  simp only[eqL]at h;cases e1:eq1 x y with
  | none=>simp[e1]at h
  | some b1 =>
   cases e2:eqL l m with
   | none=>simp[e1,e2]at h
   | some b2 =>
    simp[e1,e2]at h;obtain⟨c1,c2,f1,f2,f3⟩:=quh k e2;exact⟨b1&&c1,c2,by simp[eqL,e1,f1],by simpa using f2,by rw[<-h,f3,Bool.and_assoc]⟩
theorem qub:∀(k:Nat) {ss:List SK}{l:List V},okKs ss l=true->okKs (ss.take k) (l.take k)=true/\okKs (ss.drop k) (l.drop k)=true
 | 0,ss,l,h=>by simp[okKs,h]
 | k+1,[],l,h=>by cases l<;>simp[okKs]at h ⊢
 | k+1,s::ss,[],h=>by simp[okKs]at h
 | k+1,s::ss,x::l,h=>by
  simp only[okKs,Jad]at h;have:=qub k h.2;simp[okKs,h.1,this]
theorem qua{ss:List SK}{f:Field}{fs:List Field}{i:Nat}(h:qt7 P ss (f::fs) i=true):f.offset=i/\f.name≠ "_" /\
  ((∃gs,P.underlying f.type=some (.struct gs)/\qcx P (ss.take gs.size) gs.toList 0=true/\P.stoodInHeld f.type=false/\qbA P f.type=some gs.size/\qt7 P (ss.drop gs.size) fs (i+gs.size)=true) \/
  ∃s ss',ss=s::ss'/\okSK P s f.type=true/\qt7 P ss' fs (i+1)=true):=by
 simp only[qt7,Jad,beq_iff_eq,bne_iff_ne]at h;refine⟨h.1.1,h.1.2,?_⟩;have h3:=h.2;split at h3
 ·rename_i gs hu;simp only[Jad,beq_iff_eq,Bool.not_eq_true']at h3;exact .inl ⟨gs,hu,h3.1.1.1,h3.1.1.2,h3.1.2,h3.2⟩
 ·cases ss with
  | nil=>simp at h3
  | cons s ss =>
   simp only[Jad]at h3;exact .inr ⟨s,ss,rfl,h3.1,h3.2⟩
theorem qt9{t:TypeId}{gs:Array Field}(hu:P.underlying t=some (.struct gs)){k:Nat}(hs:qbA P t=some k){l:List V}{xs:Array Value}{i:Nat}(hx:VRs N ι ro l (xs.toList.drop i)) :
  ∃ys,(∀w,(part t xs i).run P w=.ok (.agg ys) w)/\VRs N ι ro (l.take k) ys.toList:=by
 have ha:aggT P t=some true:=by unfold aggT; rw[hu]
 refine⟨xs.extract i (i+k),λw=>by simp[part,qct ha,qa4 hs],?_⟩;rw[Array.toList_extract];simp only[List.extract];rw[show i+k-i=k by omega];exact hx.take k
theorem qdS{ss:List SK}{t:TypeId}(h:qjL P ss t=true):∃fs,P.underlying t=some (.struct fs)/\P.fieldsOf t=fs/\qt7 P ss fs.toList 0=true/\P.stoodInHeld t=false:=by
 unfold qjL at h;cases hu:P.underlying t with
 | none=>simp[hu]at h
 | some d =>
  cases d<;>simp[hu]at h
  exact⟨_,rfl,by simp[Program.fieldsOf,hu],h.1,h.2⟩
theorem que{fs:List Field}:∀{ss:List SK}{i:Nat},qt7 P ss fs i=true->∀(d:Nat),(fs.any λf=>f.name != "_" && P.eqGuardType (d+2) f.type)=false:=by
 induction fs with
 | nil=>intro _ _ _ _; rfl
 | cons f fs ih =>
  intro ss i h d;obtain⟨_,_,h3⟩:=qua h;simp only[List.any_cons,Bool.or_eq_false_iff];rcases h3 with ⟨gs,hu,hf,_,_,h4⟩|⟨s,ss',rfl,h3,h4⟩
  ·refine⟨?_,ih h4 d⟩;have:P.eqGuardType (d+2) f.type=false:=by
    simp only[Program.eqGuardType,hu];have:=qjO hf d;rw[<-Array.any_toList];exact this
   simp[this]
  ·refine⟨?_,ih h4 d⟩;have:P.eqGuardType (d+2) f.type=false:=by
    unfold okSK at h3;cases hu:P.underlying f.type with
    | none=>cases s<;>simp[hu]at h3
    | some e=>cases s<;>cases e<;>simp[hu]at h3<;>simp[Program.eqGuardType,hu]
   simp[this]
theorem qiN{ss:List SK}{t:TypeId}(h:qjL P ss t=true):P.eqGuardType P.depth t=false:=by
 obtain⟨fs,hu,_,hf,_⟩:=qdS h;have:∃d,P.depth=d+3:=⟨2 * (P.types.size+Made.depth)-1,by unfold Program.depth Made.depth; omega⟩;obtain⟨d,hd⟩:=this;rw[hd];simp only[Program.eqGuardType,hu];have:=que hf d;rw[<-Array.any_toList];exact this
theorem quc(d:Nat)(w:World):∀{fs:List Field}{ss:List SK}{i:Nat}{l m:List V}{xs ys:Array Value}{b:Bool},qt7 P ss fs i=true->VRs N ι ro l (xs.toList.drop i)->VRs N ι ro m (ys.toList.drop i) ->
  okKs ss l=true->eqL l m=some b->(Op.eqFields (d+2) xs ys fs).run P w=.ok b w
 | [],ss,i,l,m,xs,ys,b,hf,_,_,hk,h=>by
  have:ss=[]:=by simpa[qt7]using hf
  subst this;cases l with
  | nil=>cases m<;>simp[eqL]at h; subst h; simp[Op.eqFields]
  | cons _ _=>simp[okKs]at hk
 | f::fs,ss,i,l,m,xs,ys,b,hf,hx,hy,hk,h=>by
  obtain⟨h1,h2,h3⟩:=qua hf;rcases h3 with ⟨gs,hu,hg,hst,hsz,h4⟩|⟨s,ss',rfl,h3,h4⟩
  ·obtain⟨px,p1,p2⟩:=qt9 hu hsz hx;obtain⟨py,q1,q2⟩:=qt9 hu hsz hy;obtain⟨b1,b2,e1,e2,e3⟩:=quh gs.size h;obtain⟨k1,k2⟩:=qub gs.size hk;have hin:(Op.equalIn (d+2) f.type (.agg px) (.agg py)).run P w=.ok b1 w:=by
    have hfo:P.fieldsOf f.type=gs:=by simp[Program.fieldsOf,hu]
    rw[run_equalIn_struct w (d+1) f.type px py (by rw[hfo]; exact hu) hst,hfo];exact qlO d w hg (by simpa using p2) (by simpa using q2) k1 e1
   have hrest:=quc d w h4 (l:=l.drop gs.size) (m:=m.drop gs.size) (xs:=xs) (ys:=ys) (by rw[<-List.drop_drop]; exact hx.drop gs.size) (by rw[<-List.drop_drop]; exact hy.drop gs.size) k2 e2;rw[Op.eqFields];rw[<-h1]at p1 q1;simp only[Jab h2,Sem.run_bind,p1,q1,hin,Result.andThen_ok];subst e3;cases b1
   ·simp
   ·simpa using hrest
  ·cases l with
   | nil=>simp[okKs]at hk
   | cons x l =>
    cases m with
    | nil=>simp[eqL]at h
    | cons y m =>
     simp only[okKs,Jad]at hk;simp only[eqL]at h;cases e1:eq1 x y with
     | none=>simp[e1]at h
     | some b1 =>
      cases e2:eqL l m with
      | none=>simp[e1,e2]at h
      | some b2 =>
       simp[e1,e2]at h;obtain⟨x',rx,hx0,hx1,hx2⟩:=VRs.cons_inv hx;obtain⟨y',ry,hy0,hy1,hy2⟩:=VRs.cons_inv hy;have gx:xs[i]?=some x':=by
        have:(xs.toList.drop i)[0]?=some x':=by rw[hx0]; rfl
        simpa using this
       have gy:ys[i]?=some y':=by
        have:(ys.toList.drop i)[0]?=some y':=by rw[hy0]; rfl
        simpa using this
       have tx:xs.toList.drop (i+1)=rx:=by rw[<-List.drop_drop,hx0]; rfl
       have ty:ys.toList.drop (i+1)=ry:=by rw[<-List.drop_drop,hy0]; rfl
       have hag:=qlo h3;have px:(part f.type xs f.offset).run P w=.ok x' w:=by simp[part,qct hag,h1,gx]
       have py:(part f.type ys f.offset).run P w=.ok y' w:=by simp[part,qct hag,h1,gy]
       have he:=qsg e1 hk.1 hx1 hy1 h3 (d+1) w;have hrest:=quc d w h4 (by rw[tx]; exact hx2) (by rw[ty]; exact hy2) hk.2 e2;rw[Op.eqFields];simp only[Jab h2,Sem.run_bind,px,py,he,Result.andThen_ok];subst h;cases b1
       ·simp
       ·simpa using hrest
theorem qhD{ss:List SK}{t:TypeId}(h:qjL P ss t=true){l m:List V}{xs ys:Array Value}{b:Bool}(hx:VRs N ι ro l xs.toList)(hy:VRs N ι ro m ys.toList)
  (hk:okKs ss l=true) (he:eqL l m=some b) (d:Nat) (w:World):(Op.equalIn (d+3) t (.agg xs) (.agg ys)).run P w=.ok b w:=by
 obtain⟨fs,hu,hfo,hf,hs⟩:=qdS h;rw[run_equalIn_struct w (d+2) t xs ys (by rw[hfo]; exact hu) hs,hfo];exact quc d w hf (by simpa using hx) (by simpa using hy) hk he
theorem qbk{neg:Bool}{b:Bool}{t:TypeId}{x y:Operand}{x' y':Value}{op:BinOp}(hop:op=if neg=true then .neq else .eql)
  (hx:a.eval x=x') (hy:a.eval y=y') (hg:∀op w,(eqGuard op t x y x' y').run P w=.ok () w)
  (he:∀d w,(Op.equalIn (d+3) t x' y').run P w=.ok b w)
  (hb:binOp .eql t x' y'=(do pure (.bool (<- Op.equal t x' y')))) (hn:binOp .neq t x' y'=(do pure (.bool (!(<- Op.equal t x' y'))))) (yt:TypeId) :
  qa5 P N ι ro a (.binOp op t x y yt) (.bool (neg != b)):=by
 refine⟨.bool (neg != b),qBL,λo w h=>?_⟩;have he':∀w,(Op.equal t x' y').run P w=.ok b w:=λw=>he 9997 w;subst hop;cases neg
 ·simp only[Jan,if_false]at h hg;simp[execOp,h,hx,hy,hg,hb,he']
 ·simp only[if_true]at h hg;simp[execOp,h,hx,hy,hg,hn,he']
theorem qmJ{x y:Operand}(h:(qg1 x||qg1 y)=true):(∃v,x=.const v)\/(∃v,y=.const v):=by
 cases x<;>cases y<;>simp[qg1]at h
 all_goals first|exact .inl ⟨_,rfl⟩|exact .inr ⟨_,rfl⟩
theorem qos{op:BinOp}{t:TypeId}{x y:Operand}(h:(qg1 x||qg1 y)=true)(w:World):(eqGuard op t x y .nilIface .nilIface).run P w=.ok () w:=by
 rcases qmJ h with ⟨v,rfl⟩|⟨v,rfl⟩<;>cases op<;>simp[eqGuard]
set_option maxHeartbeats 4000000 in
theorem sP_eqo{neg:Bool}{k:EqK}{x y:Opd}(hok:okP P N (.eqo neg k x y) p=true)(htm:VRtm N ι ro tm a.tmps)(hev:(qas (.eqo neg k x y)).run tm=some v):qa5 P N ι ro a p v:=by
 simp only[qas]at hev;cases p<;>simp[okP]at hok
 rename_i op t x' y' yt;obtain⟨⟨⟨hop,hk⟩,hx⟩,hy⟩:=hok;have hx:=qan htm hx;have hy:=qan htm hy;split at hev
 ·rename_i b hb;cases hev;unfold okEq at hk;cases hu:P.underlying t with
  | none=>cases k<;>simp[hu]at hk
  | some d =>
   cases k with
   | bool =>
    cases d<;>simp[hu]at hk
    cases hxv:x.ev tm<;>simp only[hxv,eqv,reduceCtorEq]at hb
    cases hyv:y.ev tm<;>simp only[hyv,eqv,reduceCtorEq]at hb
    cases hb;rw[hxv]at hx; rw[hyv]at hy;simp only[VR]at hx hy;exact qbk hop hx hy (by intro op w; cases op<;>simp[eqGuard]) (by intro d w; exact run_equalIn_bool' w _ t _ _ hu) rfl rfl yt
   | slice =>
    cases d<;>simp[hu]at hk
    cases hxv:x.ev tm<;>simp only[hxv,eqv,reduceCtorEq]at hb
    all_goals (cases hyv:y.ev tm<;>simp only[hyv,eqv,reduceCtorEq]at hb)
    all_goals
     cases hb;rw[hxv]at hx; rw[hyv]at hy;simp only[VR]at hx hy
    ·exact qbk hop hx hy (by intro op w; cases op<;>simp[eqGuard]) (by intro d w; simp[Op.equalIn,underlying,hu]) rfl rfl yt
    ·obtain⟨_,_,_,_,_,hy,_⟩:=hy;exact qbk hop hx hy (by intro op w; cases op<;>simp[eqGuard]) (by intro d w; simp[Op.equalIn,underlying,hu]) rfl rfl yt
    ·obtain⟨_,_,hy,_⟩:=hy;exact qbk hop hx hy (by intro op w; cases op<;>simp[eqGuard]) (by intro d w; simp[Op.equalIn,underlying,hu]) rfl rfl yt
    ·obtain⟨_,_,_,_,_,hx,_⟩:=hx;exact qbk hop hx hy (by intro op w; cases op<;>simp[eqGuard]) (by intro d w; simp[Op.equalIn,underlying,hu]) rfl rfl yt
    ·obtain⟨_,_,hx,_⟩:=hx;exact qbk hop hx hy (by intro op w; cases op<;>simp[eqGuard]) (by intro d w; simp[Op.equalIn,underlying,hu]) rfl rfl yt
   | func =>
    cases d<;>simp[hu]at hk
    cases hxv:x.ev tm<;>simp only[hxv,eqv,reduceCtorEq]at hb
    all_goals (cases hyv:y.ev tm<;>simp only[hyv,eqv,reduceCtorEq]at hb)
    all_goals
     cases hb;rw[hxv]at hx; rw[hyv]at hy;simp only[VR]at hx hy
    ·obtain⟨_,_,hx,_⟩:=hx;exact qbk hop hx hy (by intro op w; cases op<;>simp[eqGuard]) (by intro d w; simp[Op.equalIn,underlying,hu]) rfl rfl yt
    ·obtain⟨_,_,hy,_⟩:=hy;exact qbk hop hx hy (by intro op w; cases op<;>simp[eqGuard]) (by intro d w; simp[Op.equalIn,underlying,hu]) rfl rfl yt
    ·exact qbk hop hx hy (by intro op w; cases op<;>simp[eqGuard]) (by intro d w; simp[Op.equalIn,underlying,hu]) rfl rfl yt
   | ptr =>
    cases d<;>simp[hu]at hk
    cases hxv:x.ev tm<;>simp only[hxv,eqv,reduceCtorEq]at hb
    all_goals (cases hyv:y.ev tm<;>simp only[hyv,eqv,reduceCtorEq]at hb)
    all_goals
     cases hb;rw[hxv]at hx; rw[hyv]at hy;simp only[VR]at hx hy
    ·exact qbk hop hx hy (by intro op w; cases op<;>simp[eqGuard]) (by intro d w; simp[Op.equalIn,underlying,hu]) rfl rfl yt
    ·obtain⟨_,_,hy⟩:=hy;exact qbk hop hx hy (by intro op w; cases op<;>simp[eqGuard]) (by intro d w; simp[Op.equalIn,underlying,hu]) rfl rfl yt
    ·obtain⟨_,_,hx⟩:=hx;exact qbk hop hx hy (by intro op w; cases op<;>simp[eqGuard]) (by intro d w; simp[Op.equalIn,underlying,hu]) rfl rfl yt
   | iface =>
    cases d<;>simp[hu]at hk
    cases hxv:x.ev tm<;>simp only[hxv,eqv,reduceCtorEq]at hb
    all_goals (cases hyv:y.ev tm<;>simp only[hyv,eqv,reduceCtorEq]at hb)
    all_goals
     cases hb;rw[hxv]at hx; rw[hyv]at hy;simp only[VR]at hx hy
    ·obtain⟨_,hx,_⟩:=hx;exact qbk hop hx hy (by intro op w; cases op<;>simp[eqGuard]) (by intro d w; simp[Op.equalIn,underlying,hu]) rfl rfl yt
    ·obtain⟨_,hy,_⟩:=hy;exact qbk hop hx hy (by intro op w; cases op<;>simp[eqGuard]) (by intro d w; simp[Op.equalIn,underlying,hu]) rfl rfl yt
    ·exact qbk hop hx hy (λop w=>qos (by simpa using hk) w) (by intro d w; simp[Op.equalIn,underlying,hu]) rfl rfl yt
   | struct ss =>
    cases d<;>simp[hu]at hk
    cases hxv:x.ev tm<;>simp only[hxv,eqv,reduceCtorEq]at hb
    cases hyv:y.ev tm<;>simp only[hyv,eqv,reduceCtorEq]at hb
    rename_i l m;cases hs:okKs ss l<;>simp[hs]at hb
    rw[hxv]at hx; rw[hyv]at hy;simp only[VR]at hx hy;obtain⟨xs,hx,hxs⟩:=hx;obtain⟨ys,hy,hys⟩:=hy;exact qbk hop hx hy (λop w=>run_eqGuard_agg w op t _ _ _ _ (qiN hk)) (λd w=>qhD hk hxs hys hs hb d w) rfl rfl yt
 ·cases hev
theorem soundP(hN:∀t u,N.t t=N.t u->t=u){o:PO}(hok:okP P N o p=true)(htm:VRtm N ι ro tm a.tmps)(hev:(qas o).run tm=some v):qa5 P N ι ro a p v:=by
 cases o with
 | mov x=>exact sP_mov hok htm hev
 | pick c x y=>exact qrs hok htm hev
 | build z ps=>exact qpp hok htm hev
 | nilc x=>exact qrt hok htm hev
 | bin op x y=>exact sP_bin hok htm hev
 | eqo n k x y=>exact sP_eqo hok htm hev
 | un op x=>exact sP_un hok htm hev
 | ci k x=>exact sP_ci hok htm hev
 | mki t x=>exact sP_mki hok htm hev
 | asrt t ok z x=>exact qrw hN hok htm hev
 | mkf f xs ys=>exact sP_mkf hok htm hev
 | slice e x l h m=>exact qpm hok htm hev
 | sliceS x l h=>exact qnD hok htm hev
 | faddr o x=>exact qpo hok htm hev
 | fld o n x=>exact sP_fld hok htm hev
 | iaddr e x i=>exact qpn hok htm hev
 | iaddrA l e x i=>exact qnE hok htm hev
 | idxS x i=>exact qru hok htm hev
 | idxA l e g x i=>exact qrv hok htm hev
 | ext i x=>exact sP_ext hok htm hev
 | min x xs=>exact sP_min hok htm hev
 | max x xs=>exact sP_max hok htm hev
 | cap x=>exact sP_cap hok htm hev
variable {N:Num}{CR:Nat->IC->Code->Prop}{ι:Inj}{ro:RO}{P:Program}{tm:Tm}{a:Act}{v:V}{p:Op}{h:Heap}{w:World}
def qeb(P:Program)(N:Num)(ι:Inj)(ro:RO)(a:Act)(p:Op)(v:V)(w:World):Prop :=
 ∃x,VR N ι ro v x/\∀(o:Oper),o.op=p->(execOp a.eval o).run P w=.ok (.value x) w
theorem qeE{b i:Nat}{c:Array Value}{e:TypeId}{fz:Nat × Nat}(hb:w.heap[b]?=some (.cells c e fz)):w.cell? ⟨b,i,none⟩=c[i]?:=by
 simp[World.cell?,hb]
theorem qgj{b ad:Nat}{c:Array Value}{e:TypeId}{fz:Nat × Nat}(hb:w.heap[b]?=some (.cells c e fz)){row:List V}
  (hr:∀(j:Nat) (u:V),row[j]?=some u->∃x,c[ad+j]?=some x/\VR N ι ro u x) {o:Nat}{n:Option Nat}(hl:qca row o n=some v) {t:TypeId}(hok:okN P n t=true) :
  ∃x,VR N ι ro v x/\(loadVar t ⟨b,ad+o,none⟩).run P w=.ok x w:=by
 cases n with
 | none =>
  simp only[qca,qjt]at hl;obtain⟨x,hx,hv⟩:=hr o v hl;simp only[okN,beq_iff_eq]at hok;exact⟨x,hv,by simp[loadVar,qct hok,qeE hb,hx]⟩
 | some n =>
  simp only[okN,Jad,beq_iff_eq]at hok;simp only[qca]at hl;cases hbn:Nat.ble (o+n) row.length<;>simp[hbn]at hl
  rw[Jat]at hbn;subst hl;obtain⟨cr,h1,h2⟩:=qgz (r:=(row.drop o).take n) (c:=c) (a:=ad+o) (N:=N) (ι:=ι) (ro:=ro) λj u hu=>by
   rw[List.getElem?_take]at hu;split at hu
   ·rw[List.getElem?_drop]at hu;obtain⟨x,hx,hv⟩:=hr (o+j) u hu;exact⟨x,by rw[Nat.add_assoc]; exact hx,hv⟩
   ·cases hu
  have hlen:cr.length=n:=by rw[<-h1.length]; simp; omega
  refine⟨.agg cr.toArray,by simp only[VR]; exact⟨_,rfl,by simpa using h1⟩,?_⟩;have:=run_loadCells_list (P:=P) (w:=w) ⟨b,ad+o,none⟩ cr λj x hx=>by
   rw[qBv,qeE hb]; exact h2 j x hx
  rw[hlen]at this;simp[loadVar,qct hok.1,qa4 hok.2,this]
theorem HR.rows(hh:HR N CR ι ro h w){i:Nat}{rs:List (List V)}(hi:h.get i=some (.rows rs)) :
  ∃wn c e fz,ι i=some wn/\w.heap[wn.blk]?=some (.cells c e fz)/\c.size=wn.sz/\(fz.1=fz.2\/c.size<=fz.1)/\wn.base+rs.length * wn.esz<=wn.sz/\qau N ι ro rs c wn.base wn.esz:=by
 obtain⟨_,wn,h1,c,h2,cells,e,fz,rfl,h3⟩:=hh.live i _ hi;exact⟨wn,cells,e,fz,h1,h2,h3⟩
theorem qrr{n:Option Nat}{x:Opd}(hok:okR P N (.load n x) p=true)(htm:VRtm N ι ro tm a.tmps)(hh:HR N CR ι ro h w)(hev:(qbc (.load n x)).run tm h=some v):qeb P N ι ro a p v w:=by
 simp only[qbc]at hev;cases p<;>simp[okR]at hok
 rename_i t y;obtain⟨hn,hx⟩:=hok;have hx:=qan htm hx;cases hxv:x.ev tm<;>simp only[hxv,reduceCtorEq]at hev<;>rw[hxv]at hx
 ·rename_i i r o;simp only[VR]at hx;obtain⟨wn,hw,e1⟩:=hx;split at hev
  ·rename_i rs hg;split at hev
   ·rename_i row hr;rw[qcS]at hr;obtain⟨wn',c,e,fz,g1,g2,g3,g4,g5,g6⟩:=hh.rows hg;rw[hw]at g1; cases g1;obtain⟨z,hz,hrun⟩:=qgj (ad:=wn.base+r * wn.esz) g2 (λj u hu=>g6.2 r row hr j u hu) hev hn;exact⟨z,hz,λop h=>by simp only[execOp,h,Instr.loadAt,e1,Instr.sureAddr,Plc.at]; simp[hrun]⟩
   ·cases hev
  ·cases hev
 ·rename_i row o;rw[qBA]at hx;obtain⟨b,ad,c,e1,hro,hc⟩:=hx;obtain⟨⟨e,fz,hb⟩,_⟩:=hh.rd b c hro;obtain⟨z,hz,hrun⟩:=qgj hb hc hev hn;exact⟨z,hz,λop h=>by simp only[execOp,h,Instr.loadAt,e1,Instr.sureAddr]; simp[hrun]⟩
theorem qgy(hh:HR N CR ι ro h w){s:V}{x:Value}(hs:VR N ι ro s x){rs:List (List V)}(hr:qal h s=some rs) :
  (s=.nils/\x=.slice none 0 0/\rs=[])\/∃ad cap,x=.slice (some ad) rs.length cap/\rs.length<=cap /\
   (rs=[]\/(ad.spot=none/\∃c e fz esz,w.heap[ad.block]?=some (.cells c e fz)/\qau N ι ro rs c ad.off esz)):=by
 unfold qal at hr;cases s<;>simp only[reduceCtorEq]at hr
 ·cases hr; simp only[VR]at hs; exact .inl ⟨rfl,hs,rfl⟩
 ·rename_i i lo len esz full;right;split at hr
  ·rename_i rs' hg;cases hb:Nat.ble (lo+len) rs'.length<;>simp[hb]at hr
   rw[Jat]at hb;subst hr;simp only[VR]at hs;obtain⟨wn,hw,hez,ad,cap,e1,h1,h2,h3⟩:=hs;obtain⟨wn',c,e,fz,g1,g2,g3,g4,g5,g6⟩:=hh.rows hg;rw[hw]at g1; cases g1;have hlen:((rs'.drop lo).take len).length=len:=by simp; omega
   refine⟨ad,cap,by rw[hlen]; exact e1,by rw[hlen]; exact h1,?_⟩;rcases h3 with h3|⟨h3,h4⟩
   ·left; apply List.eq_nil_of_length_eq_zero; rw[hlen]; omega
   ·right;subst h3;refine⟨rfl,c,e,fz,wn.esz,g2,?_⟩;have:=g6.cut lo len;simpa[Plc.at]using this
  ·cases hr
 ·rename_i rows full;right;cases hr;rw[qBx]at hs;obtain⟨ad,cap,e1,h1,h2,h3⟩:=hs;refine⟨ad,cap,e1,h1,h3.imp id ?_⟩;rintro⟨h3,c,esz,h4,h5⟩;obtain⟨⟨e,fz,hb⟩,_⟩:=hh.rd _ c h4;exact⟨h3,c,e,fz,esz,hb,h5⟩
theorem qhn:∀{rs:List (List V)}{s:List UInt8},qdo rs=some s->∃ns:List Int,rs=ns.map (λn=>[V.int .u8 n])/\s=ns.map λn=>UInt8.ofNat n.toNat
 | [],s,h=>by simp[qdo]at h; exact⟨[],rfl,by simpa using h⟩
 | r::rs,s,h=>by
  simp only[qdo]at h;cases h1:qj0 r with
  | none=>simp[h1]at h
  | some c =>
   cases h2:qdo rs with
   | none=>simp[h1,h2]at h
   | some l =>
    simp[h1,h2]at h;subst h;obtain⟨ns,k1,k2⟩:=qhn h2;unfold qj0 at h1;split at h1
    ·rename_i n; cases h1; exact⟨n::ns,by simp[k1],by simp[k2]⟩
    ·cases h1
theorem sR_b2s{x:Opd}(hok:okR P N (.b2s x) p=true)(htm:VRtm N ι ro tm a.tmps)(hh:HR N CR ι ro h w)(hev:(qbc (.b2s x)).run tm h=some v):qeb P N ι ro a p v w:=by
 simp only[qbc]at hev;cases p<;>simp[okR]at hok
 rename_i s d y;obtain⟨hx,hd⟩:=hok;have hx:=qan htm hx;cases hs:P.underlying s with
 | none=>simp[hs]at hd
 | some ds =>
  cases hdd:P.underlying d with
  | none=>cases ds<;>simp[hs,hdd]at hd
  | some dd =>
   cases ds<;>simp[hs,hdd]at hd
   rename_i e;cases dd<;>simp at hd
   cases he:P.underlying e with
   | none=>simp[he]at hd
   | some de =>
    cases de<;>simp[he]at hd
    rename_i k;cases k<;>simp at hd
    split at hev
    ·rename_i rs hrs;split at hev
     ·rename_i l hl;cases hev;obtain⟨ns,rfl,rfl⟩:=qhn hl;have hfold:(ns.foldl (λr n=>r.push (UInt8.ofNat n.toNat)) ByteArray.empty).data.toList=ns.map λn=>UInt8.ofNat n.toNat:=by
       rw[foldl_push_bytes]; simp[ByteArray.empty,ByteArray.emptyWithCapacity]; rfl
      rcases qgy hh hx hrs with ⟨_,e1,h0⟩|⟨ad,cap,e1,h1,h2⟩
      ·have:ns=[]:=by simpa using h0
       subst this
       exact⟨.string .empty,by simp only[VR]; exact⟨_,rfl,rfl⟩,λo h=>by
        simp[execOp,h,e1,convert,underlying,hs,hdd,he,Conv.bytesToString]
        done⟩
      ·refine⟨.string (ns.foldl (λr n=>r.push (UInt8.ofNat n.toNat)) ByteArray.empty),by simp only[VR]; exact⟨_,rfl,hfold⟩,λo h=>?_⟩;have hrun:(loadCells ad ns.length).run P w=.ok (ns.map (Value.int .u8)).toArray w:=by
        have:=run_loadCells_list (P:=P) (w:=w) ad (ns.map (Value.int .u8)) λj z hz=>by
         rcases h2 with h2|⟨h2,c,ee,fz,esz,h3,h4⟩
         ·have:ns=[]:=by simpa using h2
          subst this; simp at hz
         ·rw[List.getElem?_map]at hz;cases hn:ns[j]? with
          | none=>simp[hn]at hz
          | some n =>
           simp[hn]at hz; subst hz;have hr:(ns.map (λn=>[V.int .u8 n]))[j]?=some [V.int .u8 n]:=by simp[hn]
           have hez:esz=1:=by rw[<-h4.1 _ (Jar hr)]; rfl
           subst hez;obtain⟨z,hz,hv⟩:=h4.2 j _ hr 0 (.int .u8 n) rfl;simp only[VR]at hv;subst hv;obtain⟨bb,oo,sp⟩:=ad;simp only at h2 h3 hz; subst h2;rw[qBv,qeE h3]; simpa using hz
        simpa using this
       have:=run_bytesToString (P:=P) w ad ns.length cap ns hrun;rw[List.length_map]at e1;simp[execOp,h,e1,convert,underlying,hs,hdd,he,this]
     ·cases hev
    ·cases hev
theorem sR_len{k:LK}{x:Opd}(hok:okR P N (.len k x) p=true)(htm:VRtm N ι ro tm a.tmps)(hh:HR N CR ι ro h w)(hev:(qbc (.len k x)).run tm h=some v):qeb P N ι ro a p v w:=by
 simp only[qbc]at hev;cases p<;>try (simp[okR]at hok; done)
 rename_i c;obtain⟨callee,args,ats⟩:=c;cases callee<;>try (simp[okR]at hok; done)
 rename_i b;cases b<;>simp[okR]at hok
 obtain⟨hx,hd⟩:=hok;obtain⟨y,ys,hargs,hx',hys⟩:=qgJ hx;obtain⟨args⟩:=args;simp only at hargs; subst hargs;cases ys with
 | cons _ _=>simp[okOs]at hys
 | nil =>
  have hx:=qan htm hx';cases ht:ats[0]? with
  | none=>simp[ht]at hd
  | some t =>
   simp only[ht]at hd;cases hu:P.underlying t with
   | none=>cases k<;>simp[hu]at hd
   | some d =>
    cases k with
    | str =>
     cases d<;>simp[hu]at hd
     simp only at hev;cases hxv:x.ev tm<;>simp only[hxv,reduceCtorEq]at hev<;>rw[hxv]at hx
     cases hev;simp only[VR]at hx;obtain⟨s,e1,rfl⟩:=hx;exact⟨_,qBz,λo h=>by simp[execOp,h,resolve,invoke,builtin,Builtin.len_,e1,ht,underlying,hu,goInt]⟩
    | sl =>
     cases d<;>simp[hu]at hd
     simp only at hev;cases hxv:x.ev tm<;>simp only[hxv,reduceCtorEq]at hev<;>rw[hxv]at hx<;>cases hev
     ·simp only[VR]at hx;exact⟨_,qBz,λo h=>by simp[execOp,h,resolve,invoke,builtin,Builtin.len_,hx,ht,underlying,hu,goInt]⟩
     ·simp only[VR]at hx;obtain⟨_,_,_,_,_,e1,_⟩:=hx;exact⟨_,qBz,λo h=>by simp[execOp,h,resolve,invoke,builtin,Builtin.len_,e1,ht,underlying,hu,goInt]⟩
     ·simp only[VR]at hx;obtain⟨_,_,e1,_⟩:=hx;exact⟨_,qBz,λo h=>by simp[execOp,h,resolve,invoke,builtin,Builtin.len_,e1,ht,underlying,hu,goInt]⟩
    | map =>
     cases d<;>simp[hu]at hd
     simp only at hev;cases hxv:x.ev tm<;>simp only[hxv,reduceCtorEq]at hev<;>rw[hxv]at hx
     ·cases hev;simp only[VR]at hx;exact⟨_,qBz,λo h=>by simp[execOp,h,resolve,invoke,builtin,Builtin.len_,hx,ht,underlying,hu,goInt]⟩
     ·rename_i i;split at hev
      ·rename_i es cl hg;cases hev;simp only[VR]at hx;obtain⟨wn,hw,e1⟩:=hx;obtain⟨_,wn',h1,c,h2,es',rfl,h3⟩:=hh.live i _ hg;rw[hw]at h1; cases h1;have hl:=h3.length;refine⟨_,qBz,λo h=>?_⟩;simp[execOp,h,resolve,invoke,builtin,Builtin.len_,e1,ht,underlying,hu,goInt,getObj,Sem.run,h2,hl]
      ·cases hev
theorem HR.map(hh:HR N CR ι ro h w){i cl:Nat}{es:List (Nat × V × V)}(hi:h.get i=some (.map es cl)) :
  ∃wn es',ι i=some wn/\w.heap[wn.blk]?=some (.map es' cl)/\All2 (qdY N ι ro) es es'.toList:=by
 obtain⟨_,wn,h1,c,h2,es',rfl,h3⟩:=hh.live i _ hi;exact⟨wn,es',h1,h2,h3⟩
theorem qt8(empty:Bool)(w:World)(n:Nat){s:SK}{t:TypeId}(h3:okSK P s t=true)(x:Value):(Instr.checkKey empty (n+1) t x).run P w=.ok () w:=by
 unfold okSK at h3;cases hu:P.underlying t with
 | none=>cases s<;>simp[hu]at h3
 | some d=>cases s<;>cases d<;>simp[hu]at h3<;>simp[Instr.checkKey,underlying,hu]
theorem qug (empty : Bool) (w : World) (n : Nat) {xs : Array Value} : ∀ (ss : List SK) (fs : List Field) (i : Nat) (l : List V), qcx P ss fs i = true → VRs N ι ro l (xs.toList.drop i) → okKs ss l = true →
   (forIn fs PUnit.unit λf r=>(do
    if f.name≠ "_" then
     let v <- part f.type xs f.offset
     Instr.checkKey empty (n+1) f.type v
     pure (ForInStep.yield PUnit.unit)
    else pure (ForInStep.yield PUnit.unit):Sem (ForInStep PUnit))).run P w=.ok PUnit.unit w:=by
 intro ss;induction ss with
 | nil=>intro fs i l h _ _; cases fs<;>simp[qcx]at h; rfl
 | cons s ss ih =>
  intro fs i l h hx hk;cases fs with
  | nil=>simp[qcx]at h
  | cons f fs =>
   simp only[qcx,Jad,beq_iff_eq,bne_iff_ne]at h;obtain⟨⟨⟨h1,h2⟩,h3⟩,h4⟩:=h;cases l with
   | nil=>simp[okKs]at hk
   | cons v l =>
    simp only[okKs,Jad]at hk;obtain⟨x',rx,hx0,hx1,hx2⟩:=VRs.cons_inv hx;have gx:xs[i]?=some x':=by
     have:(xs.toList.drop i)[0]?=some x':=by rw[hx0]; rfl
     simpa using this
    have tx:xs.toList.drop (i+1)=rx:=by rw[<-List.drop_drop,hx0]; rfl
    have hag:=qlo h3;have px:(part f.type xs f.offset).run P w=.ok x' w:=by simp[part,qct hag,h1,gx]
    have hc:=qt8 empty w n h3 x';rw[List.forIn_cons];simp only[Sem.run_bind,Jab h2,px,hc,Result.andThen_ok,Sem.run_pure];exact ih fs (i+1) l h4 (by rw[tx]; exact hx2) hk.2
theorem qud(empty:Bool)(w:World)(n:Nat){ss:List SK}{t:TypeId}{gs:Array Field}(hu:P.underlying t=some (.struct gs))(hf:qcx P ss gs.toList 0=true){l:List V}{xs:Array Value}(hx:VRs N ι ro l xs.toList)(hk:okKs ss l=true) :
  (Instr.checkKey empty (n+2) t (.agg xs)).run P w=.ok () w:=by
 rw[Instr.checkKey];simp only[Sem.run_bind,underlying,run_program,hu,Sem.run_pure,Result.andThen_ok];rw[<-Array.forIn_toList];have:=qug (N:=N) (ι:=ι) (ro:=ro) empty w n ss gs.toList 0 l hf (by simpa using hx) hk;simp at this ⊢;rw[this];rfl
theorem quf (empty : Bool) (w : World) (n : Nat) {xs : Array Value} : ∀ (fs : List Field) (ss : List SK) (i : Nat) (l : List V), qt7 P ss fs i = true → VRs N ι ro l (xs.toList.drop i) → okKs ss l = true →
   (forIn fs PUnit.unit λf r=>(do
    if f.name≠ "_" then
     let v <- part f.type xs f.offset
     Instr.checkKey empty (n+2) f.type v
     pure (ForInStep.yield PUnit.unit)
    else pure (ForInStep.yield PUnit.unit):Sem (ForInStep PUnit))).run P w=.ok PUnit.unit w:=by
 intro fs;induction fs with
 | nil=>intro _ _ _ _ _ _; rfl
 | cons f fs ih =>
  intro ss i l h hx hk;obtain⟨h1,h2,h3⟩:=qua h;rcases h3 with ⟨gs,hu,hg,hst,hsz,h4⟩|⟨s,ss',rfl,h3,h4⟩
  ·obtain⟨px,p1,p2⟩:=qt9 hu hsz hx;obtain⟨k1,k2⟩:=qub gs.size hk;have hc:=qud empty w n hu hg p2 k1;rw[<-h1]at p1;rw[List.forIn_cons];simp only[Sem.run_bind,Jab h2,p1,hc,Result.andThen_ok,Sem.run_pure];exact ih (ss.drop gs.size) (i+gs.size) (l.drop gs.size) h4 (by rw[<-List.drop_drop]; exact hx.drop gs.size) k2
  ·cases l with
   | nil=>simp[okKs]at hk
   | cons v l =>
    simp only[okKs,Jad]at hk;obtain⟨x',rx,hx0,hx1,hx2⟩:=VRs.cons_inv hx;have gx:xs[i]?=some x':=by
     have:(xs.toList.drop i)[0]?=some x':=by rw[hx0]; rfl
     simpa using this
    have tx:xs.toList.drop (i+1)=rx:=by rw[<-List.drop_drop,hx0]; rfl
    have hag:=qlo h3;have px:(part f.type xs f.offset).run P w=.ok x' w:=by simp[part,qct hag,h1,gx]
    have hc:=qt8 empty w (n+1) h3 x';rw[List.forIn_cons];simp only[Sem.run_bind,Jab h2,px,hc,Result.andThen_ok,Sem.run_pure];exact ih ss' (i+1) l h4 (by rw[tx]; exact hx2) hk.2
theorem qiQ(empty:Bool)(w:World)(n:Nat){ss:List SK}{t:TypeId}(h:qjL P ss t=true){l:List V}{xs:Array Value}(hx:VRs N ι ro l xs.toList)(hk:okKs ss l=true) :
  (Instr.checkKey empty (n+3) t (.agg xs)).run P w=.ok () w:=by
 obtain⟨fs,hu,hfo,hf,hs⟩:=qdS h;rw[Instr.checkKey];simp only[Sem.run_bind,underlying,run_program,hu,Sem.run_pure,Result.andThen_ok];rw[<-Array.forIn_toList];have:=quf (N:=N) (ι:=ι) (ro:=ro) empty w n fs.toList ss 0 l hf (by simpa using hx) hk;simp at this ⊢;rw[this];rfl
theorem qn1{k:KK}{t:TypeId}(h:qfz P k t=true):∃d,P.underlying t=some d:=by
 cases k with
 | one s =>
  simp only[qfz]at h;unfold okSK at h;cases hu:P.underlying t with
  | none=>cases s<;>simp[hu]at h
  | some d=>exact⟨d,rfl⟩
 | agg ss=>obtain⟨fs,hu,_⟩:=qdS h; exact⟨_,hu⟩
theorem qdV(empty:Bool)(w:World)(n:Nat){k:KK}{t:TypeId}(h:qfz P k t=true){v:V}{x:Value}(hx:VR N ι ro v x)(hk:qbX k v=true) :
  (Instr.checkKey empty (n+3) t x).run P w=.ok () w:=by
 cases k with
 | one s =>
  simp only[qfz,qbX]at h hk;unfold okSK at h;cases hu:P.underlying t with
  | none=>cases s<;>simp[hu]at h
  | some d=>cases s<;>cases d<;>simp[hu]at h<;>simp[Instr.checkKey,underlying,hu]
 | agg ss =>
  simp only[qfz,qbX]at h hk;cases v<;>simp only[reduceCtorEq,Jan]at hk
  simp only[VR]at hx;obtain⟨xs,rfl,hx⟩:=hx;exact qiQ empty w n h hx hk
def qiV(N:Num)(ι:Inj)(ro:RO):Option (Nat × V)->Option (Nat × Value)->Prop
 | none,none=>True
 | some r,some s=>r.1=s.1/\VR N ι ro r.2 s.2
 | _,_=>False
theorem qkk{s:SK}{t:TypeId}(h:okSK P s t=true){x y:V}{x' y':Value}{b:Bool}(he:eq1 x y=some b)(hs:s.ok x=true)(hx:VR N ι ro x x')(hy:VR N ι ro y y') :
  ∃d,P.underlying t=some d/\Instr.sameNow d x' y'=some b:=by
 unfold eq1 at he;split at he
 ·rename_i k n l m;cases hk:ikB k l<;>simp[hk]at he
  rw[qf0]at hk; simp at hk; subst hk;rw[qek]at he; subst he;cases s<;>simp[SK.ok]at hs
  simp only[VR]at hx hy; subst hx; subst hy;unfold okSK at h;cases hu:P.underlying t with
  | none=>simp[hu]at h
  | some d=>cases d<;>simp[hu]at h; exact⟨_,rfl,by simp[Instr.sameNow]; rfl⟩
 ·cases he;cases s<;>simp[SK.ok]at hs
  simp only[VR]at hx hy; subst hx; subst hy;unfold okSK at h;cases hu:P.underlying t with
  | none=>simp[hu]at h
  | some d=>cases d<;>simp[hu]at h; exact⟨_,rfl,by simp[Instr.sameNow]⟩
 ·cases he;cases s<;>simp[SK.ok]at hs
  simp only[VR]at hx hy;obtain⟨x1,rfl,rfl⟩:=hx;obtain⟨y1,rfl,rfl⟩:=hy;unfold okSK at h;cases hu:P.underlying t with
  | none=>simp[hu]at h
  | some d=>cases d<;>simp[hu]at h; exact⟨_,rfl,by simp[Instr.sameNow,beq_toListBytes,ByteArray.toList_eq]⟩
 ·cases he
theorem qha{s:SK}{t:TypeId}(h:okSK P s t=true){k:V}{k':Value}(hk:VR N ι ro k k')(hs:s.ok k=true){d:TypeDesc}(hd:P.underlying t=some d) :
  ∀{es:List (Nat × V × V)}{es':List MapEntry}{i:Nat}{r:Option (Nat × V)},All2 (qdY N ι ro) es es'->qcz k es i=some r->∃r',Instr.findNow d k' es' i=some r'/\qiV N ι ro r r'
 | [],_,i,r,he,hf=>by cases he; simp[qcz]at hf; subst hf; exact⟨none,by simp[Instr.findNow],trivial⟩
 | (b,q,u)::es,_,i,r,he,hf=>by
  cases he with
  | cons h1 h2 =>
   rename_i e' es';simp only[qcz]at hf;cases hq:qcV k q with
   | none=>simp[hq]at hf
   | some c =>
    have hq':eq1 k q=some c:=by
     unfold qcV at hq;cases k<;>simp[SK.ok]at hs<;>first|exact hq|(cases s<;>simp at hs)
    obtain⟨d',hd',hsn⟩:=qkk h hq' hs hk h1.2.1;rw[hd]at hd'; cases hd';cases c
    ·simp only[hq,cond]at hf;obtain⟨r',k1,k2⟩:=qha h hk hs hd h2 hf;exact⟨r',by simp[Instr.findNow,hsn,k1],k2⟩
    ·simp[hq]at hf;subst hf;exact⟨some (i,e'.val),by simp[Instr.findNow,hsn],⟨rfl,h1.2.2⟩⟩
theorem qhb{ss:List SK}{t:TypeId}(h:qjL P ss t=true){l:List V}{xs:Array Value}(hk:VRs N ι ro l xs.toList)(hs:okKs ss l=true)(w:World) :
  ∀{es:List (Nat × V × V)}{es':List MapEntry}{i:Nat}{r:Option (Nat × V)},All2 (qdY N ι ro) es es'->qcz (.agg l) es i=some r->∃r',(Instr.findAsking t (.agg xs) es' i).run P w=.ok r' w/\qiV N ι ro r r'
 | [],_,i,r,he,hf=>by cases he; simp[qcz]at hf; subst hf; exact⟨none,by simp[Instr.findAsking],trivial⟩
 | (b,q,u)::es,_,i,r,he,hf=>by
  cases he with
  | cons h1 h2 =>
   rename_i e' es';simp only[qcz]at hf;cases hq:qcV (.agg l) q with
   | none=>simp[hq]at hf
   | some c =>
    unfold qcV at hq;cases q<;>simp only[reduceCtorEq]at hq
    rename_i m;have hy:=h1.2.1;simp only[VR]at hy;obtain⟨ys,hy0,hy1⟩:=hy;have hrun:(Op.equal t (.agg xs) e'.key).run P w=.ok c w:=by
     rw[hy0]; exact qhD h hk hy1 hs hq 9997 w
    cases c
    ·have hq2:qcV (.agg l) (.agg m)=some false:=hq;simp only[hq2,cond]at hf;obtain⟨r',k1,k2⟩:=qhb h hk hs w h2 hf;exact⟨r',by simp[Instr.findAsking,hrun,k1],k2⟩
    ·have hq2:qcV (.agg l) (.agg m)=some true:=hq;simp[hq2]at hf;subst hf;exact⟨some (i,e'.val),by simp[Instr.findAsking,hrun],⟨rfl,h1.2.2⟩⟩
theorem qbH{kk:KK}{t:TypeId}(h:qfz P kk t=true){k:V}{k':Value}(hk:VR N ι ro k k')(hs:qbX kk k=true)(w:World)
  {es:List (Nat × V × V)}{es':List MapEntry}{r:Option (Nat × V)}(he:All2 (qdY N ι ro) es es') (hf:qcz k es 0=some r) :
  ∃r',(Instr.findKey t k' es').run P w=.ok r' w/\qiV N ι ro r r':=by
 cases kk with
 | one s =>
  simp only[qfz,qbX]at h hs;obtain⟨d,hd⟩:∃d,P.underlying t=some d:=by
   unfold okSK at h;cases hu:P.underlying t with
   | none=>cases s<;>simp[hu]at h
   | some d=>exact⟨d,rfl⟩
  obtain⟨r',k1,k2⟩:=qha h hk hs hd he hf;exact⟨r',by simp[Instr.findKey,underlying,hd,k1],k2⟩
 | agg ss =>
  simp only[qfz,qbX]at h hs;cases k<;>simp only[reduceCtorEq,Jan]at hs
  rename_i l;simp only[VR]at hk;obtain⟨xs,rfl,hk⟩:=hk;obtain⟨r',k1,k2⟩:=qhb h hk hs w he hf;obtain⟨fs,hu,_⟩:=qdS h;refine⟨r',?_,k2⟩;cases es' with
  | nil =>
   simp[Instr.findAsking]at k1; subst k1;simp[Instr.findKey,underlying,hu,Instr.findNow]
  | cons e' es'=>simp[Instr.findKey,underlying,hu,Instr.findNow,Instr.sameNow,k1]
theorem qrL{zero:V}{t:TypeId}(h:okZ P zero t=true):∃z,VR N ι ro zero z/\∀w,(zeroValue t).run P w=.ok z w:=by
 unfold okZ at h;split at h
 ·rename_i z hz;refine⟨z,okV_VR _ _ h,λw=>?_⟩;unfold qht at hz;cases hi:P.info? t with
  | none=>simp[hi]at hz
  | some i=>simp[hi]at hz; simp[zeroValue,typeInfo,hi,hz]
 ·cases h
theorem qCD{v:V}{x:Value}{b:Bool}(h:VR N ι ro v x):VR N ι ro (.tup [v,.bool b]) (.tuple #[x,.bool b]):=by
 simp only[VR]; exact⟨_,rfl,VRs.cons h (VRs.cons (by simp only[VR]) VRs.nil)⟩
theorem qnC{kk:KK}{zero:V}{ok:Bool}{m k:Opd}(hok:okR P N (.lookup kk zero ok m k) p=true)(htm:VRtm N ι ro tm a.tmps)(hh:HR N CR ι ro h w)(hev:(qbc (.lookup kk zero ok m k)).run tm h=some v):qeb P N ι ro a p v w:=by
 simp only[qbc]at hev;cases p<;>simp[okR]at hok
 rename_i t y j ok';obtain⟨⟨⟨rfl,hm⟩,hk⟩,hd⟩:=hok;have hm:=qan htm hm;have hk:=qan htm hk;cases hu:P.underlying t with
 | none=>simp[hu]at hd
 | some d =>
  cases d<;>simp[hu]at hd
  rename_i key e;obtain⟨hkey,hz⟩:=hd;obtain⟨z,hz1,hz2⟩:=qrL (N:=N) (ι:=ι) (ro:=ro) hz;cases hko:qbX kk (k.ev tm)<;>simp only[hko,cond,reduceCtorEq]at hev
  obtain⟨dk,hdk⟩:=qn1 hkey;have hck:=λempty=>qdV (P:=P) empty w 9997 hkey hk hko;cases hmv:m.ev tm<;>simp only[hmv,reduceCtorEq]at hev<;>rw[hmv]at hm
  ·simp only[VR]at hm;cases ok<;>simp at hev<;>subst hev
   ·exact⟨z,hz1,λo h=>by simp[execOp,h,Instr.lookup,underlying,hu,hm,hck,Instr.findKey,Instr.findNow,hz2,hdk]⟩
   ·exact⟨_,qCD hz1,λo h=>by simp[execOp,h,Instr.lookup,underlying,hu,hm,hck,Instr.findKey,Instr.findNow,hz2,hdk]⟩
  ·rename_i i;split at hev
   ·rename_i es cl hg;obtain⟨wn,es',g1,g2,g3⟩:=hh.map hg;simp only[VR]at hm;obtain⟨wn',hw,e1⟩:=hm;rw[hw]at g1; cases g1;split at hev
    ·rename_i r hr;obtain⟨r',k1,k2⟩:=qbH hkey hk hko w g3 hr;cases r' with
     | none=>exact k2.elim
     | some s =>
      cases ok<;>simp at hev<;>subst hev
      ·exact⟨_,k2.2,λo h=>by simp[execOp,h,Instr.lookup,underlying,hu,e1,getObj,Sem.run,g2,hck,k1]⟩
      ·exact⟨_,qCD k2.2,λo h=>by simp[execOp,h,Instr.lookup,underlying,hu,e1,getObj,Sem.run,g2,hck,k1]⟩
    ·rename_i hr;obtain⟨r',k1,k2⟩:=qbH hkey hk hko w g3 hr;cases r' with
     | some s=>exact k2.elim
     | none =>
      cases ok<;>simp at hev<;>subst hev
      ·exact⟨z,hz1,λo h=>by simp[execOp,h,Instr.lookup,underlying,hu,e1,getObj,Sem.run,g2,hck,k1,hz2]⟩
      ·exact⟨_,qCD hz1,λo h=>by simp[execOp,h,Instr.lookup,underlying,hu,e1,getObj,Sem.run,g2,hck,k1,hz2]⟩
    ·cases hev
   ·cases hev
theorem All2.find{es:List (Nat × V × V)}{es':List MapEntry}(h:All2 (qdY N ι ro) es es'){b:Nat}{e:Nat × V × V}(hf:es.find? (λe=>Nat.beq e.1 b)=some e) :
  ∃e',es'.find? (λe=>e.born == b)=some e'/\qdY N ι ro e e':=by
 induction h with
 | nil=>simp at hf
 | cons h k ih =>
  rename_i x y l m;rw[List.find?_cons]at hf ⊢;have:(y.born == b)=Nat.beq x.1 b:=by rw[h.1,Bool.eq_iff_iff,Jas]; simp
  rw[this];cases hb:Nat.beq x.1 b
  ·simp only[hb]at hf; exact ih hf
  ·simp only[hb]at hf; cases hf; exact⟨y,rfl,h⟩
theorem qpl{x:Opd}(hok:okR P N (.entry x) p=true)(htm:VRtm N ι ro tm a.tmps)(hh:HR N CR ι ro h w)(hev:(qbc (.entry x)).run tm h=some v):qeb P N ι ro a p v w:=by
 simp only[qbc]at hev;cases p<;>simp[okR]at hok
 have hx:=qan htm hok;split at hev
 ·rename_i i hxv;rw[hxv]at hx;simp only[VR]at hx;obtain⟨wn,hw,e1⟩:=hx;split at hev
  ·rename_i m s seen last hg;split at hev
   ·rename_i es clock b r hg2;cases hc:Nat.beq clock last<;>simp only[hc,cond,reduceCtorEq]at hev
    rw[Jas]at hc; subst hc;split at hev
    ·rename_i e he;cases hev;obtain⟨_,wn',g1,c,g2,g3,wm,g4,rfl⟩:=hh.live i _ hg;rw[hw]at g1; cases g1;obtain⟨wm',es',k1,k2,k3⟩:=hh.map hg2;rw[g4]at k1; cases k1;obtain⟨e',f1,f2⟩:=k3.find he;refine⟨.tuple #[e'.key,e'.val],by simp only[VR]; exact⟨_,rfl,VRs.cons f2.2.1 (VRs.cons f2.2.2 VRs.nil)⟩,λo h=>?_⟩;have hf:es'.find? (λx=>x.born == b)=some e':=by rw[<-Array.find?_toList]; exact f1
     have haddr:wn.at 0 0=⟨wn.blk,0,none⟩:=by simp[Plc.at,g3]
     simp[execOp,h,Instr.entry,e1,haddr,getObj,Sem.run,g2,k2,hf]
    ·cases hev
   ·cases hev
  ·cases hev
 ·cases hev
theorem qtT{o:RdO}(hok:okR P N o p=true)(htm:VRtm N ι ro tm a.tmps)(hh:HR N CR ι ro h w)(hev:(qbc o).run tm h=some v):qeb P N ι ro a p v w:=by
 cases o with
 | load n x=>exact qrr hok htm hh hev
 | b2s x=>exact sR_b2s hok htm hh hev
 | lookup k z o m x=>exact qnC hok htm hh hev
 | len k x=>exact sR_len hok htm hh hev
 | entry x=>exact qpl hok htm hh hev
variable {N:Num}{CR:Nat->IC->Code->Prop}{ι:Inj}{ro:RO}{P:Program}{tm:Tm}{a:Act}{v:V}{p:Op}{h:Heap}{w:World}
structure qdA (w w':World) (c:Go.Obj):Prop where
 old:∀b,b<w.heap.size->w'.heap[b]?=w.heap[b]?
 new:w'.heap[w.heap.size]?=some c
 env:qbM w w'
theorem qdA.alloc(w:World)(c:Go.Obj):qdA w { w with heap:=w.heap.push c } c where
 old:=λb hb=>by simp[Array.getElem?_push,Nat.ne_of_lt hb]
 new:=by simp
 env:=⟨rfl,rfl,rfl,(by first|exact Jac _|exact Nat.le_succ _|simp),by simp⟩
def qbQ(P:Program)(N:Num)(CR:Nat->IC->Code->Prop)(ι:Inj)(ro:RO)(a:Act)(p:Op)(ob:Obj)(f:Nat->V)(w:World):Prop :=
 ∃wn c w' x,wn.blk=w.heap.size/\qdA w w' c/\(∀ι':Inj,(∀i u,ι i=some u->ι' i=some u)->ORel N CR ι' ro ob wn c) /\
  (∀(ι':Inj) i,ι' i=some wn->VR N ι' ro (f i) x)/\∀(o:Oper),o.op=p->(execOp a.eval o).run P w=.ok (.value x) w'
def qiU(P:Program)(N:Num)(ι:Inj)(ro:RO)(a:Act)(p:Op)(v:V)(w:World):Prop :=
 ∃c e fz w' x,qdA w w' (.cells c e fz)/\VR N ι (λb=>if b=w.heap.size then some c else ro b) v x /\
  ∀(o:Oper),o.op=p->(execOp a.eval o).run P w=.ok (.value x) w'
theorem qps{l:List V}{c:Array Value}(h:VRs N ι ro l c.toList):qau N ι ro [l] c 0 l.length:=by
 refine⟨by simp,λi r hr j u hu=>?_⟩;cases i with
 | zero =>
  simp at hr; subst hr;obtain⟨x,hx,hv⟩:=h.get hu;exact⟨x,by simpa using hx,hv⟩
 | succ i=>simp at hr
theorem qlv{l:List V}{c:Array Value}(h:VRs N ι ro l c.toList)(hl:0<l.length){e:TypeId}(w:World){op:Op}
  (hrun:∀(o:Oper),o.op=op->(execOp a.eval o).run P w=.ok (.value (.pointer (some ⟨w.heap.size,0,none⟩))) { w with heap:=w.heap.push (.cells c e (0,0)) }) :
  qbQ P N CR ι ro a op (.rows [l]) (λi=>.ptr i 0 0) w:=by
 refine⟨⟨w.heap.size,0,l.length,c.size⟩,_,_,_,rfl,qdA.alloc w _,λι' hi=>?_,λι' i hi=>?_,hrun⟩
 ·refine⟨c,e,(0,0),rfl,rfl,.inl rfl,?_,?_⟩
  ·have:=h.length; simp; simp at this; omega
  ·exact(qps h).mono hi λ_ _ h=>h
 ·simp only[VR];exact⟨_,hi,by simp[Plc.at]⟩
theorem qpq{cells:List V}(hok:okA P N (.alloc cells) p=true)(w:World):qbQ P N CR ι ro a p (.rows [cells]) (λi=>.ptr i 0 0) w:=by
 cases p<;>simp[okA]at hok
 rename_i t;obtain⟨hl,hok⟩:=hok;obtain⟨z,h1,h2,h3,h4,h5⟩:=qd1 (N:=N) (ι:=ι) (ro:=ro) hok;exact qlv (e:=t) h1 hl w λo h=>by simp[execOp,h,Instr.alloc,h5,newVar,newRow]
theorem sA_box{n:Nat}{x:Opd}(hok:okA P N (.box n x) p=true)(htm:VRtm N ι ro tm a.tmps)(hn:0<(x.ev tm).cells.length)(w:World) :
  qbQ P N CR ι ro a p (.rows [(x.ev tm).cells]) (λi=>.ptr i 0 0) w:=by
 cases p<;>simp[okA]at hok
 rename_i e y;have hx:=qan htm hok;have hx:=qBT hx (λe=>by rw[e]at hn; simp[V.cells]at hn);exact qlv (e:=e) hx hn w λo h=>by simp[execOp,h,Instr.box,newVar,newRow]
theorem qmr{z:Array Value}{n i:Nat}(hz:0<z.size)(hi:i<n * z.size):((Array.range (n * z.size)).map λj=>z[j % z.size]!)[i]?=z[i % z.size]?:=by
 rw[Array.getElem?_map];simp only[Array.getElem?_range];rw[Jab hi];simp only[Option.map_some];have:i % z.size<z.size:=Nat.mod_lt _ hz;simp[this]
theorem qde{zero:List V}{z:Array Value}(h:VRs N ι ro zero z.toList)(hz:0<zero.length)(n m:Nat)(hnm:n<=m):qau N ι ro (List.replicate n zero) ((Array.range (m * z.size)).map λj=>z[j % z.size]!) 0 zero.length:=by
 have hl:=h.length;simp at hl;refine⟨λr hr=>by rw[(List.mem_replicate.1 hr).2],λi r hr j u hu=>?_⟩;rw[List.getElem?_replicate]at hr;split at hr
 ·rename_i hi;cases hr;obtain⟨x,hx,hv⟩:=h.get hu;have hj:j<zero.length:=(Jam.1 hu).1;refine⟨x,?_,hv⟩;have hlt:0+i * zero.length+j<m * z.size:=by
   rw[<-hl];have:(i+1) * zero.length<=m * zero.length:=Nat.mul_le_mul_right _ (by omega);rw[Nat.add_mul]at this; omega
  rw[qmr (by omega) hlt,<-hl];rw[Nat.zero_add,Nat.mul_comm,Nat.mul_add_mod,Nat.mod_eq_of_lt hj];simpa using hx
 ·cases hr
theorem qf3{esz:Nat}:∀{ps:List (Nat × Opd)}{qs:List (Nat × Operand)}{rows rs:List (List V)}{cs:Array Value}(_:VRtm N ι ro tm a.tmps) (_:qd2 N ps qs=true)
  (_:qau N ι ro rows cs 0 esz) (_:cs.size=rows.length * esz) (_:qaV esz rows tm ps=some rs),
  ∃cs',qau N ι ro rs cs' 0 esz/\cs'.size=cs.size/\rs.length=rows.length/\Instr.fill (λi=>some (i * esz,esz)) cs (qs.map λ(i,x)=>(i,a.eval x))=some cs'
 | [],[],rows,rs,cs,htm,h,hc,hs,hev=>by simp[qaV]at hev; subst hev; exact⟨cs,hc,rfl,rfl,by simp[Instr.fill]⟩
 | [],_::_,_,_,_,_,h,_,_,_=>by simp[qd2]at h
 | _::_,[],_,_,_,_,h,_,_,_=>by simp[qd2]at h
 | (i,x)::ps,(j,y)::qs,rows,rs,cs,htm,h,hc,hs,hev=>by
  simp only[qd2,Jad,beq_iff_eq]at h;obtain⟨⟨rfl,hx⟩,hrest⟩:=h;simp only[qaV]at hev;cases hb:(Nat.beq (V.cells (x.ev tm)).length esz&&Nat.blt 0 esz&&Nat.blt i rows.length)<;>simp only[hb,cond,reduceCtorEq]at hev
  simp only[Jad,Jas,Nat.blt_eq]at hb;obtain⟨⟨hb1,hb2⟩,hb3⟩:=hb;have hx:=qBT (qan htm hx) (λe=>by rw[e]at hb1; simp[V.cells]at hb1; omega);have hl:=hx.length;have hsz:(a.eval y).cells.size=esz:=by rw[<-hb1,hl]; simp
  have hin:i * esz+esz<=cs.size:=by
   rw[hs];have:(i+1) * esz<=rows.length * esz:=Nat.mul_le_mul_right _ (by omega);rw[Nat.add_mul]at this; omega
  have fold:∀(l:List Value) (k off:Nat) (cs:Array Value),((l.zipIdx k).foldl (λcs (c,j)=>cs.setIfInBounds (off+j) c) cs).size=cs.size /\
    ∀q,((l.zipIdx k).foldl (λcs (c,j)=>cs.setIfInBounds (off+j) c) cs)[q]?=if off+k<=q/\q<off+k+l.length/\q<cs.size then l[q-(off+k)]? else cs[q]?:=by
   intro l;induction l with
   | nil=>intro k off cs; refine⟨rfl,λq=>?_⟩; simp; intro h1 h2 h3; omega
   | cons x l ih =>
    intro k off cs;obtain⟨h1,h2⟩:=ih (k+1) off (cs.setIfInBounds (off+k) x);refine⟨by simp only[List.zipIdx_cons,List.foldl_cons]; rw[h1]; simp,λq=>?_⟩;simp only[List.zipIdx_cons,List.foldl_cons];rw[h2];simp only[Array.size_setIfInBounds,Array.getElem?_setIfInBounds,List.length_cons]
    by_cases c1:off+k=q
    ·have n1:¬(off+(k+1)<=q/\q<off+(k+1)+l.length/\q<cs.size):=by omega
     rw[Jaa n1,Jab c1]
     by_cases c2:off+k<cs.size
     ·rw[Jab c2,Jab (by omega),show q-(off+k)=0 by omega]; rfl
     ·rw[Jaa c2,Jaa (by omega),Array.getElem?_eq_none (by omega)]
    ·by_cases c2:off+(k+1)<=q/\q<off+(k+1)+l.length/\q<cs.size
     ·rw[Jab c2,Jab (by omega)];obtain⟨m,hm⟩:∃m,q-(off+k)=m+1:=⟨q-(off+k)-1,by omega⟩;rw[hm,show q-(off+(k+1))=m by omega]; simp
     ·rw[Jaa c2,Jaa c1,Jaa (by omega)]
  obtain⟨f1,f2⟩:=fold (a.eval y).cells.toList 0 (i * esz) cs;generalize hcs:(((a.eval y).cells.toList.zipIdx 0).foldl (λcs (c,j)=>cs.setIfInBounds (i * esz+j) c) cs)=cs1 at f1 f2;have hrows:qau N ι ro (rows.set i (x.ev tm).cells) cs1 0 esz:=by
   refine⟨λr hr=>?_,λq r hr j u hu=>?_⟩
   ·rcases List.mem_or_eq_of_mem_set hr with hr|rfl
    ·exact hc.1 r hr
    ·exact hb1
   ·rw[List.getElem?_set]at hr;split at hr
    ·rename_i e;subst e;simp only[hb3,if_true,Jae]at hr;subst hr;obtain⟨z,hz,hv⟩:=hx.get hu;have hj:j<esz:=by rw[<-hb1]; exact(Jam.1 hu).1
     refine⟨z,?_,hv⟩;have hq0:(a.eval y).cells.toList.length=esz:=by simpa using hsz
     rw[f2,Jab (by omega)];rw[show 0+i * esz+j-(i * esz+0)=j by omega]; exact hz
    ·rename_i e;obtain⟨z,hz,hv⟩:=hc.2 q r hr j u hu;have hj:j<esz:=by rw[<-hc.1 r (Jar hr)]; exact(Jam.1 hu).1
     refine⟨z,?_,hv⟩;rw[f2,Jaa ?_]
     ·exact hz
     ·have hl':(a.eval y).cells.toList.length=esz:=by simpa using hsz
      rintro⟨k1,k2,_⟩;have:q=i:=by
       rcases Nat.lt_trichotomy q i with hlt|heq|hgt
       ·have:(q+1) * esz<=i * esz:=Nat.mul_le_mul_right _ hlt;rw[Nat.add_mul]at this; omega
       ·exact heq
       ·have:(i+1) * esz<=q * esz:=Nat.mul_le_mul_right _ hgt;rw[Nat.add_mul]at this; omega
      exact e this.symm
  obtain⟨cs',k1,k2,k3,k4⟩:=qf3 htm hrest hrows (by rw[f1,hs]; simp) hev;refine⟨cs',k1,by rw[k2,f1],by rw[k3]; simp,?_⟩;simp only[List.map_cons,Instr.fill];rw[Jaa (by simp[hsz]; omega)];rw[<-k4,<-hcs];congr 1;rw[<-Array.foldl_toList];simp[Array.toList_zipIdx]
theorem qC5{ι':Inj}{i n esz:Nat}{full:Bool}{w:World}{wn:Plc}(hi:ι' i=some wn)(he:wn.esz=esz)(hb:wn.base=0)(cap:Nat)(hc:n<=cap)(hf:full=true->cap=n)(hs:cap * esz<=wn.sz)  :
  VR N ι' ro (.sl i 0 n esz full) (.slice (some ⟨wn.blk,0,none⟩) n cap):=by
 simp only[VR];refine⟨wn,hi,he,_,_,rfl,hc,hf,.inr ⟨by simp[Plc.at,hb],by rw[hb,he]; simpa using hs⟩⟩
theorem qgO{rs:List (List V)}{c:Array Value}{esz n cap:Nat}{full:Bool}(h:qau N ι ro rs c 0 esz)(hn:n=rs.length)(hc:n<=cap)(hf:full=true->cap=n)(hs:cap * esz<=c.size){e:TypeId}(w w':World){op:Op}{fz:Nat × Nat}
  (hg:qdA w w' (.cells c e fz)) (hfz:fz.1=fz.2\/c.size<=fz.1)
  (hrun:∀(o:Oper),o.op=op->(execOp a.eval o).run P w=.ok (.value (.slice (some ⟨w.heap.size,0,none⟩) n cap)) w') :
  qbQ P N CR ι ro a op (.rows rs) (λi=>.sl i 0 n esz full) w:=by
 refine⟨⟨w.heap.size,0,esz,c.size⟩,_,_,_,rfl,hg,λι' hi=>?_,λι' i hi=>qC5 (w:=w) hi rfl rfl cap hc hf hs,hrun⟩;refine⟨c,e,fz,rfl,rfl,hfz,?_,h.mono hi λ_ _ h=>h⟩;have:rs.length * esz<=cap * esz:=Nat.mul_le_mul_right _ (by omega);simp; omega
theorem qjf{r:Bool}{zero:List V}{len:Nat}{parts:List (Nat × Opd)}(hok:okA P N (.bslice r zero len parts) p=true)(htm:VRtm N ι ro tm a.tmps){rows:List (List V)}
  (hev:qaV zero.length (List.replicate len zero) tm parts=some rows) (w:World) :
  rows.length=len/\∃c e,qau N ι ro rows c 0 zero.length/\len * zero.length=c.size /\
   ∀(o:Oper),o.op=p->(execOp a.eval o).run P w=.ok (.value (.slice (some ⟨w.heap.size,0,none⟩) len len)) { w with heap:=w.heap.push (.cells c e (0,0)) }:=by
 cases p<;>simp[okA]at hok
 rename_i t len' ps;obtain⟨⟨⟨⟨rfl,hp⟩,hsz⟩,hz0⟩,hd⟩:=hok;cases hu:P.underlying t with
 | none=>simp[hu]at hd
 | some d =>
  cases d<;>simp[hu]at hd
  rename_i e;obtain⟨z,h1,h2,h3,h4,h5⟩:=qd1 (N:=N) (ι:=ι) (ro:=ro) hd;have hzl:z.cells.size=zero.length:=by rw[h1.length]; simp
  have h0:=qde (N:=N) (ι:=ι) (ro:=ro) h1 hz0 len len (Jac _);obtain⟨cs',k1,k2,k3,k4⟩:=qf3 htm hp h0 (by simp[hzl]) hev;refine⟨by rw[k3]; simp,cs',e,k1,by rw[k2]; simp[hzl],λo h=>?_⟩;have hne:¬(len * zero.length > 2 ^ 24):=by omega
  by_cases hl:len * zero.length=0
  ·have hlen:len=0:=by rcases Nat.mul_eq_zero.1 hl with h|h<;>omega
   subst hlen;have hr0:Array.range 0=#[]:=rfl;have k5:Instr.fill (λi=>some (i * zero.length,zero.length)) #[] (List.map (λx=>(x.fst,a.eval x.snd)) ps.toList)=some cs':=by
    simpa[hr0]using k4
   simp[execOp,h,Instr.buildSlice,underlying,hu,qa4 h2,newRow,hr0,k5]
  ·have k5:Instr.fill (λi=>some (i * zero.length,zero.length)) ((Array.range (len * zero.length)).map λx=>z.cells[x % z.cells.size]!) (List.map (λx=>(x.fst,a.eval x.snd)) ps.toList)=some cs':=by
    rw[hzl]at k4;simpa[hzl]using k4
   simp[execOp,h,Instr.buildSlice,underlying,hu,qa4 h2,hne,hl,h5,newRow,k5]
theorem qhI(s:ByteArray)(k:Nat):qau N ι ro (qb1 s.data.toList) (s.data.map (λb=>Value.int .u8 b.toNat)++Array.replicate k (.int .u8 0)) 0 1:=by
 refine⟨λr hr=>by simp[qb1]at hr; obtain⟨b,_,rfl⟩:=hr; rfl,λi r hr j u hu=>?_⟩;simp only[qb1,List.getElem?_map]at hr;cases hb:s.data.toList[i]? with
 | none=>simp[hb]at hr
 | some b =>
  simp[hb]at hr; subst hr;cases j with
  | succ j=>simp at hu
  | zero =>
   simp at hu; subst hu;have hlt:i<s.data.size:=by have:=(Jam.1 hb).1; simpa using this
   refine⟨.int .u8 b.toNat,?_,by simp only[VR]⟩;rw[show 0+i * 1+0=i by omega,Array.getElem?_append_left (by simpa using hlt),Array.getElem?_map];have:s.data[i]?=some b:=by simpa using hb
   rw[this]; rfl
theorem qkH(w:World)(blk off n b:Nat)(hb:b≠blk):(w.freeze ⟨blk,off,none⟩ n).heap[b]?=w.heap[b]?:=by
 unfold World.freeze;split
 ·rfl
 ·simp only;rw[Array.getElem?_modify];rw[Jaa (λh=>hb h.symm)]
theorem qnG{x:Opd}{ob:Bool}(hok:okA P N (.s2b ob x) p=true)(htm:VRtm N ι ro tm a.tmps){l:List UInt8}(hx:x.ev tm=.str l)(w:World) :
  ∃(s:ByteArray) (cap:Nat) (c:Array Value) (e:TypeId) (fz:Nat × Nat) (w':World),s.data.toList=l/\s.size<=cap/\c=s.data.map (λb=>Value.int .u8 b.toNat)++Array.replicate (cap-s.size) (.int .u8 0)/\c.size=cap /\
   c.size<=fz.1/\qdA w w' (.cells c e fz)/\∀(o:Oper),o.op=p->(execOp a.eval o).run P w=.ok (.value (.slice (some ⟨w.heap.size,0,none⟩) s.size cap)) w':=by
 cases p<;>simp[okA]at hok
 rename_i src dst y;obtain⟨hy,hd⟩:=hok;have hy:=qan htm hy;rw[hx]at hy;simp only[VR]at hy;obtain⟨s,e1,rfl⟩:=hy;cases hs:P.underlying src with
 | none=>simp[hs]at hd
 | some ds =>
  cases hdd:P.underlying dst with
  | none=>cases ds<;>simp[hs,hdd]at hd
  | some dd =>
   cases ds<;>simp[hs,hdd]at hd
   cases dd<;>simp at hd
   rename_i e;cases he:P.underlying e with
   | none=>simp[he]at hd
   | some de =>
    cases de<;>simp[he]at hd
    rename_i k;cases k<;>simp at hd
    let cap:=Question.cut (.appendCap s.size 0 e) (w.tape w.drawn (.appendCap s.size 0 e))
    have hcap:s.size<=cap:=Nat.le_add_right _ _
    let c:=s.data.map (λb=>Value.int .u8 b.toNat)++Array.replicate (cap-s.size) (.int .u8 0)
    have hcs:c.size=cap:=by simp[c]; have:=ByteArray.size_data (a:=s); omega
    let w1:World:={ w with drawn:=w.drawn+1 }
    let w2:World:={ w1 with heap:=w1.heap.push (.cells c e) }
    have h2:w2.heap[w.heap.size]?=some (.cells c e (0,0)):=by simp[w2,w1]
    have h3:(w2.freeze ⟨w.heap.size,c.size,none⟩ 1).heap[w.heap.size]?=some (.cells c e (c.size,c.size+1)):=by
     unfold World.freeze;rw[Jaa (by decide)];simp only;rw[Array.getElem?_modify];simp[h2]
    refine⟨s,cap,c,e,(c.size,c.size+1),w2.freeze ⟨w.heap.size,c.size,none⟩ 1,rfl,hcap,rfl,hcs,Jac _,⟨λb hb=>?_,h3,?_⟩,λo h=>?_⟩
    ·rw[qkH _ _ _ _ _ (by omega)];simp only[w2,w1];rw[Array.getElem?_push];simp[Nat.ne_of_lt hb]
    ·refine⟨?_,?_,?_,?_,?_⟩<;>unfold World.freeze<;>simp[w2,w1]
    ·simp only[execOp,h,e1];have hsh:w2.shape? w.heap.size=some (e,c.size):=by simp[World.shape?,h2]
     simp only[convert,Sem.run_bind,underlying,run_program,hs,hdd,he,Sem.run_pure,Result.andThen_ok,Conv.stringToBytes,run_choose,Question.forced,Jan,if_false,newRow,run_newObj,markStringish,run_shape];have:(World.shape? { w1 with heap:=w1.heap.push (.cells c e) } w.heap.size)=some (e,c.size):=hsh;simp only[c,cap,w1]at this;simp only[this];rfl
theorem sA_mkm(hok:okA P N .mkm p=true)(w:World):qbQ P N CR ι ro a p (.map [] 0) .map w:=by
 cases p<;>try (simp[okA]at hok; done)
 rename_i t r;cases r<;>simp[okA]at hok
 exact⟨⟨w.heap.size,0,0,0⟩,_,_,.map (some w.heap.size),rfl,qdA.alloc w _,λι' hi=>⟨#[],rfl,.nil⟩,λι' i hi=>by simp only[VR]; exact⟨_,hi,rfl⟩,
  λo h=>by simp[execOp,h,Instr.makeMap]⟩
theorem qrx{x:Opd}(hok:okA P N (.rngS x) p=true)(htm:VRtm N ι ro tm a.tmps){s:List UInt8}(hx:x.ev tm=.str s)(w:World):qbQ P N CR ι ro a p (.strIter s 0) (λi=>.ptr i 0 0) w:=by
 cases p<;>simp[okA]at hok
 rename_i t y;obtain⟨hy,hd⟩:=hok;have hy:=qan htm hy;rw[hx]at hy;simp only[VR]at hy;obtain⟨s',e1,rfl⟩:=hy;cases hu:P.underlying t with
 | none=>simp[hu]at hd
 | some d =>
  cases d<;>simp[hu]at hd
  exact⟨⟨w.heap.size,0,0,0⟩,_,_,_,rfl,qdA.alloc w (.stringIter s' 0),λι' hi=>⟨rfl,s',rfl,rfl⟩,λι' i hi=>by simp only[VR]; exact⟨_,hi,rfl⟩,
   λo h=>by simp[execOp,h,Instr.range,underlying,hu,e1,Plc.at]⟩
theorem qeo{n b:Nat}(h:qaI n b=true):n<4294967296/\b<1024:=by
 simpa only[qaI,Jad,Nat.blt_eq]using h
theorem qh8{t:TypeId}{n:Nat}(h:qf6 P t=some n):∃i,P.info? t=some i/\i.bytes=n:=by
 unfold qf6 at h;cases hi:P.info? t with
 | none=>simp[hi]at h
 | some i=>simp[hi]at h; exact⟨i,rfl,h⟩
theorem sA_mks{zero:List V}{bytes:Nat}{l c:Opd}(hok:okA P N (.mks zero bytes l c) p=true)(htm:VRtm N ι ro tm a.tmps){k1 k2:IntKind}{m n:Nat}(hl:l.ev tm=.int k1 (.ofNat m))(hc:c.ev tm=.int k2 (.ofNat n))
  (hmn:m<=n) (hr:qaI n bytes=true) (w:World):qbQ P N CR ι ro a p (.rows (List.replicate m zero)) (λi=>.sl i 0 m zero.length (Nat.beq m n)) w:=by
 cases p<;>simp[okA]at hok
 rename_i t l' c';obtain⟨⟨⟨h1,h2⟩,hz0⟩,hd⟩:=hok;have h1:=qan htm h1;have h2:=qan htm h2;rw[hl]at h1; rw[hc]at h2;simp only[VR]at h1 h2;obtain⟨r1,r2⟩:=qeo hr;cases hu:P.underlying t with
 | none=>simp[hu]at hd
 | some d =>
  cases d<;>simp[hu]at hd
  rename_i e;obtain⟨hz,hb⟩:=hd;obtain⟨z,z1,z2,z3,z4,z5⟩:=qd1 (N:=N) (ι:=ι) (ro:=ro) hz;obtain⟨i,hi,hib⟩:=qh8 hb;have hzl:z.cells.size=zero.length:=by rw[z1.length]; simp
  have hrows:=qde (N:=N) (ι:=ι) (ro:=ro) z1 hz0 m n hmn;rw[hzl]at hrows;have hbig:(i.bytes:Int) * (Int.ofNat n)<=281474976710656:=by
   rw[hib];have:bytes * n<=1024 * 4294967296:=Nat.mul_le_mul (by omega) (by omega);have h':((bytes * n:Nat):Int)<=((1024 * 4294967296:Nat):Int):=Int.ofNat_le.2 this;simp only[Int.natCast_mul]at h';simp only[Int.ofNat_eq_natCast];omega
  have hsize:i.size=zero.length:=by unfold qbA at z2; rw[hi]at z2; simpa using z2
  have hzero:i.zero=some z:=by unfold qht at z4; rw[hi]at z4; simpa using z4
  have hrun:=run_make (P:=P) w t e i z hu hi hzero k1 k2 (Int.ofNat m) (Int.ofNat n) (by simp) (by simp; omega) hbig (by simp; omega);have hcells:madeCells z.cells ((Int.ofNat n).toNat * i.size)=((Array.range (n * zero.length)).map λx=>z.cells[x % zero.length]!):=by
   rw[hsize];have:(Int.ofNat n).toNat=n:=rfl;rw[this];unfold madeCells;rw[hzl]
  rw[hcells]at hrun;refine qgO (cap:=n) (e:=e) (fz:=(0,0)) hrows (by simp) hmn (λh=>(Jas.mp h).symm) (by simp) w _ (qdA.alloc w _) (.inl rfl) λo h=>?_;simp only[execOp,h,h1,h2];simp only[Sem.run_bind,hrun,Result.andThen_ok,Sem.run_pure];rfl
theorem sA_s2b{x:Opd}{ob:Bool}(hok:okA P N (.s2b ob x) p=true)(htm:VRtm N ι ro tm a.tmps){l:List UInt8}(hx:x.ev tm=.str l)(w:World) :
  qbQ P N CR ι ro a p (.rows (qb1 l)) (λi=>.sl i 0 l.length 1 false) w:=by
 obtain⟨s,cap,c,e,fz,w',rfl,h1,h2,h3,h4,h5,h6⟩:=qnG hok htm hx w;have hr:=qhI (N:=N) (ι:=ι) (ro:=ro) s (cap-s.size);rw[<-h2]at hr;rw[size_data];exact qgO hr (by simp[qb1]) h1 (λh=>by cases h) (by omega) w w' h5 (.inr h4) h6
theorem qnF{x:Opd}{ob:Bool}(hok:okA P N (.s2b ob x) p=true)(htm:VRtm N ι ro tm a.tmps){l:List UInt8}(hx:x.ev tm=.str l)(w:World) :
  qiU P N ι ro a p (.slR (qb1 l) false) w:=by
 obtain⟨s,cap,c,e,fz,w',rfl,h1,h2,h3,h4,h5,h6⟩:=qnG hok htm hx w;have hr:=qhI (N:=N) (ι:=ι) (ro:=λb=>if b=w.heap.size then some c else ro b) s (cap-s.size);rw[<-h2]at hr;have hl:(qb1 s.data.toList).length=s.size:=by simp[qb1]
 refine⟨c,e,fz,w',_,h5,?_,h6⟩;rw[qBx];exact⟨_,_,by rw[hl],by rw[hl]; exact h1,(λh=>by cases h),.inr ⟨rfl,c,1,by simp,hr⟩⟩
theorem qip{zero:List V}{len:Nat}{parts:List (Nat × Opd)}{r:Bool}(hok:okA P N (.bslice r zero len parts) p=true)(htm:VRtm N ι ro tm a.tmps){rows:List (List V)}
  (hev:qaV zero.length (List.replicate len zero) tm parts=some rows) (w:World):qbQ P N CR ι ro a p (.rows rows) (λi=>.sl i 0 len zero.length true) w:=by
 obtain⟨h1,c,e,h2,h3,h4⟩:=qjf hok htm hev w;exact qgO h2 h1.symm (Jac _) (λ_=>rfl) (by omega) w _ (qdA.alloc w _) (.inl rfl) h4
theorem qje{zero:List V}{len:Nat}{parts:List (Nat × Opd)}{r:Bool}(hok:okA P N (.bslice r zero len parts) p=true)(htm:VRtm N ι ro tm a.tmps){rows:List (List V)}
  (hev:qaV zero.length (List.replicate len zero) tm parts=some rows) (hro:ro w.heap.size=none):qiU P N ι ro a p (.slR rows true) w:=by
 obtain⟨h1,c,e,h2,h3,h4⟩:=qjf hok htm hev w;refine⟨c,e,(0,0),_,_,qdA.alloc w _,?_,h4⟩;rw[qBx];subst h1
 exact⟨_,_,rfl,Jac _,λ_=>rfl,.inr ⟨rfl,c,zero.length,by simp,h2.mono (λ_ _ h=>h) λb c' hb=>by
  by_cases e:b=w.heap.size
  ·subst e; rw[hro]at hb; cases hb
  ·simp[e,hb]⟩⟩
theorem qqI{o:AO}(hok:okA P N o p=true)(htm:VRtm N ι ro tm a.tmps){m:Made}(hev:(qbK o).run tm=some m)(w:World)(hro:ro w.heap.size=none) :
  match m with
  | .val v=>qiU P N ι ro a p v w
  | .obj ob f=>qbQ P N CR ι ro a p ob f w:=by
 cases o with
 | alloc cells=>simp only[qbK,Jae]at hev; subst hev; exact qpq hok w
 | box n x =>
  simp only[qbK]at hev;cases hb:(Nat.beq (x.ev tm).cells.length n&&Nat.blt 0 n)<;>simp only[hb,cond,reduceCtorEq,Jae]at hev
  simp only[Jad,Jas,Nat.blt_eq]at hb;subst hev;exact sA_box hok htm (by omega) w
 | bslice r zero len parts =>
  simp only[qbK]at hev;split at hev
  ·rename_i rows hr;cases r<;>simp only[cond,Jae]at hev<;>subst hev
   ·exact qip hok htm hr w
   ·exact qje hok htm hr hro
  ·cases hev
 | s2b r x =>
  simp only[qbK]at hev;cases hx:x.ev tm<;>simp only[hx,reduceCtorEq]at hev
  cases r<;>simp only[cond,Jae]at hev<;>subst hev
  ·exact sA_s2b hok htm hx w
  ·exact qnF hok htm hx w
 | mkm=>simp only[qbK,Jae]at hev; subst hev; exact sA_mkm hok w
 | mks zero bytes l c =>
  simp only[qbK]at hev;cases hl:l.ev tm<;>simp only[hl,reduceCtorEq]at hev
  cases hc:c.ev tm<;>simp only[hc,reduceCtorEq]at hev
  rename_i k1 m k2 n;cases m<;>cases n<;>simp only[reduceCtorEq]at hev
  rename_i m n;cases hb:(Nat.ble m n&&qaI n bytes)<;>simp only[hb,cond,reduceCtorEq,Jae]at hev
  simp only[Jad,Jat]at hb;subst hev;exact sA_mks hok htm hl hc hb.1 hb.2 w
 | rngS x =>
  simp only[qbK]at hev;cases hx:x.ev tm<;>simp only[hx,reduceCtorEq,Jae]at hev
  subst hev;exact qrx hok htm hx w
variable {N:Num}{CR:Nat->IC->Code->Prop}{ι:Inj}{ro:RO}{P:Program}{tm:Tm}{a:Act}{v:V}{p:Op}{h h':Heap}{w:World}{mk:Nat}
def qgd(P:Program)(N:Num)(CR:Nat->IC->Code->Prop)(ι:Inj)(ro:RO)(a:Act)(p:Op)(h:Heap)(w:World)(v:V)(h':Heap):Prop :=
 ∃ι' w' x nx,Ext h.n ι ro ι' ro/\HR N CR ι' ro h' w'/\VR N ι' ro v x/\qbM w w'/\h.n<=h'.n/\(nx=.value x\/(nx=.skip/\x=Go.undef))/\∀(o:Oper),o.op=p->(execOp a.eval o).run P w=.ok nx w'
def putC:Array Value->Nat->List Value->Array Value
 | c,_,[]=>c
 | c,off,v::vs=>putC (c.setIfInBounds off v) (off+1) vs
theorem qci:∀(vs:List Value) (c:Array Value) (off:Nat),(putC c off vs).size=c.size
 | [],_,_=>rfl
 | v::vs,c,off=>by simp[putC,qci vs]
theorem qb8:∀(vs:List Value) (c:Array Value) (off q:Nat),(putC c off vs)[q]?=if off<=q/\q<off+vs.length/\q<c.size then vs[q-off]? else c[q]?
 | [],c,off,q=>by simp only[putC,List.length_nil]; rw[Jaa (by omega)]
 | v::vs,c,off,q=>by
  simp only[putC,List.length_cons];rw[qb8 vs];simp only[Array.size_setIfInBounds,Array.getElem?_setIfInBounds]
  by_cases c1:off=q
  ·rw[Jaa (by omega),Jab c1]
   by_cases c2:off<c.size
   ·rw[Jab c2,Jab (by omega),show q-off=0 by omega]; rfl
   ·rw[Jaa c2,Jaa (by omega),Array.getElem?_eq_none (by omega)]
  ·by_cases c2:off+1<=q/\q<off+1+vs.length/\q<c.size
   ·rw[Jab c2,Jab (by omega)];obtain⟨m,hm⟩:∃m,q-off=m+1:=⟨q-off-1,by omega⟩;rw[hm,show q-(off+1)=m by omega]; simp
   ·rw[Jaa c2,Jaa c1,Jaa (by omega)]
theorem qjk:∀(vs row:List V) (o q:Nat),(qbW row o vs)[q]?=if o<=q/\q<o+vs.length/\q<row.length then vs[q-o]? else row[q]?
 | [],row,o,q=>by simp only[qbW,List.length_nil]; rw[Jaa (by omega)]
 | v::vs,row,o,q=>by
  simp only[qbW,List.length_cons];rw[qjk vs];simp only[List.length_set,List.getElem?_set]
  by_cases c1:o=q
  ·rw[Jaa (by omega),Jab c1]
   by_cases c2:o<row.length
   ·rw[Jab c2,Jab (by omega),show q-o=0 by omega]; rfl
   ·rw[Jaa c2,Jaa (by omega),List.getElem?_eq_none (by omega)]
  ·by_cases c2:o+1<=q/\q<o+1+vs.length/\q<row.length
   ·rw[Jab c2,Jab (by omega)];obtain⟨m,hm⟩:∃m,q-o=m+1:=⟨q-o-1,by omega⟩;rw[hm,show q-(o+1)=m by omega]; simp
   ·rw[Jaa c2,Jaa c1,Jaa (by omega)]
theorem qmp{i q esz j k:Nat}(h:i * esz+j=q * esz+k)(hj:j<esz)(hk:k<esz):i=q/\j=k:=by
 have:i=q:=by
  rcases Nat.lt_trichotomy i q with hlt|heq|hgt
  ·have:=Nat.mul_le_mul_right esz hlt;rw[Nat.succ_mul]at this; omega
  ·exact heq
  ·have:=Nat.mul_le_mul_right esz hgt;rw[Nat.succ_mul]at this; omega
 subst this; exact⟨rfl,by omega⟩
theorem qau.store{rs:List (List V)}{c:Array Value}{b esz:Nat}(hR:qau N ι ro rs c b esz){r o:Nat}{row:List V}(hr:rs[r]?=some row){vs:List V}{xs:List Value}(hv:VRs N ι ro vs xs)
  (ho:o+vs.length<=row.length):qau N ι ro (rs.set r (qbW row o vs)) (putC c (b+r * esz+o) xs) b esz:=by
 have hrow:row.length=esz:=hR.1 row (Jar hr);have hrl:r<rs.length:=(Jam.1 hr).1;have hl:=hv.length;refine⟨λq hq=>?_,λi q hq j u hu=>?_⟩
 ·rcases List.mem_or_eq_of_mem_set hq with hq|rfl
  ·exact hR.1 q hq
  ·rw[qdF,hrow]
 ·rw[List.getElem?_set]at hq;split at hq
  ·rename_i e;subst e;simp only[hrl,if_true,Jae]at hq;subst hq;have hj:j<row.length:=by have:=(Jam.1 hu).1; rwa [qdF]at this
   obtain⟨x0,hx0,hv0⟩:=hR.2 r row hr j _ (Jal hj);rw[qjk]at hu;split at hu
   ·rename_i hc;obtain⟨x,hx,hvr⟩:=hv.get hu;refine⟨x,?_,hvr⟩;have:=(Array.getElem?_eq_some_iff.1 hx0).1;rw[qb8,Jab (by omega),show b+r * esz+j-(b+r * esz+o)=j-o by omega]; exact hx
   ·rename_i hc;rw[Jal hj]at hu; cases hu;refine⟨x0,?_,hv0⟩;rw[qb8,Jaa (by omega)]; exact hx0
  ·rename_i e;obtain⟨x,hx,hvr⟩:=hR.2 i q hq j u hu;have hj:j<esz:=by rw[<-hR.1 q (Jar hq)]; exact(Jam.1 hu).1
   refine⟨x,?_,hvr⟩;rw[qb8,Jaa ?_]
   ·exact hx
   ·rintro⟨k1,k2,_⟩;have hk:i * esz+j-r * esz<esz\/i * esz+j<r * esz:=by omega
    have hge:r * esz<=i * esz+j:=by omega
    obtain⟨k,hk⟩:∃k,i * esz+j=r * esz+k:=⟨i * esz+j-r * esz,by omega⟩;exact e (qmp hk hj (by omega)).1.symm
theorem qiv:∀{vs:List V}{xs:List Value},VRs N ι ro vs xs->ones vs=true->∀x∈xs,x.oneCell'=true
 | [],xs,h,_,x,hx=>by rw[VRs.nil_inv h]at hx; cases hx
 | v::vs,xs,h,k,x,hx=>by
  obtain⟨y,r,rfl,h1,h2⟩:=VRs.cons_inv h;simp only[ones,Jad]at k;rcases Jag.1 hx with rfl|hx
  ·exact VR.one h1 k.1
  ·exact qiv h2 k.2 x hx
theorem qbO{b:Nat}{e:TypeId}{fz:Nat × Nat}:∀(vs:List Value) (c:Array Value) (off i:Nat) (w:World),w.heap[b]?=some (.cells c e fz)->(fz.1=fz.2\/c.size<=fz.1)->off+i+vs.length<=c.size ->
  (∀x∈vs,x.oneCell'=true) ->
  ∃w',(storeCells ⟨b,off,none⟩ vs i).run P w=.ok () w'/\w'.heap[b]?=some (.cells (putC c (off+i) vs) e fz)/\(∀b',b'≠b->w'.heap[b']?=w.heap[b']?)/\qbM w w'
 | [],c,off,i,w,hb,_,_,_=>⟨w,rfl,hb,λ_ _=>rfl,qbM.refl w⟩
 | v::vs,c,off,i,w,hb,hf,hl,ho=>by
  simp only[List.length_cons]at hl
  let w1:=w.setCell ⟨b,off+i,none⟩ v
  have h1:w1.heap[b]?=some (.cells (c.setIfInBounds (off+i) v) e fz):=by
   simp only[w1,World.setCell];rw[Array.getElem?_modify];simp[hb]
  have hoth:∀b',b'≠b->w1.heap[b']?=w.heap[b']?:=λb' hb'=>by
   simp only[w1,World.setCell];rw[Array.getElem?_modify,Jaa (λh=>hb' h.symm)]
  have henv:qbM w w1:=⟨rfl,rfl,rfl,(by first|exact Jac _|exact Nat.le_succ _|simp),by simp[w1,World.setCell]⟩;obtain⟨w',g1,g2,g3,g4⟩:=qbO vs (c.setIfInBounds (off+i) v) off (i+1) w1 h1 (by simpa using hf) (by simp; omega) (λx hx=>ho x (by simp[hx]));refine⟨w',?_,by simpa[putC,Nat.add_assoc]using g2,λb' hb'=>(g3 b' hb').trans (hoth b' hb'),henv.trans g4⟩;rw[storeCells];simp only[Sem.run_bind];have hfz:w.frozen? ⟨b,off+i,none⟩=false:=by
   simp only[World.frozen?,hb];rcases hf with hf|hf
   ·simp[hf]; try omega
   ·simp; omega
  have hcell:w.cell? ⟨b,off+i,none⟩=some c[off+i]:=by rw[qeE hb,Array.getElem?_eq_getElem (by omega)]
  rw[qBv,run_store P w _ v _ (ho v (by simp))];simp only[hcell,hfz,Jan,if_false,Result.andThen_ok];exact g1
theorem qpj{n:Nat}{x y:Opd}(hok:okW P N (.store n x y) p=true)(htm:VRtm N ι ro tm a.tmps)(hh:HR N CR ι ro h w)(hev:(qay (.store n x y)).run mk tm h=some ⟨v,h'⟩):qgd P N CR ι ro a p h w v h':=by
 simp only[qay]at hev;cases p<;>simp[okW]at hok
 rename_i t x' y';obtain⟨⟨hs,hx⟩,hy⟩:=hok;have hx:=qan htm hx;have hy:=qan htm hy;cases hxv:x.ev tm<;>simp only[hxv,reduceCtorEq]at hev
 rename_i i r o;split at hev
 ·rename_i rs hg;split at hev
  ·rename_i row hr;rw[qcS]at hr;cases hb:(Nat.ble mk i&&Nat.beq (y.ev tm).cells.length n&&Nat.blt 0 n&&Nat.ble (o+n) row.length&&ones (y.ev tm).cells)<;>simp only[hb,cond,reduceCtorEq,Jae,VH.mk.injEq]at hev
   obtain⟨rfl,rfl⟩:=hev;simp only[Jad,Jas,Jat,Nat.blt_eq]at hb;obtain⟨⟨⟨⟨b1,b2⟩,b3⟩,b4⟩,b5⟩:=hb;rw[hxv]at hx;simp only[VR]at hx;obtain⟨wn,hw,e1⟩:=hx;obtain⟨wn',c,e,fz,g1,g2,g3,g4,g5,g6⟩:=hh.rows hg;rw[hw]at g1; cases g1;have hy':=qBT hy (λe=>by rw[e]at b2; simp[V.cells]at b2; omega);have hrow:row.length=wn.esz:=g6.1 row (Jar hr);have hrl:r<rs.length:=(Jam.1 hr).1;have hlen:=hy'.length;have hsz:(a.eval y').cells.size=n:=by rw[<-b2,hlen]; simp
   have hfit:wn.base+r * wn.esz+o+n<=c.size:=by
    have:=Nat.mul_le_mul_right wn.esz (Nat.succ_le_of_lt hrl);rw[Nat.succ_mul]at this; omega
   obtain⟨w',k1,k2,k3,k4⟩:=qbO (P:=P) (a.eval y').cells.toList c (wn.base+r * wn.esz+o) 0 w g2 g4 (by rw[<-hlen,b2]; omega) (qiv hy' b5);refine⟨ι,w',Go.undef,.skip,Ext.refl _ _ _,?_,by simp[VR],k4,Jac _,.inr ⟨rfl,rfl⟩,λop hop=>?_⟩
   ·refine hh.set hg hw k3 k2 ⟨_,e,fz,rfl,by rw[qci]; exact g3,by rw[qci]; exact g4,by simpa using g5,?_⟩;simpa using g6.store hr hy' (by rw[b2]; exact b4)
   ·simp only[execOp,hop,Instr.storeAt,e1,Instr.sureAddr,Sem.run_bind,Sem.run_pure,Result.andThen_ok,storeVar,qa4 hs,hsz];simp only[ne_eq,not_true_eq_false,if_false,Plc.at];have:(storeCells ⟨wn.blk,wn.base+r * wn.esz+o,none⟩ (a.eval y').cells.toList).run P w=.ok () w':=k1;simp[this]
  ·cases hev
 ·cases hev
theorem qau.cell{rs:List (List V)}{c:Array Value}{b esz:Nat}(hR:qau N ι ro rs c b esz){q:Nat}(hq:q<rs.length * esz) :
  ∃(r:List V) (v:V) (x:Value),rs[q / esz]?=some r/\r[q % esz]?=some v/\c[b+q]?=some x/\VR N ι ro v x:=by
 have he:0<esz:=Nat.pos_of_ne_zero λh=>by subst h; simp at hq
 have hi:q / esz<rs.length:=Nat.div_lt_of_lt_mul (by rw[Nat.mul_comm]; exact hq);have hr:=Jal hi;have hj:q % esz<(rs[q / esz]).length:=by rw[hR.1 _ (List.getElem_mem hi)]; exact Nat.mod_lt _ he
 obtain⟨x,hx,hv⟩:=hR.2 _ _ hr _ _ (Jal hj);refine⟨_,_,x,hr,Jal hj,?_,hv⟩;rw[<-hx];congr 1;have:=Nat.div_add_mod q esz;rw[Nat.mul_comm]at this; omega
theorem qnZ{rs:List (List V)}(h:qdH rs=true){r:List V}(hr:r∈rs):ones r=true:=by
 induction rs with
 | nil=>cases hr
 | cons x l ih =>
  simp only[qdH,Jad]at h;rcases Jag.1 hr with rfl|hr
  ·exact h.1
  ·exact ih h.2 hr
theorem qpG{r:List V}(h:ones r=true){v:V}(hv:v∈r):v.one=true:=by
 induction r with
 | nil=>cases hv
 | cons x l ih =>
  simp only[ones,Jad]at h;rcases Jag.1 hv with rfl|hv
  ·exact h.1
  ·exact ih h.2 hv
theorem qjA{rs:List (List V)}{ad:Addr}{c:Array Value}{e:TypeId}{fz:Nat × Nat}{esz:Nat}(hs:ad.spot=none)(hb:w.heap[ad.block]?=some (.cells c e fz))(hR:qau N ι ro rs c ad.off esz) :
  ∃arr:Array Value,(loadCells ad (rs.length * esz)).run P w=.ok arr w/\qau N ι ro rs arr 0 esz/\arr.size=rs.length * esz/\(qdH rs=true->∀x∈arr.toList,x.oneCell'=true):=by
 have hlen:((c.toList.drop ad.off).take (rs.length * esz)).length=rs.length * esz:=by
  by_cases h0:rs.length * esz=0
  ·simp[h0]
  ·obtain⟨_,_,x,_,_,hx,_⟩:=hR.cell (q:=rs.length * esz-1) (by omega);have:=(Array.getElem?_eq_some_iff.1 hx).1;simp; omega
 have hget:∀q x,((c.toList.drop ad.off).take (rs.length * esz))[q]?=some x->c[ad.off+q]?=some x/\q<rs.length * esz:=λq x hx=>by
  rw[List.getElem?_take]at hx;split at hx
  ·rename_i hq; rw[List.getElem?_drop]at hx; exact⟨by simpa using hx,hq⟩
  ·cases hx
 have hget':∀q,q<rs.length * esz->((c.toList.drop ad.off).take (rs.length * esz))[q]?=c[ad.off+q]?:=λq hq=>by
  rw[List.getElem?_take,Jab hq,List.getElem?_drop]; simp
 refine⟨((c.toList.drop ad.off).take (rs.length * esz)).toArray,?_,?_,by simpa using hlen,λho x hx=>?_⟩
 ·have:=run_loadCells_list (P:=P) (w:=w) ad ((c.toList.drop ad.off).take (rs.length * esz)) λj v hj=>by
   obtain⟨b,o,sp⟩:=ad;simp only at hs; subst hs;rw[qBv,qeE hb]; exact(hget j v hj).1
  rw[hlen]at this; exact this
 ·refine⟨hR.1,λi r hr j v hv=>?_⟩;obtain⟨x,hx,hvr⟩:=hR.2 i r hr j v hv;have hi:i<rs.length:=(Jam.1 hr).1;have hj:j<esz:=by rw[<-hR.1 r (Jar hr)]; exact(Jam.1 hv).1
  have hq:i * esz+j<rs.length * esz:=by have:=Nat.mul_le_mul_right esz (Nat.succ_le_of_lt hi); rw[Nat.succ_mul]at this; omega
  refine⟨x,?_,hvr⟩;have:=hget' (i * esz+j) hq;simp only[List.getElem?_toArray,Nat.zero_add];rw[this,<-Nat.add_assoc]; exact hx
 ·obtain⟨q,hq⟩:=List.getElem?_of_mem hx;simp only[]at hq;obtain⟨h1,h2⟩:=hget q x hq;obtain⟨r,v,y,k1,k2,k3,k4⟩:=hR.cell h2;rw[h1]at k3; cases k3;exact VR.one k4 (qpG (qnZ ho (Jar k1)) (Jar k2))
theorem qau.append{rs xs:List (List V)}{A B C:Array Value}{esz:Nat}(h:qau N ι ro rs A 0 esz)(hA:A.size=rs.length * esz)(k:qau N ι ro xs B 0 esz):qau N ι ro (rs++xs) (A++B++C) 0 esz:=by
 refine⟨λr hr=>?_,λi r hr j v hv=>?_⟩
 ·rcases Jaj.1 hr with hr|hr
  ·exact h.1 r hr
  ·exact k.1 r hr
 ·rw[List.getElem?_append]at hr;split at hr
  ·rename_i hi;obtain⟨x,hx,hvr⟩:=h.2 i r hr j v hv;refine⟨x,?_,hvr⟩;have:=(Array.getElem?_eq_some_iff.1 hx).1;rw[Array.append_assoc,Array.getElem?_append_left this]; exact hx
  ·rename_i hi;obtain⟨x,hx,hvr⟩:=k.2 _ r hr j v hv;refine⟨x,?_,hvr⟩;have hlt:=(Array.getElem?_eq_some_iff.1 hx).1;have e1:0+i * esz+j=A.size+(0+(i-rs.length) * esz+j):=by
    rw[hA,Nat.zero_add,Nat.zero_add,<-Nat.add_assoc,<-Nat.add_mul];congr 2; omega
   rw[Array.append_assoc,e1,Array.getElem?_append_right (by omega),Nat.add_sub_cancel_left,Array.getElem?_append_left hlt]; exact hx
theorem qau.append_in{rs xs:List (List V)}{c B:Array Value}{b esz:Nat}(h:qau N ι ro rs c b esz)(k:qau N ι ro xs B 0 esz)(hB:B.size=xs.length * esz)(hc:b+(rs.length+xs.length) * esz<=c.size) :
  qau N ι ro (rs++xs) (putC c (b+rs.length * esz) B.toList) b esz:=by
 refine⟨λr hr=>?_,λi r hr j v hv=>?_⟩
 ·rcases Jaj.1 hr with hr|hr
  ·exact h.1 r hr
  ·exact k.1 r hr
 ·rw[List.getElem?_append]at hr;split at hr
  ·rename_i hi;obtain⟨x,hx,hvr⟩:=h.2 i r hr j v hv;have hj:j<esz:=by rw[<-h.1 r (Jar hr)]; exact(Jam.1 hv).1
   refine⟨x,?_,hvr⟩;have:=Nat.mul_le_mul_right esz (Nat.succ_le_of_lt hi);rw[Nat.succ_mul]at this;rw[qb8,Jaa (by omega)]; exact hx
  ·rename_i hi;obtain⟨x,hx,hvr⟩:=k.2 _ r hr j v hv;refine⟨x,?_,hvr⟩;have hlt:=(Array.getElem?_eq_some_iff.1 hx).1;have e1:b+i * esz+j=b+rs.length * esz+(0+(i-rs.length) * esz+j):=by
    have e2:i * esz=rs.length * esz+(i-rs.length) * esz:=by
     rw[<-Nat.add_mul]; congr 1; omega
    omega
   have hm:(rs.length+xs.length) * esz=rs.length * esz+xs.length * esz:=Nat.add_mul _ _ _;rw[qb8,Jab (by simp only[Array.length_toList]; omega),e1,Nat.add_sub_cancel_left];simpa using hx
theorem qjK(n:Nat):∀(r c:Nat),Builtin.growBy n r c<=(c+256) * 2 ^ r
 | 0,c=>by simp[Builtin.growBy]
 | r+1,c=>by
  simp only[Builtin.growBy];split
  ·have:=Nat.one_le_two_pow (n:=r+1)
   calc c<=c+256:=by omega
    _=(c+256) * 1:=by omega
    _<=_:=Nat.mul_le_mul_left _ this
  ·refine Jaf (qjK n r _) ?_;rw[Nat.pow_succ,<-Nat.mul_assoc,Nat.mul_right_comm];exact Nat.mul_le_mul_right _ (by omega)
theorem qmA{need cap:Nat}(h:need<4294967296)(hc:cap<need):Builtin.nextslicecap need cap<=68719480832:=by
 unfold Builtin.nextslicecap;split
 ·omega
 ·split
  ·omega
  ·refine Jaf (qjK need 4 cap) ?_;omega
structure qgo (P:Program) (N:Num) (ι:Inj) (ro:RO) (w:World) (esz:Nat) (x:Value) (xs:List (List V)) where
 B:Array Value
 len:∀w',w'.heap=w.heap->(Builtin.lenOf x).run P w'=.ok xs.length w'
 cells:∀w',w'.heap=w.heap->(Builtin.firstCells esz xs.length x).run P w'=.ok B w'
 rows:qau N ι ro xs B 0 esz
 size:B.size=xs.length * esz
 ones:qdH xs=true->∀v∈B.toList,v.oneCell'=true
theorem HR.heap{w':World}(hh:HR N CR ι ro h w)(e:w'.heap=w.heap):HR N CR ι ro h w':=hh.same λb _=>by rw[e]
theorem qhW(hh:HR N CR ι ro h w){s:V}{x:Value}(hs:VR N ι ro s x){rs:List (List V)}(hr:qal h s=some rs){esz:Nat}(hez:rs=[]\/∃r∈rs,r.length=esz) :
  ∃arr:Array Value,(∀w',w'.heap=w.heap->(Builtin.firstCells esz rs.length x).run P w'=.ok arr w')/\qau N ι ro rs arr 0 esz/\arr.size=rs.length * esz/\(qdH rs=true->∀x∈arr.toList,x.oneCell'=true) /\
   (∀w',(Builtin.lenOf x).run P w'=.ok rs.length w'):=by
 rcases qgy hh hs hr with ⟨_,rfl,rfl⟩|⟨ad,cap,rfl,h1,h2⟩
 ·exact⟨#[],λw' _=>rfl,⟨by simp,λi r hr=>by simp at hr⟩,by simp,λ_ x hx=>by simp at hx,λw'=>rfl⟩
 ·rcases h2 with rfl|⟨h2,c,e,fz,ez,h3,h4⟩
  ·exact⟨#[],λw' _=>by simp[Builtin.firstCells,loadCells,loadCellsFrom],⟨by simp,λi r hr=>by simp at hr⟩,by simp,λ_ x hx=>by simp at hx,λw'=>rfl⟩
  ·by_cases hn:rs=[]
   ·subst hn;exact⟨#[],λw' _=>by simp[Builtin.firstCells,loadCells,loadCellsFrom],⟨by simp,λi r hr=>by simp at hr⟩,by simp,λ_ x hx=>by simp at hx,λw'=>rfl⟩
   ·have:ez=esz:=by
     rcases hez with h|⟨r,hr,hl⟩
     ·exact absurd h hn
     ·rw[<-hl]; exact(h4.1 r hr).symm
    subst this;obtain⟨arr,k1,k2,k3,k4⟩:=qjA (P:=P) (w:=w) h2 h3 h4;refine⟨arr,λw' hw=>?_,k2,k3,k4,λw'=>rfl⟩;obtain⟨arr',k1',k2',k3',_⟩:=qjA (P:=P) (w:=w') (N:=N) (ι:=ι) (ro:=ro) h2 (by rw[hw]; exact h3) h4;have:arr'=arr:=by
     obtain⟨bb,oo,sp⟩:=ad;simp only at h2 h3; subst h2;apply Array.ext
     ·rw[k3',k3]
     ·intro q hq1 hq2;have hq:q<rs.length * ez:=by omega
      obtain⟨r,v,x,g1,g2,g3,g4⟩:=h4.cell hq;have l1:=run_loadCells (P:=P) (w:=w) ⟨bb,oo,none⟩ (rs.length * ez) (λj=>(c[oo+j]?).getD Go.undef) (λj hj=>by
       obtain⟨_,_,x,_,_,gx,_⟩:=h4.cell hj;rw[qBv,qeE h3,gx]; rfl)
      have l2:=run_loadCells (P:=P) (w:=w') ⟨bb,oo,none⟩ (rs.length * ez) (λj=>(c[oo+j]?).getD Go.undef) (λj hj=>by
       obtain⟨_,_,x,_,_,gx,_⟩:=h4.cell hj;rw[qBv,qeE (by rw[hw]; exact h3),gx]; rfl)
      rw[l1]at k1; rw[l2]at k1';cases k1; cases k1';rfl
    rw[this]at k1';simpa[Builtin.firstCells]using k1'
theorem qhq{n cap bytes:Nat}(h1:n<4294967296)(h2:bytes<1024)(h3:cap<n):¬(Builtin.nextslicecap n cap * bytes > 2 ^ 48):=by
 have h:=qmA h1 h3;have:Builtin.nextslicecap n cap * bytes<=68719480832 * 1023:=Nat.mul_le_mul h (by omega);omega
theorem qbm(z:Array Value)(n:Nat):(Builtin.zeroCells z n).size=n * z.size:=by simp[Builtin.zeroCells]
theorem qkZ{ats:Array TypeId}{ty t0 t1 e:TypeId}{d1:TypeDesc}(h0:ats[0]?=some t0)(h1:ats[1]?=some t1)(hu0:P.underlying t0=some (.slice e))(hu1:P.underlying t1=some d1)
  (hd1:(∃e1,d1=.slice e1)\/d1=.string) {i:TypeInfo}(hi:P.info? e=some i) (hib:i.bytes<1024) {z:Value}(hiz:i.zero=some z) (hzs:z.cells.size=i.size) {base:Option Addr}{x':Value}{rs xs:List (List V)}{cap:Nat}(hA:qgo P N ι ro w i.size x' xs)
  {old:Array Value}(hold:∀w',w'.heap=w.heap->(Builtin.firstCells i.size rs.length (.slice base rs.length cap)).run P w'=.ok old w') (hrows:qau N ι ro rs old 0 i.size) (hsz:old.size=rs.length * i.size)
  (r1:rs.length+xs.length<4294967296) (hcap:cap<rs.length+xs.length) :
  ∃c newCap w',qdA w w' (.cells c e)/\qau N ι ro (rs++xs) c 0 i.size/\newCap * i.size<=c.size/\rs.length+xs.length<=newCap /\
   (Builtin.append_ ats ty #[.slice base rs.length cap,x']).run P w=.ok (.slice (some ⟨w.heap.size,0,none⟩) (rs.length+xs.length) newCap) w':=by
 have hnc:rs.length+xs.length<=grownCap w (rs.length+xs.length) cap e:=Nat.le_add_right _ _;refine⟨old++hA.B++Builtin.zeroCells z.cells (grownCap w (rs.length+xs.length) cap e-(rs.length+xs.length)),grownCap w (rs.length+xs.length) cap e,
  w.drew.alloc (.cells (old++hA.B++Builtin.zeroCells z.cells (grownCap w (rs.length+xs.length) cap e-(rs.length+xs.length))) e),⟨?_,?_,?_⟩,hrows.append hsz hA.rows,?_,hnc,?_⟩
 ·intro b hb;show(w.heap.push _)[b]?=_;simp[Array.getElem?_push,Nat.ne_of_lt hb]
 ·show(w.heap.push _)[w.heap.size]?=_;simp
 ·exact⟨rfl,rfl,rfl,(by first|exact Jac _|exact Nat.le_succ _|simp),by show _<=(w.heap.push _).size; simp⟩
 ·simp only[Array.size_append,hsz,hA.size,qbm,hzs];rw[<-Nat.add_mul,<-Nat.add_mul];exact Nat.mul_le_mul_right _ (by omega)
 ·have hn:¬(rs.length+xs.length<=cap):=by omega
  have h63':¬(9223372036854775807<((rs.length:Int)+(xs.length:Int))):=by omega
  have h48':¬(281474976710656<Builtin.nextslicecap (rs.length+xs.length) cap * i.bytes):=by
   have n3:=qhq r1 hib hcap;omega
  have hf:=hA.cells w.drew (by rfl);have hl:=hA.len w rfl;have hfo:=hold w.drew (by rfl);rcases hd1 with ⟨e1,rfl⟩|rfl
  ·simp[Builtin.append_,h0,h1,run_underlying hu0,run_underlying hu1,sizeOf,typeInfo,zeroValue,hi,hiz,hl,hn,h63',h48',Question.forced,hf,hfo,newRow,grownCap]
  ·simp[Builtin.append_,h0,h1,run_underlying hu0,run_underlying hu1,sizeOf,typeInfo,zeroValue,hi,hiz,hl,hn,h63',h48',Question.forced,hf,hfo,newRow,grownCap]
theorem qid{ats:Array TypeId}{ty t0 t1 e:TypeId}{d1:TypeDesc}(h0:ats[0]?=some t0)(h1:ats[1]?=some t1)(hu0:P.underlying t0=some (.slice e))(hu1:P.underlying t1=some d1)
  (hd1:(∃e1,d1=.slice e1)\/d1=.string) {i:TypeInfo}(hi:P.info? e=some i) {base:Option Addr}{x':Value}{len:Nat}{xs:List (List V)}{cap:Nat}(hA:qgo P N ι ro w i.size x' xs)
  (hcap:len+xs.length<=cap) {w':World}(hst:∀ad,base=some ad->(storeCells (ad.add (len * i.size)) hA.B.toList).run P w=.ok () w') (hb:base=none->w'=w) :
  (Builtin.append_ ats ty #[.slice base len cap,x']).run P w=.ok (.slice base (len+xs.length) cap) w':=by
 have hf:=hA.cells w rfl;have hl:=hA.len w rfl;cases base with
 | none =>
  rw[hb rfl];rcases hd1 with ⟨e1,rfl⟩|rfl
  ·simp[Builtin.append_,h0,h1,run_underlying hu0,run_underlying hu1,sizeOf,typeInfo,hi,hl,hcap,hf]
  ·simp[Builtin.append_,h0,h1,run_underlying hu0,run_underlying hu1,sizeOf,typeInfo,hi,hl,hcap,hf]
 | some ad =>
  have hs:=hst ad rfl;rcases hd1 with ⟨e1,rfl⟩|rfl
  ·simp[Builtin.append_,h0,h1,run_underlying hu0,run_underlying hu1,sizeOf,typeInfo,hi,hl,hcap,hf,hs]
  ·simp[Builtin.append_,h0,h1,run_underlying hu0,run_underlying hu1,sizeOf,typeInfo,hi,hl,hcap,hf,hs]
variable {N:Num}{CR:Nat->IC->Code->Prop}{ι:Inj}{ro:RO}{P:Program}{tm:Tm}{a:Act}{v:V}{p:Op}{h h':Heap}{w:World}{mk:Nat}
theorem qeD{h:Heap}{w:World}(hh:HR N CR ι ro h w)(wn:Plc):Ext h.n ι ro (λj=>if j=h.n then some wn else ι j) ro where
 inj:=λi hi=>by simp[Nat.ne_of_lt hi]
 old:=λi u hu=>by
  by_cases e:i=h.n
  ·subst e; rw[hh.fresh _ (Jac _)]at hu; cases hu
  ·simp[e,hu]
 ro:=λ_ _ h=>h
theorem HR.new_rows(hh:HR N CR ι ro h w){w':World}{c:Array Value}{e:TypeId}{h1:Heap}(hn:h1.n=h.n)(hg:∀j o,h1.get j=some o->h.get j=some o){rs:List (List V)}{esz:Nat}
  (hG:qdA w w' (.cells c e)) (hR:qau N ι ro rs c 0 esz) (hs:rs.length * esz<=c.size) :
  HR N CR (λj=>if j=h.n then some ⟨w.heap.size,0,esz,c.size⟩else ι j) ro (h1.push (.rows rs)) w':=by
 have h1':HR N CR ι ro h1 w:=⟨λj oj hj=>by rw[hn]; exact hh.live j oj (hg j oj hj),λj k oj ok uj uk hj hk=>hh.dist j k oj ok uj uk (hg j oj hj) (hg k ok hk),
  λb c hb=>⟨(hh.rd b c hb).1,λj oj u hj=>(hh.rd b c hb).2 j oj u (hg j oj hj)⟩,by rw[hn]; exact hh.fresh,
  λb o hb=>⟨(hh.kb b o hb).1,λj oj u hj=>(hh.kb b o hb).2 j oj u (hg j oj hj)⟩⟩
 have hext:=qeD hh ⟨w.heap.size,0,esz,c.size⟩;refine h1'.put_new (wn:=⟨w.heap.size,0,esz,c.size⟩) (c:=.cells c e) (o:=.rows rs) (hh.fresh _ (Jac _)) (by simp[hn]) (by simp) (λj=>by rw[qBq,hn]) rfl hG.old hG.new ?_;exact⟨c,e,(0,0),rfl,rfl,.inl rfl,by simpa using hs,hR.mono hext.old hext.ro⟩
theorem qf7{ats:Array TypeId}{ty t0 t1 e:TypeId}{d1:TypeDesc}(h0:ats[0]?=some t0)(h1:ats[1]?=some t1)(hu0:P.underlying t0=some (.slice e))(hu1:P.underlying t1=some d1)
  (hd1:(∃e1,d1=.slice e1)\/d1=.string) {i:TypeInfo}(hi:P.info? e=some i) {z:Value}(hiz:i.zero=some z) (hzs:z.cells.size=i.size) {x':Value}{s:V}{s':Value}{xs:List (List V)}(hA:qgo P N ι ro w i.size x' xs)
  (hh:HR N CR ι ro h w) (hs:VR N ι ro s s') (hev:qaj mk h i.size i.bytes s xs=some ⟨v,h'⟩) :
  ∃ι' w' y,Ext h.n ι ro ι' ro/\HR N CR ι' ro h' w'/\VR N ι' ro v y/\qbM w w'/\h.n<=h'.n/\(Builtin.append_ ats ty #[s',x']).run P w=.ok y w':=by
 unfold qaj at hev;split at hev
 ·
  have hB:hA.B.toList=[]:=by have:=hA.size; simpa using this
  have key:∀base len cap,s'=.slice base len cap->len<=cap->(Builtin.append_ ats ty #[s',x']).run P w=.ok s' w:=λbase len cap e1 e2=>by
   have:=qid (ty:=ty) (base:=base) (len:=len) (cap:=cap) (w':=w) h0 h1 hu0 hu1 hd1 hi hA (by simpa using e2) (λad _=>by rw[hB]; rfl) (λ_=>rfl);rw[e1,this]; simp
  have key':(Builtin.append_ ats ty #[s',x']).run P w=.ok s' w:=by
   cases s<;>simp only[reduceCtorEq]at hev
   ·simp only[VR]at hs; exact key _ _ _ hs (Jac _)
   ·simp only[VR]at hs;obtain⟨wn,_,_,ad,cap,e1,e2,_⟩:=hs;exact key _ _ _ e1 e2
   ·rw[qBx]at hs;obtain⟨ad,cap,e1,e2,_⟩:=hs;exact key _ _ _ e1 e2
  have hv:v=s/\h'=h:=by cases s<;>simp only[reduceCtorEq,Jae,VH.mk.injEq]at hev<;>exact⟨hev.1.symm,hev.2.symm⟩
  obtain⟨rfl,rfl⟩:=hv;exact⟨ι,w,s',Ext.refl _ _ _,hh,hs,qbM.refl w,Jac _,key'⟩
 ·rename_i x xs;split at hev
  ·cases hev
  ·rename_i rs hrs;cases hb:(qaI (rs.length+(x::xs).length) i.bytes&&Nat.beq x.length i.size&&qdH (x::xs))<;>simp only[hb,cond,reduceCtorEq]at hev
   simp only[Jad,Jas]at hb;obtain⟨⟨b1,b2⟩,b3⟩:=hb;obtain⟨r1,r2⟩:=qeo b1;have hpos:0<(x::xs).length:=by simp
   generalize hys:x::xs=ys at *;have grow:∀base cap,s'=.slice base rs.length cap->(rs=[]\/∃r∈rs,r.length=i.size)->cap<rs.length+ys.length->∀h1:Heap,h1.n=h.n->(∀j o,h1.get j=some o->h.get j=some o) ->
     ∃ι' w' y,Ext h.n ι ro ι' ro/\HR N CR ι' ro (h1.push (.rows (rs++ys))) w'/\VR N ι' ro (.sl h.n 0 (rs.length+ys.length) i.size false) y/\qbM w w'/\h.n<=h.n+1/\(Builtin.append_ ats ty #[s',x']).run P w=.ok y w':=by
    intro base cap e1 hez hcap h1' hn hg;obtain⟨arr,k1,k2,k3,_,_⟩:=qhW (P:=P) hh hs hrs hez;rw[e1]at k1;obtain⟨c,nc,w',g1,g2,g3,g4,g5⟩:=qkZ (ty:=ty) (base:=base) h0 h1 hu0 hu1 hd1 hi r2 hiz hzs hA k1 k2 k3 r1 hcap;refine⟨_,w',_,qeD hh ⟨w.heap.size,0,i.size,c.size⟩,hh.new_rows hn hg g1 g2 ?_,?_,g1.env,Nat.le_succ _,by rw[e1]; exact g5⟩
    ·rw[Jao]; exact Jaf (Nat.mul_le_mul_right _ g4) g3
    ·simp only[VR];exact⟨⟨w.heap.size,0,i.size,c.size⟩,by simp,rfl,⟨w.heap.size,0,none⟩,nc,rfl,g4,by simp,.inr ⟨by simp[Plc.at],by simpa using g3⟩⟩
   cases s<;>simp only[reduceCtorEq]at hev
   ·
    simp only[Jae,VH.mk.injEq]at hev;obtain⟨rfl,rfl⟩:=hev;simp only[qal,Jae]at hrs; subst hrs;simp only[VR]at hs;obtain⟨ι',w',y,q1,q2,q3,q4,q5,q6⟩:=grow none 0 hs (.inl rfl) (by simpa using hpos) h rfl (λ_ _ h=>h);simp only[List.nil_append,List.length_nil,Nat.zero_add]at q2 q3;exact⟨ι',w',y,q1,q2,q3,q4,by simp,q6⟩
   ·rename_i id lo len ez full;have hs':=hs;simp only[VR]at hs';obtain⟨wn,hw,e0,ad,cap,e1,e2,e3,e4⟩:=hs';cases hez:Nat.beq ez i.size<;>simp only[hez,cond,reduceCtorEq]at hev
    rw[Jas]at hez;have hrl:rs.length=len:=by
     rcases qgy hh hs hrs with ⟨hc,_,_⟩|⟨ad',cap',e',_⟩
     ·cases hc
     ·rw[e1]at e'; cases e'; rfl
    subst hrl;have hrow:rs=[]\/∃r∈rs,r.length=i.size:=by
     cases hr0:rs with
     | nil=>exact .inl rfl
     | cons r rs' =>
      right;refine⟨r,by simp,?_⟩;simp only[qal]at hrs;split at hrs
      ·rename_i R hg;cases hbb:Nat.ble (lo+rs.length) R.length<;>simp only[hbb,cond,reduceCtorEq,Jae]at hrs
       obtain⟨wn',c,e,fz,g1,g2,g3,g4,g5,g6⟩:=hh.rows hg;rw[hw]at g1; cases g1;rw[g6.1 r (List.mem_of_mem_drop (List.mem_of_mem_take (by rw[hrs,hr0]; simp))),e0,hez]
      ·cases hrs
    by_cases hfit:rs.length+ys.length<=cap
    ·
     cases full with
     | true=>have:=e3 rfl; omega
     | false =>
      simp only[]at hev;cases hmk:Nat.ble mk id<;>simp only[hmk,reduceCtorEq,Jae,VH.mk.injEq]at hev
      obtain⟨rfl,rfl⟩:=hev;rcases e4 with ⟨_,hc⟩|⟨ead,ecap⟩
      ·omega
      ·subst ead;simp only[qal]at hrs;split at hrs
       ·rename_i R hg;cases hbb:Nat.ble (lo+rs.length) R.length<;>simp only[hbb,cond,reduceCtorEq,Jae]at hrs
        rw[Jat]at hbb;obtain⟨wn',c,e',fz,g1,g2,g3,g4,g5,g6⟩:=hh.rows hg;rw[hw]at g1; cases g1;have hsub:qau N ι ro rs c (wn.base+lo * wn.esz) i.size:=by
         have:=g6.cut lo rs.length;rw[hrs]at this;rw[<-hez,<-e0]; exact this
        have hsz:wn.base+lo * wn.esz+(rs.length+ys.length) * i.size<=c.size:=by
         rw[g3];refine Jaf ?_ ecap;rw[<-hez,<-e0,Nat.add_mul lo cap,Nat.add_assoc];exact Nat.add_le_add_left (Nat.add_le_add_left (Nat.mul_le_mul_right _ hfit) _) _
        have hm:(rs.length+ys.length) * i.size=rs.length * i.size+ys.length * i.size:=Nat.add_mul _ _ _;obtain⟨w',k1,k2,k3,k4⟩:=qbO (P:=P) hA.B.toList c (wn.base+lo * wn.esz+rs.length * i.size) 0 w g2 g4 (by simp only[Array.length_toList,hA.size]; omega) (hA.ones b3);have hrun:=qid (ty:=ty) (base:=some (wn.at lo 0)) (len:=rs.length) (cap:=cap) (w':=w') h0 h1 hu0 hu1 hd1 hi hA hfit (λad had=>by
         cases had; rw[Plc.at,qBv,Nat.add_zero]; exact k1) (λh=>by cases h)
        have hext:=qeD hh ⟨wn.blk,wn.base+lo * wn.esz,i.size,wn.sz⟩;refine⟨_,w',_,hext,?_,?_,k4,by simp,by rw[e1]; exact hrun⟩
        ·refine(hh.kill id).put (wn:=⟨wn.blk,wn.base+lo * wn.esz,i.size,wn.sz⟩) (o:=.rows (rs++ys)) (c:=.cells (putC c (wn.base+lo * wn.esz+rs.length * i.size+0) hA.B.toList) e' fz)
          (hh.fresh _ (Jac _)) (by simp) (by simp) (λj=>by rw[qBq]; rfl) ?_ ?_ (λb o hb e=>(hh.kb b o hb).2 id _ wn hg hw e.symm) (λb hb _=>k3 b hb) k2 ?_
         ·intro j oj u hj hu e;rw[qBr]at hj
          by_cases ej:j=id
          ·rw[Jab ej]at hj; cases hj
          ·rw[Jaa ej]at hj;exact ej (hh.dist j id oj _ u wn hj hg hu hw e)
         ·intro b c' hb e;exact(hh.rd b c' hb).2 id _ wn hg hw e.symm
         ·refine⟨_,e',fz,rfl,by rw[qci]; exact g3,by rw[qci]; exact g4,?_,?_⟩
          ·simp only[Jao]; omega
          ·rw[Nat.add_zero];exact(hsub.append_in hA.rows hA.size hsz).mono hext.old hext.ro
        ·simp only[VR];refine⟨⟨wn.blk,wn.base+lo * wn.esz,i.size,wn.sz⟩,by simp,rfl,wn.at lo 0,cap,rfl,hfit,by simp,.inr ⟨by simp[Plc.at],?_⟩⟩;simp only[Nat.zero_add];rw[<-hez,<-e0];rw[Nat.add_mul]at ecap; omega
       ·cases hrs
    ·obtain⟨ι',w',y,q1,q2,q3,q4,q5,q6⟩:=grow (some ad) cap e1 hrow (by omega) (if full then h else h.kill id) (by cases full<;>rfl) (by
      intro j o hj;cases full
      ·simp only[Jan,if_false,qBr]at hj;split at hj
       ·cases hj
       ·exact hj
      ·exact hj)
     cases full<;>simp only[]at hev
     ·cases hmk:Nat.ble mk id<;>simp only[hmk,reduceCtorEq,Jae,VH.mk.injEq]at hev
      obtain⟨rfl,rfl⟩:=hev;exact⟨ι',w',y,q1,q2,q3,q4,by simp,q6⟩
     ·simp only[Jae,VH.mk.injEq]at hev;obtain⟨rfl,rfl⟩:=hev;exact⟨ι',w',y,q1,q2,q3,q4,by simp,q6⟩
   ·rename_i rows full;cases hb:(full&&qa9 i.size rs)<;>simp only[hb,cond,reduceCtorEq,Jae,VH.mk.injEq]at hev
    simp only[Jad]at hb;obtain⟨rfl,rfl⟩:=hev;have hs':=hs;rw[qBx]at hs';obtain⟨ad,cap,e1,e2,e3,e4⟩:=hs';simp only[qal,Jae]at hrs; subst hrs;have:=e3 hb.1;obtain⟨ι',w',y,q1,q2,q3,q4,q5,q6⟩:=grow (some ad) cap e1 (by
     cases rows with
     | nil=>exact .inl rfl
     | cons r l=>exact .inr ⟨r,by simp,by simpa[qa9]using hb.2⟩) (by omega) h rfl (λ_ _ h=>h)
    exact⟨ι',w',y,q1,q2,q3,q4,by simp,q6⟩
theorem qhN{e:TypeId}{esz bytes:Nat}(h1:qbA P e=some esz)(h2:qf6 P e=some bytes)(h3:qln P e esz=true) :
  ∃i z,P.info? e=some i/\i.size=esz/\i.bytes=bytes/\i.zero=some z/\z.cells.size=i.size:=by
 unfold qln at h3;unfold qbA at h1;unfold qf6 at h2;unfold qht at h3;cases hi:P.info? e with
 | none=>simp[hi]at h1
 | some i =>
  simp[hi]at h1 h2 h3;cases hz:i.zero with
  | none=>simp[hz]at h3
  | some z=>simp[hz]at h3; exact⟨i,z,rfl,h1,h2,hz,by rw[h1]; exact h3⟩
theorem qh7:∀(l:List UInt8) (i:Nat) (r:List V),(qb1 l)[i]?=some r->∃c,l[i]?=some c/\r=[.int .u8 (.ofNat c.toNat)]:=λl i r h=>by
 rw[qb1,List.getElem?_map]at h;cases hc:l[i]? with
 | none=>simp[hc]at h
 | some c=>simp[hc]at h; exact⟨c,rfl,h.symm⟩
theorem qj7{l:List UInt8}{s:ByteArray}(h:s.data.toList=l):Nonempty (qgo P N ι ro w 1 (.string s) (qb1 l)):=by
 have hl:(qb1 l).length=s.size:=by rw[qb1,List.length_map,<-h]; rfl
 refine⟨⟨s.data.map λb=>.int .u8 b.toNat,λw' _=>by rw[hl]; rfl,λw' _=>?_,⟨?_,?_⟩,?_,?_⟩⟩
 ·rw[hl];have:(s.extract 0 s.size)=s:=ByteArray.extract_zero_size;simp[Builtin.firstCells,this]
 ·intro r hr;obtain⟨i,hi⟩:=List.getElem?_of_mem hr;obtain⟨c,_,rfl⟩:=qh7 l i r hi;rfl
 ·intro i r hi j v hv;obtain⟨c,hc,rfl⟩:=qh7 l i r hi;cases j with
  | succ j=>simp at hv
  | zero =>
   simp at hv; subst hv;refine⟨.int .u8 c.toNat,?_,by simp[VR]⟩;rw[<-h]at hc;simp only[Array.getElem?_map,Nat.zero_add,Nat.mul_one,Nat.add_zero];rw[show s.data[i]?=some c by rw[<-Array.getElem?_toList]; exact hc];rfl
 ·rw[hl]; simp
 ·intro _ x hx;simp at hx;obtain⟨_,_,rfl⟩:=hx;rfl
theorem qCC{s x:V}{l:List Value}(h:VRs N ι ro [s,x] l):∃s' x',l=[s',x']/\VR N ι ro s s'/\VR N ι ro x x':=by
 obtain⟨y,r,rfl,h1,h2⟩:=VRs.cons_inv h;obtain⟨z,r,rfl,h3,h4⟩:=VRs.cons_inv h2;rw[VRs.nil_inv h4];exact⟨y,z,rfl,h1,h3⟩
theorem qgn{x y:Opd}{l:Array Operand}(htm:VRtm N ι ro tm a.tmps)(h:okOs N [x,y] l.toList=true):∃s' x',l.map a.eval=#[s',x']/\VR N ι ro (x.ev tm) s'/\VR N ι ro (y.ev tm) x':=by
 have:=qd4 htm h;simp only[qcE]at this;obtain⟨s',x',h1,h2,h3⟩:=qCC this;refine⟨s',x',?_,h2,h3⟩;apply Array.ext';simpa using h1
theorem qeH{c:Call}{ats:Array TypeId}{s' x' y:Value}{w':World}(hargs:c.args.map a.eval=#[s',x'])(hc:c.callee=.builtin .append)(ha:c.argTypes=ats)(hrun:(Builtin.append_ ats 0 #[s',x']).run P w=.ok y w')
  (o:Oper) (ho:o.op=.call c):(execOp a.eval o).run P w=.ok (.value y) w':=by
 obtain⟨callee,args,ats'⟩:=c;simp only at hc ha hargs; subst hc; subst ha;have:∀ty,Builtin.append_ ats' ty #[s',x']=Builtin.append_ ats' 0 #[s',x']:=λ_=>rfl;simp[execOp,ho,resolve,invoke,builtin,hargs,this,hrun]
theorem qnB{esz bytes:Nat}{x y:Opd}(hok:okW P N (.append esz bytes x y) p=true)(htm:VRtm N ι ro tm a.tmps)(hh:HR N CR ι ro h w)(hev:(qay (.append esz bytes x y)).run mk tm h=some ⟨v,h'⟩):qgd P N CR ι ro a p h w v h':=by
 simp only[qay]at hev;cases p<;>try (simp[okW]at hok; done)
 rename_i c;obtain⟨callee,args,ats⟩:=c;cases callee<;>try (simp[okW]at hok; done)
 rename_i b;cases b<;>simp[okW]at hok
 obtain⟨hx,hd⟩:=hok;obtain⟨s',x',hargs,hs,hx'⟩:=qgn htm hx;split at hd<;>try (exact absurd hd Bool.false_ne_true)
 rename_i t0 t1 h0 h1;split at hd<;>simp at hd
 rename_i e e1 hu0 hu1;obtain⟨⟨g1,g2⟩,g3⟩:=hd;obtain⟨i,z,hi,rfl,rfl,hiz,hzs⟩:=qhN g1 g2 g3;split at hev
 ·rename_i xs hxs;have hA:xs=[]\/∃r∈xs,r.length=i.size:=by
   unfold qaj at hev;split at hev
   ·exact .inl rfl
   ·rename_i r rs;right;split at hev
    ·cases hev
    ·rename_i R _;cases hb:(qaI (R.length+(r::rs).length) i.bytes&&Nat.beq r.length i.size&&qdH (r::rs))<;>simp only[hb,cond,reduceCtorEq]at hev
     simp only[Jad,Jas]at hb;exact⟨r,by simp,hb.1.2⟩
  obtain⟨arr,k1,k2,k3,k4,k5⟩:=qhW (P:=P) hh hx' hxs hA;obtain⟨ι',w',y,q1,q2,q3,q4,q5,q6⟩:=qf7 (ty:=0) (P:=P) h0 h1 hu0 hu1 (.inl ⟨_,rfl⟩) hi hiz hzs ⟨arr,λw' _=>k5 w',k1,k2,k3,k4⟩ hh hs hev;exact⟨ι',w',y,_,q1,q2,q3,q4,q5,.inl rfl,λo ho=>qeH hargs rfl rfl q6 o ho⟩
 ·cases hev
theorem qmn{x y:Opd}(hok:okW P N (.appendS x y) p=true)(htm:VRtm N ι ro tm a.tmps)(hh:HR N CR ι ro h w)(hev:(qay (.appendS x y)).run mk tm h=some ⟨v,h'⟩):qgd P N CR ι ro a p h w v h':=by
 simp only[qay]at hev;cases p<;>try (simp[okW]at hok; done)
 rename_i c;obtain⟨callee,args,ats⟩:=c;cases callee<;>try (simp[okW]at hok; done)
 rename_i b;cases b<;>simp[okW]at hok
 obtain⟨hx,hd⟩:=hok;obtain⟨s',x',hargs,hs,hx'⟩:=qgn htm hx;split at hd<;>try (exact absurd hd Bool.false_ne_true)
 rename_i t0 t1 h0 h1;split at hd<;>simp at hd
 rename_i e hu0 hu1;obtain⟨⟨g1,g2⟩,g3⟩:=hd;obtain⟨i,z,hi,hi1,hi2,hiz,hzs⟩:=qhN g1 g2 g3;cases hyv:y.ev tm<;>simp only[hyv,reduceCtorEq]at hev
 rw[hyv]at hx';simp only[VR]at hx';obtain⟨t',rfl,ht⟩:=hx';obtain⟨A⟩:=qj7 (P:=P) (N:=N) (ι:=ι) (ro:=ro) (w:=w) ht;rw[<-hi1]at A;obtain⟨ι',w',y,q1,q2,q3,q4,q5,q6⟩:=qf7 (ty:=0) (P:=P) (mk:=mk) (v:=v) (h':=h') h0 h1 hu0 hu1 (.inr rfl) hi hiz hzs A hh hs (by rw[hi1,hi2]; exact hev);exact⟨ι',w',y,_,q1,q2,q3,q4,q5,.inl rfl,λo ho=>qeH hargs rfl rfl q6 o ho⟩
theorem qmm{zero:List V}{bytes:Nat}{x y:Opd}(hok:okW P N (.appendZ zero bytes x y) p=true)(htm:VRtm N ι ro tm a.tmps)(hh:HR N CR ι ro h w)(hev:(qay (.appendZ zero bytes x y)).run mk tm h=some ⟨v,h'⟩):qgd P N CR ι ro a p h w v h':=by
 simp only[qay]at hev;cases p<;>try (simp[okW]at hok; done)
 rename_i c;obtain⟨callee,args,ats⟩:=c;cases callee<;>try (simp[okW]at hok; done)
 rename_i b;cases b<;>simp[okW]at hok
 obtain⟨⟨hx,hz0⟩,hd⟩:=hok;obtain⟨s',x',hargs,hs,hx'⟩:=qgn htm hx;split at hd<;>try (exact absurd hd Bool.false_ne_true)
 rename_i t0 t1 h0 h1;split at hd<;>simp at hd
 rename_i e k0 hu0 hu1;obtain⟨⟨hz,hb⟩,hsz⟩:=hd;obtain⟨z,z1,z2,z3,z4,z5⟩:=qd1 (N:=N) (ι:=ι) (ro:=ro) hz;obtain⟨i,hi,hib⟩:=qh8 hb;have hzl:z.cells.size=zero.length:=by rw[z1.length]; simp
 have hsize:i.size=zero.length:=by unfold qbA at hsz; rw[hi]at hsz; simpa using hsz
 have hzero:i.zero=some z:=by unfold qht at z4; rw[hi]at z4; simpa using z4
 cases hyv:y.ev tm<;>simp only[hyv,reduceCtorEq]at hev
 rename_i k n;rw[hyv]at hx';simp only[VR]at hx'; subst hx';cases n<;>simp only[reduceCtorEq]at hev
 rename_i m;cases hc:(Nat.blt 0 m&&qaI m bytes)<;>simp only[hc,cond,reduceCtorEq]at hev
 simp only[Jad,Nat.blt_eq]at hc;obtain⟨c1,c2⟩:=hc;obtain⟨r1,r2⟩:=qeo c2;cases hxv:x.ev tm<;>simp only[hxv,reduceCtorEq,Jae,VH.mk.injEq]at hev
 obtain⟨rfl,rfl⟩:=hev;rw[hxv]at hs;simp only[VR]at hs; subst hs;have hg:m<=grownCap w m 0 e:=Nat.le_add_right _ _;have hrows:=(qde (N:=N) (ι:=ι) (ro:=ro) z1 hz0 m m (Jac m));rw[hzl]at hrows;have hwrap:IntKind.i64.wrap (m:Int)=m:=by simp[IntKind.wrap,IntKind.signed,IntKind.bits]; omega
 let c:Array Value:=Builtin.zeroCells z.cells m++Builtin.zeroCells z.cells (grownCap w m 0 e-m)
 have hR:qau N ι ro (List.replicate m zero) c 0 zero.length:=by
  have:=qau.append (C:=Builtin.zeroCells z.cells (grownCap w m 0 e-m)) (B:=#[]) (xs:=[]) hrows (by simp) ⟨by simp,λi r hr=>by simp at hr⟩;rw[List.append_nil,Array.append_empty]at this;simpa[c,Builtin.zeroCells,hzl]using this
 have hG:qdA w (w.drew.alloc (.cells c e)) (.cells c e):=⟨λb hb=>by show(w.heap.push _)[b]?=_; simp[Array.getElem?_push,Nat.ne_of_lt hb],by show(w.heap.push _)[w.heap.size]?=_; simp,⟨rfl,rfl,rfl,(by first|exact Jac _|exact Nat.le_succ _|simp),by show _<=(w.heap.push _).size; simp⟩⟩;refine⟨_,_,.slice (some ⟨w.heap.size,0,none⟩) m (grownCap w m 0 e),_,qeD hh ⟨w.heap.size,0,zero.length,c.size⟩,hh.new_rows rfl (λ_ _ h=>h) hG hR ?_,?_,hG.env,by simp,.inl rfl,λo ho=>qeH hargs rfl rfl ?_ o ho⟩
 ·simp[c,qbm,hzl]
 ·simp only[VR];refine⟨⟨w.heap.size,0,zero.length,c.size⟩,by simp,rfl,⟨w.heap.size,0,none⟩,grownCap w m 0 e,rfl,hg,by simp,.inr ⟨by simp[Plc.at],?_⟩⟩;simp[c,qbm,hzl];rw[<-Nat.add_mul]; exact Nat.mul_le_mul_right _ (by omega)
 ·have h7:¬((m:Int)<0):=by omega
  have h2:¬(281474976710656<(m:Int) * (i.bytes:Int)):=by
   rw[hib];have:m * bytes<=4294967296 * 1024:=Nat.mul_le_mul (by omega) (by omega);have h':((m * bytes:Nat):Int)<=((4294967296 * 1024:Nat):Int):=Int.ofNat_le.2 this;simp only[Int.natCast_mul]at h';omega
  have h3:¬(m=0):=by omega
  have h4:¬(9223372036854775807<(m:Int)):=by omega
  have h5:¬(281474976710656<Builtin.nextslicecap m 0 * i.bytes):=by
   have:=qhq r1 r2 c1;rw[hib]; omega
  simp[Builtin.append_,h0,h1,run_underlying hu0,run_underlying hu1,sizeOf,typeInfo,zeroValue,hi,hzero,asInt,asIntOf,hwrap,h7,h2,h3,h4,h5,Question.forced,run_firstCells_none,newRow,grownCap];exact Jaa (Nat.mul_ne_zero h3 (by omega))
variable {N:Num}{CR:Nat->IC->Code->Prop}{ι:Inj}{ro:RO}{P:Program}{tm:Tm}{a:Act}{v:V}{p:Op}{h h':Heap}{w:World}{mk:Nat}
theorem qlT{s:SK}{x y:V}{x' y':Value}(he:eq1 x y=some true)(hs:s.ok x=true)(hx:VR N ι ro x x')(hy:VR N ι ro y y'):x'=y'/\∀n,Instr.sameBits n x' x'=true:=by
 unfold eq1 at he;split at he
 ·rename_i k n l m;cases hk:ikB k l<;>simp[hk]at he
  rw[qf0]at hk; simp at hk; subst hk;rw[qek]at he; simp at he; subst he;simp only[VR]at hx hy; subst hx; subst hy;exact⟨rfl,λn=>by unfold Instr.sameBits; simp⟩
 ·simp at he; subst he;simp only[VR]at hx hy; subst hx; subst hy;exact⟨rfl,λn=>by unfold Instr.sameBits; simp⟩
 ·simp at he; subst he;simp only[VR]at hx hy;obtain⟨x1,rfl,h1⟩:=hx;obtain⟨y1,rfl,h2⟩:=hy;have:x1=y1:=by
   obtain⟨⟨x1⟩⟩:=x1; obtain⟨⟨y1⟩⟩:=y1;simp at h1 h2; rw[h1,h2]
  subst this;exact⟨rfl,λn=>by unfold Instr.sameBits; simp[beq_toListBytes]⟩
 ·cases he
theorem qlS:∀{ss:List SK}{l m:List V}{xs ys:List Value}(_:eqL l m=some true) (_:okKs ss l=true) (_:VRs N ι ro l xs) (_:VRs N ι ro m ys),xs=ys/\∀n,∀q∈xs.zip xs,Instr.sameBits n q.1 q.2=true
 | [],[],m,xs,ys,he,_,hx,hy=>by
  cases m with
  | nil=>rw[VRs.nil_inv hx,VRs.nil_inv hy]; exact⟨rfl,λn q hq=>by simp at hq⟩
  | cons _ _=>simp[eqL]at he
 | [],_::_,_,_,_,_,h,_,_=>by simp[okKs]at h
 | _::_,[],_,_,_,_,h,_,_=>by simp[okKs]at h
 | s::ss,x::l,m,xs,ys,he,hs,hx,hy=>by
  cases m with
  | nil=>simp[eqL]at he
  | cons y m =>
   simp only[okKs,Jad]at hs;obtain⟨x1,xr,rfl,h1,h2⟩:=VRs.cons_inv hx;obtain⟨y1,yr,rfl,h3,h4⟩:=VRs.cons_inv hy;simp only[eqL]at he;cases e1:eq1 x y with
   | none=>simp[e1]at he
   | some b =>
    cases e2:eqL l m with
    | none=>simp[e1,e2]at he
    | some c =>
     simp[e1,e2]at he;obtain⟨rfl,rfl⟩:=he;obtain⟨q1,q2⟩:=qlT e1 hs.1 h1 h3;obtain⟨q3,q4⟩:=qlS e2 hs.2 h2 h4;subst q1; subst q3;refine⟨rfl,λn q hq=>?_⟩;simp only[List.zip_cons_cons,Jag]at hq;rcases hq with rfl|hq
     ·exact q2 n
     ·exact q4 n q hq
theorem qp0{kk:KK}{k k2:V}{k' k2':Value}(he:qcV k k2=some true)(hs:qbX kk k=true)(hk:VR N ι ro k k')(hk2:VR N ι ro k2 k2')(w:World):(Instr.keyThatStays k2' k').run P w=.ok k' w:=by
 have:k'=k2'/\Instr.sameBits 10000 k' k'=true:=by
  cases kk with
  | one s =>
   simp only[qbX]at hs;have he':eq1 k k2=some true:=by
    unfold qcV at he;cases k<;>try exact he
    cases s<;>simp[SK.ok]at hs
   obtain⟨q1,q2⟩:=qlT he' hs hk hk2;exact⟨q1,q2 _⟩
  | agg ss =>
   simp only[qbX]at hs;cases k<;>simp only[reduceCtorEq,Jan]at hs
   simp only[qcV]at he;cases k2<;>simp only[reduceCtorEq]at he
   simp only[VR]at hk hk2;obtain⟨xs,rfl,hx⟩:=hk;obtain⟨ys,rfl,hy⟩:=hk2;obtain⟨q1,q2⟩:=qlS he hs hx hy;have:xs=ys:=Array.ext' q1;subst this;refine⟨rfl,?_⟩;simp only[Instr.sameBits,BEq.rfl,Bool.true_and];rw[List.all_eq_true];rintro⟨q,r⟩ hq;exact q2 9999 (q,r) hq
 obtain⟨rfl,h2⟩:=this;simp[Instr.keyThatStays,h2]
theorem qhX{k:V}:∀{es:List (Nat × V × V)}{j:Nat}{r:Nat × V},qcz k es j=some (some r)->∃i e,r.1=j+i/\es[i]?=some e/\qcV k e.2.1=some true
 | [],j,r,h=>by simp[qcz]at h
 | (b,k',u)::es,j,r,h=>by
  simp only[qcz]at h;cases hk:qcV k k' with
  | none=>simp[hk]at h
  | some c =>
   cases c
   ·simp[hk]at h;obtain⟨i,e,h1,h2,h3⟩:=qhX h;exact⟨i+1,e,by omega,by simpa using h2,h3⟩
   ·simp[hk]at h; subst h;exact⟨0,(b,k',u),rfl,rfl,hk⟩
theorem All2.modify{α β : Type}{R : α->β->Prop}{l:List α}{m:List β}(h:All2 R l m){f : α->α}{g : β->β}(hfg:∀a b,R a b->R (f a) (g b)):∀i,All2 R (l.modify i f) (m.modify i g):=by
 induction h with
 | nil=>intro i; simp; exact .nil
 | cons h k ih =>
  intro i;cases i with
  | zero=>simpa[List.modify]using All2.cons (hfg _ _ h) k
  | succ i=>simpa using All2.cons h (ih i)
theorem All2.eraseIdx{α β : Type}{R : α->β->Prop}{l:List α}{m:List β}(h:All2 R l m):∀i,All2 R (l.eraseIdx i) (m.eraseIdx i):=by
 induction h with
 | nil=>intro i; simp; exact .nil
 | cons h k ih =>
  intro i;cases i with
  | zero=>simpa using k
  | succ i=>simpa using All2.cons h (ih i)
theorem HR.set_obj(hh:HR N CR ι ro h w){i:Nat}{o o':Obj}{wn:Plc}{c:Go.Obj}(hi:h.get i=some o)(hwn:ι i=some wn)(ho:ORel N CR ι ro o' wn c) :
  HR N CR ι ro (h.set i o') { w with heap:=w.heap.setIfInBounds wn.blk c }:=by
 obtain⟨_,wn',h2,c',h3,_⟩:=hh.live i o hi;rw[hwn]at h2; cases h2;have hlt:=(Array.getElem?_eq_some_iff.1 h3).1;refine hh.set hi hwn (λb hb=>?_) ?_ ho
 ·simp only[Array.getElem?_setIfInBounds]; rw[Jaa (λe=>hb e.symm)]
 ·simp[hlt]
theorem qce{b:Nat}{c o:Go.Obj}(hb:w.heap[b]?=some c)(hc:∀x e fz,c≠.cells x e fz):(setObj b o).run P w=.ok () { w with heap:=w.heap.setIfInBounds b o }:=by
 unfold setObj;simp only[Sem.run,hb]
theorem qrq{kn:KK}{m k x:Opd}(hok:okW P N (.mupd kn m k x) p=true)(htm:VRtm N ι ro tm a.tmps)(hh:HR N CR ι ro h w)(hev:(qay (.mupd kn m k x)).run mk tm h=some ⟨v,h'⟩):qgd P N CR ι ro a p h w v h':=by
 obtain⟨t,m',k',x',key,el,hp,hm,hk,hx,hu,hkey⟩:∃t m' k' x' key el,(p=.mapUpdate t m' k' x'\/p=.insert t m' k' x')/\okO N m m'=true/\okO N k k'=true/\okO N x x'=true/\P.underlying t=some (.map key el)/\qfz P kn key=true:=by
  cases p<;>try (simp[okW]at hok; done)
  all_goals
   rename_i t m' k' x';simp only[okW,Jad]at hok;obtain⟨⟨⟨h1,h2⟩,h3⟩,h4⟩:=hok;cases hu:P.underlying t with
   | none=>simp[hu]at h4
   | some d =>
    cases d<;>simp[hu]at h4
    exact⟨t,m',k',x',_,_,by simp,h1,h2,h3,hu,h4⟩
 have hm:=qan htm hm;have hk:=qan htm hk;have hx:=qan htm hx;have hexec:∀(w':World),(Instr.mapUpdate t (a.eval m') (a.eval k') (a.eval x')).run P w=.ok () w'->∀o:Oper,o.op=p->(execOp a.eval o).run P w=.ok .skip w':=λw' hr o ho=>by
  rcases hp with rfl|rfl<;>simp[execOp,ho,hr]
 simp only[qay]at hev;cases hmv:m.ev tm<;>simp only[hmv,reduceCtorEq]at hev
 rename_i i;rw[hmv]at hm;simp only[VR]at hm;obtain⟨wn,hw,e1⟩:=hm;split at hev
 ·rename_i es clock hg;cases hc:(Nat.ble mk i&&qbX kn (k.ev tm))<;>simp only[hc,cond,reduceCtorEq]at hev
  simp only[Jad]at hc;obtain⟨wn',es',g1,g2,g3⟩:=hh.map hg;rw[hw]at g1; cases g1;have hck:=qdV (P:=P) false w 9997 hkey hk hc.2;split at hev
  ·rename_i r hr;simp only[Jae,VH.mk.injEq]at hev;obtain⟨rfl,rfl⟩:=hev;obtain⟨r',k1,k2⟩:=qbH hkey hk hc.2 w g3 hr;cases r' with
   | none=>exact k2.elim
   | some s =>
    obtain⟨s1,s2⟩:=s;obtain⟨k2,k3⟩:=k2;simp only at k2; subst k2;obtain⟨j,e,j1,j2,j3⟩:=qhX hr;obtain⟨e',j4,j5⟩:=g3.get j2;have hst:=qp0 (P:=P) j3 hc.2 hk j5.2.1 w;rw[Nat.zero_add]at j1;have hget:es'[r.1]?=some e':=by rw[j1,<-Array.getElem?_toList]; exact j4
    refine⟨ι,_,Go.undef,.skip,Ext.refl _ _ _,hh.set_obj (c:=.map (es'.modify r.1 λe=>{ e with key:=a.eval k',val:=a.eval x' }) clock) hg hw ?_,by simp[VR],⟨rfl,rfl,rfl,(by first|exact Jac _|exact Nat.le_succ _|simp),by simp⟩,by simp,.inr ⟨rfl,rfl⟩,hexec _ ?_⟩
    ·refine⟨_,rfl,?_⟩;rw[Array.toList_modify];exact g3.modify (f:=λe=>(e.1,k.ev tm,x.ev tm)) (g:=λe:MapEntry=>{ e with key:=a.eval k',val:=a.eval x' }) (λq q' hq=>⟨hq.1,hk,hx⟩) _
    ·simp[Instr.mapUpdate,underlying,hu,e1,getObj,Sem.run,g2,hck,k1,hget,hst,qce g2]
  ·rename_i hr;simp only[Jae,VH.mk.injEq]at hev;obtain⟨rfl,rfl⟩:=hev;obtain⟨r',k1,k2⟩:=qbH hkey hk hc.2 w g3 hr;cases r' with
   | some s=>exact k2.elim
   | none =>
    refine⟨ι,_,Go.undef,.skip,Ext.refl _ _ _,hh.set_obj (c:=.map (es'.push { key:=a.eval k',val:=a.eval x',born:=clock }) (clock+1)) hg hw ?_,by simp[VR],⟨rfl,rfl,rfl,(by first|exact Jac _|exact Nat.le_succ _|simp),by simp⟩,by simp,.inr ⟨rfl,rfl⟩,hexec _ ?_⟩
    ·refine⟨_,rfl,?_⟩;rw[Array.toList_push];exact g3.append (.cons ⟨rfl,hk,hx⟩ .nil)
    ·simp[Instr.mapUpdate,underlying,hu,e1,getObj,Sem.run,g2,hck,k1,qce g2]
  ·cases hev
 ·cases hev
theorem sW_del{kn:KK}{m k:Opd}(hok:okW P N (.del kn m k) p=true)(htm:VRtm N ι ro tm a.tmps)(hh:HR N CR ι ro h w)(hev:(qay (.del kn m k)).run mk tm h=some ⟨v,h'⟩):qgd P N CR ι ro a p h w v h':=by
 simp only[qay]at hev;cases p<;>try (simp[okW]at hok; done)
 rename_i c;obtain⟨callee,args,ats⟩:=c;cases callee<;>try (simp[okW]at hok; done)
 rename_i b;cases b<;>simp[okW]at hok
 obtain⟨hx,hd⟩:=hok;obtain⟨m',k',hargs,hm,hk⟩:=qgn htm hx;split at hd<;>try (exact absurd hd Bool.false_ne_true)
 rename_i t h0;split at hd<;>try (exact absurd hd Bool.false_ne_true)
 rename_i key el hu;have hexec:∀(w':World),(Builtin.delete_ ats 0 #[m',k']).run P w=.ok (.tuple #[]) w'->∀o:Oper,o.op=.call { callee:=.builtin .delete,args,argTypes:=ats }->(execOp a.eval o).run P w=.ok (.value (.tuple #[])) w':=λw' hr o ho=>by
  have:∀ty,Builtin.delete_ ats ty #[m',k']=Builtin.delete_ ats 0 #[m',k']:=λ_=>rfl;simp[execOp,ho,resolve,invoke,builtin,hargs,this,hr]
 cases hmv:m.ev tm<;>simp only[hmv,reduceCtorEq]at hev
 rename_i i;rw[hmv]at hm;simp only[VR]at hm;obtain⟨wn,hw,e1⟩:=hm;split at hev
 ·rename_i es clock hg;cases hc:(Nat.ble mk i&&qbX kn (k.ev tm))<;>simp only[hc,cond,reduceCtorEq]at hev
  simp only[Jad]at hc;obtain⟨wn',es',g1,g2,g3⟩:=hh.map hg;rw[hw]at g1; cases g1;have hck:=λe=>qdV (P:=P) e w 9997 hd hk hc.2;split at hev
  ·rename_i r hr;simp only[Jae,VH.mk.injEq]at hev;obtain⟨rfl,rfl⟩:=hev;obtain⟨r',k1,k2⟩:=qbH hd hk hc.2 w g3 hr;cases r' with
   | none=>exact k2.elim
   | some s =>
    obtain⟨s1,s2⟩:=s;obtain⟨k2,k3⟩:=k2;simp only at k2; subst k2;refine⟨ι,_,.tuple #[],_,Ext.refl _ _ _,hh.set_obj (c:=.map (es'.eraseIdxIfInBounds r.1) clock) hg hw ?_,by simp[VR],⟨rfl,rfl,rfl,(by first|exact Jac _|exact Nat.le_succ _|simp),by simp⟩,by simp,.inl rfl,hexec _ ?_⟩
    ·refine⟨_,rfl,?_⟩;rw[Array.toList_eraseIdxIfInBounds];exact g3.eraseIdx _
    ·simp[Builtin.delete_,h0,underlying,hu,e1,getObj,Sem.run,g2,hck,k1,qce g2]
  ·rename_i hr;simp only[Jae,VH.mk.injEq]at hev;obtain⟨rfl,rfl⟩:=hev;obtain⟨r',k1,k2⟩:=qbH hd hk hc.2 w g3 hr;cases r' with
   | some s=>exact k2.elim
   | none =>
    have hlt:=(Array.getElem?_eq_some_iff.1 g2).1;refine⟨ι,{ w with heap:=w.heap.setIfInBounds wn.blk (.map es' clock) },.tuple #[],_,Ext.refl _ _ _,hh.heap ?_,by simp[VR],⟨rfl,rfl,rfl,(by first|exact Jac _|exact Nat.le_succ _|simp),by simp⟩,by simp,.inl rfl,hexec _ ?_⟩
    ·apply Array.ext
     ·simp
     ·intro q hq1 hq2;show(w.heap.setIfInBounds wn.blk (.map es' clock))[q]=_;rw[Array.getElem_setIfInBounds];split
      ·rename_i e; subst e;rw[Array.getElem?_eq_getElem hlt]at g2;exact(Option.some.inj g2).symm
      ·rfl
    ·simp[Builtin.delete_,h0,underlying,hu,e1,getObj,Sem.run,g2,hck,k1,qce g2]
  ·cases hev
 ·cases hev
theorem qC6{i:Nat}{x:Value}(h:VR N ι ro (.ptr i 0 0) x):∃wn,ι i=some wn/\x=.pointer (some ⟨wn.blk,wn.base,none⟩):=by
 simp only[VR]at h;obtain⟨wn,h1,h2⟩:=h;exact⟨wn,h1,by rw[h2]; simp[Plc.at]⟩
theorem qro{x:Opd}(hok:okW P N (.rngM x) p=true)(htm:VRtm N ι ro tm a.tmps)(hh:HR N CR ι ro h w)(hev:(qay (.rngM x)).run mk tm h=some ⟨v,h'⟩):qgd P N CR ι ro a p h w v h':=by
 simp only[qay]at hev;cases p<;>try (simp[okW]at hok; done)
 rename_i t y;simp only[okW,Jad]at hok;obtain⟨hx,hd⟩:=hok;have hx:=qan htm hx;split at hd<;>try (exact absurd hd Bool.false_ne_true)
 rename_i key el hu;cases hmv:x.ev tm<;>simp only[hmv,reduceCtorEq]at hev
 rename_i i;rw[hmv]at hx;simp only[VR]at hx;obtain⟨wn,hw,e1⟩:=hx;split at hev
 ·rename_i es clock hg;simp only[Jae,VH.mk.injEq]at hev;obtain⟨rfl,rfl⟩:=hev;obtain⟨wn',es',g1,g2,g3⟩:=hh.map hg;rw[hw]at g1; cases g1
  let wi:Plc:=⟨w.heap.size,0,0,0⟩
  let c:Go.Obj:=.mapIter (some wn.blk) clock #[] clock
  have hext:=qeD hh wi;have hG:=qdA.alloc w c;refine⟨_,{ w with heap:=w.heap.push c },.pointer (some ⟨w.heap.size,0,none⟩),_,hext,hh.put_new (wn:=wi) (o:=.mapIter i clock [] clock) (c:=c) (hh.fresh _ (Jac _)) (by simp) (by simp) (λj=>by rw[qBq]) rfl hG.old hG.new ?_,?_,hG.env,by simp,.inl rfl,λo ho=>?_⟩
  ·exact⟨rfl,wn,hext.old i wn hw,rfl⟩
  ·simp only[VR]; exact⟨wi,by simp,by simp[wi,Plc.at]⟩
  ·simp[execOp,ho,Instr.range,underlying,hu,e1,getObj,newObj,Sem.run,g2,c]
 ·cases hev
theorem qrp{it:Opd}(hok:okW P N (.nxtS it) p=true)(htm:VRtm N ι ro tm a.tmps)(hh:HR N CR ι ro h w)(hev:(qay (.nxtS it)).run mk tm h=some ⟨v,h'⟩):qgd P N CR ι ro a p h w v h':=by
 simp only[qay]at hev;cases p<;>try (simp[okW]at hok; done)
 rename_i y b;cases b<;>simp only[okW,reduceCtorEq,Jan]at hok
 have hx:=qan htm hok;cases hmv:it.ev tm<;>simp only[hmv,reduceCtorEq]at hev
 rename_i i r o;cases r<;>cases o<;>simp only[reduceCtorEq]at hev
 rw[hmv]at hx;obtain⟨wn,hw,e1⟩:=qC6 hx;split at hev
 ·rename_i s pos hg;obtain⟨_,wn',h1,c,h2,h3⟩:=hh.live i _ hg;rw[hw]at h1; cases h1;obtain⟨hb,s',rfl,hs⟩:=h3;rw[hb]at e1;cases hmk:Nat.ble mk i<;>simp only[hmk,cond,reduceCtorEq]at hev
  have hlen:s.length=s'.size:=by rw[<-hs]; rfl
  cases hp:Nat.blt pos s.length<;>simp only[hp]at hev
  ·simp only[Jae,VH.mk.injEq]at hev;obtain⟨rfl,rfl⟩:=hev;have hnp:¬(pos<s'.size):=by rw[<-hlen]; intro hlt; rw[<-Nat.blt_eq,hp]at hlt; cases hlt
   refine⟨ι,w,.tuple #[.bool false],_,Ext.refl _ _ _,hh,?_,qbM.refl w,Jac _,.inl rfl,λo ho=>?_⟩
   ·simp only[VR]; exact⟨_,rfl,VRs.cons (by simp only[VR]) VRs.nil⟩
   ·simp[execOp,ho,Instr.next,e1,getObj,Sem.run,h2,hnp]
  ·rw[Nat.blt_eq,hlen]at hp;split at hev
   ·rename_i cw hcw;simp only[Jae,VH.mk.injEq]at hev;obtain⟨rfl,rfl⟩:=hev;have hdec:Utf8.decode s' pos=cw:=by
     unfold qnj at hcw;split at hcw
     ·rename_i c hc;cases hb:Nat.blt c.toNat 128<;>simp[hb]at hcw
      have:s'[pos]'hp=c:=by
       rw[<-hs,Array.getElem?_toList]at hc;exact(Array.getElem?_eq_some_iff.1 hc).2
      subst hcw;rw[Nat.blt_eq]at hb;rw[decode_ascii s' pos hp (by rw[this]; exact hb),this]
     ·cases hcw
    refine⟨ι,_,.tuple #[.bool true,.int .i64 pos,.int .i32 cw.1],_,Ext.refl _ _ _,hh.set_obj (c:=.stringIter s' (pos+cw.2)) hg hw ⟨hb,s',rfl,hs⟩,?_,⟨rfl,rfl,rfl,(by first|exact Jac _|exact Nat.le_succ _|simp),by simp⟩,by simp,.inl rfl,λo ho=>?_⟩
    ·simp only[VR]; exact⟨_,rfl,VRs.cons (by simp only[VR]) (VRs.cons (by simp[VR]) (VRs.cons (by simp[VR]) VRs.nil))⟩
    ·simp[execOp,ho,Instr.next,e1,getObj,Sem.run,h2,hp,hdec,qce h2,goInt]
   ·cases hev
 ·cases hev
theorem HR.mark(hh:HR N CR ι ro h w){b n:Nat}{t:TypeId}(hkb:∀o,N.kb b≠some o)(hs:w.shape? b=some (t,n)):HR N CR ι ro h (w.freeze ⟨b,n,none⟩ 1)/\qbM w (w.freeze ⟨b,n,none⟩ 1):=by
 unfold World.shape? at hs;split at hs
 ·rename_i c e fz hb;simp at hs; obtain⟨rfl,rfl⟩:=hs;obtain⟨lo,hi⟩:=fz;have hnew:(w.freeze ⟨b,c.size,none⟩ 1).heap[b]?=some (.cells c e (if lo == hi then(c.size,c.size+1)else(min lo c.size,max hi (c.size+1)))):=by
   simp[World.freeze,Array.getElem?_modify,hb]
  have hoth:∀b',b'≠b->(w.freeze ⟨b,c.size,none⟩ 1).heap[b']?=w.heap[b']?:=λb' hb'=>by
   simp only[World.freeze]; rw[Jaa (by omega)]; simp only[Array.getElem?_modify]; rw[Jaa (λe=>hb' e.symm)]
  refine⟨⟨λi o hi'=>?_,hh.dist,λb' c' hb'=>?_,hh.fresh,λb' o' hb'=>⟨by rw[hoth _ (λe=>hkb o' (e ▸ hb'))]; exact(hh.kb b' o' hb').1,(hh.kb b' o' hb').2⟩⟩,⟨?_,?_,?_,?_,?_⟩⟩
  ·obtain⟨h1,u,h2,c2,h3,h4⟩:=hh.live i o hi'
   by_cases eb:u.blk=b
   ·rw[eb,hb]at h3; cases h3;refine⟨h1,u,h2,_,by rw[eb]; exact hnew,?_⟩;cases o with
    | rows rs =>
     obtain⟨c3,e3,f3,g1,g2,g3,g4,g5⟩:=h4;cases g1;refine⟨c,e,_,rfl,g2,?_,g4,g5⟩;split
     ·right; exact Jac _
     ·rename_i hne;simp at hne;rcases g3 with g3|g3
      ·exact absurd g3 hne
      ·right; exact Nat.le_min.2 ⟨g3,Jac _⟩
    | map=>obtain⟨_,h,_⟩:=h4; cases h
    | strIter=>obtain⟨_,_,h,_⟩:=h4; cases h
    | mapIter=>obtain⟨_,_,_,h⟩:=h4; cases h
    | loop=>obtain⟨_,h,_⟩:=h4; cases h
    | dfr=>cases h4
   ·exact⟨h1,u,h2,c2,by rw[hoth _ eb]; exact h3,h4⟩
  ·obtain⟨⟨e',fz',h1⟩,h2⟩:=hh.rd b' c' hb';refine⟨?_,h2⟩
   by_cases eb:b'=b
   ·rw[eb,hb]at h1; cases h1;rw[eb]; exact⟨_,_,hnew⟩
   ·rw[hoth _ eb]; exact⟨_,_,h1⟩
  all_goals simp[World.freeze]
 ·cases hs
theorem HR.markS(hh:HR N CR ι ro h w)(ad:Addr)(hkb:∀o,N.kb ad.block≠some o):∃w',(markStringish ad).run P w=.ok () w'/\HR N CR ι ro h w'/\qbM w w':=by
 cases hs:w.shape? ad.block with
 | none=>exact⟨w,by simp[markStringish,shape,Sem.run,hs],hh,qbM.refl w⟩
 | some tn =>
  obtain⟨t,n⟩:=tn;obtain⟨h1,h2⟩:=hh.mark hkb hs;exact⟨_,by simp[markStringish,shape,freeze,Sem.run,hs],h1,h2⟩
theorem qrn{x:Opd}(hok:okW P N (.same x) p=true)(htm:VRtm N ι ro tm a.tmps)(hh:HR N CR ι ro h w)(hev:(qay (.same x)).run mk tm h=some ⟨v,h'⟩):qgd P N CR ι ro a p h w v h':=by
 simp only[qay]at hev;cases p<;>try (simp[okW]at hok; done)
 rename_i s d y;simp only[okW,Jad,beq_iff_eq]at hok;obtain⟨⟨hx,rfl⟩,hd⟩:=hok;have hx:=qan htm hx;split at hd<;>try (exact absurd hd Bool.false_ne_true)
 rename_i e hu;split at hd<;>try (exact absurd hd Bool.false_ne_true)
 rename_i hu8;obtain⟨hv,ad,len,cap,e1,hkb⟩:(v=x.ev tm/\h'=h)/\∃ad len cap,a.eval y=.slice (some ad) len cap/\∀o,N.kb ad.block≠some o:=by
  cases hxv:x.ev tm<;>simp only[hxv,reduceCtorEq]at hev
  rename_i id lo len e f;rw[hxv]at hx;cases hc:(Nat.blt 0 len&&(h.get id).isSome)with
  | false=>rw[hc]at hev; cases hev
  | true =>
   rw[hc]at hev;simp only[cond,Jae,VH.mk.injEq]at hev;simp only[Jad,Nat.blt_eq]at hc;obtain⟨ob,hob⟩:=Option.isSome_iff_exists.1 hc.2;simp only[VR]at hx;obtain⟨wn,hwn,_,ad,cap,e1,_,_,h5⟩:=hx;refine⟨⟨hev.1.symm,hev.2.symm⟩,ad,_,cap,e1,λo ho=>?_⟩;rcases h5 with h5|⟨h5,_⟩
   ·omega
   ·subst h5;exact(hh.kb _ o ho).2 id ob wn hob hwn rfl
 obtain⟨rfl,rfl⟩:=hv;obtain⟨w',k1,k2,k3⟩:=hh.markS (P:=P) ad hkb;refine⟨ι,w',a.eval y,_,Ext.refl _ _ _,k2,hx,k3,Jac _,.inl rfl,λo ho=>?_⟩;simp[execOp,ho,convert,underlying,hu,hu8,e1,k1]
theorem qau.over{rs xs:List (List V)}{c B:Array Value}{b esz lo:Nat}(h:qau N ι ro rs c b esz)(k:qau N ι ro xs B 0 esz)(hB:B.size=xs.length * esz)(hlo:lo+xs.length<=rs.length)(hc:b+rs.length * esz<=c.size) :
  qau N ι ro (rs.take lo++xs++rs.drop (lo+xs.length)) (putC c (b+lo * esz) B.toList) b esz:=by
 have hm:(lo+xs.length) * esz=lo * esz+xs.length * esz:=Nat.add_mul _ _ _;have hle:(lo+xs.length) * esz<=rs.length * esz:=Nat.mul_le_mul_right _ hlo;have htl:(rs.take lo).length=lo:=by simp; omega
 refine⟨λr hr=>?_,λi r hr j v hv=>?_⟩
 ·rcases Jaj.1 hr with hr|hr
  ·rcases Jaj.1 hr with hr|hr
   ·exact h.1 r (List.mem_of_mem_take hr)
   ·exact k.1 r hr
  ·exact h.1 r (List.mem_of_mem_drop hr)
 ·rw[List.append_assoc,List.getElem?_append,htl]at hr;split at hr
  ·rename_i hi;rw[List.getElem?_take,Jab hi]at hr;obtain⟨x,hx,hvr⟩:=h.2 i r hr j v hv;have hj:j<esz:=by rw[<-h.1 r (Jar hr)]; exact(Jam.1 hv).1
   refine⟨x,?_,hvr⟩;have:=Nat.mul_le_mul_right esz (Nat.succ_le_of_lt hi);rw[Nat.succ_mul]at this;rw[qb8,Jaa (by omega)]; exact hx
  ·rename_i hi;rw[List.getElem?_append]at hr;have e2:i * esz=lo * esz+(i-lo) * esz:=by rw[<-Nat.add_mul]; congr 1; omega
   split at hr
   ·obtain⟨x,hx,hvr⟩:=k.2 _ r hr j v hv;refine⟨x,?_,hvr⟩;have hlt:=(Array.getElem?_eq_some_iff.1 hx).1;have e1:b+i * esz+j=b+lo * esz+(0+(i-lo) * esz+j):=by omega
    rw[qb8,Jab (by simp only[Array.length_toList]; omega),e1,Nat.add_sub_cancel_left];simpa using hx
   ·rename_i hi2;rw[List.getElem?_drop,show lo+xs.length+(i-lo-xs.length)=i by omega]at hr;obtain⟨x,hx,hvr⟩:=h.2 i r hr j v hv;refine⟨x,?_,hvr⟩;have:=Nat.mul_le_mul_right esz (show lo+xs.length<=i by omega);rw[qb8,Jaa (by simp only[Array.length_toList]; omega)]; exact hx
theorem qpk{zero:List V}{x:Opd}(hok:okW P N (.clear zero x) p=true)(htm:VRtm N ι ro tm a.tmps)(hh:HR N CR ι ro h w)(hev:(qay (.clear zero x)).run mk tm h=some ⟨v,h'⟩):qgd P N CR ι ro a p h w v h':=by
 simp only[qay]at hev;cases p<;>try (simp[okW]at hok; done)
 rename_i c;obtain⟨callee,args,ats⟩:=c;cases callee<;>try (simp[okW]at hok; done)
 rename_i b;cases b<;>simp[okW]at hok
 obtain⟨⟨hx,hz0⟩,hd⟩:=hok;split at hd<;>try (exact absurd hd Bool.false_ne_true)
 rename_i t h0;split at hd<;>try (exact absurd hd Bool.false_ne_true)
 rename_i e hu;obtain⟨z,z1,z2,z3,z4,z5⟩:=qd1 (N:=N) (ι:=ι) (ro:=ro) hd;have hzl:z.cells.size=zero.length:=by rw[z1.length]; simp
 obtain⟨x',hargs,hx'⟩:∃x',args.map a.eval=#[x']/\VR N ι ro (x.ev tm) x':=by
  have:=qd4 htm hx;simp only[qcE]at this;obtain⟨y,r,h1,h2,h3⟩:=VRs.cons_inv this;rw[VRs.nil_inv h3]at h1;exact⟨y,Array.ext' (by simpa using h1),h2⟩
 have hexec:∀(w':World),(Builtin.clear_ ats 0 #[x']).run P w=.ok (.tuple #[]) w'->∀o:Oper,o.op=.call { callee:=.builtin .clear,args,argTypes:=ats }->(execOp a.eval o).run P w=.ok (.value (.tuple #[])) w':=λw' hr o ho=>by
  have:∀ty,Builtin.clear_ ats ty #[x']=Builtin.clear_ ats 0 #[x']:=λ_=>rfl;simp[execOp,ho,resolve,invoke,builtin,hargs,this,hr]
 have same:∀base cap,x'=.slice base 0 cap->v=.any/\h'=h->qgd P N CR ι ro a (.call { callee:=.builtin .clear,args,argTypes:=ats }) h w v h':=λbase cap e1 e2=>by
  obtain⟨rfl,rfl⟩:=e2
  exact⟨ι,w,.tuple #[],_,Ext.refl _ _ _,hh,by simp[VR],qbM.refl w,Jac _,.inl rfl,hexec w (by
   cases base<;>simp[Builtin.clear_,h0,underlying,hu,e1])⟩
 cases hxv:x.ev tm<;>simp only[hxv,reduceCtorEq]at hev<;>rw[hxv]at hx'
 ·simp only[VR]at hx';simp only[Jae,VH.mk.injEq]at hev;exact same _ _ hx' ⟨hev.1.symm,hev.2.symm⟩
 ·rename_i id lo len ez full;simp only[VR]at hx';obtain⟨wn,hw,hez,ad,cap,e1,e2,e3,e4⟩:=hx';cases hl:Nat.beq len 0<;>simp only[hl,cond]at hev
  ·have hl0:len≠0:=λe=>by subst e; cases hl
   split at hev
   ·rename_i rs hg;cases hb:(Nat.ble mk id&&Nat.ble (lo+len) rs.length&&Nat.beq ez zero.length)<;>simp only[hb,reduceCtorEq,Jae,VH.mk.injEq]at hev
    simp only[Jad,Jat,Jas]at hb;obtain⟨⟨b1,b2⟩,b3⟩:=hb;obtain⟨rfl,rfl⟩:=hev;obtain⟨wn',c,e',fz,g1,g2,g3,g4,g5,g6⟩:=hh.rows hg;rw[hw]at g1; cases g1;rcases e4 with ⟨e4,_⟩|⟨e4,_⟩
    ·exact absurd e4 hl0
    subst e4;have hesz:wn.esz=zero.length:=by rw[hez]; exact b3
    have hrows:=qde (N:=N) (ι:=ι) (ro:=ro) z1 hz0 len len (Jac _);have hB:(Builtin.zeroCells z.cells len).size=(List.replicate len zero).length * wn.esz:=by rw[qbm,hzl,hesz]; simp
    have hov:=g6.over (lo:=lo) (by rw[hesz]; exact hrows) hB (by simpa using b2) (by rw[g3]; exact g5);have hle:(lo+len) * wn.esz<=rs.length * wn.esz:=Nat.mul_le_mul_right _ b2;rw[Nat.add_mul]at hle;obtain⟨w',k1,k2,k3,k4⟩:=qbO (P:=P) (Builtin.zeroCells z.cells len).toList c (wn.base+lo * wn.esz) 0 w g2 g4 (by
     simp only[Array.length_toList,qbm,hzl,<-hesz]; omega) (λq hq=>by
     simp only[Builtin.zeroCells,Array.toList_map,Jak]at hq;obtain⟨j,_,rfl⟩:=hq;have hlt:j % z.cells.size<z.cells.size:=Nat.mod_lt _ (by omega);rw[getElem!_pos z.cells _ hlt];exact qiv z1 z3 _ (by simp))
    refine⟨ι,w',.tuple #[],_,Ext.refl _ _ _,?_,by simp[VR],k4,by simp,.inl rfl,hexec w' ?_⟩
    ·refine hh.set hg hw k3 k2 ⟨_,e',fz,rfl,by rw[qci]; exact g3,by rw[qci]; exact g4,?_,?_⟩
     ·simp only[Jao,List.length_take,List.length_drop,List.length_replicate];rw[show min lo rs.length+len+(rs.length-(lo+len))=rs.length by omega]; exact g5
     ·simpa using hov
    ·have hz5:=z5 w;simp only[Plc.at,Nat.add_zero]at e1;cases len with
     | zero=>exact absurd rfl hl0
     | succ len=>simp[Builtin.clear_,h0,underlying,hu,e1,hz5,k1]
   ·cases hev
  ·rw[Jas]at hl; subst hl;simp only[Jae,VH.mk.injEq]at hev;exact same _ _ e1 ⟨hev.1.symm,hev.2.symm⟩
 ·rename_i rows full;rw[qBx]at hx';obtain⟨ad,cap,e1,_⟩:=hx';cases rows with
  | nil =>
   simp only[List.isEmpty_nil,cond,Jae,VH.mk.injEq]at hev;exact same _ _ e1 ⟨hev.1.symm,hev.2.symm⟩
  | cons _ _=>simp at hev
theorem qtS{o:WO}(hok:okW P N o p=true)(htm:VRtm N ι ro tm a.tmps)(hh:HR N CR ι ro h w)(hev:(qay o).run mk tm h=some ⟨v,h'⟩):qgd P N CR ι ro a p h w v h':=by
 cases o with
 | store n a x=>exact qpj hok htm hh hev
 | mupd kn m k v=>exact qrq hok htm hh hev
 | del kn m k=>exact sW_del hok htm hh hev
 | rngM x=>exact qro hok htm hh hev
 | nxtS it=>exact qrp hok htm hh hev
 | append esz bytes s x=>exact qnB hok htm hh hev
 | appendS s x=>exact qmn hok htm hh hev
 | appendZ zero bytes s n=>exact qmm hok htm hh hev
 | clear zero x=>exact qpk hok htm hh hev
 | same x=>exact qrn hok htm hh hev
variable {N:Num}{CR:Nat->IC->Code->Prop}{ι ι' ι'':Inj}{ro ro' ro'':RO}{P:Program}{h h' h'':Heap}{w w' w'':World}
structure Grow (n0 lim:Nat) (ι:Inj) (ro:RO) (h:Heap) (w:World) (ι':Inj) (ro':RO) (h':Heap) (w':World):Prop where
 ext:Ext n0 ι ro ι' ro'
 env:qbM w w'
 n:h.n<=h'.n
 low:∀i,i<lim->h'.get i=h.get i
theorem Grow.refl{n0 lim:Nat}:Grow n0 lim ι ro h w ι ro h w:=⟨Ext.refl _ _ _,qbM.refl w,Jac _,λ_ _=>rfl⟩
theorem Grow.trans{n0 lim:Nat}(g:Grow n0 lim ι ro h w ι' ro' h' w')(k:Grow n0 lim ι' ro' h' w' ι'' ro'' h'' w''):Grow n0 lim ι ro h w ι'' ro'' h'' w'' :=
 ⟨g.ext.trans k.ext (Jac _),g.env.trans k.env,Jaf g.n k.n,λi hi=>(k.low i hi).trans (g.low i hi)⟩
theorem Grow.less{n0 n1 lim lim':Nat}(g:Grow n1 lim' ι ro h w ι' ro' h' w')(hn:n0<=n1)(hl:lim<=lim'):Grow n0 lim ι ro h w ι' ro' h' w' :=
 ⟨⟨λi hi=>g.ext.inj i (Nat.lt_of_lt_of_le hi hn),g.ext.old,g.ext.ro⟩,g.env,g.n,λi hi=>g.low i (Nat.lt_of_lt_of_le hi hl)⟩
def qaU(fx:Value)(xs:Array Value):Sem Next:=do let d <- Deferred.ofValue fx xs; invoke d.target d.args
def calm(kind:CallKind)(cs:List Frame):Prop:=∀fr:Frame,fr.kind=kind->tryRecover fr cs=none
theorem qeF(cs:List Frame):calm .normal cs:=λfr h=>by unfold tryRecover; rw[h]
def qfo(P:Program)(f:FuncId)(args:Array Value)(w:World)(R:Value->World->Prop):Prop :=
 ∀kind cs,calm kind cs->∃v w' fr,R v w'/\Steps P (lone (Frame.enter P f args kind) cs w) (lone fr cs w')/\fr.fn=f/\fr.mode=.returning/\fr.defers=[]/\fr.kind=kind /\
  ∃fn,P.funcs[f]?=some fn/\(Go.results fn fr.tmps).run P w'=.ok v w'
def qcX(P:Program)(f:FuncId)(args:Array Value)(w:World)(R:Value->World->Prop):Prop:=Calls P f args w (fun|.returned v,w'=>R v w'|_,_=>False)
theorem qcX.mono{f:FuncId}{args:Array Value}{R R':Value->World->Prop}(h:qcX P f args w R)(k:∀v w',R v w'->R' v w'):qcX P f args w R':=λcs=>by
 obtain⟨e,w',fr,h1,h2⟩:=h cs;refine⟨e,w',fr,?_,h2⟩;cases e with
 | returned v=>exact k _ _ h1
 | panicked c=>exact h1
 | outgrown=>exact h1
theorem qcX.of_calls{f:FuncId}{args:Array Value}{R:Value->World->Prop}(h:qcX P f args w R)(c:Frame)(cs:List Frame):∃v w',R v w'/\Steps P (lone (Frame.enter P f args .normal) (c::cs) w) (lone (c.finish v) cs w'):=by
 obtain⟨e,w',fr,h1,h2,h3,h4⟩:=h (c::cs);cases e with
 | returned v=>exact⟨v,w',h1,Steps.trans h2 (.one (step_leave_returned h4))⟩
 | panicked c=>exact h1.elim
 | outgrown=>exact h1.elim
def qih(P:Program)(w1:World)(R:Value->World->Prop)(nx:Next):Prop :=
 match nx with
 | .enter f args=>qcX P f args w1 R
 | .round l f tmps asg body=>∀c cs,∃v w',R v w'/\Steps P (lone (Frame.round l f tmps asg body .normal) (c::cs) w1) (lone (c.finish v) cs w')
 | .value v=>R v w1
 | _=>False
def qeI(P:Program)(fx:Value)(xs:Array Value)(w:World)(R:Value->World->Prop):Prop :=
 ∃nx w1,(qaU fx xs).run P w=.ok nx w1/\qih P w1 R nx
theorem qfo.mono{f:FuncId}{args:Array Value}{R R':Value->World->Prop}(h:qfo P f args w R)(k:∀v w',R v w'->R' v w'):qfo P f args w R' :=
 λkind cs hc=>let ⟨v,w',fr,h1,h2⟩:=h kind cs hc; ⟨v,w',fr,k v w' h1,h2⟩
theorem qfo.calls{f:FuncId}{args:Array Value}{R:Value->World->Prop}(h:qfo P f args w R):qcX P f args w R:=λcs=>by
 obtain⟨v,w',fr,h1,h2,h3,h4,h5,h6,h7⟩:=h .normal cs (qeF cs);exact⟨.returned v,w',fr,h1,h2,h3,h4,h5,h6,by rw[h3]; exact h7⟩
theorem qfo.of_calls{f:FuncId}{args:Array Value}{R:Value->World->Prop}(h:qfo P f args w R)(c:Frame)(cs:List Frame):∃v w',R v w'/\Steps P (lone (Frame.enter P f args .normal) (c::cs) w) (lone (c.finish v) cs w'):=by
 obtain⟨v,w',fr,h1,h2,h3,h4,h5,h6,h7⟩:=h .normal (c::cs) (qeF _);exact⟨v,w',h1,h2.trans (.one (step_leave_returned ⟨h4,h5,h6,by rw[h3]; exact h7⟩))⟩
theorem qeI.mono{fx:Value}{xs:Array Value}{R R':Value->World->Prop}(h:qeI P fx xs w R)(k:∀v w',R v w'->R' v w'):qeI P fx xs w R':=by
 obtain⟨nx,w1,h1,h2⟩:=h;refine⟨nx,w1,h1,?_⟩;cases nx<;>try exact h2
 ·exact k _ _ h2
 ·exact qcX.mono h2 k
 ·exact λc cs=>let ⟨v,w',h3,h4⟩:=h2 c cs; ⟨v,w',k _ _ h3,h4⟩
def qfq(P:Program)(N:Num)(CR:Nat->IC->Code->Prop)(callF:V->List V->Heap->ND VH)(lim:Nat):Prop :=
 ∀ι ro h w fv fx args (xs:Array Value) outs,lim<=h.n->HR N CR ι ro h w->VR N ι ro fv fx->VRs N ι ro args xs.toList->callF fv args h=some outs ->
  qeI P fx xs w λv w'=>∃r∈outs,∃ι' ro',Grow h.n lim ι ro h w ι' ro' r.h w'/\HR N CR ι' ro' r.h w'/\VR N ι' ro' r.v v
def qAX(e:Env):Prop:=∀f args h r,e.pureF f=true->e.callF (.fn f [] []) args h=some [r]->r.h=h
theorem qA9{e:Env}{f:Nat}{args:List V}{h:Heap}{v:V}(hp:qAX e)(hv:qAV e f args h=some v):e.callF (.fn f [] []) args h=some [⟨v,h⟩]:=by
 unfold qAV at hv;cases hf:e.pureF f<;>simp only[hf,cond,reduceCtorEq]at hv
 split at hv
 ·rename_i r hr;have h1:=hp f args h r hf hr;cases r;simp only[Jae]at hv h1;subst hv h1;exact hr
 ·cases hv
def qo4(P:Program)(fx:Value)(xs:Array Value)(w:World)(R:Value->World->Prop):Prop :=
 (∃f args,(qaU fx xs).run P w=.ok (.enter f args) w/\qfo P f args w R)\/∃v w1,(qaU fx xs).run P w=.ok (.value v) w1/\R v w1
theorem qo4.invokes{fx:Value}{xs:Array Value}{R:Value->World->Prop}(h:qo4 P fx xs w R):qeI P fx xs w R:=by
 rcases h with ⟨f,args,h1,h2⟩|⟨v,w1,h1,h2⟩
 ·exact⟨_,w,h1,h2.calls⟩
 ·exact⟨_,w1,h1,h2⟩
def qqA(P:Program)(N:Num)(CR:Nat->IC->Code->Prop)(callF:V->List V->Heap->ND VH)(lim:Nat):Prop :=
 ∀ι ro h w f fa fc fx args (xs:Array Value) outs,lim<=h.n->HR N CR ι ro h w->VR N ι ro (.fn f fa fc) fx->VRs N ι ro args xs.toList->callF (.fn f fa fc) args h=some outs ->
  qo4 P fx xs w λv w'=>∃r∈outs,∃ι' ro',Grow h.n lim ι ro h w ι' ro' r.h w'/\HR N CR ι' ro' r.h w'/\VR N ι' ro' r.v v
def DefR(N:Num)(ι:Inj)(ro:RO):DefI->Deferred->Prop
 | .call v,d=>(∃f x y,v=.fn f x y)/\∃fn first cap,VR N ι ro v (.func fn first cap)/\d={ target:=.fn fn cap,args:=first++#[] }
 | .mark i,d=>∃wn,ι i=some wn/\d={ target:=.collected wn.blk,args:=#[] }
theorem DefR.mono(hi:∀i w,ι i=some w->ι' i=some w)(hr:∀b c,ro b=some c->ro' b=some c){d:DefI}{e:Deferred}(h:DefR N ι ro d e):DefR N ι' ro' d e:=by
 cases d with
 | call v=>obtain⟨h0,fn,first,cap,h1,h2⟩:=h; exact⟨h0,fn,first,cap,VR.mono hi hr _ _ h1,h2⟩
 | mark i=>obtain⟨wn,h1,h2⟩:=h; exact⟨wn,hi _ _ h1,h2⟩
structure SR (P:Program) (N:Num) (CR:Nat->IC->Code->Prop) (nt:Nat) (ι:Inj) (ro:RO) (st:St) (b:Frame) (a:Act) (w:World):Prop where
 hr:HR N CR ι ro st.h w
 tm:VRtm N ι ro st.tm a.tmps
 sz:nt<=a.tmps.size
 round:st.round=b.roundOf.isSome
 defs:All2 (DefR N ι ro) st.defs a.defers
section put
variable {nt:Nat}{st:St}{b:Frame}{a:Act}
theorem qCw(a:Act)(d:Option Tmp)(v:Value):(a.put d v).tmps.size=a.tmps.size:=by cases d<;>simp[Act.put]
theorem SR.put(hs:SR P N CR nt ι ro st b a w){dst:Option Nat}(hd:∀d,dst=some d->d<nt){v:V}{x:Value}(hi:∀i w,ι i=some w->ι' i=some w)(hr:∀b c,ro b=some c->ro' b=some c)
  (hh:HR N CR ι' ro' h' w') (hv:VR N ι' ro' v x):SR P N CR nt ι' ro' ((putK dst).run v h' st) b (a.put dst x) w':=by
 cases dst with
 | none=>exact⟨hh,hs.tm.mono hi hr,hs.sz,hs.round,hs.defs.mono λ_ _ h=>h.mono hi hr⟩
 | some d=>exact⟨hh,(hs.tm.mono hi hr).set (Nat.lt_of_lt_of_le (hd d rfl) hs.sz) hv,by rw[qCw]; exact hs.sz,hs.round,hs.defs.mono λ_ _ h=>h.mono hi hr⟩
@[simp]theorem putK_h(dst:Option Nat)(v:V)(h:Heap)(st:St):((putK dst).run v h st).h=h:=by cases dst<;>rfl
@[simp]theorem putK_defs(dst:Option Nat)(v:V)(h:Heap)(st:St):((putK dst).run v h st).defs=st.defs:=by cases dst<;>rfl
@[simp]theorem qsP(dst:Option Nat)(v:V)(h:Heap)(st:St):((putK dst).run v h st).round=st.round:=by cases dst<;>rfl
end put
section steps
variable {b:Frame}{a:Act}{k:List Item}{cs:List Frame}{ops:Array Oper}{i:Nat}{rest:List Nat}{o:Oper}
theorem qcn(ho:ops[i]?=some o)(hw:Region.wanted o (yielded ops a.tmps)=true)(hd:∀c,o.op≠.defer c){v:Value}(hr:(execOp a.eval o).run P w=.ok (.value v) w') :
  step P (lone (b.atR a (.inRegion ops (i::rest)::k)) cs w)=.next (lone (b.atR (a.put o.dst v) (.inRegion ops rest::k)) cs w'):=by
 have hfin:(b.atR a (.inRegion ops (i::rest)::k)).finish v=b.atR (a.put o.dst v) (.inRegion ops rest::k):=by rw[Frame.finish_atR,ho]; rfl
 exact step_lone_go (by rw[stepGR_op ho hw,Oper.semAt_eq _ _ _ hd,<-hfin]; simp[stepG.apply,hr])
theorem qpH(ho:ops[i]?=some o)(hw:Region.wanted o (yielded ops a.tmps)=true)(hd:∀c,o.op≠.defer c)(hr:(execOp a.eval o).run P w=.ok .skip w') :
  step P (lone (b.atR a (.inRegion ops (i::rest)::k)) cs w)=.next (lone (b.atR (a.put o.dst undef) (.inRegion ops rest::k)) cs w'):=by
 have hfin:(b.atR a (.inRegion ops (i::rest)::k)).finish undef=b.atR (a.put o.dst undef) (.inRegion ops rest::k):=by rw[Frame.finish_atR,ho]; rfl
 exact step_lone_go (by rw[stepGR_op ho hw,Oper.semAt_eq _ _ _ hd,<-hfin]; simp[stepG.apply,hr])
theorem qn0(ho:ops[i]?=some o)(hw:Region.wanted o (yielded ops a.tmps)=true)(hb:b.roundOf=none){d:Deferred}(hr:(execOp a.eval o).run P w=.ok (.defer d) w') :
  step P (lone (b.atR a (.inRegion ops (i::rest)::k)) cs w)=.next (lone (b.atR ({ a with defers:=d::a.defers }.put o.dst undef) (.inRegion ops rest::k)) cs w'):=by
 have hfin:=Frame.finish_atR b { a with defers:=d::a.defers } ops i rest k undef;rw[ho]at hfin;have hfin':({ b.atR a (.inRegion ops (i::rest)::k)with defers:=d::a.defers }:Frame).finish undef=b.atR ({ a with defers:=d::a.defers }.put o.dst undef) (.inRegion ops rest::k):=hfin;refine step_lone_go ?_;rw[stepGR_op ho hw,hb,Oper.semAt_none];simp only[stepG.apply,Sem.runT_eq,hr,GStep.bare_after];exact congrArg (λfr=>GStep.go { frame:=fr,callers:=cs,status:=.running,dying:=none } w') hfin'
theorem qks(ho:ops[i]?=some o)(hw:Region.wanted o (yielded ops a.tmps)=true)(hd:∀c,o.op≠.defer c)(hb:b.roundOf=none)(hc:calm b.kind cs)(hr:(execOp a.eval o).run P w=.ok .recover w') :
  step P (lone (b.atR a (.inRegion ops (i::rest)::k)) cs w)=.next (lone (b.atR (a.put o.dst .nilIface) (.inRegion ops rest::k)) cs w'):=by
 have hfin:(b.atR a (.inRegion ops (i::rest)::k)).finish .nilIface=b.atR (a.put o.dst .nilIface) (.inRegion ops rest::k):=by rw[Frame.finish_atR,ho]; rfl
 have hn:=hc (b.atR a (.inRegion ops (i::rest)::k)) rfl;have hb':(b.atR a (.inRegion ops (i::rest)::k)).roundOf=none:=hb;exact step_lone_go (by rw[stepGR_op ho hw,Oper.semAt_eq _ _ _ hd,<-hfin]; simp[stepG.apply,hr,hb',hn])
theorem qpI(ho:ops[i]?=some o)(hw:Region.wanted o (yielded ops a.tmps)=true)(hd:∀c,o.op≠.defer c){nx:Next}{w1:World}(hr:(execOp a.eval o).run P w=.ok nx w1){R:Value->World->Prop}
  (h:qih P w1 R nx) :
  ∃v w',R v w'/\Steps P (lone (b.atR a (.inRegion ops (i::rest)::k)) cs w) (lone (b.atR (a.put o.dst v) (.inRegion ops rest::k)) cs w'):=by
 have hfin:∀v,(b.atR a (.inRegion ops (i::rest)::k)).finish v=b.atR (a.put o.dst v) (.inRegion ops rest::k):=λv=>by rw[Frame.finish_atR,ho]; rfl
 cases nx<;>simp only[qih]at h
 ·exact⟨_,w1,h,.one (qcn ho hw hd hr)⟩
 ·rename_i f args;obtain⟨v,w',h1,h2⟩:=h.of_calls (b.atR a (.inRegion ops (i::rest)::k)) cs;refine⟨v,w',h1,.head (step_lone_go (fr':=Frame.enter P f args .normal) (cs':=b.atR a (.inRegion ops (i::rest)::k)::cs) (w':=w1) ?_) (by rw[<-hfin]; exact h2)⟩;rw[stepGR_op ho hw,Oper.semAt_eq _ _ _ hd]; simp[stepG.apply,hr,Frame.atR]
 ·rename_i l f tmps asg body;obtain⟨v,w',h1,h2⟩:=h (b.atR a (.inRegion ops (i::rest)::k)) cs;refine⟨v,w',h1,.head (step_lone_go (fr':=Frame.round l f tmps asg body .normal) (cs':=b.atR a (.inRegion ops (i::rest)::k)::cs) (w':=w1) ?_) (by rw[<-hfin]; exact h2)⟩;rw[stepGR_op ho hw,Oper.semAt_eq _ _ _ hd]; simp[stepG.apply,hr,Frame.atR]
end steps
variable {N:Num}{CR:Nat->IC->Code->Prop}{ι ι' ι'':Inj}{ro ro' ro'':RO}{P:Program}{h h' h'':Heap}{w w' w'':World}{mk:Nat}
theorem qfi{α β : Type}{f : α->Option β}:∀{l:List α}{m:List β},allM f l=some m->l.length=m.length
 | [],m,h=>by simp[allM]at h; subst h; rfl
 | a::l,m,h=>by
  simp only[allM]at h;split at h
  ·split at h
   ·cases h; rename_i h1; simp[qfi h1]
   ·cases h
  ·cases h
theorem qfj{α β : Type}{f : α->Option β}:∀{l:List α}{m:List β},allM f l=some m->∀{i:Nat}{b : β},m[i]?=some b->∃a,l[i]?=some a/\f a=some b
 | [],m,h,i,b,hb=>by simp[allM]at h; subst h; simp at hb
 | a::l,m,h,i,b,hb=>by
  simp only[allM]at h;split at h
  ·rename_i h0;split at h
   ·rename_i h1;cases h;cases i with
    | zero=>simp at hb; subst hb; exact⟨a,rfl,h0⟩
    | succ i=>simpa using qfj h1 (i:=i) (by simpa using hb)
   ·cases h
  ·cases h
theorem qfk{f:V->Option V}(hf:∀v v' x,f v=some v'->VR N ι ro v x->VR N ι' ro' v' x):∀{l m:List V}{xs:List Value},allM f l=some m->VRs N ι ro l xs->VRs N ι' ro' m xs
 | [],m,xs,h,k=>by simp[allM]at h; subst h; rw[VRs.nil_inv k]; exact VRs.nil
 | a::l,m,xs,h,k=>by
  obtain⟨x,r,rfl,k1,k2⟩:=VRs.cons_inv k;simp only[allM]at h;split at h
  ·rename_i h0;split at h
   ·rename_i h1; cases h; exact VRs.cons (hf _ _ _ h0 k1) (qfk hf h1 k2)
   ·cases h
  ·cases h
theorem qhr{f:V->Option V}(hf:∀v v' x,f v=some v'->VR N ι ro v x->VR N ι' ro' v' x){rows rows':List (List V)}{c:Array Value}{off esz:Nat}(h:allM (allM f) rows=some rows')(k:qau N ι ro rows c off esz) :
  qau N ι' ro' rows' c off esz:=by
 refine⟨λr hr=>?_,λi r hr j v hv=>?_⟩
 ·obtain⟨i,hi⟩:=List.getElem?_of_mem hr;obtain⟨r0,h1,h2⟩:=qfj h hi;rw[<-qfi h2]; exact k.1 r0 (Jar h1)
 ·obtain⟨r0,h1,h2⟩:=qfj h hr;obtain⟨v0,h3,h4⟩:=qfj h2 hv;obtain⟨x,h5,h6⟩:=k.2 i r0 h1 j v0 h3;exact⟨x,h5,hf _ _ _ h4 h6⟩
open Classical in
noncomputable def qgA (mk:Nat) (h:Heap) (ι:Inj) (ro:RO) (w:World):RO:=λb =>
 match ro b with
 | some c=>some c
 | none=>if ∃i wn,mk<=i/\(h.get i).isSome/\ι i=some wn/\wn.blk=b then(match w.heap[b]? with|some (.cells c _ _)=>some c|_=>none)else none
theorem qeT{b:Nat}{c:Array Value}(hb:ro b=some c):qgA mk h ι ro w b=some c:=by simp[qgA,hb]
theorem qnK{b:Nat}{c:Array Value}(hb:qgA mk h ι ro w b=some c):ro b=some c\/((∃e fz,w.heap[b]?=some (.cells c e fz))/\∃i wn,mk<=i/\(h.get i).isSome/\ι i=some wn/\wn.blk=b):=by
 unfold qgA at hb;split at hb
 ·rename_i h1; cases hb; exact .inl h1
 ·split at hb
  ·rename_i h2;split at hb
   ·rename_i h3; cases hb; exact .inr ⟨⟨_,_,h3⟩,h2⟩
   ·cases hb
  ·cases hb
theorem qdP(hh:HR N CR ι ro h w):∀(k:Nat) (v v':V) (x:Value),freeze mk h k v=some v'->VR N ι ro v x->VR N (λ_=>none) (qgA mk h ι ro w) v' x
 | 0,_,_,_,hf,_=>by simp[freeze]at hf
 | k+1,v,v',x,hf,hv=>by
  have ih:=qdP hh k;cases v<;>simp only[freeze,reduceCtorEq,Jae]at hf
  case bool=>subst hf; simpa only[VR]using hv
  case int=>subst hf; simpa only[VR]using hv
  case str=>subst hf; simpa only[VR]using hv
  case nilp=>subst hf; simpa only[VR]using hv
  case nils=>subst hf; simpa only[VR]using hv
  case nilm=>subst hf; simpa only[VR]using hv
  case nilf=>subst hf; simpa only[VR]using hv
  case nili=>subst hf; simpa only[VR]using hv
  case ptrR row o =>
   split at hf
   ·rename_i r hr;cases hf;rw[qBA]at hv ⊢;obtain⟨b,ad,c,e1,h1,h2⟩:=hv;refine⟨b,ad,c,e1,qeT h1,λj u hu=>?_⟩;obtain⟨u0,h3,h4⟩:=qfj hr hu;obtain⟨y,h5,h6⟩:=h2 j u0 h3;exact⟨y,h5,ih _ _ _ h4 h6⟩
   ·cases hf
  case slR rows f =>
   split at hf
   ·rename_i r hr;cases hf;rw[qBx]at hv ⊢;obtain⟨ad,cap,e1,h1,h2,h3⟩:=hv;have hl:=qfi hr;refine⟨ad,cap,by rw[<-hl]; exact e1,by rw[<-hl]; exact h1,by rw[<-hl]; exact h2,?_⟩;rcases h3 with h3|⟨h3,c,esz,h4,h5⟩
    ·left; subst h3; simpa using hl.symm
    ·right; exact⟨h3,c,esz,qeT h4,qhr ih hr h5⟩
   ·cases hf
  case sl id lo len e full =>
   cases hb:Nat.ble mk id<;>simp only[hb,cond,reduceCtorEq]at hf
   rw[Jat]at hb;split at hf
   ·rename_i rows hrows;split at hf
    ·rename_i r hr;cases hf;have hl:=qfi hr;simp only[VR]at hv;obtain⟨wn,hw,hez,ad,cap,e1,e2,e3,e4⟩:=hv;have hrl:rows.length=len:=by
      simp only[qal]at hrows;split at hrows
      ·rename_i R hg;cases hbb:Nat.ble (lo+len) R.length<;>simp only[hbb,cond,reduceCtorEq,Jae]at hrows
       rw[Jat]at hbb;rw[<-hrows]; simp; omega
      ·cases hrows
     rw[qBx];refine⟨ad,cap,by rw[<-hl,hrl]; exact e1,by rw[<-hl,hrl]; exact e2,by simp,?_⟩;rcases e4 with ⟨e4,_⟩|⟨e4,_⟩
     ·left; apply List.eq_nil_of_length_eq_zero; omega
     ·right;subst e4;simp only[qal]at hrows;split at hrows
      ·rename_i R hg;cases hbb:Nat.ble (lo+len) R.length<;>simp only[hbb,cond,reduceCtorEq,Jae]at hrows
       obtain⟨wn',c,e',fz,g1,g2,g3,g4,g5,g6⟩:=hh.rows hg;rw[hw]at g1; cases g1;have hcut:=g6.cut lo len;rw[hrows]at hcut;refine⟨rfl,c,wn.esz,?_,?_⟩
       ·show qgA mk h ι ro w wn.blk=some c;unfold qgA;split
        ·rename_i c' hc';exact absurd rfl ((hh.rd _ _ hc').2 id _ wn hg hw)
        ·rw[Jab ⟨id,wn,hb,by rw[hg]; rfl,hw,rfl⟩]; simp[g2]
       ·have:=qhr ih hr hcut;simpa[Plc.at]using this
      ·cases hrows
    ·cases hf
   ·cases hf
  case fn f aa bb =>
   split at hf
   ·rename_i xa ha;split at hf
    ·rename_i xb hb;cases hf;simp only[VR]at hv ⊢;obtain⟨a',b',e1,h1,h2⟩:=hv;exact⟨a',b',e1,qfk ih ha h1,qfk ih hb h2⟩
    ·cases hf
   ·cases hf
  case iface t u =>
   split at hf
   ·rename_i u' hu;cases hf;simp only[VR]at hv ⊢;obtain⟨x',e1,h1⟩:=hv;exact⟨x',e1,ih _ _ _ hu h1⟩
   ·cases hf
  case agg l =>
   split at hf
   ·rename_i r hr;cases hf;simp only[VR]at hv ⊢;obtain⟨a',e1,h1⟩:=hv;exact⟨a',e1,qfk ih hr h1⟩
   ·cases hf
  case tup l =>
   split at hf
   ·rename_i r hr;cases hf;simp only[VR]at hv ⊢;obtain⟨a',e1,h1⟩:=hv;exact⟨a',e1,qfk ih hr h1⟩
   ·cases hf
theorem qrC(hh:HR N CR ι ro h w):qgA h.n h ι ro w=ro:=by
 funext b;unfold qgA;split
 ·rename_i h1; rw[h1]
 ·rename_i h1;rw[h1,Jaa];rintro⟨i,wn,h2,_,h4,_⟩;rw[hh.fresh i h2]at h4; cases h4
theorem VR.none{v:V}{x:Value}(hv:VR N (λ_=>Option.none) ro v x):VR N ι ro v x:=VR.mono (λ_ _ h=>by cases h) (λ_ _ h=>h) _ _ hv
theorem qmQ{r r':VH}{x:Value}(hf:frzV mk r=some r')(hh:HR N CR ι ro r.h w)(hv:VR N ι ro r.v x) :
  ∃ro',(∀b c,ro b=some c->ro' b=some c)/\HR N CR ι ro' r'.h w/\VR N ι ro' r'.v x/\r'.h.n=r.h.n/\∀i,i<mk->r'.h.get i=r.h.get i:=by
 obtain⟨v,h⟩:=r;unfold frzV at hf;cases v<;>simp only[reduceCtorEq,Jae]at hf
 ·subst hf; exact⟨ro,λ_ _ h=>h,hh,hv,rfl,λ_ _=>rfl⟩
 ·rename_i id lo len e full;cases hb:Nat.ble mk id<;>simp only[hb,cond,reduceCtorEq]at hf
  rw[Jat]at hb;split at hf
  ·rename_i rows hrows;split at hf
   ·rename_i rows' hr;cases hf;have hfz:=qdP (mk:=h.n) hh qat;rw[qrC hh]at hfz;have hl:=qfi hr;simp only[]at hv hh;simp only[VR]at hv;obtain⟨wn,hw,hez,ad,cap,e1,e2,e3,e4⟩:=hv;simp only[qal]at hrows;split at hrows
    ·rename_i R hg;cases hbb:Nat.ble (lo+len) R.length<;>simp only[hbb,cond,reduceCtorEq,Jae]at hrows
     rw[Jat]at hbb;have hrl:rows.length=len:=by rw[<-hrows]; simp; omega
     obtain⟨wn',c,e',fz,g1,g2,g3,g4,g5,g6⟩:=hh.rows hg;rw[hw]at g1; cases g1;have hcut:=g6.cut lo len;rw[hrows]at hcut;have hno:∀c',ro wn.blk=some c'->c'=c:=λc' hc'=>absurd rfl ((hh.rd _ _ hc').2 id _ wn hg hw);have hread:=(hh.kill id).read (b:=wn.blk) g2 (λj oj u hj hu e=>by
      rw[qBr]at hj
      by_cases ej:j=id
      ·rw[Jab ej]at hj; cases hj
      ·rw[Jaa ej]at hj; exact ej (hh.dist j id oj _ u wn hj hg hu hw e)) hno
     have hext:∀b c',ro b=some c'->(if b=wn.blk then some c else ro b)=some c':=λb c' h'=>by
      by_cases e:b=wn.blk
      ·subst e; simp[hno c' h']
      ·rw[Jaa e]; exact h'
     refine⟨_,hext,hread,?_,rfl,λi hi=>?_⟩
     ·rw[qBx];refine⟨ad,cap,by rw[<-hl,hrl]; exact e1,by rw[<-hl,hrl]; exact e2,by simp,?_⟩;rcases e4 with ⟨e4,_⟩|⟨e4,_⟩
      ·left; apply List.eq_nil_of_length_eq_zero; omega
      ·right;subst e4;refine⟨rfl,c,wn.esz,by simp[Plc.at],?_⟩;have:=qhr (ι':=ι) (ro':=ro) (λv v' x h1 h2=>VR.none (hfz v v' x h1 h2)) hr hcut;have:=this.mono (λ_ _ h=>h) hext;simpa[Plc.at]using this
     ·rw[qBr,Jaa (by omega)]
    ·cases hrows
   ·cases hf
  ·cases hf
 ·subst hf; exact⟨ro,λ_ _ h=>h,hh,hv,rfl,λ_ _=>rfl⟩
theorem qtk{c:Nat}{p:V}(hf:qs7 mk c p h=some h')(hh:HR N CR ι ro h w):∃ro',(∀b c,ro b=some c->ro' b=some c)/\HR N CR ι ro' h' w/\h'.n=h.n/\∀i,i<mk->h'.get i=h.get i:=by
 unfold qs7 at hf;split at hf
 ·rename_i id row off;split at hf
  ·rename_i rs hg;split at hf
   ·rename_i r hr;split at hf
    ·rename_i v hv;split at hf
     ·rename_i q hq;cases hb:(Nat.ble mk id&&q.v.one)<;>simp only[hb,cond,reduceCtorEq]at hf
      simp only[Jad,Jat]at hb;split at hf
      ·rename_i rs2 hg2;split at hf
       ·rename_i r2 hr2;cases hf;rw[qcS]at hr hr2;rw[qjt]at hv;obtain⟨wn,cs,e,fz,k1,k2,k3,k4,k5,k6⟩:=hh.rows hg;obtain⟨y,hy,hvy⟩:=k6.2 row r hr (off+c) v hv;obtain⟨ro',f1,f2,f3,f4,f5⟩:=qmQ hq hh hvy;obtain⟨wn',cs',e',fz',m1,m2,m3,m4,m5,m6⟩:=f2.rows hg2;rw[k1]at m1; cases m1;rw[k2]at m2; cases m2;refine⟨ro',f1,f2.set hg2 k1 (λ_ _=>rfl) k2 ⟨cs,e,fz,rfl,m3,m4,by simpa using m5,?_,?_⟩,f4,λi hi=>?_⟩
        ·intro r' hr';rcases List.mem_or_eq_of_mem_set hr' with h1|h1
         ·exact m6.1 r' h1
         ·rw[h1,List.length_set];exact m6.1 r2 (Jar hr2)
        ·intro i r' hi j u hu
         by_cases ei:row=i
         ·subst ei;have hlt:row<rs2.length:=(Jam.1 hr2).1;rw[List.getElem?_set_self hlt]at hi;cases hi
          by_cases ej:off+c=j
          ·subst ej;have hlt2:off+c<(r2.set (off+c) q.v).length:=(Jam.1 hu).1;rw[List.getElem?_set_self (by simpa using hlt2)]at hu;cases hu;exact⟨y,hy,f3⟩
          ·rw[List.getElem?_set_ne ej]at hu;exact m6.2 row r2 hr2 j u hu
         ·rw[List.getElem?_set_ne ei]at hi;exact m6.2 i r' hi j u hu
        ·rw[qBp,Jaa (by omega),f5 i hi]
       ·cases hf
      ·cases hf
     ·cases hf
    ·cases hf
   ·cases hf
  ·cases hf
 ·cases hf
variable {N:Num}{CR:Nat->IC->Code->Prop}{ι ι' ι'':Inj}{ro ro' ro'':RO}{P:Program}{h h' h'':Heap}{w w' w'':World}{mk:Nat}
theorem All2.filter{α β : Type}{R : α->β->Prop}{l:List α}{m:List β}(h:All2 R l m){f : α->Bool}{g : β->Bool}(hfg:∀a b,R a b->f a=g b):All2 R (l.filter f) (m.filter g):=by
 induction h with
 | nil=>exact .nil
 | cons h k ih =>
  simp only[List.filter_cons,hfg _ _ h];split
  ·exact .cons h ih
  ·exact ih
theorem All2.mem'{α β : Type}{R : α->β->Prop}{l:List α}{m:List β}(h:All2 R l m){b : β}(hb:b∈m):∃a∈l,R a b:=by
 induction h with
 | nil=>cases hb
 | cons h k ih =>
  rcases Jag.1 hb with rfl|hb
  ·exact⟨_,by simp,h⟩
  ·obtain⟨a,h1,h2⟩:=ih hb; exact⟨a,by simp[h1],h2⟩
theorem qaG{α : Type}{b:Bool}{x:Option α}{y : α}(h:cond b x none=some y):b=true/\x=some y:=by
 cases b
 ·cases h
 ·exact⟨rfl,h⟩
theorem VH.eq{v v':V}{h h':Heap}(e:some (VH.mk v h)=some ⟨v',h'⟩):v=v'/\h=h':=by simpa using e
theorem qmg{o:WO}{tm:Tm}{v:V}(hev:(qay o).run mk tm h=some ⟨v,h'⟩):∀i,i<mk->i<h.n->h'.get i=h.get i:=by
 intro i hi hn;have hset:∀j o,mk<=j->(h.set j o).get i=h.get i:=λj o hj=>by rw[qBp,Jaa (by omega)]
 have hpush:∀o,(h.push o).get i=h.get i:=λo=>by rw[qBq,Jaa (by omega)]
 have happ:∀esz bytes s xs,qaj mk h esz bytes s xs=some ⟨v,h'⟩->h'.get i=h.get i:=by
  intro esz bytes s xs ha;unfold qaj at ha;split at ha
  ·cases s<;>first|(simp at ha; done)|rw[<-(VH.eq ha).2]
  ·split at ha<;>try (simp at ha; done)
   ·replace ha:=qaG ha;obtain⟨hb0,ha⟩:=ha;cases s<;>try (simp at ha; done)
    all_goals dsimp only at ha
    case nils=>rw[<-(VH.eq ha).2,hpush]
    case sl id lo len e f _ =>
     obtain⟨_,ha⟩:=qaG ha;cases f<;>simp only[cond]at ha
     ·obtain⟨hm,ha⟩:=qaG ha;rw[Jat]at hm;rw[<-(VH.eq ha).2,qBq,Jaa (by simp; omega),qBr,Jaa (by omega)]
     ·rw[<-(VH.eq ha).2,hpush]
    case slR =>
     obtain⟨_,ha⟩:=qaG ha;rw[<-(VH.eq ha).2,hpush]
 cases o<;>simp only[qay]at hev
 case store n a x =>
  split at hev<;>try (simp at hev; done)
  split at hev<;>try (simp at hev; done)
  split at hev<;>try (simp at hev; done)
  obtain⟨hb,hev⟩:=qaG hev;simp only[Jad,Jat]at hb;rw[<-(VH.eq hev).2,hset _ _ hb.1.1.1.1]
 case mupd kn m k u =>
  split at hev<;>try (simp at hev; done)
  split at hev<;>try (simp at hev; done)
  obtain⟨hb,hev⟩:=qaG hev;simp only[Jad,Jat]at hb;split at hev<;>try (simp at hev; done)
  all_goals rw[<-(VH.eq hev).2,hset _ _ hb.1]
 case del kn m k =>
  split at hev<;>try (simp at hev; done)
  split at hev<;>try (simp at hev; done)
  obtain⟨hb,hev⟩:=qaG hev;simp only[Jad,Jat]at hb;split at hev<;>try (simp at hev; done)
  ·rw[<-(VH.eq hev).2,hset _ _ hb.1]
  ·rw[<-(VH.eq hev).2]
 case rngM x =>
  split at hev<;>try (simp at hev; done)
  split at hev<;>try (simp at hev; done)
  rw[<-(VH.eq hev).2,hpush]
 case nxtS it =>
  split at hev<;>try (simp at hev; done)
  split at hev<;>try (simp at hev; done)
  obtain⟨hb,hev⟩:=qaG hev;rw[Jat]at hb;generalize Nat.blt _ _=c at hev;cases c<;>simp only[cond]at hev
  ·rw[<-(VH.eq hev).2]
  ·split at hev<;>try (simp at hev; done)
   rw[<-(VH.eq hev).2,hset _ _ hb]
 case append esz bytes s x =>
  split at hev
  ·exact happ _ _ _ _ hev
  ·cases hev
 case appendS s x =>
  split at hev
  ·exact happ _ _ _ _ hev
  ·cases hev
 case appendZ zero bytes s n =>
  split at hev<;>try (simp at hev; done)
  split at hev<;>try (simp at hev; done)
  obtain⟨_,hev⟩:=qaG hev;split at hev<;>try (simp at hev; done)
  rw[<-(VH.eq hev).2,hpush]
 case clear zero x =>
  split at hev
  ·rw[<-(VH.eq hev).2]
  ·obtain⟨_,hev⟩:=qaG hev;rw[<-(VH.eq hev).2]
  ·generalize Nat.beq _ _=c at hev;cases c<;>simp only[cond]at hev
   ·split at hev
    ·obtain⟨hb,hev⟩:=qaG hev;simp only[Jad,Jat]at hb;rw[<-(VH.eq hev).2,hset _ _ hb.1.1]
    ·cases hev
   ·rw[<-(VH.eq hev).2]
  ·cases hev
 case same x =>
  split at hev<;>try (simp at hev; done)
  obtain⟨_,hev⟩:=qaG hev;rw[<-(VH.eq hev).2]
theorem qku(hh:HR N CR ι ro h w){it:V}{x:Value}(hx:VR N ι ro it x){outs:List VH}(hev:qfB mk it h=some outs)(ty:TypeId) :
  ∃r∈outs,∃y w',(Instr.next x false ty).run P w=.ok y w'/\Grow h.n mk ι ro h w ι ro r.h w'/\HR N CR ι ro r.h w'/\VR N ι ro r.v y:=by
 unfold qfB at hev;split at hev
 ·rename_i i;split at hev
  ·rename_i m since seen last hg;split at hev
   ·rename_i es clock hgm;cases hb:(Nat.ble mk i&&Nat.beq clock since&&Nat.beq clock last&&es.all (λe=>Nat.blt e.1 clock))<;>simp only[hb,cond,reduceCtorEq]at hev
    simp only[Jad,Jat,Jas,List.all_eq_true,Nat.blt_eq]at hb;obtain⟨⟨⟨b1,rfl⟩,rfl⟩,b4⟩:=hb;obtain⟨wn,hw,e1⟩:=qC6 hx;obtain⟨_,wn',h1,c,h2,hb0,wm,hwm,rfl⟩:=hh.live i _ hg;rw[hw]at h1; cases h1;rw[hb0]at e1;obtain⟨wm',es',g1,g2,g3⟩:=hh.map hgm;rw[hwm]at g1; cases g1;have hrev:(seen.reverse.toArray).toList=seen.reverse:=rfl;have hfil:All2 (qdY N ι ro) (es.filter λe=>!seen.contains e.1) (es'.filter λe=>!(seen.reverse.toArray).contains e.born).toList:=by
     rw[Array.toList_filter];exact g3.filter λq q' hq=>by rw[hq.1]; simp
    have hborn:∀q∈es'.toList,q.born<clock:=λq hq=>by
     obtain⟨q0,h1,h2⟩:=g3.mem' hq;rw[h2.1]; exact b4 q0 h1
    have hunsup:(!(seen.reverse.toArray).isEmpty && !es'.isEmpty&&es'.all λq=>decide (q.born ≥ clock))=false:=by
     cases hemp:es'.isEmpty with
     | true=>simp
     | false =>
      have:(es'.all λq=>decide (q.born ≥ clock))=false:=by
       rw[Array.all_eq_false'];have hpos:0<es'.size:=Nat.pos_of_ne_zero λe=>by simp[Array.isEmpty,e]at hemp
       exact⟨es'[0],by simp,by have:=hborn es'[0] (by simp); simp; omega⟩
      rw[this]; simp
    have hall:∀q∈(es'.filter λe=>!(seen.reverse.toArray).contains e.born).toList,q.born<clock:=λq hq=>by
     rw[Array.toList_filter]at hq;exact hborn q (List.mem_filter.1 hq).1
    generalize hleft':(es'.filter λe=>!(seen.reverse.toArray).contains e.born)=left' at hfil hall;have hold:left'.filter (λq=>decide (q.born<clock))=left':=by
     apply Array.ext';rw[Array.toList_filter,List.filter_eq_self];intro q hq; simpa using hall q hq
    have hnew:left'.filter (λq=>decide (q.born ≥ clock))=#[]:=by
     apply Array.ext';rw[Array.toList_filter];simp only[Array.toList_empty];rw[List.filter_eq_nil_iff];intro q hq; have:=hall q hq; simp; omega
    have key:∀(cands:Array (Option MapEntry)),cands=(if left'.isEmpty then #[none]else #[])++left'.map some->∃n w1,(choose (.mapNext cands.size)).run P w=.ok n w1/\w1.heap=w.heap/\qbM w w1/\n<cands.size:=by
     intro cands hc;have hpos:0<cands.size:=by
      rw[hc];cases hl:left'.isEmpty with
      | true=>simp; omega
      | false=>simp only[Array.isEmpty,Jaq]at hl; simp; omega
     by_cases h1:cands.size<=1
     ·exact⟨0,w,by simp[choose,Sem.run,Question.forced,h1],rfl,qbM.refl w,hpos⟩
     ·exact⟨_,{ w with drawn:=w.drawn+1 },by simp only[choose,Sem.run,Question.forced,h1]; rfl,rfl,⟨rfl,rfl,rfl,(by first|exact Jac _|exact Nat.le_succ _|simp),Jac _⟩,Nat.mod_lt _ hpos⟩
    obtain⟨n,w1,c1,c2,c3,c4⟩:=key _ rfl;have hrun:(Instr.next x false ty).run P w=(match (((if left'.isEmpty then #[none]else #[])++left'.map some)[n]?:Option (Option MapEntry))with
      | some (some e)=>(do setObj wn.blk (.mapIter (some wm.blk) clock (seen.reverse.toArray.push e.born) clock); pure (.tuple #[.bool true,e.key,e.val]):Sem Value)
      | some none=>pure (.tuple #[.bool false])
      | none=>stuck "Next: no such candidate").run P w1:=by
     subst e1;simp only[Instr.next,Sem.run_bind,getObj,Sem.run,h2,g2,Result.andThen_ok,hunsup,Jan,if_false,hleft',hold,hnew];rw[Array.append_empty,c1]; rfl
    have hh1:=hh.heap c2;have h2':w1.heap[wn.blk]?=some (.mapIter (some wm.blk) clock seen.reverse.toArray clock):=by rw[c2]; exact h2
    generalize hlf:(es.filter λe=>!seen.contains e.1)=left at hev hfil;cases left with
    | nil =>
     have hl0:left'=#[]:=by
      apply Array.ext';have:=hfil.length;simpa using this.symm
     subst hl0;have hn:n=0:=by simpa using c4
     subst hn;simp only[Jae]at hev;subst hev;refine⟨_,Jah.2 rfl,.tuple #[.bool false],w1,by rw[hrun]; simp,⟨Ext.refl _ _ _,c3,Jac _,λ_ _=>rfl⟩,hh1,?_⟩;simp only[VR]; exact⟨_,rfl,VRs.cons (by simp only[VR]) VRs.nil⟩
    | cons e left =>
     have hemp:left'.isEmpty=false:=by
      have:=hfil.length;simp at this;cases hx:left'.isEmpty with
      | false=>rfl
      | true=>simp at hx; subst hx; simp at this
     rw[hemp]at hrun c4;simp only[Jan,if_false,Array.empty_append,Array.size_map]at hrun c4;have hget:left'.toList[n]?=some left'[n]:=by rw[Array.getElem?_toList]; exact Array.getElem?_eq_getElem c4
     have hlen:=hfil.length;have hn:n<(e::left).length:=by rw[hlen]; simpa using c4
     have hq:=Jal hn;obtain⟨q',hq',hR⟩:=hfil.get hq;rw[hget]at hq'; cases hq';simp only[Jae]at hev;subst hev;refine⟨_,List.mem_map_of_mem (List.getElem_mem hn),.tuple #[.bool true,left'[n].key,left'[n].val],{ w1 with heap:=w1.heap.setIfInBounds wn.blk (.mapIter (some wm.blk) clock (seen.reverse.toArray.push left'[n].born) clock) },?_,⟨Ext.refl _ _ _,⟨c3.os,c3.output,c3.tape,c3.drawn,by simpa using c3.size⟩,by simp,λii hii=>by rw[qBp,Jaa (by omega)]⟩,?_,?_⟩
     ·rw[hrun];simp[Array.getElem?_eq_getElem c4,qce h2']
     ·refine hh1.set_obj hg hw ⟨hb0,wm,hwm,?_⟩;rw[hR.1]; simp
     ·simp only[VR]; exact⟨_,rfl,VRs.cons (by simp only[VR]) (VRs.cons hR.2.1 (VRs.cons hR.2.2 VRs.nil))⟩
   ·cases hev
  ·cases hev
 ·cases hev
def MethOK(P:Program)(N:Num)(meth:Nat->String->Option Nat):Prop :=
 ∀t m f,meth t m=some f->∀(v:Value) (w:World),(method (P.types.size+Made.depth) (N.t t) v m).run P w=.ok (N.f f,v) w
section
variable {nt:Nat}{st:St}{b:Frame}{a:Act}{k:List Item}{cs:List Frame}{ops:Array Oper}{j:Nat}{rest:List Nat}{o:Oper}{i:Ins}
theorem qCE{tm:Tm}{s:Nat}{c:Bool}(h:VRtm N ι ro tm a.tmps)(hs:(gK s).run tm=.bool c):a.tmps[s]?=some (.bool c):=by
 have:=h s;rw[hs]at this;simp only[VR,Array.getD_eq_getD_getElem?]at this;cases hx:a.tmps[s]? with
 | none=>rw[hx]at this; simp[Go.undef]at this
 | some x=>rw[hx]at this; simp at this; rw[this]
theorem qCv{tm:Tm}{s:Nat}(h:VRtm N ι ro tm a.tmps)(hs:(gK s).run tm=.tup []):∀c,a.tmps[s]?≠some (.bool c):=λc hc=>by
 have:=h s;rw[hs]at this;simp only[VR,Array.getD_eq_getD_getElem?,hc]at this;obtain⟨_,h1,_⟩:=this;simp at h1
def qbL(P:Program)(N:Num)(CR:Nat->IC->Code->Prop)(nt n0 lim:Nat)(ι:Inj)(ro:RO)(st:St)(b:Frame)(w:World)(outs:List St)(X:Nat->Prop)(m:Machine)(at':Act->World->Machine):Prop :=
 ∃r∈outs,∃ι' ro' a' w',Grow n0 lim ι ro st.h w ι' ro' r.h w'/\(∀id,id<st.h.n->¬X id->ι' id=ι id)/\SR P N CR nt ι' ro' r b a' w'/\Steps P m (at' a' w')
def qii(op:IOp)(base id:Nat):Prop:=∃x q,op=.a x (some q)/\id=base+q
theorem qoP{e:Env}(hcall:qfq P N CR e.callF e.lim)(hmeth:MethOK P N e.meth){c:Cal}{callee:Callee}{args:List Opd}{args':Array Operand}{ats:Array TypeId}(hok:qjs N c callee=true)(hargs:okOs N args args'.toList=true)
  {tm:Tm}(htm:VRtm N ι ro tm a.tmps) (hh:HR N CR ι ro h w) (hlim:e.lim<=h.n) {outs:List VH}(hev:(calK c).run e ((qcE args).run tm) tm h=some outs) (ho:o.op=.call { callee,args:=args',argTypes:=ats }) :
  ∃nx w1,(execOp a.eval o).run P w=.ok nx w1/\qih P w1 (λv w'=>∃r∈outs,∃ι' ro',Grow h.n e.lim ι ro h w ι' ro' r.h w'/\HR N CR ι' ro' r.h w'/\VR N ι' ro' r.v v) nx:=by
 have hA:=qd4 htm hargs;have hA':VRs N ι ro ((qcE args).run tm) (args'.map a.eval).toList:=by simpa using hA
 cases c with
 | dir f =>
  cases callee with
  | value y =>
   cases y<;>simp only[qjs,Jan,beq_iff_eq]at hok
   rename_i g;subst hok;have hf:VR N ι ro (.fn f [] []) (.func (.func (N.f f)) #[] #[]):=by simp only[VR]; exact⟨#[],#[],rfl,VRs.nil,VRs.nil⟩
   obtain⟨nx,w1,h1,h2⟩:=hcall ι ro h w _ _ _ _ outs hlim hh hf hA' hev;exact⟨nx,w1,by simp only[execOp,ho,resolve]; exact h1,h2⟩
  | _=>simp[qjs]at hok
 | val x =>
  cases callee with
  | value y =>
   simp only[qjs]at hok;obtain⟨nx,w1,h1,h2⟩:=hcall ι ro h w _ _ _ _ outs hlim hh (qan htm hok) hA' hev;exact⟨nx,w1,by simp only[execOp,ho,resolve]; exact h1,h2⟩
  | _=>simp[qjs]at hok
 | inv x m =>
  cases callee with
  | invoke y m' =>
   simp only[qjs,Jad,beq_iff_eq]at hok;obtain⟨rfl,hx⟩:=hok;have hx:=qan htm hx;simp only[calK]at hev;cases hxv:x.ev tm<;>simp only[hxv,reduceCtorEq]at hev
   rename_i t v;rw[hxv]at hx;simp only[VR]at hx;obtain⟨v',e1,hv'⟩:=hx;split at hev
   ·rename_i f hf;have hm:=hmeth t m f hf v' w;have hfn:VR N ι ro (.fn f [] []) (.func (.func (N.f f)) #[] #[]):=by simp only[VR]; exact⟨#[],#[],rfl,VRs.nil,VRs.nil⟩
    have hA2:VRs N ι ro (v::(qcE args).run tm) (#[v']++args'.map a.eval).toList:=by simpa using VRs.cons hv' hA
    obtain⟨nx,w1,h1,h2⟩:=hcall ι ro h w _ _ _ _ outs hlim hh hfn hA2 hev;refine⟨nx,w1,?_,h2⟩;rw[<-h1];have h9:(args'.map a.eval).extract 0 args'.size=args'.map a.eval:=by have:=Array.extract_size (xs:=args'.map a.eval); rwa [Array.size_map]at this
    have h0:∀(q:Value) (l:Array Value),(#[q]++l)[0]?=some q:=λq l=>by rw[Array.getElem?_append_left (by simp)]; rfl
    simp[execOp,ho,resolve,qaU,Deferred.ofValue,invoke,callMethod,e1,h0,hm,h9]
   ·cases hev
  | _=>simp[qjs]at hok
theorem qpE(hN:∀t u,N.t t=N.t u->t=u){e:Env}(hcall:qfq P N CR e.callF e.lim)(hmeth:MethOK P N e.meth)(hpure:qAX e)(ho:ops[j]?=some o)(hw:Region.wanted o (yielded ops a.tmps)=true)
  {dst:Option Nat}{op:IOp}(hdst:o.dst=dst) (hd:∀d,dst=some d->d<nt) (hok:okOp P N op o.op=true) {n0 base:Nat}(sr:SR P N CR nt ι ro st b a w) (hlim:e.lim<=n0) (hn0:n0<=st.h.n) (hcalm:calm b.kind cs)
  {outs:List St}(hev:(qaD dst op).run e base st=some outs) (hhole:∀x q,op=.a x (some q)->n0<=base+q/\base+q<st.h.n/\ι (base+q)=none) :
  qbL P N CR nt n0 e.lim ι ro st b w outs (qii op base) (lone (b.atR a (.inRegion ops (j::rest)::k)) cs w) (λa' w'=>lone (b.atR a' (.inRegion ops rest::k)) cs w'):=by
 subst hdst;have nd:(∀x,op≠.defer x)->(∀x,op≠.bad)->∀c,o.op≠.defer c:=λh1 h2 c hc=>by
  rw[hc]at hok;cases op with
  | defer x=>exact h1 x rfl
  | bad=>exact h2 () rfl
  | p o=>cases o<;>simp[okOp,okP]at hok
  | r o=>cases o<;>simp[okOp,okR]at hok
  | a o _=>cases o<;>simp[okOp,okA]at hok
  | w o=>cases o<;>simp[okOp,okW]at hok
  | fz o=>cases o with
   | wf o=>cases o<;>simp[okOp,okW]at hok
   | ldF=>simp[okOp,okR]at hok
  | call=>simp[okOp]at hok
  | callP=>simp[okOp]at hok
  | nxtM=>simp[okOp]at hok
  | recover=>simp[okOp]at hok
 cases op with
 | p q =>
  simp only[qaD]at hev;split at hev
  ·rename_i v hv;cases hev;obtain⟨x,hx,hrun⟩:=soundP hN hok sr.tm hv;exact⟨_,by simp,ι,ro,_,w,by simpa using Grow.refl,λ_ _ _=>rfl,sr.put hd (λ_ _ h=>h) (λ_ _ h=>h) sr.hr hx,.one (qcn ho hw (nd (by simp) (by simp)) (hrun o w rfl))⟩
  ·cases hev
 | r q =>
  simp only[qaD]at hev;split at hev
  ·rename_i v hv;cases hev;obtain⟨x,hx,hrun⟩:=qtT hok sr.tm sr.hr hv;exact⟨_,by simp,ι,ro,_,w,by simpa using Grow.refl,λ_ _ _=>rfl,sr.put hd (λ_ _ h=>h) (λ_ _ h=>h) sr.hr hx,.one (qcn ho hw (nd (by simp) (by simp)) (hrun o rfl))⟩
  ·cases hev
 | a q hole =>
  simp only[qaD]at hev;have hro:ro w.heap.size=none:=by
   cases hc:ro w.heap.size with
   | none=>rfl
   | some c =>
    obtain⟨⟨_,_,h1⟩,_⟩:=sr.hr.rd _ _ hc;have:=(Array.getElem?_eq_some_iff.1 h1).1;omega
  split at hev
  ·rename_i v hv;cases hev;obtain⟨c,e',fz,w',x,hG,hx,hrun⟩:=qqI (CR:=CR) hok sr.tm hv w hro;have hext:∀b' c',ro b'=some c'->(if b'=w.heap.size then some c else ro b')=some c':=λb' c' h'=>by
    by_cases eb:b'=w.heap.size
    ·subst eb; rw[hro]at h'; cases h'
    ·rw[Jaa eb]; exact h'
   have hh':HR N CR ι (λb'=>if b'=w.heap.size then some c else ro b') st.h w':=(sr.hr.same hG.old).read hG.new (λjj oj u hj hu e=>by
    obtain⟨_,u',hu',c',hc',_⟩:=sr.hr.live jj oj hj;rw[hu]at hu'; cases hu';have:=(Array.getElem?_eq_some_iff.1 hc').1;omega) (λc' hc'=>by rw[hro]at hc'; cases hc')
   exact⟨_,by simp,ι,_,_,w',⟨⟨λ_ _=>rfl,λ_ _ h=>h,hext⟩,hG.env,by simp,λ_ _=>by simp⟩,λ_ _ _=>rfl,sr.put hd (λ_ _ h=>h) hext hh' hx,.one (qcn ho hw (nd (by simp) (by simp)) (hrun o rfl))⟩
  ·rename_i ob f hv;obtain ⟨wn, c, w', x, hblk, hG, hO, hX, hrun⟩ := qqI (CR := CR) hok sr.tm hv w hro;have key : ∀ (id : Nat) (h' : Heap), ι id = none → n0 ≤ id → id < h'.n → st.h.n ≤ h'.n → (id < st.h.n → qii (.a q hole) base id) → (∀ jj, h'.get jj = if jj = id then some ob else st.h.get jj) → outs = [(putK o.dst).run (f id) h' st] →
     qbL P N CR nt n0 e.lim ι ro st b w outs (qii (.a q hole) base) (lone (b.atR a (.inRegion ops (j::rest)::k)) cs w) (λa' w'=>lone (b.atR a' (.inRegion ops rest::k)) cs w'):=by
    intro id h' hid hn hid' hle hX' hget hout;subst hout;have hext:∀jj u,ι jj=some u->(if jj=id then some wn else ι jj)=some u:=λjj u hu=>by
     by_cases ej:jj=id
     ·subst ej; rw[hid]at hu; cases hu
     ·rw[Jaa ej]; exact hu
    have hh':=sr.hr.put_new (wn:=wn) (o:=ob) (c:=c) hid hid' hle hget hblk hG.old (by rw[hblk]; exact hG.new) (hO _ hext);refine⟨_,by simp,_,ro,_,w',⟨⟨λjj hjj=>Jaa (by omega),hext,λ_ _ h=>h⟩,hG.env,by simpa using hle,λjj hjj=>by rw[putK_h,hget,Jaa (by omega)]⟩,λjj hjj hX=>Jaa λe=>hX (by subst e; exact hX' hjj),sr.put hd hext (λ_ _ h=>h) hh' (hX _ id (by simp)),.one (qcn ho hw (nd (by simp) (by simp)) (hrun o rfl))⟩
   split at hev
   ·cases hev;exact key st.h.n _ (sr.hr.fresh _ (Jac _)) hn0 (by simp) (by simp) (λh=>absurd h (Nat.lt_irrefl _)) (λjj=>by rw[qBq]) rfl
   ·rename_i q';cases hev;obtain⟨h1,h2,h3⟩:=hhole _ _ rfl;exact key (base+q') _ h3 h1 (by simpa using h2) (by simp) (λ_=>⟨_,q',rfl,rfl⟩) (λjj=>by rw[qBp]) rfl
  ·cases hev
 | w q =>
  simp only[qaD]at hev;split at hev
  ·rename_i r hr;cases hev;obtain⟨v,h'⟩:=r;obtain⟨ι',w',x,nx,h1,h2,h3,h4,h5,h6,h7⟩:=qtS hok sr.tm sr.hr hr;have hlow:=qmg hr;have hG:Grow n0 e.lim ι ro st.h w ι' ro h' w':=⟨⟨λjj hj=>h1.inj jj (Nat.lt_of_lt_of_le hj hn0),h1.old,h1.ro⟩,h4,h5,λjj hj=>hlow jj hj (by omega)⟩;refine⟨_,by simp,ι',ro,_,w',by simpa using hG,λid hid _=>h1.inj id hid,sr.put hd h1.old (λ_ _ h=>h) h2 h3,?_⟩;rcases h6 with h6|⟨h6,h8⟩
   ·exact .one (qcn ho hw (nd (by simp) (by simp)) (by rw[h7 o rfl,h6]))
   ·subst h8; exact .one (qpH ho hw (nd (by simp) (by simp)) (by rw[h7 o rfl,h6]))
  ·cases hev
 | fz q =>
  simp only[qaD]at hev;split at hev
  ·rename_i r hr;cases hev;cases q with
   | wf q =>
    simp only[xV]at hr;split at hr
    ·rename_i r0 hr0;obtain⟨v0,h0⟩:=r0;obtain⟨ι',w',x,nx,h1,h2,h3,h4,h5,h6,h7⟩:=qtS hok sr.tm sr.hr hr0;have hlow:=qmg hr0;obtain⟨ro',f1,f2,f3,f4,f5⟩:=qmQ hr h2 h3;have hG:Grow n0 e.lim ι ro st.h w ι' ro' r.h w':=⟨⟨λjj hj=>h1.inj jj (Nat.lt_of_lt_of_le hj hn0),h1.old,f1⟩,h4,by rw[f4]; exact h5,λjj hj=>by rw[f5 jj hj,hlow jj hj (by omega)]⟩;refine⟨_,by simp,ι',ro',_,w',by simpa using hG,λid hid _=>h1.inj id hid,sr.put hd h1.old f1 f2 f3,?_⟩;rcases h6 with h6|⟨h6,h8⟩
     ·exact .one (qcn ho hw (nd (by simp) (by simp)) (by rw[h7 o rfl,h6]))
     ·subst h8; exact .one (qpH ho hw (nd (by simp) (by simp)) (by rw[h7 o rfl,h6]))
    ·cases hr
   | ldF n q c =>
    simp only[xV]at hr;split at hr
    ·rename_i h' hg;split at hr
     ·rename_i v hv;cases hr;obtain⟨ro',f1,f2,f4,f5⟩:=qtk hg sr.hr;obtain⟨x,hx,hrun⟩:=qtT (o:=.load (some n) q) hok (sr.tm.mono (λ_ _ h=>h) f1) f2 hv;have hG:Grow n0 e.lim ι ro st.h w ι ro' h' w:=⟨⟨λ_ _=>rfl,λ_ _ h=>h,f1⟩,qbM.refl w,by rw[f4]; exact Jac _,λjj hj=>f5 jj hj⟩;exact⟨_,by simp,ι,ro',_,w,by simpa using hG,λ_ _ _=>rfl,sr.put hd (λ_ _ h=>h) f1 f2 hx,.one (qcn ho hw (nd (by simp) (by simp)) (hrun o rfl))⟩
     ·cases hr
    ·cases hr
  ·cases hev
 | call c args frz =>
  simp only[qaD]at hev;obtain⟨ms,hm,hall⟩:=qBw hev;cases hop:o.op<;>try (rw[hop]at hok; simp[okOp]at hok; done)
  rename_i cl;obtain⟨callee,args',ats⟩:=cl;rw[hop]at hok;simp only[okOp,Jad]at hok;obtain⟨nx,w1,hrun,hR⟩:=qoP (o:=o) hcall hmeth hok.1 hok.2 sr.tm sr.hr (Jaf hlim hn0) hm hop;obtain⟨x,w',⟨r,hr,ι',ro',hG,hh,hv⟩,hst⟩:=qpI (k:=k) (cs:=cs) (rest:=rest) ho hw (nd (by simp) (by simp)) hrun hR;obtain⟨rs,h6,h7⟩:=hall r hr;have hG':=hG.less hn0 (Jac _);cases frz with
  | false =>
   simp only[cond]at h6;cases h6;exact⟨_,h7 _ (by simp),ι',ro',_,w',by simpa using hG',λid hid _=>hG.ext.inj id hid,sr.put hd hG.ext.old hG.ext.ro hh hv,hst⟩
  | true =>
   simp only[cond]at h6;split at h6
   ·rename_i r' hr';cases h6;obtain⟨ro'',f1,f2,f3,f4,f5⟩:=qmQ hr' hh hv;have hG2:Grow n0 e.lim ι ro st.h w ι' ro'' r'.h w':=⟨⟨hG'.ext.inj,hG'.ext.old,λb c hc=>f1 b c (hG'.ext.ro b c hc)⟩,hG'.env,by rw[f4]; exact hG'.n,λjj hjj=>by rw[f5 jj hjj,hG'.low jj hjj]⟩;exact⟨_,h7 _ (by simp),ι',ro'',_,w',by simpa using hG2,λid hid _=>hG.ext.inj id hid,sr.put hd hG2.ext.old hG2.ext.ro f2 f3,hst⟩
   ·cases h6
 | callP f args =>
  simp only[qaD]at hev;split at hev
  ·rename_i v hv;cases hev;have hm:=qA9 hpure hv;cases hop:o.op<;>try (rw[hop]at hok; simp[okOp]at hok; done)
   rename_i cl;obtain⟨callee,args',ats⟩:=cl;rw[hop]at hok;simp only[okOp,Jad]at hok;obtain⟨nx,w1,hrun,hR⟩:=qoP (o:=o) (c:=.dir f) (args:=args) hcall hmeth hok.1 hok.2 sr.tm sr.hr (Jaf hlim hn0) hm hop;obtain⟨x,w',⟨r,hr,ι',ro',hG,hh,hv⟩,hst⟩:=qpI (k:=k) (cs:=cs) (rest:=rest) ho hw (nd (by simp) (by simp)) hrun hR;simp only[Jah]at hr;subst hr;have hG':=hG.less hn0 (Jac _);exact⟨_,by simp,ι',ro',_,w',by simpa using hG',λid hid _=>hG.ext.inj id hid,sr.put hd hG.ext.old hG.ext.ro hh hv,hst⟩
  ·cases hev
 | nxtM it =>
  simp only[qaD]at hev;obtain⟨ms,hm,hall⟩:=qBw hev;cases hop:o.op<;>try (rw[hop]at hok; simp[okOp]at hok; done)
  rename_i y bs;rw[hop]at hok;cases bs<;>simp only[okOp,Jan,reduceCtorEq]at hok
  have hx:=qan sr.tm hok;obtain⟨r,h1,x,w',h2,h3,h4,h5⟩:=qku (P:=P) sr.hr hx hm o.type;obtain⟨rs,h6,h7⟩:=hall r h1;cases h6;exact⟨_,h7 _ (by simp),ι,ro,_,w',by simpa using h3.less hn0 (Jac _),λ_ _ _=>rfl,sr.put hd (λ_ _ h=>h) (λ_ _ h=>h) h4 h5,.one (qcn ho hw (nd (by simp) (by simp)) (by simp[execOp,hop,h2]))⟩
 | defer x =>
  simp only[qaD]at hev;cases hxv:x.ev st.tm<;>simp only[hxv,reduceCtorEq]at hev
  rename_i f fa fc;cases hr:st.round with
  | true=>simp[hr]at hev
  | false =>
   simp only[hr,cond]at hev;cases hev;have hb:b.roundOf=none:=by have:=sr.round; rw[hr]at this; cases hbb:b.roundOf<;>simp[hbb]at this ⊢
   cases hop:o.op<;>try (rw[hop]at hok; simp[okOp]at hok; done)
   rename_i c;obtain⟨callee,args,ats⟩:=c;rw[hop]at hok;cases callee<;>try (simp[okOp]at hok; done)
   rename_i y;simp only[okOp,Jad]at hok;have hx:=qan sr.tm hok.1;have hargs:args=#[]:=by simpa using hok.2
   subst hargs;rw[hxv]at hx;have hx':=hx;simp only[VR]at hx;obtain⟨a',c',e1,_,_⟩:=hx;have hrun:(execOp a.eval o).run P w=.ok (.defer { target:=.fn (.func (N.f f)) c',args:=a'++#[] }) w:=by
    simp[execOp,hop,resolve,e1,Deferred.ofValue]
   have sr':SR P N CR nt ι ro ⟨st.tm,st.h,.call (.fn f fa fc)::st.defs,false⟩ b { a with defers:={ target:=.fn (.func (N.f f)) c',args:=a'++#[] }::a.defers } w :=
    ⟨sr.hr,sr.tm,sr.sz,by rw[hb]; rfl,.cons ⟨⟨_,_,_,rfl⟩,_,a',c',by rw[<-e1]; exact hx',rfl⟩ sr.defs⟩
   exact⟨_,by simp,ι,ro,_,w,by simpa using Grow.refl,λ_ _ _=>rfl,sr'.put hd (λ_ _ h=>h) (λ_ _ h=>h) sr.hr (v:=.any) (x:=Go.undef) (by simp only[VR]),.one (qn0 ho hw hb hrun)⟩
 | recover =>
  simp only[qaD]at hev;cases hr:st.round with
  | true=>simp[hr]at hev
  | false =>
   simp only[hr,cond]at hev;cases hev;have hb:b.roundOf=none:=by have:=sr.round; rw[hr]at this; cases hbb:b.roundOf<;>simp[hbb]at this ⊢
   cases hop:o.op<;>try (rw[hop]at hok; simp[okOp]at hok; done)
   rename_i c;obtain⟨callee,args,ats⟩:=c;rw[hop]at hok;cases callee<;>try (simp[okOp]at hok; done)
   rename_i bi;cases bi<;>simp only[okOp,Jan,reduceCtorEq]at hok
   exact⟨_,by simp,ι,ro,_,w,by simpa using Grow.refl,λ_ _ _=>rfl,sr.put hd (λ_ _ h=>h) (λ_ _ h=>h) sr.hr (v:=.nili) (by simp only[VR]),.one (qks ho hw (nd (by simp) (by simp)) hb hcalm (by simp[execOp,hop,resolve,invoke,builtin]))⟩
 | bad=>simp[qaD]at hev
end
def Opd.looks:Opd->List Nat
 | .t i=>[i]
 | .c _=>[]
def qdK(l:List Opd):List Nat:=l.flatMap Opd.looks
def qei:Option Opd->List Nat
 | none=>[]
 | some x=>x.looks
def PO.looks:PO->List Nat
 | .mov x=>x.looks
 | .pick c a b=>c.looks++a.looks++b.looks
 | .build _ ps=>ps.flatMap λp=>p.2.2.looks
 | .nilc x=>x.looks
 | .bin _ x y=>x.looks++y.looks
 | .eqo _ _ x y=>x.looks++y.looks
 | .un _ x=>x.looks
 | .ci _ x=>x.looks
 | .mki _ x=>x.looks
 | .asrt _ _ _ x=>x.looks
 | .mkf _ a b=>qdK a++qdK b
 | .slice _ x a b c=>x.looks++qei a++qei b++qei c
 | .sliceS x a b=>x.looks++qei a++qei b
 | .faddr _ a=>a.looks
 | .fld _ _ x=>x.looks
 | .iaddr _ x i=>x.looks++i.looks
 | .iaddrA _ _ x i=>x.looks++i.looks
 | .idxS x i=>x.looks++i.looks
 | .idxA _ _ _ x i=>x.looks++i.looks
 | .ext _ x=>x.looks
 | .min x xs=>x.looks++qdK xs
 | .max x xs=>x.looks++qdK xs
 | .cap x=>x.looks
def RdO.looks:RdO->List Nat
 | .load _ a=>a.looks
 | .b2s x=>x.looks
 | .lookup _ _ _ m k=>m.looks++k.looks
 | .len _ x=>x.looks
 | .entry it=>it.looks
def AO.looks:AO->List Nat
 | .alloc _=>[]
 | .box _ x=>x.looks
 | .bslice _ _ _ ps=>ps.flatMap λp=>p.2.looks
 | .s2b _ x=>x.looks
 | .mkm=>[]
 | .mks _ _ l c=>l.looks++c.looks
 | .rngS x=>x.looks
def WO.looks:WO->List Nat
 | .store _ a x=>a.looks++x.looks
 | .mupd _ m k v=>m.looks++k.looks++v.looks
 | .del _ m k=>m.looks++k.looks
 | .rngM x=>x.looks
 | .nxtS it=>it.looks
 | .append _ _ s x=>s.looks++x.looks
 | .appendS s x=>s.looks++x.looks
 | .appendZ _ _ s n=>s.looks++n.looks
 | .clear _ x=>x.looks
 | .same x=>x.looks
def Cal.looks:Cal->List Nat
 | .dir _=>[]
 | .val x=>x.looks
 | .inv x _=>x.looks
def XO.looks:XO->List Nat
 | .wf o=>o.looks
 | .ldF _ a _=>a.looks
def IOp.looks:IOp->List Nat
 | .fz o=>o.looks
 | .p o=>o.looks
 | .r o=>o.looks
 | .a o _=>o.looks
 | .w o=>o.looks
 | .call c as _=>c.looks++qdK as
 | .callP _ as=>qdK as
 | .nxtM it=>it.looks
 | .defer x=>x.looks
 | .recover=>[]
 | .bad=>[]
def Ins.looks(i:Ins):List Nat :=
 match i.guard with
 | none=>i.op.looks
 | some g=>g.1::i.op.looks
def qbF(l:List Nat)(tm tm':Tm):Prop:=∀s∈l,(gK s).run tm=(gK s).run tm'
variable {tm tm':Tm}{h:Heap}
theorem qbF.left{a b:List Nat}(h:qbF (a++b) tm tm'):qbF a tm tm':=λs hs=>h s (List.mem_append_left _ hs)
theorem qbF.right{a b:List Nat}(h:qbF (a++b) tm tm'):qbF b tm tm':=λs hs=>h s (List.mem_append_right _ hs)
theorem qbF.symm{a:List Nat}(h:qbF a tm tm'):qbF a tm' tm:=λs hs=>(h s hs).symm
theorem qae{x:Opd}(h:qbF x.looks tm tm'):x.ev tm=x.ev tm':=by
 cases x with
 | t i=>exact h i (by simp[Opd.looks])
 | c v=>rfl
theorem qd0:∀{l:List Opd}(_:qbF (qdK l) tm tm'),(qcE l).run tm=(qcE l).run tm'
 | [],_=>rfl
 | x::l,h=>by
  simp only[qdK,List.flatMap_cons]at h;simp only[qcE];rw[qae h.left,qd0 h.right]
theorem qdG{x:Option Opd}(h:qbF (qei x) tm tm')(d top:Nat):(optK x).run d top tm=(optK x).run d top tm':=by
 cases x with
 | none=>rfl
 | some x=>simp only[qei]at h; simp only[optK]; rw[qae h]
theorem qjQ{a b c:Option Opd}(ha:qbF (qei a) tm tm')(hb:qbF (qei b) tm tm')(hc:qbF (qei c) tm tm')(n:Nat)(f:Bool):(cutK a b c).run n f tm=(cutK a b c).run n f tm':=by
 cases c with
 | none=>simp only[cutK,qdG ha,qdG hb]
 | some m=>simp only[cutK,qdG ha,qdG hb,qdG hc]
theorem qfb:∀{ps:List (Nat × Nat × Opd)}(_:qbF (ps.flatMap λp=>p.2.2.looks) tm tm') (cells:List V),qbI cells tm ps=qbI cells tm' ps
 | [],_,_=>rfl
 | (off,size,x)::ps,h,cells=>by
  simp only[List.flatMap_cons]at h;simp only[qbI,qae h.left,qfb h.right]
theorem qej{esz:Nat}:∀{ps:List (Nat × Opd)}(_:qbF (ps.flatMap λp=>p.2.looks) tm tm') (rows:List (List V)),qaV esz rows tm ps=qaV esz rows tm' ps
 | [],_,_=>rfl
 | (i,x)::ps,h,rows=>by
  simp only[List.flatMap_cons]at h;simp only[qaV,qae h.left,qej h.right]
theorem qfT{k:IntKind}:∀{l:List Opd}(_:qbF (qdK l) tm tm') (x:Int),qbS k tm x l=qbS k tm' x l
 | [],_,_=>rfl
 | y::l,h,x=>by
  simp only[qdK,List.flatMap_cons]at h;simp only[qbS,qae h.left];split
  ·exact qfT h.right _
  ·rfl
theorem qfW{k:IntKind}:∀{l:List Opd}(_:qbF (qdK l) tm tm') (x:Int),qco k tm x l=qco k tm' x l
 | [],_,_=>rfl
 | y::l,h,x=>by
  simp only[qdK,List.flatMap_cons]at h;simp only[qco,qae h.left];split
  ·exact qfW h.right _
  ·rfl
theorem qkV{o:PO}(h:qbF o.looks tm tm'):(qas o).run tm=(qas o).run tm':=by
 cases o<;>simp only[PO.looks]at h<;>simp only[qas]
 case mov=>rw[qae h]
 case pick=>rw[qae h.left.left,qae h.left.right,qae h.right]
 case build=>rw[qfb h]
 case nilc=>rw[qae h]
 case bin=>rw[qae h.left,qae h.right]
 case eqo=>rw[qae h.left,qae h.right]
 case un=>rw[qae h]
 case ci=>rw[qae h]
 case mki=>rw[qae h]
 case asrt=>rw[qae h]
 case mkf=>rw[qd0 h.left,qd0 h.right]
 case slice esz x a b c =>
  rw[qae h.left.left.left];have:=qjQ h.left.left.right h.left.right h.right;cases x.ev tm'<;>simp only[qaT,this]
 case sliceS x a b =>
  have:=qjQ (c:=none) h.left.right h.right (λ_ h=>by cases h);simp only[qae h.left.left,this]
 case faddr=>rw[qae h]
 case fld=>rw[qae h]
 case iaddr=>simp only[qae h.left,qae h.right]
 case iaddrA=>simp only[qae h.left,qae h.right]
 case idxS=>simp only[qae h.left,qae h.right]
 case idxA=>simp only[qae h.left,qae h.right]
 case ext=>rw[qae h]
 case min=>simp only[qae h.left,qfT h.right]
 case max=>simp only[qae h.left,qfW h.right]
 case cap=>rw[qae h]
theorem qkU{o:RdO}(h:qbF o.looks tm tm')(H:Heap):(qbc o).run tm H=(qbc o).run tm' H:=by
 cases o<;>simp only[RdO.looks]at h<;>simp only[qbc]
 case load=>rw[qae h]
 case b2s=>rw[qae h]
 case lookup=>simp only[qae h.left,qae h.right]
 case len=>rw[qae h]
 case entry=>rw[qae h]
theorem qkW{o:AO}(h:qbF o.looks tm tm'):(qbK o).run tm=(qbK o).run tm':=by
 cases o<;>simp only[AO.looks]at h<;>simp only[qbK]
 case box=>rw[qae h]
 case bslice=>rw[qej h]
 case s2b=>rw[qae h]
 case mks=>simp only[qae h.left,qae h.right]
 case rngS=>rw[qae h]
theorem qkT{o:WO}(h:qbF o.looks tm tm')(mk:Nat)(H:Heap):(qay o).run mk tm H=(qay o).run mk tm' H:=by
 cases o<;>simp only[WO.looks]at h<;>simp only[qay]
 case store=>simp only[qae h.left,qae h.right]
 case mupd=>simp only[qae h.left.left,qae h.left.right,qae h.right]
 case del=>simp only[qae h.left,qae h.right]
 case rngM=>rw[qae h]
 case nxtS=>rw[qae h]
 case append=>simp only[qae h.left,qae h.right]
 case appendS=>simp only[qae h.left,qae h.right]
 case appendZ=>simp only[qae h.left,qae h.right]
 case clear=>rw[qae h]
 case same=>rw[qae h]
theorem qm1{c:Cal}(h:qbF c.looks tm tm')(e:Env)(args:List V)(H:Heap):(calK c).run e args tm H=(calK c).run e args tm' H:=by
 cases c<;>simp only[Cal.looks]at h<;>simp only[calK]
 case val=>rw[qae h]
 case inv=>rw[qae h]
structure Eff where
 v:V
 h:Heap
 d:List DefI
def qcF(op:IOp)(e:Env)(base:Nat)(tm:Tm)(h:Heap)(round:Bool):ND Eff :=
 match op with
 | .p o=>(match (qas o).run tm with
  | some v=>some [⟨v,h,[]⟩]
  | none=>none)
 | .r o=>(match (qbc o).run tm h with
  | some v=>some [⟨v,h,[]⟩]
  | none=>none)
 | .a o hole=>(match (qbK o).run tm with
  | some (.val v)=>some [⟨v,h,[]⟩]
  | some (.obj o f)=>(match hole with
   | none=>some [⟨f h.n,h.push o,[]⟩]
   | some j=>some [⟨f (base+j),h.set (base+j) o,[]⟩])
  | none=>none)
 | .w o=>(match (qay o).run e.lim tm h with
  | some r=>some [⟨r.v,r.h,[]⟩]
  | none=>none)
 | .fz o=>(match xV o e.lim tm h with
  | some r=>some [⟨r.v,r.h,[]⟩]
  | none=>none)
 | .call c args frz=>ND.bind ((calK c).run e ((qcE args).run tm) tm h) λr =>
   cond frz
    (match frzV e.lim r with
    | some r=>some [⟨r.v,r.h,[]⟩]
    | none=>none)
    (some [⟨r.v,r.h,[]⟩])
 | .callP f args=>(match qAV e f ((qcE args).run tm) h with
  | some v=>some [⟨v,h,[]⟩]
  | none=>none)
 | .nxtM it=>ND.bind (qfB e.lim (it.ev tm) h) λr=>some [⟨r.v,r.h,[]⟩]
 | .defer x=>(match x.ev tm with
  | .fn f a c=>cond round none (some [⟨.any,h,[.call (.fn f a c)]⟩])
  | _=>none)
 | .recover=>cond round none (some [⟨.nili,h,[]⟩])
 | .bad=>none
def putE(dst:Option Nat)(f:Eff)(st:St):St:=(putK dst).run f.v f.h ⟨st.tm,st.h,f.d++st.defs,st.round⟩
theorem qhf{op:IOp}(h:qbF op.looks tm tm')(e:Env)(base:Nat)(H:Heap)(r:Bool):qcF op e base tm H r=qcF op e base tm' H r:=by
 cases op<;>simp only[IOp.looks]at h<;>simp only[qcF]
 case p=>rw[qkV h]
 case r=>rw[qkU h]
 case a=>rw[qkW h]
 case w=>rw[qkT h]
 case fz o =>
  have:∀mk,xV o mk tm H=xV o mk tm' H:=λmk=>by
   cases o with
   | wf o=>simp only[xV]; rw[qkT h]
   | ldF n a c=>simp only[xV]; rw[qae h]; simp only[qkU (o:=.load (some n) a) (tm:=tm) (tm':=tm') h]
  rw[this]
 case call=>rw[qd0 h.right,qm1 h.left]
 case callP=>rw[qd0 h]
 case nxtM=>rw[qae h]
 case defer=>rw[qae h]
theorem qCb{α β γ : Type}{m:ND α}{f : α->ND β}{g : α->ND γ}{k : β->γ}(h:∀a,g a=(f a).map (List.map k)):ND.bind m g=(ND.bind m f).map (List.map k):=by
 cases m with
 | none=>rfl
 | some l =>
  cases l with
  | nil=>rfl
  | cons x l =>
   cases l with
   | nil=>exact h x
   | cons y l =>
    simp only[ND.bind];have:∀(ms:List α),ND.join (ms.map g)=(ND.join (ms.map f)).map (List.map k):=by
     intro ms;induction ms with
     | nil=>rfl
     | cons a ms ih =>
      simp only[List.map_cons,ND.join,ih,h a];cases f a<;>cases ND.join (ms.map f)<;>simp
    exact this _
theorem qh6(dst:Option Nat)(op:IOp)(e:Env)(base:Nat)(st:St):(qaD dst op).run e base st=(qcF op e base st.tm st.h st.round).map (List.map λf=>putE dst f st):=by
 cases op<;>simp only[qaD,qcF]
 case p o=>cases (qas o).run st.tm<;>simp[putE]
 case r o=>cases (qbc o).run st.tm st.h<;>simp[putE]
 case a o hole =>
  cases (qbK o).run st.tm with
  | none=>rfl
  | some m=>cases m<;>cases hole<;>simp[putE]
 case w o=>cases (qay o).run e.lim st.tm st.h<;>simp[putE]
 case fz o=>cases xV o e.lim st.tm st.h<;>simp[putE]
 case call c args frz =>
  apply qCb;intro r;cases frz
  ·simp[putE]
  ·simp only[cond]; cases frzV e.lim r<;>simp[putE]
 case callP f args=>cases qAV e f ((qcE args).run st.tm) st.h<;>simp[putE]
 case nxtM it =>
  apply qCb;intro r;simp[putE]
 case defer x=>cases x.ev st.tm<;>cases hr:st.round<;>simp[putE,hr]
 case recover=>cases st.round<;>simp[putE]
 case bad=>rfl
variable {N:Num}{CR:Nat->IC->Code->Prop}{ι ι' ι'':Inj}{ro ro' ro'':RO}{P:Program}{h h' h'':Heap}{w w' w'':World}{mk:Nat}
section
variable {nt:Nat}{st:St}{b:Frame}{a:Act}{k:List Item}{cs:List Frame}{ops:Array Oper}{j:Nat}{rest:List Nat}{o:Oper}{i:Ins}
theorem qbL.trans{n0 lim:Nat}{outs:List St}{X Y:Nat->Prop}{m:Machine}{at' at'':Act->World->Machine}{outs':List St}(h:qbL P N CR nt n0 lim ι ro st b w outs X m at')(hXY:∀id,X id->Y id)
  (k:∀r∈outs,∀ι' ro' a' w',Grow n0 lim ι ro st.h w ι' ro' r.h w'->(∀id,id<st.h.n->¬X id->ι' id=ι id)->SR P N CR nt ι' ro' r b a' w'->qbL P N CR nt n0 lim ι' ro' r b w' outs' Y (at' a' w') at'') :
  qbL P N CR nt n0 lim ι ro st b w outs' Y m at'':=by
 obtain⟨r,h1,ι',ro',a',w',h2,h5,h3,h4⟩:=h;obtain⟨r',k1,ι'',ro'',a'',w'',k2,k5,k3,k4⟩:=k r h1 ι' ro' a' w' h2 h5 h3;exact⟨r',k1,ι'',ro'',a'',w'',h2.trans k2,λid hid hY=>(k5 id (Nat.lt_of_lt_of_le hid h2.n) hY).trans (h5 id hid λhx=>hY (hXY id hx)),k3,h4.trans k4⟩
theorem qjH(hN:∀t u,N.t t=N.t u->t=u){e:Env}(hcall:qfq P N CR e.callF e.lim)(hmeth:MethOK P N e.meth)(hpure:qAX e)(ho:ops[j]?=some o)(hok:qpJ P N nt ops i o=true)
  {n0 base:Nat}(sr:SR P N CR nt ι ro st b a w) (hlim:e.lim<=n0) (hn0:n0<=st.h.n) (hcalm:calm b.kind cs)
  {outs:List St}(hev:(qdm i).run e base st=some outs) (hhole:∀x q,i.op=.a x (some q)->n0<=base+q/\base+q<st.h.n/\ι (base+q)=none) :
  qbL P N CR nt n0 e.lim ι ro st b w outs (qii i.op base) (lone (b.atR a (.inRegion ops (j::rest)::k)) cs w) (λa' w'=>lone (b.atR a' (.inRegion ops rest::k)) cs w'):=by
 obtain⟨dst,guard,op⟩:=i;simp only[qpJ,Jad,beq_iff_eq]at hok;obtain⟨⟨⟨hdst,hg⟩,hop⟩,hd⟩:=hok;have hd':∀d,dst=some d->d<nt:=λd e=>by subst e; simpa[Nat.blt_eq]using hd
 have run:Region.wanted o (yielded ops a.tmps)=true->(qaD dst op).run e base st=some outs ->
   qbL P N CR nt n0 e.lim ι ro st b w outs (qii op base) (lone (b.atR a (.inRegion ops (j::rest)::k)) cs w) (λa' w'=>lone (b.atR a' (.inRegion ops rest::k)) cs w') :=
  λhw he=>qpE hN hcall hmeth hpure ho hw hdst.symm hd' hop sr hlim hn0 hcalm he hhole
 have skip:Region.wanted o (yielded ops a.tmps)=false->outs=[(putK dst).run (.tup []) st.h st] ->
   qbL P N CR nt n0 e.lim ι ro st b w outs (qii op base) (lone (b.atR a (.inRegion ops (j::rest)::k)) cs w) (λa' w'=>lone (b.atR a' (.inRegion ops rest::k)) cs w'):=by
  intro hw he;subst he;have hs:=stepR_op_skip (P:=P) (b:=b) (k:=k) (cs:=cs) (w:=w) (a:=a) (ops:=ops) (i:=j) (rest:=rest) (by simp[ho,hw]);simp only[ho,Option.bind_some]at hs;exact⟨_,Jah.2 rfl,ι,ro,_,w,by simpa using Grow.refl,λ_ _ _=>rfl,by rw[<-hdst]; exact sr.put hd' (λ_ _ h=>h) (λ_ _ h=>h) sr.hr VR.undef,.one hs⟩
 cases hgd:o.guard with
 | none =>
  rw[hgd]at hg;cases guard with
  | some g=>simp[qiy]at hg
  | none=>exact run (by simp[Region.wanted,hgd]) (by simpa only[qdm]using hev)
 | some jb =>
  obtain⟨jj,c⟩:=jb;rw[hgd]at hg;cases guard with
  | none=>simp[qiy]at hg
  | some g =>
   obtain⟨s,c'⟩:=g;simp only[qiy,Jad,beq_iff_eq]at hg;obtain⟨rfl,hg⟩:=hg;split at hg
   ·rename_i o' ho';have hs:o'.dst=some s:=by simpa using hg
    have hyb:∀q,a.tmps[s]?=some (.bool q)->yielded ops a.tmps jj=some q:=λq hq=>by simp[yielded,ho',hs,hq]
    have hyn:(∀c,a.tmps[s]?≠some (.bool c))->yielded ops a.tmps jj=none:=λhq=>by
     unfold yielded;rw[ho'];simp only[Option.bind_some,hs]
    simp only[qdm]at hev;split at hev
    ·rename_i q hq;have hy:=hyb q (qCE sr.tm hq)
     by_cases e:q=c'
     ·subst e;simp only[beq_self_eq_true,cond]at hev;exact run (by simp[Region.wanted,hgd,hy]) hev
     ·have:(q == c')=false:=by simpa using e
      simp only[this,cond,Jae]at hev;exact skip (by simp[Region.wanted,hgd,hy,e]) hev.symm
    ·rename_i hq;have:=qCv sr.tm hq;simp only[Jae]at hev;refine skip ?_ hev.symm;have:=hyn this;simp[Region.wanted,hgd,this]
    ·cases hev
   ·cases hg
def qjv(i:Ins):Bool :=
 match i.op with
 | .a _ (some _)=>false
 | _=>true
theorem qhP(h:qjv i=true):∀x q,i.op≠.a x (some q):=λx q e=>by simp[qjv,e]at h
theorem qjo(hN:∀t u,N.t t=N.t u->t=u){e:Env}(hcall:qfq P N CR e.callF e.lim)(hmeth:MethOK P N e.meth)(hpure:qAX e){n0:Nat}(hlim:e.lim<=n0)(hcalm:calm b.kind cs){base:Nat} :
  ∀(l:List Ins) (p:Nat) (ι:Inj) (ro:RO) (st:St) (a:Act) (w:World) (outs:List St),okL P N nt ops l (ops.toList.drop p)=true->l.all qjv=true->SR P N CR nt ι ro st b a w->n0<=st.h.n->(qhj l).run e base st=some outs ->
   qbL P N CR nt n0 e.lim ι ro st b w outs (λ_=>False) (lone (b.atR a (.inRegion ops (List.range' p l.length)::k)) cs w) (λa' w'=>lone (b.atR a' (.inRegion ops []::k)) cs w')
 | [],p,ι,ro,st,a,w,outs,hok,_,sr,hn0,hev=>by
  simp only[qhj,Jae]at hev; subst hev;exact⟨st,by simp,ι,ro,a,w,Grow.refl,λ_ _ _=>rfl,sr,Steps.refl P _⟩
 | i::l,p,ι,ro,st,a,w,outs,hok,hh,sr,hn0,hev=>by
  simp only[qhj]at hev;obtain⟨ms,hm,hall⟩:=qBw hev;cases ho:ops.toList.drop p with
  | nil=>simp[ho,okL]at hok
  | cons o rs =>
   simp only[ho,okL,Jad]at hok;simp only[List.all_cons,Jad]at hh;have hget:ops[p]?=some o:=by
    have:(ops.toList.drop p)[0]?=some o:=by rw[ho]; rfl
    rw[List.getElem?_drop]at this;simpa using this
   have hrs:ops.toList.drop (p+1)=rs:=by
    have:(ops.toList.drop p).drop 1=rs:=by rw[ho]; rfl
    rw[List.drop_drop]at this;exact this
   have h1:=qjH (k:=k) (cs:=cs) (rest:=List.range' (p+1) l.length) hN hcall hmeth hpure hget hok.1 sr hlim hn0 hcalm hm (λx q e=>absurd e (qhP hh.1 x q));rw[List.length_cons,List.range'_succ];refine h1.trans (λid hid=>by obtain⟨x,q,h1,_⟩:=hid; exact absurd h1 (qhP hh.1 x q)) λr hr ι' ro' a' w' hG _ sr'=>?_;obtain⟨outs',ho',hsub⟩:=hall r hr;obtain⟨r',k1,k2⟩:=qjo hN hcall hmeth hpure hlim hcalm l (p+1) ι' ro' r a' w' outs' (by rw[hrs]; exact hok.2) hh.2 sr' (Jaf hn0 hG.n) ho';exact⟨r',hsub _ k1,k2⟩
end
def effI(i:Ins)(e:Env)(base:Nat)(tm:Tm)(h:Heap)(round:Bool):ND Eff :=
 match i.guard with
 | none=>qcF i.op e base tm h round
 | some g=>match (gK g.1).run tm with
  | .bool c=>cond (c == g.2) (qcF i.op e base tm h round) (some [⟨.tup [],h,[]⟩])
  | .tup []=>some [⟨.tup [],h,[]⟩]
  | _=>none
variable {e:Env}{base:Nat}{tm tm':Tm}{h h':Heap}{r:Bool}{st st':St}{i:Ins}{op:IOp}{f:Eff}
theorem qjV(i:Ins)(e:Env)(base:Nat)(st:St):(qdm i).run e base st=(effI i e base st.tm st.h st.round).map (List.map λf=>putE i.dst f st):=by
 unfold qdm effI;cases i.guard with
 | none=>exact qh6 _ _ _ _ _
 | some g =>
  dsimp only;generalize (gK g.1).run st.tm=q;split
  ·rename_i c;dsimp only;cases hcg:(c == g.2)
   ·simp[putE]
   ·simp only[cond]; exact qh6 _ _ _ _ _
  ·simp[putE]
  ·rename_i h1 h2;split
   ·exact absurd rfl (h1 _)
   ·exact absurd rfl h2
   ·rfl
theorem qfJ(h:qbF i.looks tm tm')(H:Heap):effI i e base tm H r=effI i e base tm' H r:=by
 unfold Ins.looks at h;unfold effI;cases hg:i.guard with
 | none=>rw[hg]at h; exact qhf h _ _ _ _
 | some g =>
  rw[hg]at h;have h0:(gK g.1).run tm=(gK g.1).run tm':=h g.1 (by simp);have h1:qbF i.op.looks tm tm':=λs hs=>h s (by simp[hs]);dsimp only;rw[h0,qhf h1]
theorem qgD(dst:Option Nat)(f:Eff)(st:St)(s:Nat):(gK s).run (putE dst f st).tm=if dst=some s then f.v else(gK s).run st.tm:=by
 cases dst with
 | none=>simp[putE,putK]
 | some d =>
  simp only[putE,putK,qgb,Jae]
  by_cases e:s=d
  ·subst e; simp
  ·rw[Jaa e,Jaa (λh=>e h.symm)]
@[simp]theorem qjj(dst:Option Nat)(f:Eff)(st:St):(putE dst f st).h=f.h:=by simp[putE]
@[simp]theorem qgE(dst:Option Nat)(f:Eff)(st:St):(putE dst f st).defs=f.d++st.defs:=by simp[putE]
@[simp]theorem qhK(dst:Option Nat)(f:Eff)(st:St):(putE dst f st).round=st.round:=by simp[putE]
theorem qsj(h:ND.single ((qdm i).run e base st)=some st'):∃f,effI i e base st.tm st.h st.round=some [f]/\st'=putE i.dst f st:=by
 have h:=qBH h;rw[qjV]at h;cases he:effI i e base st.tm st.h st.round with
 | none=>simp[he]at h
 | some l =>
  cases l with
  | nil=>simp[he]at h
  | cons f l =>
   cases l with
   | nil=>simp[he]at h; exact⟨f,rfl,h.symm⟩
   | cons _ _=>simp[he]at h
theorem qjp:∀(l:List Ins) (st:St) (acc:List Heap) (st':St) (hs:List Heap),opsH e base l st acc=some (st',hs) ->
  ∃T:Nat->St,T 0=st/\T l.length=st'/\(∀(i:Nat) (li:Ins),l[i]?=some li->∃f,effI li e base (T i).tm (T i).h (T i).round=some [f]/\T (i+1)=putE li.dst f (T i)) /\
   hs.reverse=acc.reverse++(List.range (l.length+1)).map λi=>(T i).h
 | [],st,acc,st',hs,h=>by
  simp only[opsH,Jae,Prod.mk.injEq]at h;obtain⟨rfl,rfl⟩:=h;exact⟨λ_=>st,rfl,rfl,λi li hi=>by simp at hi,by simp⟩
 | i::l,st,acc,st',hs,h=>by
  simp only[opsH]at h;split at h
  ·rename_i st1 h1;obtain⟨f,hf,rfl⟩:=qsj h1;obtain⟨T,t0,t1,t2,t3⟩:=qjp l _ _ _ _ h;refine⟨λn=>match n with|0=>st|n+1=>T n,rfl,t1,λj lj hj=>?_,?_⟩
   ·cases j with
    | zero=>simp at hj; subst hj; exact⟨f,hf,t0⟩
    | succ j=>exact t2 j lj (by simpa using hj)
   ·rw[t3];simp[List.range_succ_eq_map,List.map_map,Function.comp_def]
  ·cases h
structure qfp (l:List Ins) (bs:Nat->List Nat) (na:Nat) (chk:List (Nat × Nat)):Prop where
 dst:∀(i j:Nat) (li lj:Ins) (d:Nat),i≠j->l[i]?=some li->l[j]?=some lj->li.dst=some d->lj.dst≠some d
 look:∀(i j:Nat) (li lj:Ins) (s:Nat),i≠j->l[i]?=some li->l[j]?=some lj->lj.dst=some s->s∈li.looks->(j∈bs i/\j<i)\/(li.op.cls≠.r/\i∈bs j/\i<j)
 ww:∀(i j:Nat) (li lj:Ins),i<j->l[i]?=some li->l[j]?=some lj->li.op.cls=.w->lj.op.cls=.w->i∈bs j
 rwB:∀(i k:Nat) (li lk:Ins),k<i->l[i]?=some li->l[k]?=some lk->li.op.cls=.r->lk.op.cls=.w->k∈bs i\/(i,k)∈chk
 rwA:∀(i k:Nat) (li lk:Ins),i<k->l[i]?=some li->l[k]?=some lk->li.op.cls=.r->lk.op.cls=.w->i∈bs k\/(i,k+1)∈chk
 own:∀(i:Nat) (li:Ins) (s:Nat),l[i]?=some li->li.op.cls=.r->li.dst=some s->s ∉ li.looks
 aa:∀(i j:Nat) (li lj:Ins) (p:Nat),i≠j->l[i]?=some li->l[j]?=some lj->li.op.cls=.a p->lj.op.cls≠.a p
 ap:∀(i:Nat) (li:Ins) (p:Nat),l[i]?=some li->li.op.cls=.a p->p<na
 aw:na≠0->∀(i:Nat) (li:Ins),l[i]?=some li->li.op.cls≠.w
 cn:∀(i:Nat) (li:Ins),l[i]?=some li->∀f args,li.op=.callP f args->na=0
 ar:na≠0->∀(i:Nat) (li:Ins),l[i]?=some li->li.op.cls=.r->(i,0)∈chk
theorem qmV(hc:i.op.cls=.n)(he:effI i e base tm h r=some [f]):f.h=h/\f.d=[]/\∀h',effI i e base tm h' r=some [⟨f.v,h',[]⟩]:=by
 have key:∀{f:Eff}{h:Heap},qcF i.op e base tm h r=some [f]->f.h=h/\f.d=[]/\∀h',qcF i.op e base tm h' r=some [⟨f.v,h',[]⟩]:=by
  intro f h he;cases hop:i.op with
  | p o =>
   rw[hop]at he;simp only[qcF]at he ⊢;split at he<;>cases he
   rename_i v hv;exact⟨rfl,rfl,λh'=>rfl⟩
  | a o hole =>
   rw[hop]at he hc;have hval:∀m,(qbK o).run tm=some m->∃v,m=.val v:=λm hm=>by
    cases o with
    | bslice ro zero len parts =>
     cases ro
     ·cases hole<;>simp[IOp.cls]at hc
     ·simp only[qbK,cond]at hm;split at hm
      ·cases hm; exact⟨_,rfl⟩
      ·cases hm
    | s2b ro x =>
     cases ro
     ·cases hole<;>simp[IOp.cls]at hc
     ·simp only[qbK,cond]at hm;split at hm
      ·cases hm; exact⟨_,rfl⟩
      ·cases hm
    | _=>cases hole<;>simp[IOp.cls]at hc
   simp only[qcF]at he ⊢;cases hm:(qbK o).run tm with
   | none=>simp[hm]at he
   | some m =>
    obtain⟨v,rfl⟩:=hval m hm;simp[hm]at he;subst he;exact⟨rfl,rfl,λh'=>rfl⟩
  | recover =>
   rw[hop]at he;simp only[qcF]at he ⊢;cases r<;>simp at he
   subst he;exact⟨rfl,rfl,λh'=>rfl⟩
  | _=>rw[hop]at hc; simp[IOp.cls]at hc
 unfold effI at he ⊢;cases hg:i.guard with
 | none=>rw[hg]at he; exact key he
 | some g =>
  rw[hg]at he;dsimp only at he ⊢;split at he
  ·rename_i c hc;cases hcg:(c == g.2)
   ·simp[hcg]at he; subst he; exact⟨rfl,rfl,λh'=>rfl⟩
   ·simp only[hcg,cond]at he ⊢; exact key he
  ·simp at he; subst he; exact⟨rfl,rfl,λh'=>rfl⟩
  ·cases he
variable {e:Env}{base:Nat}{tm tm':Tm}{h h':Heap}{r:Bool}{st st':St}{i:Ins}{op:IOp}{f:Eff}
theorem qqj(hc:op.cls=.r):(∃o,op=.r o)\/∃f args,op=.callP f args:=by
 cases op with
 | r o=>exact .inl ⟨o,rfl⟩
 | callP f args=>exact .inr ⟨f,args,rfl⟩
 | p o=>simp[IOp.cls]at hc
 | a o hole =>
  cases o with
  | bslice ro z n ps=>cases ro<;>cases hole<;>simp[IOp.cls]at hc
  | s2b ro x=>cases ro<;>cases hole<;>simp[IOp.cls]at hc
  | _=>cases hole<;>simp[IOp.cls]at hc
 | _=>simp[IOp.cls]at hc
theorem cls_a{p:Nat}(hc:op.cls=.a p):∃o,op=.a o (some p):=by
 cases op with
 | a o hole =>
  cases hole with
  | none =>
   cases o with
   | bslice ro z n ps=>cases ro<;>simp[IOp.cls]at hc
   | s2b ro x=>cases ro<;>simp[IOp.cls]at hc
   | _=>simp[IOp.cls]at hc
  | some q =>
   have:q=p:=by
    cases o with
    | bslice ro z n ps=>cases ro<;>simp[IOp.cls]at hc<;>exact hc
    | s2b ro x=>cases ro<;>simp[IOp.cls]at hc<;>exact hc
    | _=>simpa[IOp.cls]using hc
   subst this; exact⟨o,rfl⟩
 | _=>simp[IOp.cls]at hc
theorem qoK(hc:i.op.cls=.r)(he:effI i e base tm h r=some [f]):f.h=h/\f.d=[]:=by
 have key:∀{f:Eff},qcF i.op e base tm h r=some [f]->f.h=h/\f.d=[]:=by
  intro f he;rcases qqj hc with ⟨o,ho⟩|⟨o,q,ho⟩<;>rw[ho]at he<;>simp only[qcF]at he<;>split at he<;>cases he<;>exact⟨rfl,rfl⟩
 unfold effI at he;cases hg:i.guard with
 | none=>rw[hg]at he; exact key he
 | some g =>
  rw[hg]at he;dsimp only at he;split at he
  ·rename_i c _;cases hcg:(c == g.2)
   ·simp[hcg]at he; subst he; exact⟨rfl,rfl⟩
   ·simp only[hcg,cond]at he; exact key he
  ·simp at he; subst he; exact⟨rfl,rfl⟩
  ·cases he
theorem eff_a{p:Nat}(hc:i.op.cls=.a p)(he:effI i e base tm h r=some [f]):∃upd:Heap->Heap,(upd=id\/∃ob,upd=λH=>H.set (base+p) ob)/\f.h=upd h/\f.d=[]/\∀H,effI i e base tm H r=some [⟨f.v,upd H,[]⟩]:=by
 obtain⟨o,ho⟩:=cls_a hc;have key:∀{f:Eff},qcF i.op e base tm h r=some [f]->∃upd:Heap->Heap,(upd=id\/∃ob,upd=λH=>H.set (base+p) ob)/\f.h=upd h/\f.d=[]/\∀H,qcF i.op e base tm H r=some [⟨f.v,upd H,[]⟩]:=by
  intro f he;rw[ho]at he ⊢;simp only[qcF]at he ⊢;cases hm:(qbK o).run tm with
  | none=>simp[hm]at he
  | some m =>
   cases m with
   | val v=>simp[hm]at he; subst he; exact⟨id,.inl rfl,rfl,rfl,λH=>rfl⟩
   | obj ob fn=>simp[hm]at he; subst he; exact⟨_,.inr ⟨ob,rfl⟩,rfl,rfl,λH=>rfl⟩
 unfold effI at he ⊢;cases hg:i.guard with
 | none=>rw[hg]at he; exact key he
 | some g =>
  rw[hg]at he;dsimp only at he ⊢;split at he
  ·rename_i c _;cases hcg:(c == g.2)
   ·simp[hcg]at he; subst he; exact⟨id,.inl rfl,rfl,rfl,λH=>rfl⟩
   ·simp only[hcg,cond]at he ⊢; exact key he
  ·simp at he; subst he; exact⟨id,.inl rfl,rfl,rfl,λH=>rfl⟩
  ·cases he
theorem qkl{v:V}{rs:List (List V)}(hr:qal h v=some rs)(hm:∀id o,h.get id=some o->h'.get id=some o):qal h' v=some rs:=by
 cases v<;>simp only[qal,reduceCtorEq]at hr ⊢<;>try exact hr
 split at hr
 ·rename_i R hg;rw[hm _ _ hg]; exact hr
 ·cases hr
theorem qm0{o:RdO}{v:V}(hr:(qbc o).run tm h=some v)(hm:∀id o,h.get id=some o->h'.get id=some o):(qbc o).run tm h'=some v:=by
 cases o<;>simp only[qbc]at hr ⊢
 case load n x =>
  cases hx:x.ev tm<;>simp only[hx]at hr ⊢<;>try exact hr
  split at hr<;>try (simp at hr; done)
  rename_i rs hg;rw[hm _ _ hg]; exact hr
 case b2s x =>
  split at hr<;>try (simp at hr; done)
  rename_i rs hg;rw[qkl hg hm]; exact hr
 case lookup kn zero ok m k =>
  cases hk:qbX kn (k.ev tm)<;>simp only[hk,cond,reduceCtorEq]at hr ⊢
  cases hx:m.ev tm<;>simp only[hx]at hr ⊢<;>try exact hr
  split at hr<;>try (simp at hr; done)
  rename_i es cl hg;rw[hm _ _ hg]; exact hr
 case len k x =>
  cases k<;>simp only at hr ⊢<;>try exact hr
  cases hx:x.ev tm<;>simp only[hx]at hr ⊢<;>try exact hr
  split at hr<;>try (simp at hr; done)
  rename_i es cl hg;rw[hm _ _ hg]; exact hr
 case entry x =>
  split at hr<;>try (simp at hr; done)
  split at hr<;>try (simp at hr; done)
  rename_i hg;rw[hm _ _ hg];dsimp only;split at hr<;>try (simp at hr; done)
  rename_i hg2;rw[hm _ _ hg2]; exact hr
theorem qoJ(hc:i.op.cls=.r)(hn:∀f args,i.op≠.callP f args)(he:effI i e base tm h r=some [f])(hm:∀id o,h.get id=some o->h'.get id=some o):effI i e base tm h' r=some [⟨f.v,h',[]⟩]:=by
 obtain⟨o,ho⟩:=(qqj hc).resolve_right λ⟨f,q,h⟩=>hn f q h;have key:∀{f:Eff},qcF i.op e base tm h r=some [f]->qcF i.op e base tm h' r=some [⟨f.v,h',[]⟩]:=by
  intro f he;rw[ho]at he ⊢;simp only[qcF]at he ⊢;split at he<;>cases he
  rename_i v hv;rw[qm0 hv hm]
 unfold effI at he ⊢;cases hg:i.guard with
 | none=>rw[hg]at he; exact key he
 | some g =>
  rw[hg]at he;dsimp only at he ⊢;split at he
  ·rename_i c _;cases hcg:(c == g.2)
   ·simp[hcg]at he; subst he; simp
   ·simp only[hcg,cond]at he ⊢; exact key he
  ·simp at he; subst he; simp
  ·cases he
theorem qA8{l:List Ins}{hs:List Heap}{j k d:Nat}{o:RdO}(hl:l[j]?=some i)(hk:hs[k]?=some h')(hd:i.dst=some d)(ho:i.op=.r o):recheck l tm hs (j,k)=gdO i.guard tm (qA0 ((qbc o).run tm h') ((gK d).run tm)):=by
 simp only[recheck,hl,hk,ho,hd];unfold gdO qA0;cases i.guard<;>rfl
theorem qkn{l:List Ins}{hs:List Heap}{j k d:Nat}(hl:l[j]?=some i)(hk:hs[k]?=some h')(hd:i.dst=some d)(hc:i.op.cls=.r)(hre:qAU e l tm hs (j,k)=true)(he:effI i e base tm h r=some [f])(hv:f.v=(gK d).run tm) :
  effI i e base tm h' r=some [⟨f.v,h',[]⟩]:=by
 obtain⟨S,hS,key⟩:∃S:Bool,qAU e l tm hs (j,k)=gdO i.guard tm S/\(S=true->qcF i.op e base tm h' r=some [⟨f.v,h',[]⟩]):=by
  have same:∀{o:Option V},qA0 o ((gK d).run tm)=true->o=some f.v:=λ{o} hs=>by
   unfold qA0 at hs;split at hs
   ·rename_i v;have:=V.beq_eq _ _ hs;rw[this,hv]
   ·cases hs
  rcases qqj hc with ⟨o,ho⟩|⟨o,q,ho⟩
  ·refine⟨qA0 ((qbc o).run tm h') ((gK d).run tm),?_,λhs=>?_⟩
   ·rw[<-qA8 hl hk hd ho];simp only[qAU,hl,hk,ho]
   ·rw[ho]; simp only[qcF,same hs]
  ·refine⟨qA0 (qAV e o ((qcE q).run tm) h') ((gK d).run tm),by simp only[qAU,hl,hk,ho,hd],λhs=>?_⟩;rw[ho]; simp only[qcF,same hs]
 rw[hS]at hre;unfold gdO at hre;unfold effI at he ⊢;cases hg:i.guard with
 | none=>rw[hg]at hre; exact key hre
 | some g =>
  rw[hg]at he hre;dsimp only at he hre ⊢;split at he
  ·rename_i c hgc;rw[hgc]at hre;dsimp only at hre;cases hcg:(c == g.2)
   ·simp[hcg]at he; subst he; simp
   ·simp only[hcg,cond]at hre ⊢; exact key hre
  ·simp at he; subst he; simp
  ·cases he
end Go.Abs

