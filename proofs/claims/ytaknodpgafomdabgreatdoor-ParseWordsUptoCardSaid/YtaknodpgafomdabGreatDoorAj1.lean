/- From the evaluator to calls in the model. -/
import Derived.Carry
import Derived.Sort.Grow
import Derived.Lib.Small
import Derived.Deep.Draws
import Derived.Test.YtaknodpgafomdabGreatDoorAs2
import Derived.Test.YtaknodpgafomdabGreatDoorAc4
set_option linter.unusedSimpArgs false
set_option linter.unusedVariables false
namespace Go.Abs
open Go Go.RowKit
variable {P:Program}
def roOf(W:World):RO:=λb=>match W.heap[b]? with
 | some (.cells c _ _)=>some c
 | _=>none
def numAt(f t:Nat->Nat)(W:World):Num:=⟨f,t,λb=>W.heap[b]?⟩
theorem qDv{f t:Nat->Nat}{W:World}{CR:Nat->IC->Code->Prop}:HR (numAt f t W) CR (λ_=>none) (roOf W) ⟨0,.e⟩ W where
 live:=λi o h=>by simp[Heap.get,qBM]at h
 dist:=λi j oi oj wi wj h=>by simp[Heap.get,qBM]at h
 rd:=λb c hb=>by
  refine⟨?_,λi o wn h=>by simp[Heap.get,qBM]at h⟩;unfold roOf at hb;split at hb
  ·rename_i J e fz I;cases hb; exact⟨e,fz,I⟩
  ·cases hb
 fresh:=λ_ _=>rfl
 kb:=λb o hb=>⟨hb,λi oi wn h=>by simp[Heap.get,qBM]at h⟩
theorem law_calls{AP:Prog}{nf nt:Nat->Nat}{W:World}(L:Link P (numAt nf nt W) AP){f:Nat}{fn:Func}{c:Code}(hp:AP.prim f=none)(hf:P.funcs[nf f]?=some fn)(hname:fn.name≠ "runtime.NumGoroutine")(hb:fn.body=some c)
  {vs:List V}{args:Array Value}(hargs:VRs (numAt nf nt W) (λ_=>none) (roOf W) vs args.toList) (hw:WF AP false 0 (.fn f [] []) vs ⟨0,.e⟩ λr=>r.v=.bool true) :
  Calls P (nf f) args W λe W'=>e=.returned (.bool true)/\Below W.heap.size W W':=by
 obtain⟨l,n,_,_,h2,h3⟩:=hw;have hev:=h2 n (Jac _);have hd:=(qbT L n 0).2 (λ_=>none) (roOf W) ⟨0,.e⟩ W f [] [] (.func (.func (nf f)) #[] #[]) vs args l (Nat.zero_le _) qDv (by simp only[VR]; exact⟨#[],#[],rfl,VRs.nil,VRs.nil⟩) hargs (by simp only[qbx,hp]; exact hev);have hent:(qaU (.func (.func (nf f)) #[] #[]) args).run P W=.ok (.enter (nf f) args) W:=by
  simp[qaU,Deferred.ofValue,invoke,callFunc,hf,hname,hb]
 rcases hd with ⟨f',args',q1,q2⟩|⟨v,w1,q1,_⟩
 ·rw[hent]at q1;cases q1;refine Calls.mono (h:=q2.calls) λe W' h=>?_;cases e with
  | returned v =>
   obtain⟨r,hr,ι',ro',hG,hH,hv⟩:=h;rw[h3 r hr]at hv;simp only[VR]at hv;refine⟨by rw[hv],hG.env.os,hG.env.tape,hG.env.output,hG.env.size,λk hk=>?_⟩;have hk':W.heap[k]?=some W.heap[k]:=Array.getElem?_eq_getElem hk;rw[hk'];exact(hH.kb k _ hk').1
  | panicked c=>exact h.elim
  | outgrown=>exact h.elim
 ·rw[hent]at q1; cases q1
open Go
inductive Sh where
 | int (k:IntKind)
 | bool
 | str
 | slice (l:List Sh)
mutual
def ShV(B:Nat):Sh->V->Prop
 | .int k,v=>∃n,v=.int k n/\(Lit.int k n).wf=true
 | .bool,v=>∃b,v=.bool b
 | .str,v=>∃s,v=.str s/\s.length<=B
 | .slice l,v=>v=.nils\/∃rows,v=.slR rows false/\rows.length<=B/\∀r∈rows,ShVs B l r
def ShVs(B:Nat):List Sh->List V->Prop
 | [],m=>m=[]
 | s::l,m=>∃v r,m=v::r/\ShV B s v/\ShVs B l r
end
theorem ShVs.append{B:Nat}:∀{l m:List Sh}{vs I:List V},ShVs B l vs->ShVs B m I->ShVs B (l++m) (vs++I)
 | [],_,_,_,h,k=>by simp only[ShVs]at h; subst h; exact k
 | s::l,m,vs,I,h,k=>by
  simp only[ShVs]at h;obtain⟨v,r,rfl,h1,h2⟩:=h;simp only[List.cons_append,ShVs];exact⟨v,r++I,rfl,h1,ShVs.append h2 k⟩
mutual
def okSh(P:Program):Nat->TypeId->List Sh->Bool
 | 0,_,_=>false
 | n+1,t,L=>match P.underlying t with
  | some (.int k)=>(match L with
   | [.int k']=>k == k'
   | _=>false)
  | some .bool=>(match L with
   | [.bool]=>true
   | _=>false)
  | some .string=>(match L with
   | [.str]=>true
   | _=>false)
  | some (.slice e)=>(match L with
   | [.slice l]=>Nat.beq (P.cellsOf e) l.length&&Nat.blt 0 l.length&&okSh P n e l
   | _=>false)
  | some (.struct fs)=>Nat.beq (P.cellsOf t) L.length&&okFs P n fs.toList L 0
  | _=>false
def okFs(P:Program):Nat->List Field->List Sh->Nat->Bool
 | 0,_,_,_=>false
 | _,[],L,_=>L.isEmpty
 | n+1,f::fs,L,off=>Nat.beq f.offset off&&Nat.ble (P.cellsOf f.type) L.length&&okSh P n f.type (L.take (P.cellsOf f.type))&&okFs P n fs (L.drop (P.cellsOf f.type)) (off+P.cellsOf f.type)
end
structure Bulk {H:Type}(b:DataW H->Nat):Prop where
 agg:∀ps,∀d∈ps,b d<=b (.agg ps)
 slice:∀es sp,∀d∈es,b d<=b (.slice es sp)
 len:∀es sp,es.length<=b (.slice es sp)
 str:∀l,l.length<=b (.lit (.string l))
theorem qiB{α β : Type}{f : α->Option β}:∀{l:List α}{m:List β},l.mapM f=some m->m.length=l.length/\∀(i:Nat) (x : α),l[i]?=some x->∃y,m[i]?=some y/\f x=some y
 | [],m,h=>by
  simp at h; subst h; simp
 | a::l,m,h=>by
  simp only[List.mapM_cons,Option.bind_eq_bind]at h;cases ha:f a with
  | none=>simp[ha]at h
  | some y =>
   cases I:l.mapM f with
   | none=>simp[ha,I]at h
   | some ys =>
    simp[ha,I]at h;subst h;obtain⟨h1,h2⟩:=qiB I;refine⟨by simp[h1],λi x hx=>?_⟩;cases i with
    | zero=>simp at hx; subst hx; exact⟨y,by simp,ha⟩
    | succ i=>simpa using h2 i x (by simpa using hx)
section
variable {H:Type}{enc:TypeId × Value->H}{P:Program}{w:World}{N:Num}{ι:Inj}{b:DataW H->Nat}{B:Nat}
theorem qhk{base:Nat}{a:Addr}{n:Nat}{cs:List Value}(h:w.cells? base a n=some cs):cs.length=n/\∀i,i<n->∃x,cs[i]?=some x/\w.cell? (a.add i)=some x:=by
 unfold World.cells? at h;split at h
 ·obtain⟨h1,h2⟩:=qiB h;refine⟨by simpa using h1,λi hi=>?_⟩;obtain⟨y,I,e⟩:=h2 i i (by simp[hi]);exact⟨y,I,e⟩
 ·cases h
theorem qig(a:Addr)(n:Nat):(a.add n).block=a.block:=by unfold Addr.add; split<;>rfl
theorem ql0(a:Addr)(n:Nat):(a.add n).off=a.off+n:=by
 unfold Addr.add; split
 ·rename_i h; simp_all
 ·rfl
theorem qoO{a:Addr}{x:Value}(h:w.cell? a=some x):a.spot=none/\∃c,roOf w a.block=some c/\c[a.off]?=some x:=by
 unfold World.cell? at h;split at h
 ·rename_i c e fz I;split at h
  ·cases h
  ·rename_i hs;refine⟨by simpa using hs,c,by simp[roOf,I],h⟩
 ·cases h
theorem qrB{l:List Sh}(n:Nat)(I:Nat->List Value)(h:∀i,i<n->∃vs,VRs N ι (roOf w) vs (I i)/\ShVs B l vs):∃rows:List (List V),rows.length=n/\VRrs N ι (roOf w) rows ((List.range n).map I)/\∀r∈rows,ShVs B l r:=by
 induction n with
 | zero=>exact⟨[],rfl,by simp[VRrs],by simp⟩
 | succ n J =>
  obtain⟨rows,h1,h2,U⟩:=J λi hi=>h i (by omega);obtain⟨vs,h4,h5⟩:=h n (by omega);refine⟨rows++[vs],by simp[h1],?_,λr hr=>?_⟩
  ·rw[List.range_succ,List.map_append];have key:∀{rs:List (List V)}{cs:List (List Value)},VRrs N ι (roOf w) rs cs->VRrs N ι (roOf w) (rs++[vs]) (cs++[I n]):=by
    intro rs;induction rs with
    | nil=>intro cs h; simp only[VRrs]at h; subst h; simp only[List.nil_append,VRrs]; exact⟨_,_,rfl,h4,rfl⟩
    | cons r rs J=>intro cs h; simp only[VRrs]at h; obtain⟨x,m,rfl,q1,q2⟩:=h; simp only[List.cons_append,VRrs]; exact⟨_,_,rfl,q1,J q2⟩
   exact key h2
  ·rcases Jaj.1 hr with hr|hr
   ·exact U r hr
   ·rw[Jah]at hr; subst hr; exact h5
section inv
variable {t:TypeId}{cs:List Value}{base fuel:Nat}{spare:Nat->Bool}{held:Bool}{d:DataW H}{ps:List MemPlace}
theorem qp2(J:P.underlying t=some .bool)(h:DataW.trod enc P w base spare held (fuel+1) t cs=some (d,ps)):∃I,cs=[.bool I]:=by
 unfold DataW.trod at h; rw[J]at h;split at h<;>first|(cases h; done)|simp_all
theorem qrY{k:IntKind}(I:P.underlying t=some (.int k))(h:DataW.trod enc P w base spare held (fuel+1) t cs=some (d,ps)):∃n,cs=[.int k n]/\(Lit.int k n).wf=true:=by
 unfold DataW.trod at h; rw[I]at h;split at h<;>first|(cases h; done)|skip
 all_goals simp_all
theorem qrX(I:P.underlying t=some .string)(h:DataW.trod enc P w base spare held (fuel+1) t cs=some (d,ps)):∃s:ByteArray,cs=[.string s]/\d=.lit (.string s.data.toList):=by
 unfold DataW.trod at h; rw[I]at h;split at h<;>first|(cases h; done)|skip
 all_goals simp_all
theorem qok{e:TypeId}(hu:P.underlying t=some (.slice e))(h:DataW.trod enc P w base spare held (fuel+1) t cs=some (d,ps)) :
  cs=[.slice none 0 0]\/∃a len cap es rest,cs=[.slice (some a) len cap]/\len<=cap/\d=.slice es rest/\es.length=len /\
   ∀i,i<len->∃ci I pi,w.cells? base (a.add (i * P.cellsOf e)) (P.cellsOf e)=some ci/\DataW.trod enc P w base spare held fuel e ci=some (I,pi)/\I∈es:=by
 unfold DataW.trod at h; rw[hu]at h;rcases cs with _|⟨v,_|⟨v2,r⟩⟩
 ·simp at h
 ·cases v with
  | slice p len cap =>
   cases p with
   | none=>left; rcases len with _|len<;>rcases cap with _|cap<;>simp at h ⊢
   | some a =>
    right;simp only at h;split at h
    ·rename_i U;simp only[Option.bind_eq_some_iff,Option.map_eq_some_iff]at h;obtain⟨es,h1,rest,_,h2⟩:=h;obtain⟨m1,m2⟩:=qiB h1;simp only[Prod.mk.injEq]at h2;refine⟨a,len,cap,es.map (·.1),rest.map (·.1),rfl,U.2.1,h2.1.symm,by simpa using m1,λi hi=>?_⟩;obtain⟨y,hy,e1⟩:=m2 i i (by simp[hi]);simp only[Option.bind_eq_some_iff]at e1;obtain⟨ci,e2,J⟩:=e1;exact⟨ci,y.1,y.2,e2,J,List.mem_map_of_mem (Jar hy)⟩
    ·cases h
  | _=>simp at h
 ·cases v<;>simp at h
theorem qmK{fs:Array Field}(J:P.underlying t=some (.struct fs))(h:DataW.trod enc P w base spare held (fuel+1) t cs=some (d,ps)) :
  cs.length=P.cellsOf t/\∃xs,(fs.toList.mapM λf=>DataW.trod enc P w base spare held fuel f.type ((cs.drop f.offset).take (P.cellsOf f.type)))=some xs/\d=.agg (xs.map (·.1)):=by
 unfold DataW.trod at h; rw[J]at h;split at h<;>first|(cases h; done)|skip
 all_goals simp_all
 obtain⟨h1,h2⟩:=h;obtain⟨a,h2,I,_⟩:=h2;exact⟨a,h2,I.symm⟩
end inv
mutual
theorem read_ok(hb:Bulk b):∀(k:Nat) (fuel:Nat) (t:TypeId) (L:List Sh) (base:Nat) (spare:Nat->Bool) (held:Bool) (cs:List Value) (d:DataW H) (ps:List MemPlace),okSh P k t L=true->DataW.trod enc P w base spare held fuel t cs=some (d,ps)->b d<=B ->
  ∃vs,VRs N ι (roOf w) vs cs/\ShVs B L vs
 | 0,_,_,_,_,_,_,_,_,_,h,_,_=>by simp[okSh]at h
 | k+1,0,_,_,_,_,_,_,_,_,_,h,_=>by simp[DataW.trod]at h
 | k+1,fuel+1,t,L,base,spare,held,cs,d,ps,hok,h,hd=>by
  unfold okSh at hok;cases hu:P.underlying t with
  | none=>rw[hu]at hok; cases hok
  | some u =>
   rw[hu]at hok;cases u with
   | bool =>
    simp only at hok;split at hok<;>try (cases hok; done)
    obtain⟨b',rfl⟩:=qp2 hu h;exact⟨[.bool b'],VRs.cons (by simp only[VR]) VRs.nil,by simp only[ShVs]; exact⟨_,_,rfl,by simp only[ShV]; exact⟨b',rfl⟩,rfl⟩⟩
   | int k' =>
    simp only at hok;split at hok<;>try (cases hok; done)
    rw[beq_iff_eq]at hok;subst hok;obtain⟨n,rfl,hn⟩:=qrY hu h;exact⟨[.int k' n],VRs.cons (by simp only[VR]) VRs.nil,by simp only[ShVs]; exact⟨_,_,rfl,by simp only[ShV]; exact⟨n,rfl,hn⟩,rfl⟩⟩
   | string =>
    simp only at hok;split at hok<;>try (cases hok; done)
    obtain⟨s,rfl,rfl⟩:=qrX hu h;exact⟨[.str s.data.toList],VRs.cons (by simp only[VR]; exact⟨s,rfl,rfl⟩) VRs.nil,by simp only[ShVs]; exact⟨_,_,rfl,by simp only[ShV]; exact⟨_,rfl,Jaf (hb.str _) hd⟩,rfl⟩⟩
   | slice e =>
    simp only at hok;split at hok<;>try (cases hok; done)
    rename_i l;simp only[Jad,Jas,Nat.blt_eq]at hok;obtain⟨⟨hn,hpos⟩,hok⟩:=hok;rcases qok hu h with rfl|⟨a,len,cap,es,rest,rfl,hlc,rfl,hes,hall⟩
    ·exact⟨[.nils],VRs.cons (by simp only[VR]) VRs.nil,by simp only[ShVs]; exact⟨_,_,rfl,by simp[ShV],rfl⟩⟩
    ·have hch:∀i,∃ci,i<len->w.cells? base (a.add (i * P.cellsOf e)) (P.cellsOf e)=some ci/\∃di pi,DataW.trod enc P w base spare held fuel e ci=some (di,pi)/\di∈es:=λi=>by
      by_cases hi:i<len
      ·obtain⟨ci,di,pi,q1,q2,q3⟩:=hall i hi;exact⟨ci,λ_=>⟨q1,di,pi,q2,q3⟩⟩
      ·exact⟨[],λh=>absurd h hi⟩
     obtain⟨cr,hcr⟩:=Classical.axiomOfChoice hch;obtain⟨rows,r1,r2,r3⟩:=qrB (N:=N) (ι:=ι) (w:=w) (B:=B) (l:=l) len cr λi hi=>by
      obtain⟨_,di,pi,q2,q3⟩:=hcr i hi;exact read_ok hb k fuel e l base spare held (cr i) di pi hok q2 (Jaf (hb.slice _ _ _ q3) hd)
     have hlB:rows.length<=B:=by rw[r1,<-hes]; exact Jaf (hb.len _ _) hd
     refine⟨[.slR rows false],VRs.cons ?_ VRs.nil,by simp only[ShVs]; exact⟨_,_,rfl,by simp only[ShV]; exact .inr ⟨rows,rfl,hlB,r3⟩,rfl⟩⟩;simp only[VR];refine⟨a,cap,by rw[r1],by omega,by simp,?_⟩
     by_cases h0:rows=[]
     ·exact .inl h0
     ·right;have hlen:0<len:=by rw[<-r1]; exact List.length_pos_iff.2 h0
      have hc0:=qhk (hcr 0 hlen).1;obtain⟨x0,_,hx0⟩:=hc0.2 0 (by omega);obtain⟨hs,c,hc,_⟩:=qoO hx0;have hblk:(a.add (0 * P.cellsOf e)).add 0=a:=by simp[Addr.add]
      rw[hblk]at hs hc;refine⟨hs,c,P.cellsOf e,(List.range len).map cr,hc,r2,λr hr=>?_,λi r hr j x hx=>?_⟩
      ·obtain⟨i,hi,rfl⟩:=Jak.1 hr;exact(qhk (hcr i (by simpa using hi)).1).1
      ·simp only[List.getElem?_map,Option.map_eq_some_iff]at hr;obtain⟨i',hi',rfl⟩:=hr;have hii:i<len/\i'=i:=by
        have h1:=(Jam.1 hi');obtain⟨q1,q2⟩:=h1;simp at q1 q2;exact⟨q1,q2.symm⟩
       obtain⟨hi2,rfl⟩:=hii;obtain⟨h1,h2⟩:=qhk (hcr i' hi2).1;have hj:j<P.cellsOf e:=by rw[<-h1]; exact(Jam.1 hx).1
       obtain⟨y,hy,hcell⟩:=h2 j hj;rw[hx]at hy; cases hy;obtain⟨_,c',hc',hx'⟩:=qoO hcell;rw[qig,qig]at hc';rw[ql0,ql0]at hx';rw[hc]at hc'; cases hc';exact hx'
   | struct fs =>
    simp only[Jad,Jas]at hok;obtain⟨hn,hok⟩:=hok;obtain⟨h1,xs,h2,rfl⟩:=qmK hu h;have:=fields_ok hb k fuel fs.toList L 0 base spare held cs xs hok (by simpa using h2) (λx hx=>Jaf (hb.agg _ _ (List.mem_map_of_mem hx)) hd) (by omega);simpa using this
   | _=>simp at hok
theorem fields_ok(hb:Bulk b):∀(k:Nat) (fuel:Nat) (fs:List Field) (L:List Sh) (off:Nat) (base:Nat) (spare:Nat->Bool) (held:Bool) (cs:List Value) (xs:List (DataW H × List MemPlace)),okFs P k fs L off=true ->
  (fs.mapM λf=>DataW.trod enc P w base spare held fuel f.type ((cs.drop f.offset).take (P.cellsOf f.type)))=some xs->(∀x∈xs,b x.1<=B)->cs.length=off+L.length ->
  ∃vs,VRs N ι (roOf w) vs (cs.drop off)/\ShVs B L vs
 | 0,_,_,_,_,_,_,_,_,_,h,_,_,_=>by simp[okFs]at h
 | k+1,fuel,[],L,off,base,spare,held,cs,xs,hok,h,hx,hl=>by
  simp only[okFs,List.isEmpty_iff]at hok;subst hok;rw[List.drop_eq_nil_of_le (by simp at hl; omega)];exact⟨[],VRs.nil,by simp only[ShVs]⟩
 | k+1,fuel,f::fs,L,off,base,spare,held,cs,xs,hok,h,hx,hl=>by
  simp only[okFs,Jad,Jas,Jat]at hok;obtain⟨⟨⟨ho,hle⟩,hok1⟩,hok2⟩:=hok;simp only[List.mapM_cons,Option.bind_eq_bind]at h;cases ha:DataW.trod enc P w base spare held fuel f.type ((cs.drop f.offset).take (P.cellsOf f.type))with
  | none=>simp[ha]at h
  | some y =>
   cases hm:fs.mapM λf=>DataW.trod enc P w base spare held fuel f.type ((cs.drop f.offset).take (P.cellsOf f.type))with
   | none=>simp[ha,hm]at h
   | some ys =>
    simp[ha,hm]at h;subst h;obtain⟨v1,q1,q2⟩:=read_ok hb k fuel f.type _ base spare held _ y.1 y.2 hok1 ha (hx y (by simp));obtain⟨v2,q3,q4⟩:=fields_ok hb k fuel fs _ _ base spare held cs ys hok2 hm (λx hx'=>hx x (by simp[hx'])) (by rw[List.length_drop]; omega);refine⟨v1++v2,?_,?_⟩
    ·have e:cs.drop off=(cs.drop off).take (P.cellsOf f.type)++cs.drop (off+P.cellsOf f.type):=by rw[<-List.drop_drop,List.take_append_drop]
     rw[e];rw[ho]at q1;exact q1.append q3
    ·rw[<-List.take_append_drop (P.cellsOf f.type) L];exact q2.append q4
end
end
section
variable {B:Nat}
theorem sl_of{α : Type}{f : α->List V}{l:List Sh}{Q : α->Prop}{v:V}(h:ShV B (.slice l) v)(hr:∀r,ShVs B l r->∃x,r=f x/\Q x):∃s:Sl α,v=s.enc f/\s.l.length<=B/\∀x∈s.l,Q x:=by
 simp only[ShV]at h;rcases h with rfl|⟨rows,rfl,U,I⟩
 ·exact⟨.nil,rfl,Nat.zero_le _,by simp⟩
 ·have key:∀rows:List (List V),(∀r∈rows,ShVs B l r)->∃xs:List α,rows=xs.map f/\∀x∈xs,Q x:=by
   intro rows;induction rows with
   | nil=>intro _; exact⟨[],rfl,by simp⟩
   | cons r rows ih =>
    intro h;obtain⟨xs,rfl,h1⟩:=ih λr hr=>h r (by simp[hr]);obtain⟨x,rfl,h2⟩:=hr r (h r (by simp));refine⟨x::xs,rfl,λy J=>?_⟩;rcases Jag.1 J with rfl|J
    ·exact h2
    ·exact h1 y J
  obtain⟨xs,rfl,h1⟩:=key rows I;exact⟨.of xs,rfl,by simpa using U,h1⟩
theorem one_i64{v:V}(h:ShV B (.int .i64) v):∃n:Int,v=.int .i64 n/\-9223372036854775808<=n/\n<=9223372036854775807:=by
 simp only[ShV]at h;obtain⟨n,rfl,hn⟩:=h;simp only[Lit.wf,Jad,Jai]at hn;exact⟨n,rfl,hn.1,hn.2⟩
structure PdB (B:Nat) (p:Pd):Prop where
 a:p.a.l.length<=B
 s:∀a∈p.a.l,a.l.length<=B/\∀s∈a.l,s.r.l.length<=B
 no:p.no.l.length<=B
structure GrB (B:Nat) (g:Gr):Prop where
 p:g.p.l.length<=B
 d:∀p∈g.p.l,PdB B p
 k:g.keys.l.length<=B
 s:∀k∈g.keys.l,k.length<=B
theorem GrB.rs{g:Gr}(h:GrB B g)(hB:B<1500000):∀p∈g.p.l,∀a∈p.a.l,∀s∈a.l,s.r.l.length<1500000:=λp I a ha s hs=>by
 have:=((h.d p I).s a ha).2 s hs; omega
end
section
variable {H:Type}{enc:TypeId × Value->H}{P:Program}{w:World}{N:Num}{ι:Inj}{b:DataW H->Nat}{B:Nat}{base k:Nat}{r:Reach}{spare:Nat->Bool}{held:Bool}{t:TypeId}{v:Value}{d:DataW H}{ps:List MemPlace}
theorem arg_one{s:Sh}(hb:Bulk b)(I:okSh P k t [s]=true)(hc:v.cells=#[v])(h:DataW.Trod enc P w 0 spare held t v d ps)(hd:b d<=B):∃u,VR N ι (roOf w) u v/\ShV B s u:=by
 obtain⟨fuel,h⟩:=h;obtain⟨vs,h1,h2⟩:=read_ok (N:=N) (ι:=ι) hb k fuel t [s] 0 spare held _ d ps I h hd;simp only[ShVs]at h2;obtain⟨u,_,rfl,J,rfl⟩:=h2;rw[hc]at h1;obtain⟨x,m,hx,U,_⟩:=VRs.cons_inv h1;simp at hx;obtain⟨rfl,_⟩:=hx;exact⟨u,U,J⟩
theorem cell_slice{e:TypeId}(J:P.underlying t=some (.slice e))(I:Value.okWide P w r base t v):v.cells=#[v]:=by
 unfold Value.okWide at I;rw[J]at I;simp only[Cell.okWide,J,Cell.ok]at I;cases v<;>simp at I<;>rfl
end
def shInt:List Sh:=[.int .i64]
theorem int_of{B:Nat}{r:List V}(h:ShVs B shInt r):∃x:Int,r=qaM x/\True:=by
 simp only[shInt,ShVs]at h;obtain⟨v1,_,rfl,h1,rfl⟩:=h;obtain⟨a,rfl,_⟩:=one_i64 h1;exact⟨a,rfl,trivial⟩
def chk1(P:Program)(N:Num)(f:Nat)(F:IFn):Bool :=
 match P.funcs[N.f f]? with
 | some fn=>(match fn.body with
  | some c=>Nat.beq fn.ntmps F.nt && !(fn.name == "runtime.NumGoroutine")&&okC P N F.nt F.body c&&okRes P F.res fn.results.toList
  | none=>false)
 | none=>false
def chkTo(P:Program)(N:Num)(AP:Prog):Nat->Nat->Bool
 | _,0=>true
 | lo,k+1=>(match AP.prim lo with
  | some _=>true
  | none=>match AP.fn lo with
   | some F=>chk1 P N lo F
   | none=>true)&&chkTo P N AP (lo+1) k
theorem chk_fn{P:Program}{N:Num}{AP:Prog}:∀{k lo:Nat},chkTo P N AP lo k=true->∀f F,lo<=f->f<lo+k->AP.prim f=none->AP.fn f=some F ->
  ∃fn c,P.funcs[N.f f]?=some fn/\fn.body=some c/\fn.ntmps=F.nt/\(fn.name == "runtime.NumGoroutine")=false/\okC P N F.nt F.body c=true/\okRes P F.res fn.results.toList=true
 | 0,lo,_,f,F,h1,h2,_,_=>by omega
 | k+1,lo,h,f,F,h1,h2,hp,hF=>by
  simp only[chkTo,Jad]at h
  by_cases e:f=lo
  ·subst e;have h:=h.1;rw[hp,hF]at h;simp only[chk1]at h;split at h
   ·rename_i fn hfn;split at h
    ·rename_i c hc;simp only[Jad,Jas,Bool.not_eq_true']at h;exact⟨fn,c,hfn,hc,h.1.1.1,h.1.1.2,h.1.2,h.2⟩
    ·cases h
   ·cases h
  ·exact chk_fn h.2 f F (by omega) (by omega) hp hF
variable {N:Num}{ι ι' ι'':Inj}{ro ro' ro'':RO}{P:Program}{h h' h'':Heap}{w w' w'':World}
structure SortLaw (P:Program) (F:FuncId) (tl:Array Value):Prop where
 some:∀(blk off cap:Nat) (zs:List Int) (w:World),Sort.Holds (Value.int .i64) w blk off zs.toArray->blk<w.heap.size->zs≠[]->zs.length<4611686018427387904 ->
  Calls P F (#[.slice (some ⟨blk,off,none⟩) zs.length cap]++tl) w λe w'=>e=.returned (.tuple #[])/\∃n os,w'=Sort.grow (Sort.putRow (Value.int .i64) (Sort.ahead w n) blk off (zs.mergeSort λx y=>decide (x<=y)).toArray) os
 none:∀(p:Option Addr) (cap:Nat) (w:World),Calls P F (#[.slice p 0 cap]++tl) w λe w'=>e=.returned (.tuple #[])/\w'=w
theorem qg4(x:Int):∀l,(insI x l).Perm (x::l)
 | []=>.refl _
 | y::l=>by
  simp only[insI];cases leB x y with
  | true=>exact .refl _
  | false=>exact((qg4 x l).cons y).trans (.swap x y l)
theorem qfs:∀l,(qa8 l).Perm l
 | []=>.refl _
 | x::l=>(qg4 x _).trans ((qfs l).cons x)
theorem qon(x:Int):∀{l:List Int},l.Pairwise (·<=·)->(insI x l).Pairwise (·<=·)
 | [],_=>by simp[insI]
 | y::l,h=>by
  rw[List.pairwise_cons]at h;simp only[insI,qgZ]
  by_cases c:x<=y
  ·simp only[c,decide_true,cond];rw[List.pairwise_cons];refine⟨λz I=>?_,List.pairwise_cons.2 h⟩;rcases Jag.1 I with rfl|I
   ·exact c
   ·exact Int.le_trans c (h.1 z I)
  ·simp only[c,decide_false,cond];rw[List.pairwise_cons];refine⟨λz I=>?_,qon x h.2⟩;rcases Jag.1 ((qg4 x l).mem_iff.1 I)with rfl|I
   ·omega
   ·exact h.1 z I
theorem qlc:∀l:List Int,(qa8 l).Pairwise (·<=·)
 | []=>by simp[qa8]
 | x::l=>qon x (qlc l)
theorem qkv(l:List Int):(l.mergeSort λx y=>decide (x<=y))=qa8 l:=by
 have h1:(l.mergeSort λx y=>decide (x<=y)).Pairwise (λa b=>decide (a<=b)=true):=List.pairwise_mergeSort (λa b c=>by simp; omega) (λa b=>by simp; omega) l;refine((List.mergeSort_perm l _).trans (qfs l).symm).eq_of_pairwise (le:=λa b=>decide (a<=b)=true) (λa b _ _=>by simp; omega) h1 ?_;exact(qlc l).imp λh=>by simpa using h
theorem qgw(l:List Int):(qa8 l).length=l.length:=(qfs l).length_eq
theorem qlh:∀{rs:List (List V)}{l:List Int},qg2 rs=some l->rs=qab l
 | [],l,h=>by simp[qg2]at h; subst h; rfl
 | r::rs,l,h=>by
  simp only[qg2]at h;split at h
  ·split at h
   ·rename_i n J I;cases h;rw[qlh I]; rfl
   ·cases h
  ·cases h
section
variable {CR:Nat->IC->Code->Prop}
theorem qja{F:FuncId}{tl:Array Value}(hS:SortLaw P F tl){mk:Nat}{s:V}{x:Value}{z6:List VH}(zn:mk<=h.n)(hh:HR N CR ι ro h w)(hv:VR N ι ro s x)(J:qed mk [s] h=some z6) :
  qcX P F (#[x]++tl) w λv w'=>∃r∈z6,∃ι' ro',Grow h.n mk ι ro h w ι' ro' r.h w'/\HR N CR ι' ro' r.h w'/\VR N ι' ro' r.v v:=by
 have U:∀{ι ro},VR N ι ro (.tup []) (.tuple #[]):=λ{ι ro}=>by simp only[VR]; exact⟨#[],rfl,VRs.nil⟩
 unfold qed at J;split at J
 ·rename_i e;injection e with e;subst e;cases J;simp only[VR]at hv; subst hv;refine(hS.none none 0 w).mono λe w'=>?_;rintro⟨rfl,rfl⟩;exact⟨_,Jah.2 rfl,ι,ro,Grow.refl,hh,U⟩
 ·rename_i id lo len e f es;injection es with es;subst es;split at J
  ·rename_i rs hg;obtain⟨hc,z1⟩:=qaG J;clear J;simp only[Jad,Jas,Jat,Nat.blt_eq]at hc;obtain⟨⟨⟨⟨rfl,rfl⟩,rfl⟩,zr⟩,zm⟩:=hc;split at z1
   ·rename_i l hl;cases z1;have z9:=qlh hl;have zh:rs.length=l.length:=by rw[z9]; simp[qab]
    simp only[VR]at hv;obtain⟨wn,za,z0,ad,cap,rfl,zk,_,zd⟩:=hv;obtain⟨zo,zt,z5,c,I,hO⟩:=hh.live id _ hg;rw[za]at z5; cases z5;obtain⟨cells,elem,fz,rfl,g2,g3,g4,g5⟩:=hO;rw[z0]at g4 g5
    by_cases z7:l=[]
    ·subst z7;have:rs=[]:=by rw[z9]; rfl
     subst this;refine(hS.none (some ad) cap w).mono λe w'=>?_;rintro⟨rfl,rfl⟩;refine⟨_,Jah.2 rfl,ι,ro,⟨Ext.refl _ _ _,qbM.refl _,Jac _,λi hi=>?_⟩,hh.set hg za (λ_ _=>rfl) I ⟨cells,elem,fz,rfl,g2,g3,by rw[z0]; exact g4,by rw[z0]; exact g5⟩,U⟩;show(h.set id _).get i=_;rw[qBp,Jaa (by omega)]
    ·have zq:0<l.length:=List.length_pos_iff.2 z7;rcases zd with ⟨hz,_⟩|⟨zf,zl⟩
     ·omega
     ·have zb:ad=⟨wn.blk,wn.base,none⟩:=by rw[zf]; simp[Plc.at]
      subst zb;have z2:wn.blk<w.heap.size:=(Array.getElem?_eq_some_iff.1 I).1;have z3:∀j,j<l.length->cells[wn.base+j]?=some (.int .i64 (l[j]?.getD 0)):=λj hj=>by
       obtain⟨y,hy,ze⟩:=g5.2 j [.int .i64 (l[j]?.getD 0)] (by rw[z9]; simp[qab,Jal hj]) 0 (.int .i64 (l[j]?.getD 0)) (by simp);simp only[VR]at ze;subst ze;rw[<-hy]; congr 1; omega
      have hH:Sort.Holds (Value.int .i64) w wn.blk wn.base l.toArray:=by
       intro j hj;have zc:j<l.length:=by simpa using hj
       refine⟨?_,?_⟩
       ·simp only[World.cell?,I];rw[z3 j zc];simp
       ·simp only[World.frozen?,I];have:=(Array.getElem?_eq_some_iff.1 (z3 j zc)).1;rcases g3 with g3|g3
        ·simp; omega
        ·simp; omega
      have zi:rs.length=l.length:=zh;rw[zi];refine(hS.some wn.blk wn.base cap l w hH z2 z7 (by omega)).mono λe w'=>?_;rintro⟨rfl,n,os,rfl⟩;rw[qkv];have z4:∀b,b≠wn.blk->b<w.heap.size->(Sort.grow (Sort.putRow (Value.int .i64) (Sort.ahead w n) wn.blk wn.base (qa8 l).toArray) os).heap[b]?=w.heap[b]?:=λb hb zg=>by
       simp only[Sort.grow,Sort.putRow,Sort.mapBlock,Sort.ahead,Array.getElem?_append,Array.size_modify,zg,if_true,Array.getElem?_modify];rw[Jaa (λe=>hb e.symm)]
      have z8:(Sort.grow (Sort.putRow (Value.int .i64) (Sort.ahead w n) wn.blk wn.base (qa8 l).toArray) os).heap[wn.blk]?=some (.cells (Sort.putCells (Value.int .i64) wn.base (qa8 l).toArray cells) elem fz):=by
       simp only[Sort.grow,Sort.putRow,Sort.mapBlock,Sort.ahead,Array.getElem?_append,Array.size_modify,z2,if_true,Array.getElem?_modify,I,Option.map_some,Sort.onCells]
      have zj:w.heap.size<=(Sort.grow (Sort.putRow (Value.int .i64) (Sort.ahead w n) wn.blk wn.base (qa8 l).toArray) os).heap.size:=by
       simp[Sort.grow,Sort.putRow,Sort.mapBlock,Sort.ahead]
      refine⟨_,Jah.2 rfl,ι,ro,⟨Ext.refl _ _ _,⟨rfl,rfl,rfl,(by simp[Sort.grow,Sort.putRow,Sort.mapBlock,Sort.ahead]),zj⟩,Jac _,λi hi=>?_⟩,?_,U⟩
      ·show(h.set id _).get i=_;rw[qBp,Jaa (by omega)]
      ·
       have h1:HR N CR ι ro (h.set id (.rows (qab (qa8 l)))) { w with heap:=w.heap.setIfInBounds wn.blk (.cells (Sort.putCells (Value.int .i64) wn.base (qa8 l).toArray cells) elem fz) }:=by
        refine hh.set hg za (λb hb=>?_) (c:=.cells (Sort.putCells (Value.int .i64) wn.base (qa8 l).toArray cells) elem fz) (by simp[z2]) ?_
        ·simp only[Array.getElem?_setIfInBounds]; rw[Jaa (λe=>hb e.symm)]
        ·refine⟨_,elem,fz,rfl,by simp[Sort.putCells,g2],by simpa[Sort.putCells]using g3,?_,?_⟩
         ·simp only[qab,List.length_map,qgw,z0]; omega
         ·rw[z0];refine⟨λr hr=>by simp only[qab,Jak]at hr; obtain⟨_,_,rfl⟩:=hr; rfl,λi r hr j v hv=>?_⟩;simp only[qab,List.getElem?_map,Option.map_eq_some_iff]at hr;obtain⟨z,hz,rfl⟩:=hr;have hi:i<l.length:=by rw[<-qgw l]; exact(Jam.1 hz).1
          cases j with
          | succ j=>simp at hv
          | zero =>
           simp at hv; subst hv;refine⟨.int .i64 z,?_,by simp only[VR]⟩;have zp:=(Array.getElem?_eq_some_iff.1 (z3 i hi)).1;rw[show wn.base+i * 1+0=wn.base+i by omega];simp only[Sort.putCells,Array.getElem?_mapIdx,z3 i hi,Option.map_some];rw[Jab ⟨by omega,by simp[qgw]; omega⟩];have:(qa8 l).toArray[wn.base+i-wn.base]! = z:=by
            rw[show wn.base+i-wn.base=i by omega];simp[hz]
           rw[this]
       refine h1.same λb hb=>?_;simp only[Array.size_setIfInBounds]at hb
       by_cases eb:b=wn.blk
       ·subst eb; rw[z8]; simp[z2]
       ·rw[z4 b eb hb]; simp only[Array.getElem?_setIfInBounds]; rw[Jaa (λe=>eb e.symm)]
   ·cases z1
  ·cases J
 ·cases J
end
theorem sortPrim_ok{f:Nat}{fn:Func}{c:Code}(hf:P.funcs[N.f f]?=some fn)(hname:fn.name≠ "runtime.NumGoroutine")(hb:fn.body=some c)(hS:SortLaw P (N.f f) #[]):qke P N f qed:=by
 intro mk ι ro h w args xs outs hlim hh hargs hev;have hent:(callFunc (N.f f) xs).run P w=.ok (.enter (N.f f) xs) w:=by simp[callFunc,hf,hname,hb]
 have:∃s,args=[s]:=by
  unfold qed at hev;split at hev
  ·exact⟨_,rfl⟩
  ·exact⟨_,rfl⟩
  ·cases hev
 obtain⟨s,rfl⟩:=this;obtain⟨x,r,hx,h1,h2⟩:=VRs.cons_inv hargs;have h2:=VRs.nil_inv h2;subst h2;have hxs:xs=#[x]++#[]:=Array.ext' (by simpa using hx);refine⟨_,w,hent,?_⟩;rw[hxs];exact qja hS hlim hh h1 hev
theorem sortFunc_ok{f:Nat}{fn:Func}{c:Code}(hf:P.funcs[N.f f]?=some fn)(hname:fn.name≠ "runtime.NumGoroutine")(hb:fn.body=some c)(hS:SortLaw P (N.f f) #[.func (.func (N.f 227)) #[] #[]]):qke P N f qby:=by
 intro mk ι ro h w args xs outs hlim hh hargs hev;have hent:(callFunc (N.f f) xs).run P w=.ok (.enter (N.f f) xs) w:=by simp[callFunc,hf,hname,hb]
 unfold qby at hev;split at hev
 ·rename_i s;obtain⟨x1,x2,hx,h1,h2⟩:=qCC hargs;simp only[VR]at h2;obtain⟨a',b',rfl,ha,hb'⟩:=h2;have ea:a'=#[]:=Array.ext' (by simpa using VRs.nil_inv ha);have eb:b'=#[]:=Array.ext' (by simpa using VRs.nil_inv hb');subst ea eb;have hxs:xs=#[x1]++#[.func (.func (N.f 227)) #[] #[]]:=Array.ext' (by simpa using hx);refine⟨_,w,hent,?_⟩;rw[hxs];exact qja hS hlim hh h1 hev
 ·cases hev
variable {N:Num}{ι ι' ι'':Inj}{ro ro' ro'':RO}{P:Program}{h h' h'':Heap}{w w' w'':World}
theorem qhZ(c:Nat)(s:ByteArray):∀(l:List UInt8) (k:Nat),s.data.toList.drop k=l ->
  (match ((List.range' k l.length).find? λi=>(s[i]!).toNat == c)with|some i=>goInt i|none=>goInt (-1))=.int .i64 (qkJ c l k)
 | [],k,h=>by simp[qkJ,goInt]
 | x::l,k,h=>by
  have hx:s.data.toList[k]?=some x:=by
   have:(s.data.toList.drop k)[0]?=some x:=by rw[h]; rfl
   rw[List.getElem?_drop]at this; simpa using this
  have hk:k<s.size:=by have:=(Jam.1 hx).1; simpa using this
  have hs:s[k]! = x:=by
   rw[getElem!_pos s k hk];rw[Array.getElem?_toList]at hx;exact(Array.getElem?_eq_some_iff.1 hx).2
  have I:s.data.toList.drop (k+1)=l:=by
   have:(s.data.toList.drop k).drop 1=l:=by rw[h]; rfl
   rw[List.drop_drop]at this; exact this
  rw[List.length_cons,List.range'_succ,List.find?_cons,hs]
  by_cases e:x.toNat=c
  ·simp[e,qkJ,goInt]
  ·have e1:(x.toNat == c)=false:=by simpa using e
   have e2:Nat.beq x.toNat c=false:=by cases hb:Nat.beq x.toNat c<;>simp at hb ⊢; exact e hb
   rw[e1];simp only[qkJ,e2,cond];exact qhZ c s l (k+1) I
theorem indexByte_ok{f:Nat}{fn:Func}(hf:P.funcs[N.f f]?=some fn)(hname:fn.name≠ "runtime.NumGoroutine")(hb:fn.body=none)(hn:Extern.findNext fn=none)(he:Extern.find fn=some Extern.BytealgIndexByte.indexByte):qke P N f qc4:=by
 intro mk ι ro h w args xs outs hlim hh hargs hev;unfold qc4 at hev;split at hev
 ·rename_i s c;obtain⟨hc,hev⟩:=qaG hev;cases hev;rw[Nat.blt_eq]at hc;obtain⟨x1,x2,hx,h1,h2⟩:=qCC hargs;simp only[VR]at h1 h2;obtain⟨s',rfl,hs⟩:=h1;subst h2;have hxs:xs=#[.string s',.int .u8 (.ofNat c)]:=Array.ext' (by simpa using hx);subst hxs;have hspec:=qhZ c s' s 0 (by simpa using hs);have hlen:s.length=s'.size:=by rw[<-hs]; rfl
  refine⟨.value (.int .i64 (qkJ c s 0)),w,?_,⟨_,Jah.2 rfl,ι,ro,Grow.refl,hh,by simp only[VR]⟩⟩;rw[<-hspec,hlen,<-List.range_eq_range'];have hix:(Extern.BytealgIndexByte.indexByte #[.string s',.int .u8 (.ofNat c)]).run P w=.ok (match ((List.range s'.size).find? λi=>s'[i]! == c.toUInt8)with|some i=>goInt i|none=>goInt (-1)) w:=by
   show(do match (List.range s'.size).find? (λi=>s'[i]! == c.toUInt8)with|some i=>pure (goInt i)|none=>pure (goInt (-1)):Sem Value).run P w=_;split<;>rfl
  have hc8:(λi:Nat=>s'[i]! == c.toUInt8)=λi:Nat=>(s'[i]!).toNat == c:=by
   funext i;rw[Bool.eq_iff_iff];simp only[beq_iff_eq,<-UInt8.toNat_inj,Nat.toUInt8_eq,UInt8.toNat_ofNat'];omega
  rw[hc8]at hix;simp[callFunc,hf,hname,hb,hn,he];rw[show(Value.int IntKind.u8 (c:Int))=Value.int IntKind.u8 (Int.ofNat c) from rfl,hix];rfl
 ·cases hev
variable {N:Num}{ι:Inj}{ro:RO}{P:Program}{h:Heap}{w:World}
def flatE:List En->List Value
 | []=>[]
 | e::l=>.int .i64 e.1::.int .i64 e.2::flatE l
@[simp]theorem qoA:∀l:List En,(flatE l).length=l.length * 2
 | []=>rfl
 | e::l=>by simp[flatE,qoA l]; omega
theorem flatE_get:∀(l:List En) (i:Nat),i<l.length->(flatE l)[i * 2]?=some (.int .i64 (lat l i).1)/\(flatE l)[i * 2+1]?=some (.int .i64 (lat l i).2)
 | [],i,h=>by simp at h
 | e::l,0,_=>by simp[flatE,lat]
 | e::l,i+1,h=>by
  have:=flatE_get l i (by simpa using h);rw[show(i+1) * 2=i * 2+1+1 by omega];simpa[flatE,lat]using this
structure SortLawE (P:Program) (F C:FuncId):Prop where
 some:∀(blk off cap:Nat) (l:List En) (w:World),Sort.Holds id w blk off (flatE l).toArray->blk<w.heap.size->l≠[]->l.length<4611686018427387904 ->
  Calls P F #[.slice (some ⟨blk,off,none⟩) l.length cap,.func (.func C) #[] #[]] w λe w'=>e=.returned (.tuple #[])/\∃n os,w'=Sort.grow (Sort.putRow id (Sort.ahead w n) blk off (flatE (qbd l)).toArray) os
 none:∀(p:Option Addr) (cap:Nat) (w:World),Calls P F #[.slice p 0 cap,.func (.func C) #[] #[]] w λe w'=>e=.returned (.tuple #[])/\w'=w
theorem qoI:∀{rs:List (List V)}{l:List En},qkK rs=some l->rs=qag l
 | [],l,h=>by simp[qkK]at h; subst h; rfl
 | r::rs,l,h=>by
  simp only[qkK]at h;split at h
  ·split at h
   ·rename_i a b J I;cases h;rw[qoI I]; rfl
   ·cases h
  ·cases h
section
variable {CR:Nat->IC->Code->Prop}
theorem qmh{F C:FuncId}(hS:SortLawE P F C){mk:Nat}{s:V}{x:Value}{z9:List VH}(zw:mk<=h.n)(hh:HR N CR ι ro h w)(hv:VR N ι ro s x)(J:qeP mk s h=some z9) :
  qcX P F #[x,.func (.func C) #[] #[]] w λv w'=>∃r∈z9,∃ι' ro',Grow h.n mk ι ro h w ι' ro' r.h w'/\HR N CR ι' ro' r.h w'/\VR N ι' ro' r.v v:=by
 have U:∀{ι ro},VR N ι ro (.tup []) (.tuple #[]):=λ{ι ro}=>by simp only[VR]; exact⟨#[],rfl,VRs.nil⟩
 unfold qeP at J;split at J
 ·cases J;simp only[VR]at hv; subst hv;refine(hS.none none 0 w).mono λe w'=>?_;rintro⟨rfl,rfl⟩;exact⟨_,Jah.2 rfl,ι,ro,Grow.refl,hh,U⟩
 ·rename_i id lo len e f;split at J
  ·rename_i rs hg;obtain⟨hc,z1⟩:=qaG J;clear J;simp only[Jad,Jas,Jat,Nat.blt_eq]at hc;obtain⟨⟨⟨⟨rfl,rfl⟩,rfl⟩,zz⟩,zv⟩:=hc;split at z1
   ·rename_i l hl;cases z1;have zf:=qoI hl;have zp:rs.length=l.length:=by rw[zf]; simp[qag]
    simp only[VR]at hv;obtain⟨wn,zg,z0,ad,cap,rfl,zt,_,zi⟩:=hv;obtain⟨zx,y0,z8,c,I,hO⟩:=hh.live id _ hg;rw[zg]at z8; cases z8;obtain⟨cells,elem,fz,rfl,g2,g3,g4,g5⟩:=hO;rw[z0]at g4 g5
    by_cases zd:l=[]
    ·subst zd;have:rs=[]:=by rw[zf]; rfl
     subst this;refine(hS.none (some ad) cap w).mono λe w'=>?_;rintro⟨rfl,rfl⟩;refine⟨_,Jah.2 rfl,ι,ro,⟨Ext.refl _ _ _,qbM.refl _,Jac _,λi hi=>?_⟩,hh.set hg zg (λ_ _=>rfl) I ⟨cells,elem,fz,rfl,g2,g3,by rw[z0]; exact g4,by rw[z0]; exact g5⟩,U⟩;show(h.set id _).get i=_;rw[qBp,Jaa (by omega)]
    ·have zy:0<l.length:=List.length_pos_iff.2 zd;rcases zi with ⟨hz,_⟩|⟨zm,zu⟩
     ·omega
     ·have zh:ad=⟨wn.blk,wn.base,none⟩:=by rw[zm]; simp[Plc.at]
      subst zh;have z2:wn.blk<w.heap.size:=(Array.getElem?_eq_some_iff.1 I).1;have z6:∀i,i<l.length->rs[i]?=some [.int .i64 (lat l i).1,.int .i64 (lat l i).2]:=λi hi=>by
       rw[zf]; simp[qag,qaz hi]
      have zo:∀i,i<l.length->cells[wn.base+i * 2]?=some (.int .i64 (lat l i).1)/\cells[wn.base+i * 2+1]?=some (.int .i64 (lat l i).2):=λi hi=>by
       obtain⟨y,hy,zj⟩:=g5.2 i _ (z6 i hi) 0 (.int .i64 (lat l i).1) (by simp);obtain⟨y',zr,z7⟩:=g5.2 i _ (z6 i hi) 1 (.int .i64 (lat l i).2) (by simp);simp only[VR]at zj z7;subst zj z7;exact⟨hy,zr⟩
      have zb:∀(m:List En) (j:Nat),j<m.length * 2->(flatE m)[j]?=some (if j % 2=0 then .int .i64 (lat m (j / 2)).1 else .int .i64 (lat m (j / 2)).2):=λm j hj=>by
       have h2:=flatE_get m (j / 2) (by omega);rcases Nat.mod_two_eq_zero_or_one j with e|e
       ·rw[Jab e,<-h2.1]; congr 1; omega
       ·rw[Jaa (by omega),<-h2.2]; congr 1; omega
      have za:∀j,j<l.length * 2->cells[wn.base+j]?=(flatE l)[j]?:=λj hj=>by
       rw[zb l j hj];have h2:=zo (j / 2) (by omega);rcases Nat.mod_two_eq_zero_or_one j with e|e
       ·rw[Jab e,<-h2.1]; congr 1; omega
       ·rw[Jaa (by omega),<-h2.2]; congr 1; omega
      have hH:Sort.Holds _root_.id w wn.blk wn.base (flatE l).toArray:=by
       intro j hj;have z3:j<l.length * 2:=by simpa using hj
       refine⟨?_,?_⟩
       ·simp only[World.cell?,I];rw[za j z3];have:j<(flatE l).length:=by simpa using z3
        simp[Jal this,getElem!_pos,this]
       ·simp only[World.frozen?,I];have hx:j<(flatE l).length:=by simpa using z3
        have:=za j z3;rw[Jal hx]at this;have:=(Array.getElem?_eq_some_iff.1 this).1;rcases g3 with g3|g3
        ·simp; omega
        ·simp; omega
      rw[zp];refine(hS.some wn.blk wn.base cap l w hH z2 zd (by omega)).mono λe w'=>?_;rintro⟨rfl,n,os,rfl⟩;have z4:∀b,b≠wn.blk->b<w.heap.size->(Sort.grow (Sort.putRow _root_.id (Sort.ahead w n) wn.blk wn.base (flatE (qbd l)).toArray) os).heap[b]?=w.heap[b]?:=λb hb zn=>by
       simp only[Sort.grow,Sort.putRow,Sort.mapBlock,Sort.ahead,Array.getElem?_append,Array.size_modify,zn,if_true,Array.getElem?_modify];rw[Jaa (λe=>hb e.symm)]
      have ze:(Sort.grow (Sort.putRow _root_.id (Sort.ahead w n) wn.blk wn.base (flatE (qbd l)).toArray) os).heap[wn.blk]?=some (.cells (Sort.putCells _root_.id wn.base (flatE (qbd l)).toArray cells) elem fz):=by
       simp only[Sort.grow,Sort.putRow,Sort.mapBlock,Sort.ahead,Array.getElem?_append,Array.size_modify,z2,if_true,Array.getElem?_modify,I,Option.map_some,Sort.onCells]
      have zq:w.heap.size<=(Sort.grow (Sort.putRow _root_.id (Sort.ahead w n) wn.blk wn.base (flatE (qbd l)).toArray) os).heap.size:=by
       simp[Sort.grow,Sort.putRow,Sort.mapBlock,Sort.ahead]
      refine⟨_,Jah.2 rfl,ι,ro,⟨Ext.refl _ _ _,⟨rfl,rfl,rfl,(by simp[Sort.grow,Sort.putRow,Sort.mapBlock,Sort.ahead]),zq⟩,Jac _,λi hi=>?_⟩,?_,U⟩
      ·show(h.set id _).get i=_;rw[qBp,Jaa (by omega)]
      ·have h1:HR N CR ι ro (h.set id (.rows (qag (qbd l)))) { w with heap:=w.heap.setIfInBounds wn.blk (.cells (Sort.putCells _root_.id wn.base (flatE (qbd l)).toArray cells) elem fz) }:=by
        refine hh.set hg zg (λb hb=>?_) (c:=.cells (Sort.putCells _root_.id wn.base (flatE (qbd l)).toArray cells) elem fz) (by simp[z2]) ?_
        ·simp only[Array.getElem?_setIfInBounds]; rw[Jaa (λe=>hb e.symm)]
        ·refine⟨_,elem,fz,rfl,by simp[Sort.putCells,g2],by simpa[Sort.putCells]using g3,?_,?_⟩
         ·simp only[qag,List.length_map,qbR,z0]; omega
         ·rw[z0];refine⟨λr hr=>by simp only[qag,Jak]at hr; obtain⟨_,_,rfl⟩:=hr; rfl,λi r hr j v hv=>?_⟩;simp only[qag,List.getElem?_map,Option.map_eq_some_iff]at hr;obtain⟨z,hz,rfl⟩:=hr;have hi:i<l.length:=by rw[<-qbR l]; exact(Jam.1 hz).1
          have zc:i<(qbd l).length:=by rw[qbR]; exact hi
          have zl:lat (qbd l) i=z:=by have:=qaz zc; rw[hz]at this; injection this with this; exact this.symm
          have z5:∀j,j<l.length * 2->(Sort.putCells _root_.id wn.base (flatE (qbd l)).toArray cells)[wn.base+j]?=(flatE (qbd l))[j]?:=λj hj=>by
           have hx:j<(flatE l).length:=by simpa using hj
           have zk:j<(flatE (qbd l)).length:=by simpa[qbR]using hj
           have h3:=za j hj;rw[Jal hx]at h3;simp only[Sort.putCells,Array.getElem?_mapIdx,h3,Option.map_some];rw[Jab ⟨by omega,by simp[qbR]; omega⟩];rw[show wn.base+j-wn.base=j by omega,Jal zk];simp[Jal zk]
          match j with
          | 0 =>
           simp at hv; subst hv;refine⟨.int .i64 z.1,?_,by simp only[VR]⟩;rw[show wn.base+i * 2+0=wn.base+i * 2 by omega,z5 _ (by omega),(flatE_get _ i zc).1,zl]
          | 1 =>
           simp at hv; subst hv;refine⟨.int .i64 z.2,?_,by simp only[VR]⟩;rw[show wn.base+i * 2+1=wn.base+(i * 2+1) by omega,z5 _ (by omega),(flatE_get _ i zc).2,zl]
          | j+2=>simp at hv
       refine h1.same λb hb=>?_;simp only[Array.size_setIfInBounds]at hb
       by_cases eb:b=wn.blk
       ·subst eb; rw[ze]; simp[z2]
       ·rw[z4 b eb hb]; simp only[Array.getElem?_setIfInBounds]; rw[Jaa (λe=>eb e.symm)]
   ·cases z1
  ·cases J
 ·cases J
end
theorem sortE_ok{f c:Nat}{fn:Func}{cd:Code}(hf:P.funcs[N.f f]?=some fn)(hname:fn.name≠ "runtime.NumGoroutine")(hb:fn.body=some cd)(hS:SortLawE P (N.f f) (N.f c)):qke P N f (qbz c):=by
 intro mk ι ro h w args xs outs hlim hh hargs hev;have hent:(callFunc (N.f f) xs).run P w=.ok (.enter (N.f f) xs) w:=by simp[callFunc,hf,hname,hb]
 unfold qbz at hev;split at hev
 ·rename_i s c';obtain⟨hc,hev2⟩:=qaG hev;rw[Jas]at hc;subst hc;obtain⟨x1,x2,hx,h1,h2⟩:=qCC hargs;simp only[VR]at h2;obtain⟨a',b',rfl,ha,hb'⟩:=h2;have ea:a'=#[]:=Array.ext' (by simpa using VRs.nil_inv ha);have eb:b'=#[]:=Array.ext' (by simpa using VRs.nil_inv hb');subst ea eb;have hxs:xs=#[x1,.func (.func (N.f c')) #[] #[]]:=Array.ext' (by simpa using hx);refine⟨_,w,hent,?_⟩;rw[hxs];exact qmh hS hlim hh h1 hev2
 ·cases hev
open Go Pr Go.RowKit
set_option maxRecDepth 10000
def PRn:Prog:=⟨λi=>match prims i with
 | some _=>none
 | none=>PR.fn i,λ_=>none,Pr.meths⟩
theorem PRn_link{P:Program}{N:Num}(hN:∀t u,N.t t=N.t u->t=u)(mixed:P.follows .mixedOrders=true)(meth:MethOK P N PR.meth)
  (hfn:∀f F,PR.prim f=none->PR.fn f=some F->∃fn c,P.funcs[N.f f]?=some fn/\fn.body=some c/\fn.ntmps=F.nt/\(fn.name == "runtime.NumGoroutine")=false/\okC P N F.nt F.body c=true/\okRes P F.res fn.results.toList=true):Link P N PRn where
 hN:=hN
 mixed:=mixed
 meth:=meth
 fn:=λf F _ hF=>by
  simp only[PRn]at hF;cases hp:prims f with
  | some p=>rw[hp]at hF; cases hF
  | none=>rw[hp]at hF; exact hfn f F hp hF
 prim:=λf p h=>by cases h
def cfE(a b:En):Int:=if Lib.compareInt a.1 b.1=0 then Lib.compareInt a.2 b.2 else Lib.compareInt a.1 b.1
def encE(e:En):List Value:=[.int .i64 e.1,.int .i64 e.2]
def ltC(a b:En):Bool:=decide (cfE a b<0)
theorem cfE_lt(a b:En):ltC a b = !leE b a:=by
 unfold ltC cfE Lib.compareInt;cases h:leE b a with
 | true =>
  rw[leE_iff]at h
  (repeat' split)<;>simp<;>omega
 | false =>
  have:¬leE b a=true:=by simp[h]
  rw[leE_iff]at this
  (repeat' split)<;>simp<;>omega
theorem merge_sortE(l:List En):(l.mergeSort λx y=>!ltC y x)=qbd l:=by
 have e:(λx y:En=>!ltC y x)=leE:=by
  funext x y; rw[cfE_lt]; simp
 rw[e];have h1:(l.mergeSort leE).Pairwise (λa b=>leE a b=true):=List.pairwise_mergeSort (le:=leE) (λa b c=>qjD) (λa b=>by
  cases h:leE a b with
  | true=>rfl
  | false=>simpa using qjE h) l
 refine((List.mergeSort_perm l _).trans (qc0 l).symm).eq_of_pairwise (le:=λa b=>leE a b=true) (λa b _ _ h k=>?_) h1 (qeO l);rw[leE_iff]at h k;exact Prod.ext (by omega) (by omega)
theorem qp6{W I:World}(J:qbM W I)(hk:∀(b:Nat) (o:Go.Obj),W.heap[b]?=some o->I.heap[b]?=some o):∃q os,I=Sort.grow (W.drewN q) os:=by
 refine⟨I.drawn-W.drawn,I.heap.extract W.heap.size I.heap.size,?_⟩;have hh:I.heap=W.heap++I.heap.extract W.heap.size I.heap.size:=by
  refine Array.ext_getElem? λi=>?_
  by_cases c:i<W.heap.size
  ·rw[Array.getElem?_append_left c];have:=hk i _ (Array.getElem?_eq_getElem c);rw[this,Array.getElem?_eq_getElem c]
  ·have hs:=J.size;rw[Array.getElem?_append_right (by omega),Array.getElem?_extract];split
   ·congr 1; omega
   ·exact Array.getElem?_eq_none (by omega)
 have hd:=J.drawn;obtain⟨h1,h2,h3,h4,h5⟩:=W;obtain⟨g1,g2,g3,g4,g5⟩:=I;obtain⟨e1,e2,U,_,_⟩:=J;simp only at *;subst e1 e2 U;simp only[Sort.grow,World.drewN];congr 1;omega
section
variable {d:Bool}{mk:Nat}{h:Heap}
theorem qqP(a:Int):WF PRn d mk (.fn 208 [] []) [.int .i64 a] h λr=>r=⟨.bool false,h⟩:=by
 refine WF.go f208 b208 [.tm 2] rfl rfl rfl rfl rfl rfl ?_;unfold b208;simp -dsimp
theorem qh4(a b:Int):WF PRn d mk (.fn 227 [] []) [.int .i64 a,.int .i64 b] h λr=>r=⟨.int .i64 (Lib.compareInt a b),h⟩:=by
 refine qBt f227 b227 [.tm 4] rfl rfl rfl rfl rfl rfl ?_;unfold b227;simp -dsimp;refine WFS.by (qqP a) ?_
 intro v h' e;cases e;simp -dsimp;refine WFS.by (qqP b) ?_
 intro v h' e;cases e;simp -dsimp;rw[qaa];refine⟨λJ=>?_,λJ=>?_⟩
 ·simp at J;simp -dsimp[Lib.compareInt,J]
 ·simp at J;simp -dsimp;rw[qaa];refine⟨λI=>?_,λI=>?_⟩
  ·simp at I;simp -dsimp[Lib.compareInt,I,show ¬a<b by omega]
  ·simp at I;simp -dsimp[Lib.compareInt,show ¬a<b by omega,show ¬b<a by omega]
theorem or_ok(a b:Int):WF PRn d mk (.fn 347 [] []) [.slR [[.int .i64 a],[.int .i64 b]] true] h λr=>r.v=.int .i64 (if a=0 then b else a):=by
 refine WF.go f347 b347 [.tm 2] rfl rfl rfl rfl rfl rfl ?_;unfold b347;simp -dsimp;refine qaf (λk st=>∃i:Nat,i+k=2/\(gK 8).run st.tm=.int .i64 i/\(1<=i->a=0)/\(2<=i->b=0)/\st.defs=[]) 2 ⟨0,rfl,by simp,by omega,by omega,rfl⟩ ?_;rintro k ⟨tm,h1,defs,round⟩ ⟨i,hi,J,ha,hb,rfl⟩ U;have t3:=U 3 rfl;have t6:=U 6 rfl;have t7:=U 7 rfl;simp at t3 t6 t7 J;clear U;have i0:qaw 1 (V.slR [[V.int .i64 a],[V.int .i64 b]] true) (.int .i64 0)=some (.ptrR [.int .i64 a] 0):=rfl;have i1:qaw 1 (V.slR [[V.int .i64 a],[V.int .i64 b]] true) (.int .i64 1)=some (.ptrR [.int .i64 b] 0):=rfl;simp -dsimp[J,t7];rw[qaa];refine⟨λhc=>?_,λhc=>?_⟩
 ·simp at hc;rcases (show i=0\/i=1 by omega)with rfl|rfl
  ·simp -dsimp[J,t6,t3,i0,i1];rw[qaa];refine⟨λI=>?_,λI=>?_⟩
   ·simp at I;simp -dsimp[I]
   ·simp at I;simp -dsimp[J];exact qah.intro 1 (by omega) ⟨1,rfl,by simp; rfl,λ_=>I,by omega,rfl⟩
  ·have ha:=ha (by omega);simp -dsimp[J,t6,t3,i0,i1];rw[qaa];refine⟨λI=>?_,λI=>?_⟩
   ·simp at I;simp -dsimp[ha]
   ·simp at I;simp -dsimp[J];exact qah.intro 0 (by omega) ⟨2,rfl,by simp; rfl,λ_=>ha,λ_=>I,rfl⟩
 ·simp at hc;have h2:i=2:=by omega
  have ha:=ha (by omega);have hb:=hb (by omega);simp -dsimp[t3,ha,hb]
theorem tidy1_ok(a b:En)(I:mk<=h.n):WF PRn d mk (.fn 346 [] []) [.agg [.int .i64 a.1,.int .i64 a.2],.agg [.int .i64 b.1,.int .i64 b.2]] h λr=>r.v=.int .i64 (cfE a b):=by
 refine WF.go f346 b346 [.tm 4] rfl rfl rfl rfl rfl rfl ?_;unfold b346;simp -dsimp;refine WFS.by (qh4 a.1 b.1) ?_
 intro v h' e;cases e;simp -dsimp;refine WFS.by (qh4 a.2 b.2) ?_
 intro v h' e;cases e;simp -dsimp;refine WFS.by (or_ok _ _) ?_
 intro v h' e;simp only at e;simp -dsimp;rw[e];rfl
end
theorem int_calls{P:Program}{AP:Prog}{nf nt:Nat->Nat}{W:World}(L:Link P (numAt nf nt W) AP){f:Nat}{fn:Func}{c:Code}(hp:AP.prim f=none)(hf:P.funcs[nf f]?=some fn)(hname:fn.name≠ "runtime.NumGoroutine")(hb:fn.body=some c)
  {vs:List V}{args:Array Value}(hargs:VRs (numAt nf nt W) (λ_=>none) (roOf W) vs args.toList) {n:Int}(hw:WF AP false 0 (.fn f [] []) vs ⟨0,.e⟩ λr=>r.v=.int .i64 n) :
  Calls P (nf f) args W λe W'=>e=.returned (.int .i64 n)/\∃q os,W'=Sort.grow (W.drewN q) os:=by
 obtain⟨l,m,_,_,h2,h3⟩:=hw;have hev:=h2 m (Jac _);have hd:=(qbT L m 0).2 (λ_=>none) (roOf W) ⟨0,.e⟩ W f [] [] (.func (.func (nf f)) #[] #[]) vs args l (Nat.zero_le _) qDv (by simp only[VR]; exact⟨#[],#[],rfl,VRs.nil,VRs.nil⟩) hargs (by simp only[qbx,hp]; exact hev);have hent:(qaU (.func (.func (nf f)) #[] #[]) args).run P W=.ok (.enter (nf f) args) W:=by
  simp[qaU,Deferred.ofValue,invoke,callFunc,hf,hname,hb]
 rcases hd with ⟨f',args',q1,q2⟩|⟨v,w1,q1,_⟩
 ·rw[hent]at q1;cases q1;refine Calls.mono (h:=q2.calls) λe W' h=>?_;cases e with
  | returned v =>
   obtain⟨r,hr,ι',ro',hG,hH,hv⟩:=h;rw[h3 r hr]at hv;simp only[VR]at hv;exact⟨by rw[hv],qp6 hG.env λb o hb=>(hH.kb b o hb).1⟩
  | panicked c=>exact h.elim
  | outgrown=>exact h.elim
 ·rw[hent]at q1; cases q1
end Go.Abs


