/- What the program's functions come to, by the evaluator's rules; the intermediate code. -/
import Derived.Carry
import Derived.OpenShut
import Derived.ChangeSame
import Derived.Test.YtaknodpgafomdabGreatDoorAc2
set_option linter.unusedSimpArgs false
set_option linter.unusedVariables false
namespace Go.Abs
open Go Pr
set_option maxRecDepth 10000
def Sl.cut3{α : Type}(s:Sl α)(n:Nat):Sl α:=match s with
 | .nil=>.nil
 | .of l=>.full (l.take n)
 | .full l=>.full (l.take n)
@[simp]theorem qvh{α : Type}(s:Sl α)(n:Nat):(s.cut3 n).l=s.l.take n:=by cases s<;>simp[Sl.cut3]
theorem qmj{α : Type}{f : α->List V}{s:Sl α}{esz n:Nat}{hi mx:Opd}{tm:Tm}(he:∀a,(f a).length=esz)(hn:n<=s.l.length)(h1:hi.ev tm=.int .i64 n)(h2:mx.ev tm=.int .i64 n) :
  qaT esz (cutK none (some hi) (some mx)) tm (s.enc f)=some ((s.cut3 n).enc f):=by
 have hb:∀top:Nat,n<=top->bnd (n:Int) top=some n:=λtop ht=>by
  have:=qaY (n:=(n:Int)) (top:=top) (by omega) (by omega);simpa using this
 have hk:∀(len:Nat) fl,n<=len->(cutK none (some hi) (some mx)).run len fl tm=some ⟨0,n,true⟩:=by
  intro len fl hl;simp only[cutK,optK,h1,h2,hb len hl,hb n (Jac _)];simp
 cases s with
 | nil =>
  simp only[qEp,List.length_nil]at hn;simp[Sl.enc,qaT,hk 0 true hn,Sl.cut3]
 | of l =>
  have hl:qa9 esz (l.map f)=true:=by cases l<;>simp[qa9,he]
  simp only[l_of]at hn;simp[Sl.enc,qaT,hl,hk _ _ hn,Sl.cut3,List.map_take]
 | full l =>
  have hl:qa9 esz (l.map f)=true:=by cases l<;>simp[qa9,he]
  simp only[qlE]at hn;simp[Sl.enc,qaT,hl,hk _ _ hn,Sl.cut3,List.map_take]
structure Wd where
 v:V
 l:List UInt8
 m:Nat
def WB(h:Heap)(w:Wd):Prop:=(∃s:Sl UInt8,w.v=s.enc qak/\s.l=w.l) \/
 ∃id lo f rs,w.v=.sl id lo w.l.length 1 f/\h.get id=some (.rows rs)/\lo+w.l.length<=rs.length/\(rs.drop lo).take w.l.length=w.l.map qak/\id<w.m
theorem WB.keep{h h':Heap}{w:Wd}(hw:WB h w)(hk:∀i,i<w.m->h'.get i=h.get i):WB h' w:=by
 rcases hw with a|⟨id,lo,f,rs,a,b,c,d,e⟩
 ·exact .inl a
 ·exact .inr ⟨id,lo,f,rs,a,by rw[hk id e,b],c,d,e⟩
theorem WB.len{h H:Heap}{w:Wd}(hw:WB h w):lenV .sl w.v H=some (.int .i64 w.l.length):=by
 rcases hw with ⟨s,a,b⟩|⟨id,lo,f,rs,a,_⟩
 ·rw[a,<-b]; simp
 ·rw[a]; simp
theorem WB.cells{h:Heap}{w:Wd}(hw:WB h w):w.v.cells=[w.v]/\w.v.one=true:=by
 rcases hw with ⟨s,a,b⟩|⟨id,lo,f,rs,a,_⟩
 ·rw[a]; simp
 ·rw[a]; simp
theorem WB.at{h:Heap}{w:Wd}(hw:WB h w){k:Int}(k0:0<=k)(k1:k<w.l.length):∃p,qaw 1 w.v (.int .i64 k)=some p/\qcp none p h=some (.int .u8 (lat w.l k.toNat).toNat):=by
 rcases hw with ⟨s,a,b⟩|⟨id,lo,f,rs,a,b,c,d,e⟩
 ·rw[<-b]at k1;exact⟨_,by rw[a]; exact qmM k0 k1,by rw[<-b]; simp[qak]⟩
 ·refine⟨.ptr id (lo+k.toNat) 0,by rw[a]; exact qam k0 k1,?_⟩;have h1:k.toNat<w.l.length:=by omega
  have h2:rs[lo+k.toNat]?=some (qak (lat w.l k.toNat)):=by
   have:=congrArg (λl=>l[k.toNat]?) d;simp only[List.getElem?_take,h1,if_true,List.getElem?_drop,List.getElem?_map,qaz h1]at this;exact this
  rw[qdL,b,qcq,h2];simp[qak]
theorem WB.from{h:Heap}{w:Wd}(hw:WB h w){k:Int}{o:Opd}{tm:Tm}(k0:0<=k)(k1:k<=w.l.length)(ho:o.ev tm=.int .i64 k):∃v,qaT 1 (cutK (some o) none none) tm w.v=some v/\WB h ⟨v,w.l.drop k.toNat,w.m⟩:=by
 rcases hw with ⟨s,a,b⟩|⟨id,lo,f,rs,a,b,c,d,e⟩
 ·refine⟨(s.cut k.toNat s.l.length).enc qak,?_,.inl ⟨_,rfl,?_⟩⟩
  ·rw[a];refine qdD (λ_=>rfl) λfl=>?_;rw[b];simp[ho,qaY k0 k1,qdl]
  ·rw[qqd,List.take_of_length_le (by simp),b]
 ·refine⟨.sl id (lo+k.toNat) (w.l.length-k.toNat) 1 (f&&true),?_,.inr ⟨id,lo+k.toNat,f&&true,rs,by simp,b,by simp; omega,?_,e⟩⟩
  ·rw[a];simp[ho,qaY k0 k1,qdl]
  ·have hl:(w.l.drop k.toNat).length=w.l.length-k.toNat:=List.length_drop;simp only[hl,List.map_drop,<-d];rw[List.drop_take,List.drop_drop]
theorem WB.upto{h:Heap}{w:Wd}(hw:WB h w){n:Nat}{hi mx:Opd}{tm:Tm}(hn:n<=w.l.length)(h1:hi.ev tm=.int .i64 n)(h2:mx.ev tm=.int .i64 n):∃v,qaT 1 (cutK none (some hi) (some mx)) tm w.v=some v/\WB h ⟨v,w.l.take n,w.m⟩:=by
 rcases hw with ⟨s,a,b⟩|⟨id,lo,f,rs,a,b,c,d,e⟩
 ·exact⟨_,by rw[a]; exact qmj (λ_=>rfl) (by rw[b]; exact hn) h1 h2,.inl ⟨_,rfl,by rw[qvh,b]⟩⟩
 ·have hb:∀top:Nat,n<=top->bnd (n:Int) top=some n:=λtop ht=>by
   have:=qaY (n:=(n:Int)) (top:=top) (by omega) (by omega);simpa using this
  have hk:(cutK none (some hi) (some mx)).run w.l.length f tm=some ⟨0,n,true⟩:=by
   simp only[cutK,optK,h1,h2,hb _ hn,hb n (Jac _)];simp
  have hl:(w.l.take n).length=n:=by rw[List.length_take]; omega
  refine⟨.sl id lo n 1 true,?_,.inr ⟨id,lo,true,rs,by rw[hl],b,by rw[hl]; omega,?_,e⟩⟩
  ·rw[a,qpg,hk]; simp
  ·simp only[hl,List.map_take,<-d,List.take_take];rw[Nat.min_eq_left hn]
theorem WB.head{h:Heap}{w:Wd}(hw:WB h w){k:Int}{o:Opd}{tm:Tm}(k0:0<=k)(k1:k<=w.l.length)(ho:o.ev tm=.int .i64 k):∃v,qaT 1 (cutK none (some o) none) tm w.v=some v/\WB h ⟨v,w.l.take k.toNat,w.m⟩:=by
 have hl:(w.l.take k.toNat).length=k.toNat:=by rw[List.length_take]; omega
 rcases hw with ⟨s,a,b⟩|⟨id,lo,f,rs,a,b,c,d,e⟩
 ·refine⟨(s.cut 0 k.toNat).enc qak,?_,.inl ⟨_,rfl,?_⟩⟩
  ·rw[a];refine qdD (λ_=>rfl) λfl=>?_;rw[b];simp[ho,qaY k0 k1,qdl]
  ·rw[qqd,b]; simp
 ·refine⟨.sl id lo k.toNat 1 (f&&decide (k.toNat=w.l.length)),?_,.inr ⟨id,lo,f&&decide (k.toNat=w.l.length),rs,by simp only[hl],b,by simp only[hl]; omega,?_,e⟩⟩
  ·rw[a];simp[ho,qaY k0 k1,qdl]
  ·simp only[hl,List.map_take,<-d,List.take_take];rw[Nat.min_eq_left (by omega)]
theorem ql5{h:Heap}{w:Wd}(hw:WB h w){k:Int}{o:Opd}{tm:Tm}{Q:V->Prop}(k0:0<=k)(k1:k<=w.l.length)(ho:o.ev tm=.int .i64 k)(hq:∀v,WB h ⟨v,w.l.take k.toNat,w.m⟩->Q v):OpS (qaT 1 (cutK none (some o) none) tm w.v) Q ⟨⟩:=by
 obtain⟨v,a,b⟩:=hw.head k0 k1 ho;exact⟨v,a,hq v b⟩
theorem qqw{h:Heap}{w:Wd}(hw:WB h w){n:Nat}{hi mx:Opd}{tm:Tm}{Q:V->Prop}(hn:n<=w.l.length)(h1:hi.ev tm=.int .i64 n)(h2:mx.ev tm=.int .i64 n)(hq:∀v,WB h ⟨v,w.l.take n,w.m⟩->Q v):OpS (qaT 1 (cutK none (some hi) (some mx)) tm w.v) Q ⟨⟩:=by
 obtain⟨v,a,b⟩:=hw.upto hn h1 h2;exact⟨v,a,hq v b⟩
theorem qdq{h:Heap}{w:Wd}(hw:WB h w){k:Int}{o:Opd}{tm:Tm}{Q:V->Prop}(k0:0<=k)(k1:k<=w.l.length)(ho:o.ev tm=.int .i64 k)(hq:∀v,WB h ⟨v,w.l.drop k.toNat,w.m⟩->Q v):OpS (qaT 1 (cutK (some o) none none) tm w.v) Q ⟨⟩:=by
 obtain⟨v,a,b⟩:=hw.from k0 k1 ho
 exact⟨v,a,hq v b⟩
def inB(r:Rg)(c:UInt8):Bool:=decide (r.lo<=c.toNat)&&decide ((c.toNat:Int)<=r.hi)
def qbE:List Rg->List UInt8->Nat
 | r::s,c::b=>if inB r c=true then qbE s b+1 else 0
 | _,_=>0
theorem qmS{s:List Rg}{b:List UInt8}{i:Nat}(h1:i<s.length)(h2:i<b.length):qbE (s.drop i) (b.drop i)=if inB (lat s i) (lat b i)=true then qbE (s.drop (i+1)) (b.drop (i+1))+1 else 0:=by
 rw[qbu h1,qbu h2,qbE]
theorem qoC{s:List Rg}{b:List UInt8}{i:Nat}(h:s.length<=i\/b.length<=i):qbE (s.drop i) (b.drop i)=0:=by
 rcases h with h|h
 ·rw[List.drop_eq_nil_of_le h]; rfl
 ·rw[List.drop_eq_nil_of_le h];cases s.drop i<;>rfl
section
variable {d:Bool}{mk:Nat}{h:Heap}
theorem qsd(s:Sl Rg){b:Wd}(hB:WB h b)(hs:s.l.length<1000000000)(hb:b.l.length<1000000000):WF PR d mk (.fn 179 [] []) [s.enc Rg.cells,b.v] h λx=>x=⟨.int .i64 (qbE s.l b.l),h⟩:=by
 refine qBt f179 b179 [.tm 4] rfl rfl rfl rfl rfl rfl ?_;unfold b179;obtain⟨m,hm⟩:∃m,min b.l.length s.l.length=m:=⟨_,rfl⟩;have e1:∀tm:Tm,(gK 12).run tm=.int .i64 s.l.length->qbS .i64 tm b.l.length [Opd.t 12]=some (.int .i64 m):=λtm h=>by
  rw[qer (m:=s.l.length) (by rw[ev_t,h]; rfl)];simp; omega
 have e2:∀tm:Tm,(gK 17).run tm=.int .i64 s.l.length->qbS .i64 tm b.l.length [Opd.t 17]=some (.int .i64 m):=λtm h=>by
  rw[qer (m:=s.l.length) (by rw[ev_t,h]; rfl)];simp; omega
 have hlb:∀H,lenV .sl b.v H=some (.int .i64 b.l.length):=λH=>hB.len;simp -dsimp[e1,e2,hlb];refine qqw (n:=m) hB (by omega) (by simp) (by simp) ?_;intro v' hB';obtain⟨b',hb'⟩:∃b':Wd,⟨v',b.l.take m,b.m⟩=b':=⟨_,rfl⟩;have hbl:b'.l=b.l.take m:=by rw[<-hb']
 have hbn:b'.l.length=m:=by rw[hbl]; simp; omega
 have hbv:v'=b'.v:=by rw[<-hb']
 rw[hb']at hB';have hlb':∀H,lenV .sl b'.v H=some (.int .i64 m):=λH=>by rw[hB'.len,hbn]
 rw[hbv];simp -dsimp[hlb'];refine qaf (λn st=>∃i:Int,0<=i/\(n:Int)=m-i/\(gK 22).run st.tm=.int .i64 i/\qbE s.l b.l=i.toNat+qbE (s.l.drop i.toNat) (b.l.drop i.toNat)/\st.h=h/\st.defs=[]) m
  ⟨0,by omega,by omega,by simp,by simp,rfl,rfl⟩ ?_
 rintro n ⟨tm,h1,defs,round⟩ ⟨i,hi,hn,h22,hf,rfl,rfl⟩ hK;have t0:=hK 0 rfl;have t1:=hK 1 rfl;have t20:=hK 20 rfl;have t21:=hK 21 rfl;simp at t0 t1 t20 t21 h22;clear hK;simp -dsimp[h22,t21];rw[qaa];refine⟨λhc=>?_,λhc=>?_⟩
 ·simp at hc;have c1:i<((b'.l.length:Nat):Int):=by omega
  have c2:i<((s.l.length:Nat):Int):=by omega
  have hbi:lat b'.l i.toNat=lat b.l i.toNat:=by
   rw[lat_eq (by omega),lat_eq (by omega)];simp only[hbl,List.getElem_take]
  obtain⟨c,hcc⟩:∃c,lat b.l i.toNat=c:=⟨_,rfl⟩;obtain⟨r,hr⟩:∃r,lat s.l i.toNat=r:=⟨_,rfl⟩;have hd:=qmS (s:=s.l) (b:=b.l) (i:=i.toNat) (by omega) (by omega);rw[hcc,hr]at hd;rw[hd]at hf;have hc8:c.toNat<256:=c.toNat_lt;obtain⟨pp,hp1,hp2⟩:=hB'.at hi c1;rw[hbi,hcc]at hp2;simp -dsimp[t20,h22,hp1,hp2,fw64 (n:=(c.toNat:Int)) (by omega) (by omega),t0,qe7 hi c2,hr,Rg.cells];rw[Gd_f];have hi1:((i.toNat:Nat):Int)=i:=by omega
  refine⟨λhx=>?_,λhx=>?_⟩
  ·simp at hx;have hx':¬(c.toNat:Int)<r.lo:=by omega
   simp -dsimp[hx',t0,qe7 hi c2,hr,Rg.cells];rw[qaa];refine⟨λhy=>?_,λhy=>?_⟩
   ·simp at hy;have:inB r c=false:=by simp[inB]; omega
    rw[this]at hf;simp -dsimp[hf,hi1]
   ·simp at hy;have:inB r c=true:=by simp[inB]; omega
    rw[this,Jab rfl]at hf;simp -dsimp[h22,fw64 (n:=i+1) (by omega) (by omega)];refine qah.intro (n-1) (by omega) ⟨i+1,by omega,by omega,by simp,?_,rfl,rfl⟩;rw[hf,show(i+1).toNat=i.toNat+1 by omega]; omega
  ·simp at hx;have:inB r c=false:=by simp[inB]; omega
   rw[this]at hf;simp -dsimp[hx,hf,hi1]
 ·simp at hc;have hc':decide (i<(m:Int))=false:=by simpa using hc
  rw[qoC (by omega)]at hf;have:i.toNat=m:=by omega
  simp -dsimp[hc',t1,hlb',hf,this]
def qax:List (Sl Rg)->List UInt8->Nat
 | [],_=>0
 | s::l,b=>if qbE s.l b=s.l.length then s.l.length else qax l b
def qb5(l:List (Sl Rg))(w:List UInt8)(k:Int):Int:=if k<0\/(w.length:Int)<k then 0 else qax l (w.drop k.toNat)
theorem qop{s:Sl (Sl Rg)}{k:IntKind}{n:Int}(h0:0<=n)(h1:n<s.l.length):qaw 1 (s.enc qaP) (.int k n)=some (.ptrR (qaP (lat s.l n.toNat)) 0):=qap h0 h1 λ_=>rfl
theorem qpR(s:Sl (Sl Rg)){w:Wd}(hB:WB h w)(k:Int)(hs:s.l.length<4000000000)(hs2:∀x∈s.l,x.l.length<1000000000)(hw:w.l.length<1000000000):WF PR d mk (.fn 166 [] []) [s.enc qaP,w.v,.int .i64 k] h λx=>x=⟨.int .i64 (qb5 s.l w.l k),h⟩:=by
 refine qBt f166 b166 [.tm 6] rfl rfl rfl rfl rfl rfl ?_;unfold b166;have hlw:∀H,lenV .sl w.v H=some (.int .i64 w.l.length):=λH=>hB.len;simp -dsimp[hlw];rw[Gd_f];refine⟨λh1=>?_,λh1=>?_⟩
 ·simp at h1;have h1':¬k<0:=by omega
  simp -dsimp[h1',hlw];rw[qaa];refine⟨λh2=>?_,λh2=>?_⟩
  ·simp at h2;simp -dsimp[qb5,h2]
  simp at h2;have h2':¬(w.l.length:Int)<k:=by omega
  have hm:qb5 s.l w.l k=qax s.l (w.l.drop k.toNat):=by simp[qb5,h1',h2']
  simp -dsimp[hm];refine qaf (λn st=>∃i:Int,0<=i/\(n:Int)=s.l.length-i/\(gK 20).run st.tm=.int .i64 i/\qax (s.l.drop i.toNat) (w.l.drop k.toNat)=qax s.l (w.l.drop k.toNat)/\st.h=h/\st.defs=[]) s.l.length
   ⟨0,by omega,by omega,by simp,by simp,rfl,rfl⟩ ?_
  rintro n ⟨tm,h0',defs,round⟩ ⟨i,hi,hn,h20,hf,rfl,rfl⟩ hK;have t1:=hK 1 rfl;have t2:=hK 2 rfl;have t18:=hK 18 rfl;have t19:=hK 19 rfl;simp at t1 t2 t18 t19 h20;clear hK;simp -dsimp[h20,t19];rw[qaa];refine⟨λhc=>?_,λhc=>?_⟩
  ·simp at hc;have c1:i<((s.l.length:Nat):Int):=by omega
   obtain⟨x,hx⟩:∃x,lat s.l i.toNat=x:=⟨_,rfl⟩;have hxs:=hs2 x (by rw[<-hx]; exact qai (by omega));have hd:=qbu (l:=s.l) (i:=i.toNat) (by omega);rw[hd,hx,qax]at hf;simp -dsimp[t18,h20,qop hi c1,hx,qaP,t1,t2];refine qdq hB h1 h2 (by simp[t2]) ?_;intro v' hB';simp -dsimp;refine WFS.by (qsd x hB' hxs (by simp; omega)) ?_
   intro v h3 e;cases e;simp -dsimp;rw[qaa];refine⟨λhy=>?_,λhy=>?_⟩
   ·have hy':qbE x.l (w.l.drop k.toNat)=x.l.length:=by simp at hy; omega
    rw[Jab hy']at hf;simp -dsimp;rw[hm,<-hf,hy']
   ·have hy':¬qbE x.l (w.l.drop k.toNat)=x.l.length:=by simp at hy; omega
    rw[Jaa hy']at hf;simp -dsimp[h20,fw64 (n:=i+1) (by omega) (by omega)];exact qah.intro (n-1) (by omega) ⟨i+1,by omega,by omega,by simp,by rw[show(i+1).toNat=i.toNat+1 by omega]; exact hf,rfl,rfl⟩
  ·simp at hc;have hc':decide (i<(s.l.length:Int))=false:=by simpa using hc
   rw[List.drop_eq_nil_of_le (by omega)]at hf;simp -dsimp[hc'];rw[hm,<-hf];rfl
 ·simp at h1;simp -dsimp[h1,qb5]
end
structure Ev where
 g:Gr
 w:Wd
 tab:Int
 heal:Bool
def Ev.cells(x:Ev):List V:=[x.g.p.enc Pd.cells,x.g.keys.enc qac,x.w.v,.int .i64 x.tab,.bool x.heal]
@[simp]theorem len_Ev{x:Ev}:x.cells.length=5:=(rfl)
theorem Own.wb{h:Heap}{m:Nat}{v:V}{l:List UInt8}(hO:Own h m v 1 (l.map qak)):WB h ⟨v,l,h.n⟩:=by
 rcases hO with ⟨rfl,e⟩|⟨id,rfl,h2,_,h4,_⟩
 ·have:l=[]:=by simpa using e
  subst this;exact .inl ⟨.nil,rfl,rfl⟩
 ·refine .inr ⟨id,0,false,_,by simp,h2,by simp,by simp; rw[List.take_of_length_le (by simp)],h4⟩
theorem qjg{h:Heap}{w:Wd}(hB:WB h w):qal h w.v=some (w.l.map qak):=by
 rcases hB with ⟨s,a,b⟩|⟨id,lo,f,rs,a,b,c,d,e⟩
 ·rw[a,<-b]; simp
 ·rw[a]; simp[qal,b,c,d]
open Go Go.ChangeShapes Go.WideShapes Go.RowKit
variable {H:Type}{enc:TypeId × Value->H}{P:Program}
theorem qeL(hl:laidOutB P=true){W W':World}(hB:Below W.heap.size W W'){sp:Nat->Bool}:∀{ts:List TypeId}{vs:List Value}{ds:List (DataW H)}{ps:List MemPlace},(∀t∈ts,P.readableRec t=true/\t<P.types.size) ->
  DataW.TrodAll enc P W 0 (λ_=>true) true ts vs ds ps->(∀x∈ps,x.block<W.heap.size)->(∀x∈ps,sp x.block=true)->DataW.TrodAll enc P W' 0 sp true ts vs ds ps
 | [],vs,ds,ps,_,h,_,_=>by
  obtain⟨rfl,rfl,rfl⟩:=trodAll_nil h;exact trodAll_mk0
 | t::ts,vs,ds,ps,hr,h,hlt,hsp=>by
  obtain⟨v,vs',d,ds',p,q,rfl,rfl,rfl,h1,h2⟩:=trodAll_cons h;obtain⟨r1,r2⟩:=hr t (by simp);exact trodAll_cons_mk (WideElems.Trod_stays hl r1 r2 h1 (λx hx=>hB.same (hlt x (by simp[hx]))) λx hx=>hsp x (by simp[hx]))
   (qeL hl hB (λu hu=>hr u (by simp[hu])) h2 (λx hx=>hlt x (by simp[hx])) λx hx=>hsp x (by simp[hx]))
theorem post_true{f:Func}{s:ChangeSpec}{W W':World}{args:Array Value}{ds gs:List (DataW H)}{before:List MemPlace}{tb:TypeId}(hs:s.vars=[])
  (hres:(s.fn H ds).results=[.lit (.bool true)]) (harg:(s.fn H ds).args=ds) (hvar:(s.fn H ds).vars=[])
  (hW:DataW.Whole enc P f.params.toList s.vars false W args.toList ds gs before) (hl:laidOutB P=true) (hr:∀t∈f.params.toList,P.readableRec t=true/\t<P.types.size)
  (ht:f.resultTypes=#[tb]) (hu:P.underlying tb=some .bool) (hB:Below W.heap.size W W'):s.post enc P f false true false false W args (.bool true) W':=by
 have hlt:=hW.lt;have hW':=hW;obtain⟨p,q,hA,hV,rfl,hz,hn⟩:=hW;rw[hs]at hV;obtain⟨rfl,rfl⟩:=trodVars_none hV;simp only[List.append_nil]at hlt hz hn;have hargs:∀sp:Nat->Bool,(∀x∈p,sp x.block=true)->DataW.TrodAll enc P W' 0 sp true f.params.toList args.toList (s.fn H (ds++[])).args p:=λsp hsp=>by
  rw[List.append_nil,harg];exact qeL hl hB hr hA hlt hsp
 have hvars:∀sp:Nat->Bool,DataW.TrodVars enc P W' sp s.vars (s.fn H (ds++[])).vars []:=λsp=>by
  rw[List.append_nil,hvar,hs]; rfl
 have hresx:∀(b:Nat) (sp:Nat->Bool) (hd:Bool),DataW.TrodAll enc P W' b sp hd f.resultTypes.toList ((Value.bool true).resultList f.resultTypes.size) (s.fn H (ds++[])).results []:=λb sp hd=>by
  rw[List.append_nil,hres,ht];exact trodAll_cons_mk (p:=[]) (p':=[]) (shut_bool hu true) trodAll_mk0
 have hold:∀x∈p,(λb=>decide (b<W.heap.size)) x.block=true:=λx hx=>by simpa using hlt x hx
 refine⟨ds,[],p++[],[],p,[],hW',hresx _ _ _,hargs _ hold,hvars _,World.keptBut_mono (λx hx=>⟨by simpa using hx,?_⟩) (hB.frame (·∈p)),λ_=>?_⟩
 ·exact Or.inr (Or.inl hx)
 ·refine⟨ok_one ht rfl (okWide_bool_mk hu true),_,_,([]++p)++[],⟨[]++p,[],trodAll_append (hargs _ (λ_ _=>rfl)) (hresx _ _ _),hvars _,rfl,?_,?_⟩,?_⟩
  ·intro b off hp;have hp':MemPlace.cell b off∈p:=by simpa using hp
   rw[hB.frozen (p:=⟨b,off,none⟩) (hlt _ hp')];exact hz b off hp'
  ·intro ha;cases ha
  ·intro x hx _;simpa using hx
def qcH(s:Sy)(w:List UInt8)(k:Int):Int:=if 0<=k/\k<w.length/\hasB s.r.l (lat w k.toNat).toNat=true then 1 else 0
def qml(s:Sy)(w:List UInt8)(k:Int):Int:=qb5 (ofL s.r.l) w k
def qbr(s:Sy)(w:List UInt8)(k:Int):Int:=if s.kind=0 then qcH s w k else if s.kind=1 then qml s w k else 0
theorem qrN{l:List Rg}(h:l.length<1500000):(ofL l).length<4000000000:=by
 have h1:=qiA (qgL l) (qgL l).length;have h2:(qgL l).length<=1+2 * l.length:=qeV _ _;unfold ofL; omega
theorem qrM{l:List Rg}{x:Sl Rg}(hx:x∈ofL l):x.l.length<1000000000:=by
 obtain⟨r,rfl⟩:=qiz hx;have:=qll r.lo;simp[qee,oneL,qe1]; omega
section
variable {d:Bool}{mk:Nat}{h:Heap}
theorem qpM(s:Sy){w:Wd}(hB:WB h w)(hm:w.m<=h.n)(k:Int)(hs:s.r.l.length<1500000)(hw:w.l.length<1000000000):WF PR d mk (.fn 107 [] []) [.agg s.cells,w.v,.int .i64 k] h λx=>x=⟨.int .i64 (qcH s w.l k),h⟩:=by
 refine qBt f107 b107 [.tm 6] rfl rfl rfl rfl rfl rfl ?_;unfold b107;have hlw:∀H,lenV .sl w.v H=some (.int .i64 w.l.length):=λH=>hB.len;simp -dsimp[Sy.cells];rw[Gd_t];refine⟨λh1=>?_,λh1=>?_⟩
 ·simp at h1;simp -dsimp[h1,hlw];rw[Gd_t];refine⟨λh2=>?_,λh2=>?_⟩
  ·simp at h2;have hc8:=(lat w.l k.toNat).toNat_lt;have hBp:WB (h.push (.rows [[V.int IntKind.i64 s.kind,Sl.enc Rg.cells s.r,V.int IntKind.i64 s.n]])) w:=hB.keep λi hi=>by rw[qBq,Jaa (by omega)]
   obtain⟨pp,hp1,hp2⟩:=hBp.at h1 h2;simp -dsimp[h2,h1,hp1,hp2,fw64 (n:=((lat w.l k.toNat).toNat:Int)) (by omega) (by omega)];refine WFS.by (qq2 s.r (by omega) _) ?_
   intro v h3 e;cases e;simp -dsimp;rw[qaa];refine⟨λh4=>?_,λh4=>?_⟩
   ·simp -dsimp[qcH,h1,h2,h4]
   ·simp -dsimp[qcH,h1,h2,h4]
  ·simp at h2;have h2':¬k<(w.l.length:Int):=by omega
   simp -dsimp[h2',qcH]
 ·simp at h1;have h1':¬0<=k:=by omega
  simp -dsimp[h1',qcH]
theorem qrm(s:Sy){w:Wd}(hB:WB h w)(hm:w.m<=h.n)(k:Int)(hs:s.r.l.length<1500000)(hw:w.l.length<1000000000):WF PR d mk (.fn 141 [] []) [.agg s.cells,w.v,.int .i64 k] h λx=>x=⟨.int .i64 (qml s w.l k),h⟩:=by
 refine qBt f141 b141 [.tm 6] rfl rfl rfl rfl rfl rfl ?_;unfold b141;simp -dsimp[Sy.cells];refine WFS.by (of_ok s.r hs) ?_
 intro v h3 e;cases e;simp -dsimp;refine WFS.by (qpR (slQ (ofL s.r.l)) (hB.keep (h':=h.push (.rows [[V.int IntKind.i64 s.kind,Sl.enc Rg.cells s.r,V.int IntKind.i64 s.n]])) λi hi=>by rw[qBq,Jaa (by omega)]) k (by simpa using qrN hs) (λx hx=>qrM (by simpa using hx)) hw) ?_
 intro v h3 e;cases e;simp -dsimp[qml]
theorem qrO(s:Sy)(v w:V):WF PR d mk (.fn 109 [] []) [.agg s.cells,v,w] h λx=>x=⟨.int .i64 0,h⟩:=by
 refine qBt f109 b109 [.tm 6] rfl rfl rfl rfl rfl rfl ?_;unfold b109;simp -dsimp[Sy.cells]
@[simp]theorem qsX{len esz i r o:Nat}{k:IntKind}{n:Int}:qez len esz (.ptr i r o) (.int k n)=(match idx (.int k n) len with|some j=>some (.ptr i r (o+j * esz))|none=>none):=(rfl)
theorem qAE(f0 f1:Nat)(p0 p1:Sy->List UInt8->Int->Int)(s:Sy){w:Wd}(hB:WB h w)(hm:w.m<=h.n)(k:Int)(hs:s.r.l.length<1500000)(hw:w.l.length<1000000000)
  (h0:∀d mk h,WB h w->w.m<=h.n->WF PR d mk (.fn f0 [] []) [.agg s.cells,w.v,.int .i64 k] h λx=>x=⟨.int .i64 (p0 s w.l k),h⟩)
  (h1:∀d mk h,WB h w->w.m<=h.n->WF PR d mk (.fn f1 [] []) [.agg s.cells,w.v,.int .i64 k] h λx=>x=⟨.int .i64 (p1 s w.l k),h⟩) :
  WF PR d mk (.fn 110 [] []) [.agg [.fn f0 [] [],.fn f1 [] [],.fn 109 [] []],.agg s.cells,w.v,.int .i64 k] h λx=>x=⟨.int .i64 (if s.kind=0 then p0 s w.l k else if s.kind=1 then p1 s w.l k else 0),h⟩:=by
 refine qBt f110 b110 [.tm 8] rfl rfl rfl rfl rfl rfl ?_;unfold b110;have i0:idx (.int .i64 0) 3=some 0:=rfl;have i1:idx (.int .i64 1) 3=some 1:=rfl;have i2:idx (.int .i64 2) 3=some 2:=rfl;have hsc:[V.int IntKind.i64 s.kind,Sl.enc Rg.cells s.r,V.int IntKind.i64 s.n]=s.cells:=rfl;have hk2:∀o o':Obj,WB ((h.push o).push o') w/\w.m<=((h.push o).push o').n:=λo o'=>⟨hB.keep λi hi=>by rw[qBq,Jaa (by simp; omega),qBq,Jaa (by omega)],by simp; omega⟩;simp -dsimp[Sy.cells,i2];rw[Gd_f];refine⟨λhb=>?_,λhb=>?_⟩
 ·simp at hb;simp -dsimp[hb];rw[qaa];refine⟨λhc=>?_,λhc=>?_⟩
  ·simp at hc;simp -dsimp[hc,i1];rw[<-hc,hsc];refine WFS.by (h1 _ _ _ (hk2 _ _).1 (hk2 _ _).2) ?_
   intro v h3 e;cases e;simp -dsimp[hc,hb]
  ·simp at hc;simp -dsimp;rw[hsc];refine WFS.by (qrO s _ _) ?_
   intro v h3 e;cases e;simp -dsimp[hc,hb]
 ·simp at hb;simp -dsimp[hb,i0];rw[<-hb,hsc];refine WFS.by (h0 _ _ _ (hk2 _ _).1 (hk2 _ _).2) ?_
  intro v h3 e;cases e;simp -dsimp[hb]
theorem qnn(s:Sy){w:Wd}(hB:WB h w)(hm:w.m<=h.n)(k:Int)(hs:s.r.l.length<1500000)(hw:w.l.length<1000000000):WF PR d mk (.fn 104 [] []) [.agg s.cells,w.v,.int .i64 k] h λx=>x=⟨.tup [.int .i64 (qbr s w.l k),.bool (decide (0<qbr s w.l k))],h⟩:=by
 refine qBt f104 b104 [.tm 6,.tm 7] rfl rfl rfl rfl rfl rfl ?_;unfold b104;have hsc:[V.int IntKind.i64 s.kind,Sl.enc Rg.cells s.r,V.int IntKind.i64 s.n]=s.cells:=rfl;simp -dsimp[Sy.cells];rw[hsc];have hp:∀o:Obj,WB (h.push o) w/\w.m<=(h.push o).n:=λo=>⟨hB.keep λi hi=>by rw[qBq,Jaa (by omega)],by simp; omega⟩;refine WFS.by (qAE 107 141 qcH qml s (hp _).1 (hp _).2 k hs hw (λ_ _ _ a b=>qpM s a b k hs hw) (λ_ _ _ a b=>qrm s a b k hs hw)) ?_
 intro v h3 e;cases e;simp -dsimp;exact⟨rfl,Iff.rfl⟩
end
theorem qlQ(s:List Rg)(b:List UInt8):qbE s b<=s.length/\qbE s b<=b.length:=by
 induction s generalizing b with
 | nil=>simp[qbE]
 | cons r s ih =>
  cases b with
  | nil=>simp[qbE]
  | cons c b =>
   have:=ih b;simp only[qbE,List.length_cons];split<;>omega
theorem qg9:∀(l:List (Sl Rg)) (b:List UInt8),qax l b<=b.length
 | [],b=>by simp[qax]
 | s::l,b=>by
  simp only[qax];split
  ·rename_i h; have:=(qlQ s.l b).2; omega
  ·exact qg9 l b
theorem qdJ{s:Sy}{w:List UInt8}{x:Int}(h:0<qbr s w x):0<=x/\x+qbr s w x<=w.length:=by
 unfold qbr at h ⊢;split at h
 ·rename_i hk;rw[Jab hk];unfold qcH at h ⊢;split at h
  ·rename_i hc; rw[Jab hc]; omega
  ·omega
 ·rename_i hk;rw[Jaa hk];split at h
  ·rename_i hk1;rw[Jab hk1];unfold qml qb5 at h ⊢;split at h
   ·omega
   ·rename_i hc;rw[Jaa hc];have:=qg9 (ofL s.r.l) (w.drop x.toNat);rw[List.length_drop]at this;omega
  ·omega
inductive DerL (g:Gr) (w:List UInt8):List Sy->Int->Int->Prop
 | nil {x:Int}:DerL g w [] x x
 | term {s:Sy}{l:List Sy}{x z:Int}(hk:s.kind≠2) (hm:0<qbr s w x) (h:DerL g w l (x+qbr s w x) z):DerL g w (s::l) x z
 | non {s:Sy}{l:List Sy}{a:Sl Sy}{x y z:Int}(hk:s.kind=2) (hn:0<=s.n) (ha:a∈(lat g.p.l s.n.toNat).a.l) (h1:DerL g w a.l x y) (h2:DerL g w l y z):DerL g w (s::l) x z
def Der(g:Gr)(w:List UInt8)(n:Int)(x y:Int):Prop:=∃a∈(lat g.p.l n.toNat).a.l,DerL g w a.l x y
variable {g:Gr}{w:List UInt8}
theorem DerL.mono{l:List Sy}{x y:Int}(h:DerL g w l x y):x<=y/\(x=y\/(0<=x/\y<=w.length)):=by
 induction h with
 | nil=>exact⟨Int.le_refl _,.inl rfl⟩
 | term hk hm h ih=>have:=qdJ hm; omega
 | non hk hn ha h1 h2 ih1 ih2=>omega
theorem DerL.le{l:List Sy}{x y:Int}(h:DerL g w l x y)(h0:0<=x)(h1:x<=w.length):x<=y/\y<=w.length:=by
 have:=h.mono; omega
theorem DerL.append{l m:List Sy}{x y z:Int}(h:DerL g w l x y)(h2:DerL g w m y z):DerL g w (l++m) x z:=by
 induction h with
 | nil=>exact h2
 | term hk hm h ih=>exact .term hk hm (ih h2)
 | non hk hn ha h1 h2' ih1 ih2=>exact .non hk hn ha h1 (ih2 h2)
theorem qEA{l m:List Sy}{x z:Int}(h:DerL g w (l++m) x z):∃y,DerL g w l x y/\DerL g w m y z:=by
 induction l generalizing x with
 | nil=>exact⟨x,.nil,h⟩
 | cons s l ih =>
  cases h with
  | term hk hm h =>
   obtain⟨y,a,b⟩:=ih h;exact⟨y,.term hk hm a,b⟩
  | non hk hn ha h1 h2 =>
   obtain⟨y,a,b⟩:=ih h2;exact⟨y,.non hk hn ha h1 a,b⟩
theorem qkB{α : Type} [Inhabited α] {l:List α}{i:Nat}(h:l.length<=i):lat l i=default:=by
 simp[lat,getElem!_neg,h]
theorem qfh{n:Int}{a:Sl Sy}(h:a∈(lat g.p.l n.toNat).a.l):n.toNat<g.p.l.length:=by
 by_cases c:n.toNat<g.p.l.length
 ·exact c
 ·rw[qkB (by omega)]at h;simp[default,instInhabitedPd]at h
theorem DerL.null{T:List (Int × Bool)}(hT:qcQ g T g.p.l.length){l:List Sy}{x y:Int}(h:DerL g w l x y):x=y->qeZ T l=true:=by
 induction h with
 | nil=>intro _; rfl
 | term hk hm h ih=>intro e; have:=h.mono; omega
 | @non s l a x y z hk hn ha h1 h2 ih1 ih2 =>
  intro e;have m1:=h1.mono;have m2:=h2.mono;have q1:=ih1 (by omega);have q2:=ih2 (by omega);have hr:=qfh ha;have hb:isB T (s.n.toNat:Int)=true:=hT _ hr (by simp only[canB,List.any_eq_true]; exact⟨a,ha,q1⟩);rw[show((s.n.toNat:Nat):Int)=s.n by omega]at hb;simp only[qeZ,qeY,List.any_cons,Bool.not_or,Jad]at q2 ⊢;exact⟨by simp[notN,hk,hb],q2⟩
theorem qnY{l:List Sy}(h:∀T:List (Int × Bool),qcQ g T g.p.l.length->qeZ T l=true):qeY (nulB g) l=true:=by
 simp only[qeY,Bool.not_eq_true',List.any_eq_false,notN,Bool.or_eq_true,Jai,Bool.not_eq_true',not_or];intro s hs;have key:∀T:List (Int × Bool),qcQ g T g.p.l.length->s.kind=2/\isB T s.n=true:=λT hT=>by
  have:=h T hT;simp only[qeZ,qeY,Bool.not_eq_true',List.any_eq_false,notN,Bool.or_eq_true,Jai,Bool.not_eq_true',not_or]at this;have:=this s hs;exact⟨Decidable.not_not.1 this.1,by simpa using this.2⟩
 refine⟨?_,?_⟩
 ·rw[Decidable.not_not]
  by_cases hE:∃T:List (Int × Bool),qcQ g T g.p.l.length
  ·obtain⟨T,hT⟩:=hE; exact(key T hT).1
  ·exfalso;refine hE ⟨(List.range g.p.l.length).map λk:Nat=>((k:Int),true),λk hk _=>?_⟩;have look:∀(l:List Nat),k∈l->isB (l.map λk:Nat=>((k:Int),true)) (k:Int)=true:=by
    intro l;induction l with
    | nil=>intro h; cases h
    | cons a l ih =>
     intro h;simp only[List.map_cons,isB,qaS];split
     ·rfl
     ·rename_i hne;rcases Jag.1 h with e|h
      ·exact absurd (by rw[e]) hne
      ·exact ih h
   exact look _ (by simpa using hk)
 ·have:nulB g s.n=true:=by
   simp only[nulB,Jai];exact λT hT=>(key T hT).2
  simp[this]
theorem qgN{N:Int->Bool}{l:List Sy}{i:Nat}(hk:(lat l i).kind=2)(hn:qeY N (l.take i)=true):∀{j:Nat},i<j->(lat l i).n∈qa6 N l j
 | 0,h=>by omega
 | j+1,h=>by
  rw[qa6,Jaj]
  by_cases e:i=j
  ·subst e; right; simp[hk,hn]
  ·exact .inl (qgN hk hn (by omega))
theorem qfU{N:Int->Bool}{as:List (Sl Sy)}{i:Nat}{x:Int}(hx:x∈qa6 N (lat as i).l (lat as i).l.length):∀{j:Nat},i<j->x∈qaQ N as j
 | 0,h=>by omega
 | j+1,h=>by
  rw[qaQ,Jaj]
  by_cases e:i=j
  ·subst e; exact .inr hx
  ·exact .inl (qfU hx (by omega))
theorem qrU{n x:Int}{a:Sl Sy}{i:Nat}(hm:mayB g=true)(h0:0<=n)(ha:a∈(lat g.p.l n.toNat).a.l)(hi:i<a.l.length)(hk:(lat a.l i).kind=2)(hd:DerL g w (a.l.take i) x x):(lat a.l i).n∈qaq g n:=by
 have hr:=qfh ha;rw[qaq,Jab ⟨hm,h0,by omega⟩,qjw,qc2,qfD];rw[List.mem_iff_getElem]at ha;obtain⟨j,hj,e⟩:=ha;rw[<-lat_eq hj]at e;have ho:=qnY λT hT=>hd.null hT rfl;refine qfU (i:=j) ?_ hj;rw[e];exact qgN hk ho hi
theorem qdZ.front{a b c:Int}(h:qdZ g b c)(hb:b∈qaq g a):qdZ g a c:=by
 induction h with
 | one h=>exact .more (.one hb) h
 | more _ h' ih=>exact .more ih h'
noncomputable def qnR (g:Gr) (n:Int):Nat:=((List.range g.p.l.length).filter λm:Nat=>qcO g n m).length
theorem qpy{a b:Int}(hb:b∈qaq g a)(h0:0<=b)(h1:b<g.p.l.length)(hac:¬qdZ g b b):qnR g b<qnR g a:=by
 refine qhc (λm _ hm=>?_) ⟨b.toNat,by simp; omega,?_,?_⟩
 ·simp only[qcO,Jai]at hm ⊢;exact hm.front hb
 ·simp only[qcO,Jai];rw[show((b.toNat:Nat):Int)=b by omega];exact .one hb
 ·simp only[qcO,Jaq];rw[show((b.toNat:Nat):Int)=b by omega];exact hac
theorem qlj(n:Int):qnR g n<=g.p.l.length:=by
 have:=List.length_filter_le (λm:Nat=>qcO g n m) (List.range g.p.l.length);simpa[qnR]using this
noncomputable def muN (g:Gr) (w:List UInt8) (n x:Int):Nat:=(w.length-x.toNat) * 61+qnR g n
theorem qiD{α : Type}{p : α->Bool}:∀{l:List α}{i:Int},0<=i->idxP p l i = -1->∀a∈l,p a=false
 | [],_,_,_=>by simp
 | a::l,i,hi,h=>by
  simp only[idxP]at h;intro b hb;split at h
  ·omega
  ·rename_i hp;rcases Jag.1 hb with rfl|hb
   ·simpa using hp
   ·exact qiD (by omega) h b hb
theorem qjY(hm:mayB g=true)(hc:qfg g = -1){n:Int}(h0:0<=n)(h1:n<g.p.l.length):¬qdZ g n n:=by
 rw[qfg,Jab hm]at hc;have:=qiD (by omega) hc n.toNat (by simp; omega);simp only[qcO,Jaq]at this;rw[show((n.toNat:Nat):Int)=n by omega]at this;exact this
theorem mu_lt(hm:mayB g=true)(hc:qfg g = -1){n x y:Int}{a:Sl Sy}{i:Nat}(h0:0<=n)(hx0:0<=x)(hx1:x<=w.length)(ha:a∈(lat g.p.l n.toNat).a.l)(hi:i<a.l.length)(hk:(lat a.l i).kind=2)(hd:DerL g w (a.l.take i) x y):muN g w (lat a.l i).n y<muN g w n x:=by
 have hok:=qaF hm;have hr:=qfh ha;have hsy:=(hok.sy _ (qai hr) a ha _ (qai hi)).non hk;have hl:=hd.le hx0 hx1;have r1:=qlj (g:=g) (lat a.l i).n;have hp:=hok.p;unfold muN
 by_cases e:x=y
 ·subst e;have:=qpy (qrU hm h0 ha hi hk hd) hsy.1 hsy.2.1 (qjY hm hc hsy.1 hsy.2.1);omega
 ·have h2:w.length-y.toNat+1<=w.length-x.toNat:=by omega
  have h3:(w.length-y.toNat+1) * 61<=(w.length-x.toNat) * 61:=Nat.mul_le_mul_right _ h2;omega
def qzC(p:Int × Int):V:=.agg [.int .i64 p.1,.int .i64 p.2]
def qAc(l:List Int):V:=(slOf l).enc qaM
def qAr(g:Gr)(w:List UInt8)(p:Int × Int)(l:List Int):Prop:=l.Pairwise (· < ·)/\∀y,y∈l↔Der g w p.1 p.2 y
def EndsOk(g:Gr)(w:List UInt8)(E:Nat)(h:Heap):Prop:=∃es c S,h.get E=some (.map es c)/\MapR qzC qAc es S/\∀p l,qaS p S=some l->qAr g w p l
structure LkS (g:Gr) (w:Wd) (K E W:Nat) (far:Int) (h:Heap):Prop where
 k:h.get K=some (.rows [[g.p.enc Pd.cells,g.keys.enc qac,w.v,.map E,.map W,.int .i64 far]])
 e:EndsOk g w.l E h
 lk:K<h.n
 le:E<h.n
 lw:W<h.n
 ke:K≠E
 kw:K≠W
 ew:E≠W
 wb:WB h w
 mq:w.m<=K
 me:w.m<=E
 mw:w.m<=W
def Fr1(E:Nat)(h h':Heap):Prop:=h.n<=h'.n/\∀i,i<h.n->i≠E->h'.get i=h.get i
theorem Fr1.refl{E:Nat}{h:Heap}:Fr1 E h h:=⟨Jac _,λ_ _ _=>rfl⟩
theorem Fr1.trans{E:Nat}{h h' h'':Heap}(a:Fr1 E h h')(b:Fr1 E h' h''):Fr1 E h h'' :=
 ⟨Jaf a.1 b.1,λi hi hE=>by rw[b.2 i (by have:=a.1; omega) hE,a.2 i hi hE]⟩
theorem LkS.keep{g:Gr}{w:Wd}{K E W:Nat}{far:Int}{h h':Heap}(hL:LkS g w K E W far h)(hn:h.n<=h'.n)(hk:∀i,i<h.n->h'.get i=h.get i):LkS g w K E W far h':=by
 obtain⟨k,⟨es,c,S,e1,e2⟩,lk,le,lw,ke,kw,ew,wb,mk,me,mw⟩:=hL;exact⟨by rw[hk _ lk,k],⟨es,c,S,by rw[hk _ le,e1],e2⟩,by omega,by omega,by omega,ke,kw,ew,wb.keep λi hi=>hk i (by omega),mk,me,mw⟩
theorem qhG{L:Int}:∀{l:List Int}{a:Int},l.Pairwise (· < ·)->(∀x∈l,a<=x/\x<=L)->a<=L+1->(l.length:Int)<=L-a+1
 | [],a,_,_,h=>by simp; omega
 | x::l,a,hp,hx,h=>by
  rw[List.pairwise_cons]at hp;have h0:=hx x (by simp);have:=qhG (L:=L) (l:=l) (a:=x+1) hp.2 (λy hy=>⟨by have:=hp.1 y hy; omega,(hx y (by simp[hy])).2⟩) (by omega);simp only[List.length_cons];omega
theorem qqa{l:List Int}{n:Nat}(hp:l.Pairwise (· < ·))(h:∀x∈l,0<=x/\x<=n)(hn:n<=200):l.length<=201:=by
 have:=qhG (L:=n) (a:=0) hp h (by omega);omega
theorem Own.ext1{h h':Heap}{m e E:Nat}{v:V}{rows:List (List V)}(hO:Own h m v e rows)(hE:E<m)(hf:Fr1 E h h'):Own h' m v e rows:=by
 rcases hO with q|⟨id,q3,q4,q5,q6,q7⟩
 ·exact .inl q
 ·exact .inr ⟨id,q3,by rw[hf.2 id q6 (by omega),q4],q5,by have:=hf.1; omega,q7⟩
def qaH:List UInt8->Int->List Int
 | [],_=>[]
 | c::l,i=>if c.toNat=10 then(i+1)::qaH l (i+1)else qaH l (i+1)
def qaJ(w:List UInt8):List Int:=if(qaH w 0).getLast?=some (w.length:Int)then qaH w 0 else qaH w 0++[(w.length:Int)]
def qfK:List UInt8->Int->Option Int
 | [],r=>some r
 | c::l,r=>if c.toNat / 64=2 then qfK l (r * 64+(c.toNat % 64:Nat))else none
def ofX(p:List UInt8)(n:Nat)(head:Int):Int × Bool :=
 if p.length<n\/((lat p 0).toNat:Int)<head then(0,false)
 else match qfK ((p.drop 1).take (n-1)) ((lat p 0).toNat-head)with
  | some r=>(r,mayI r&&decide ((qbB r:Int)=n))
  | none=>(0,false)
def nx4(D:List UInt8):Int × Int:=if(ofX D 4 240).2=true then((ofX D 4 240).1,4)else(-1,1)
def nx3(D:List UInt8):Int × Int:=if(ofX D 3 224).2=true then((ofX D 3 224).1,3)else nx4 D
def nx2(D:List UInt8):Int × Int:=if(ofX D 2 192).2=true then((ofX D 2 192).1,2)else nx3 D
def nx1(D:List UInt8):Int × Int:=if(ofX D 1 0).2=true then((ofX D 1 0).1,1)else nx2 D
def nxI(D:List UInt8):Nat->Int × Int
 | 0=>nx1 D
 | 1=>nx2 D
 | 2=>nx3 D
 | 3=>nx4 D
 | _=>(-1,1)
def qc1(w:List UInt8)(k:Int):Int × Int :=
 if k<0\/(w.length:Int)<=k then(-1,0)else nx1 (w.drop k.toNat)
def qb0(w:List UInt8):Nat->Int
 | 0=>-1
 | i+1=>if(lat w i).toNat=10 then i else qb0 w i
def qaW(w:List UInt8)(k:Int):Bool:=decide (0<=k)&&decide (k<=w.length)
def qdw(w:List UInt8)(k:Int):Int:=if qaW w k=true then qb0 w k.toNat+1 else -1
def colF(w:List UInt8)(tab k:Int):Nat->Int->Int->Int
 | 0,_,col=>col
 | m+1,i,col=>if i<k then
   if k<i+(qc1 w i).2 then col
   else if(lat w i.toNat).toNat=9 then colF w tab k m (i+(qc1 w i).2) (col+(tab-col.tmod tab))
   else colF w tab k m (i+(qc1 w i).2) (col+1)
  else col
def colV(w:List UInt8)(tab k:Int):Int:=if qaW w k=true/\1<=tab/\tab<=16 then colF w tab k (w.length+1) (qdw w k) 0 else -1
def qho(c:UInt8):Bool:=c.toNat == 32||c.toNat == 9||c.toNat == 13
def qf2(w:List UInt8)(k:Int):Int:=if qaW w k=true then w.length-((w.drop k.toNat).dropWhile qho).length else -1
def bitB(m k:Int):Bool:=decide ¬fw .i64 (BitVec.ofInt IntKind.i64.bits m &&& BitVec.ofInt IntKind.i64.bits k).toNat=0
def qdt(g:Gr)(n:Int):Bool:=mayB g&&(decide (0<=n)&&decide (n<g.p.l.length))
def refV(x:Ev)(n k ref:Int):Int:=if qdt x.g n=true/\bitB (lat x.g.p.l n.toNat).marks 8=true then colV x.w.l x.tab k else ref
def qdR(l:List Rg)(w:List UInt8)(k:Int):Bool:=decide ((qc1 w k).1<0) || !hasB l (qc1 w k).1
def tMay(x:Ev)(k upto:Int):Bool:=decide (0<=k)&&(decide (k<=upto)&&(decide (upto<=x.w.l.length)&&(decide (1<=x.tab)&&decide (x.tab<=16))))
def qhy(x:Ev)(k upto:Int):Bool:=!x.g.keys.l.contains ((x.w.l.drop k.toNat).take (upto-k).toNat)
def qbY(x:Ev)(k upto i:Int):Bool:=!(decide ((lat x.w.l i.toNat).toNat=10)&&(decide (qf2 x.w.l (i+1)<upto)&&(decide ((lat x.w.l (qf2 x.w.l (i+1)).toNat).toNat≠10)&&decide (colV x.w.l x.tab (qf2 x.w.l (i+1))<=colV x.w.l x.tab k))))
def qa7(x:Ev)(k upto:Int):Nat->Bool
 | 0=>true
 | m+1=>qa7 x k upto m&&qbY x k upto (k+m)
def qcW(x:Ev)(k upto:Int):Bool:=qa7 x k upto (upto-k).toNat
def qfl(x:Ev)(k ref:Int):Bool:=decide (colV x.w.l x.tab k=ref)
def qbp(x:Ev)(n k upto ref:Int):Bool :=
 qdt x.g n&&(tMay x k upto&&(qdR (lat x.g.p.l n.toNat).no.l x.w.l upto &&
  ((!bitB (lat x.g.p.l n.toNat).marks 2||qhy x k upto)&&((!bitB (lat x.g.p.l n.toNat).marks 4||qcW x k upto)&&(!bitB (lat x.g.p.l n.toNat).marks 16||qfl x k ref)))))
abbrev Look:=Int->Int->List En
def qa2(N:Look)(w:List UInt8)(s:Sy)(e:En):List En :=
 if s.kind=2 then(N s.n e.1).map λf=>(f.1,e.2+f.2)
 else if 0<qbr s w e.1 then [(e.1+qbr s w e.1,e.2)]else []
def qaA(N:Look)(w:List UInt8):List Sy->List En->List En
 | [],now=>now
 | s::l,now=>qaA N w l (qbG (now.flatMap (qa2 N w s)))
def qcr(x:Ev)(n k:Int):List En:=if x.heal=true/\(n=0\/bitB (lat x.g.p.l n.toNat).marks 32=true)then((qaJ x.w.l).filter λy=>decide (k<y)).map λy=>(y,1)else []
def qcG(x:Ev)(N:Look)(n k:Int):List En:=qbG ((lat x.g.p.l n.toNat).a.l.flatMap λa=>qaA N x.w.l a.l [(k,0)])
def qb4(x:Ev)(n:Int)(c:List En):List En:=if bitB (lat x.g.p.l n.toNat).marks 1=true then c.drop (c.length-1)else c
def endE(x:Ev)(n k ref:Int)(c:List En):List En:=qbG (((qb4 x n c).filter λe=>qbp x n k e.1 ref)++qcr x n k)
def qb9(x:Ev):Nat->Int->Int->Int->List En × List En
 | 0,_,_,_=>([],[])
 | m+1,n,k,ref=>(qcG x (λn' k'=>(qb9 x m n' k' (refV x n k ref)).2) n k,endE x n k ref (qcG x (λn' k'=>(qb9 x m n' k' (refV x n k ref)).2) n k))
theorem qfn(N:Look)(w:List UInt8):∀(l m:List Sy) (now:List En),qaA N w (l++m) now=qaA N w m (qaA N w l now)
 | [],_,_=>rfl
 | s::l,m,now=>qfn N w l m _
theorem qf4{w:List UInt8}{i y:Int}(h:y∈qaH w i):i<y/\y<=i+w.length:=by
 induction w generalizing i with
 | nil=>simp[qaH]at h
 | cons c l ih =>
  simp only[qaH]at h;simp only[List.length_cons];split at h
  ·rcases Jag.1 h with rfl|h
   ·omega
   ·have:=ih h; omega
  ·have:=ih h; omega
theorem qcU{w:List UInt8}{y:Int}(h:y∈qaJ w):0<=y/\y<=w.length:=by
 unfold qaJ at h;split at h
 ·have:=qf4 h; omega
 ·rcases Jaj.1 h with h|h
  ·have:=qf4 h; omega
  ·rw[Jah]at h; omega
def EndP(g:Gr)(w:List UInt8)(n k:Int)(e:En):Prop:=k<=e.1/\e.1<=w.length/\(0<=e.2/\e.2<=e.1-k)/\(e.1=k->Der g w n k k)
def NowP(g:Gr)(w:List UInt8)(l:List Sy)(k:Int)(e:En):Prop:=k<=e.1/\e.1<=w.length/\(0<=e.2/\e.2<=e.1-k)/\(e.1=k->DerL g w l k k)
section
variable {x:Ev}{g:Gr}{w:List UInt8}
theorem qsm{s:Sy}{k:Int}(hk:s.kind=2)(hn:0<=s.n)(h:Der g w s.n k k):DerL g w [s] k k:=by
 obtain⟨a,ha,hd⟩:=h;exact .non hk hn ha hd .nil
theorem qeM{N:Look}{l:List Sy}{s:Sy}{k:Int}{e f:En}(h0:0<=k)(hs:s.kind=2->0<=s.n)(hN:s.kind=2->∀f∈N s.n e.1,EndP g w s.n e.1 f)(he:NowP g w l k e)(hf:f∈qa2 N w s e):NowP g w (l++[s]) k f:=by
 obtain⟨e1,e2,e3,e4⟩:=he;unfold qa2 at hf;split at hf
 ·rename_i hk;obtain⟨f',hf',rfl⟩:=Jak.1 hf;obtain⟨q1,q2,q3,q4⟩:=hN hk f' hf';refine⟨by simp only; omega,q2,by simp only; omega,λh=>?_⟩;simp only at h;have h5:e.1=k:=by omega
  have h6:=q4 (by omega);rw[h5]at h6;exact(e4 h5).append (qsm hk (hs hk) h6)
 ·split at hf
  ·rename_i hm;rw[Jah]at hf;subst hf;have:=qdJ hm;exact⟨by simp only; omega,by simp only; omega,by simp only; omega,λh=>by simp only at h; omega⟩
  ·cases hf
theorem qbN{l:List En}{Q:En->Prop}(h:∀e∈l,Q e):∀e∈qbG l,Q e:=λe he=>h e (qgf he)
theorem qfm{N:Look}{k:Int}(h0:0<=k):∀(m l:List Sy) (now:List En),(∀s∈m,s.kind=2->0<=s.n)->(∀i,i<m.length->(lat m i).kind=2->∀e,NowP g w (l++m.take i) k e->∀f∈N (lat m i).n e.1,EndP g w (lat m i).n e.1 f) ->
  (∀e∈now,NowP g w l k e)->∀e∈qaA N w m now,NowP g w (l++m) k e
 | [],l,now,_,_,h=>by simpa[qaA]using h
 | s::m,l,now,hs,hN,h=>by
  rw[qaA];have:=qfm (N:=N) h0 m (l++[s]) (qbG (now.flatMap (qa2 N w s))) (λt ht=>hs t (by simp[ht])) (λi hi hk e he=>hN (i+1) (by simp; omega) (by simpa[lat]using hk) e (by simpa using he)) (qbN λf hf=>by
   obtain⟨e,he,hfe⟩:=List.mem_flatMap.1 hf;exact qeM h0 (hs s (by simp)) (λhk f hf=>hN 0 (by simp) (by simpa[lat]using hk) e (by simpa using h e he) f hf) (h e he) hfe)
  simpa using this
theorem qhU{n k:Int}{e:En}(h:e∈qcr x n k):k<e.1/\e.1<=x.w.l.length/\e.2=1:=by
 unfold qcr at h;split at h
 ·obtain⟨y,hy,rfl⟩:=Jak.1 h;simp only[List.mem_filter,Jai]at hy;exact⟨hy.2,(qcU hy.1).2,rfl⟩
 ·cases h
theorem qio{n:Int}{c:List En}{e:En}(h:e∈qb4 x n c):e∈c:=by
 unfold qb4 at h;split at h
 ·exact List.mem_of_mem_drop h
 ·exact h
theorem qhQ(hm:mayB g=true)(hc:qfg g = -1){n k y:Int}{a:Sl Sy}{i:Nat}(h0:0<=n)(hx0:0<=k)(hx1:k<=w.length)(ha:a∈(lat g.p.l n.toNat).a.l)(hi:i<a.l.length)(hk:(lat a.l i).kind=2)(hy:y<=w.length)(hky:k<=y)(hd:y=k->DerL g w (a.l.take i) k k):muN g w (lat a.l i).n y<muN g w n k:=by
 by_cases e:y=k
 ·subst e; exact mu_lt hm hc h0 hx0 hx1 ha hi hk (hd rfl)
 ·have hok:=qaF hm;have hp:=hok.p;have r1:=qlj (g:=g) (lat a.l i).n;unfold muN;have h2:w.length-y.toNat+1<=w.length-k.toNat:=by omega
  have h3:(w.length-y.toNat+1) * 61<=(w.length-k.toNat) * 61:=Nat.mul_le_mul_right _ h2;omega
theorem qdp{N N':Look}{k:Int}(h0:0<=k):∀(m l:List Sy) (now:List En),(∀s∈m,s.kind=2->0<=s.n)->(∀i,i<m.length->(lat m i).kind=2->∀e,NowP g w (l++m.take i) k e->N (lat m i).n e.1=N' (lat m i).n e.1/\∀f∈N (lat m i).n e.1,EndP g w (lat m i).n e.1 f) ->
  (∀e∈now,NowP g w l k e)->qaA N w m now=qaA N' w m now
 | [],l,now,_,_,h=>rfl
 | s::m,l,now,hs,hN,h=>by
  have hst:now.flatMap (qa2 N w s)=now.flatMap (qa2 N' w s):=by
   have key:∀now:List En,(∀e∈now,NowP g w l k e)->now.flatMap (qa2 N w s)=now.flatMap (qa2 N' w s):=by
    intro now;induction now with
    | nil=>intro _; rw[List.flatMap_nil,List.flatMap_nil]
    | cons e now ih =>
     intro h;rw[List.flatMap_cons,List.flatMap_cons,ih λf hf=>h f (by simp[hf])];congr 1;unfold qa2;split
     ·rename_i hk;have hz:=(hN 0 (by simp) (by simpa[lat]using hk) e (by simpa using h e (by simp))).1;rw[show lat (s::m) 0=s from rfl]at hz;rw[hz]
     ·rfl
   exact key now h
  rw[qaA,qaA,hst];rw[<-hst];refine qdp h0 m (l++[s]) _ (λt ht=>hs t (by simp[ht])) (λi hi hk e he=>hN (i+1) (by simp; omega) (by simpa[lat]using hk) e (by simpa using he)) (qbN λf hf=>?_);obtain⟨e,he,hfe⟩:=List.mem_flatMap.1 hf;exact qeM h0 (hs s (by simp)) (λhk f hf=>(hN 0 (by simp) (by simpa[lat]using hk) e (by simpa using h e he)).2 f hf) (h e he) hfe
end
structure EvW (x:Ev):Prop where
 m:mayB x.g=true
 c:qfg x.g = -1
 w:x.w.l.length<=200
 t0:1<=x.tab
 t1:x.tab<=16
section
variable {x:Ev}(hx:EvW x)
include hx
theorem qcD{n:Int}{a:Sl Sy}(ha:a∈(lat x.g.p.l n.toNat).a.l):∀s∈a.l,s.kind=2->0<=s.n/\s.n<x.g.p.l.length:=λs hs hk=>by
 have hr:=qfh ha;have:=((qaF hx.m).sy _ (qai hr) a ha s hs).non hk;exact⟨this.1,this.2.1⟩
theorem qgQ:∀(m:Nat) (n k ref:Int),muN x.g x.w.l n k<m->0<=n->n<x.g.p.l.length->0<=k->k<=x.w.l.length ->
  (∀e∈(qb9 x m n k ref).2,EndP x.g x.w.l n k e)/\(∀e∈(qb9 x m n k ref).1,EndP x.g x.w.l n k e)/\∀m',muN x.g x.w.l n k<m'->qb9 x m' n k ref=qb9 x m n k ref
 | 0,_,_,_,h,_,_,_,_=>by omega
 | m+1,n,k,ref,hmu,n0,n1,k0,k1=>by
  have ih:=qgQ m;obtain⟨r,hr⟩:∃r,refV x n k ref=r:=⟨_,rfl⟩;have hask:∀a∈(lat x.g.p.l n.toNat).a.l,∀i,i<a.l.length->(lat a.l i).kind=2->∀e,NowP x.g x.w.l ([]++a.l.take i) k e->muN x.g x.w.l (lat a.l i).n e.1<muN x.g x.w.l n k/\0<=(lat a.l i).n/\(lat a.l i).n<x.g.p.l.length/\0<=e.1/\e.1<=x.w.l.length:=by
   intro a ha i hi hk e he;obtain⟨e1,e2,_,e4⟩:=he;have hs:=qcD hx ha (lat a.l i) (qai hi) hk;exact⟨qhQ hx.m hx.c n0 k0 k1 ha hi hk e2 e1 (by simpa using e4),hs.1,hs.2,by omega,e2⟩
  have hnow:∀e∈[((k,0):En)],NowP x.g x.w.l [] k e:=by
   intro e he;rw[Jah]at he; subst he;exact⟨Int.le_refl _,k1,by simp only; omega,λ_=>.nil⟩
  have hcand:∀e∈qcG x (λn' k'=>(qb9 x m n' k' r).2) n k,EndP x.g x.w.l n k e:=by
   refine qbN λe he=>?_;obtain⟨a,ha,hea⟩:=List.mem_flatMap.1 he;have:=qfm (g:=x.g) (N:=λn' k'=>(qb9 x m n' k' r).2) k0 a.l [] [(k,0)] (λs hs hk=>(qcD hx ha s hs hk).1) (λi hi hk e he=>by
    obtain⟨q1,q2,q3,q4,q5⟩:=hask a ha i hi hk e he;exact(ih (lat a.l i).n e.1 r (by omega) q2 q3 q4 q5).1) hnow e hea
   exact⟨this.1,this.2.1,this.2.2.1,λh=>⟨a,ha,by simpa using this.2.2.2 h⟩⟩
  refine⟨?_,by simpa[qb9,hr]using hcand,?_⟩
  ·simp only[qb9,hr];refine qbN λe he=>?_;rcases Jaj.1 he with he|he
   ·exact hcand e (qio (List.mem_filter.1 he).1)
   ·have:=qhU he;exact⟨by omega,this.2.1,by omega,λh=>by omega⟩
  ·intro m' hm';obtain⟨m2,rfl⟩:∃m2,m'=m2+1:=⟨m'-1,by omega⟩;have hc:qcG x (λn' k'=>(qb9 x m2 n' k' r).2) n k=qcG x (λn' k'=>(qb9 x m n' k' r).2) n k:=by
    unfold qcG;congr 1;have key:∀as:List (Sl Sy),(∀a∈as,a∈(lat x.g.p.l n.toNat).a.l)->(as.flatMap λa=>qaA (λn' k'=>(qb9 x m2 n' k' r).2) x.w.l a.l [(k,0)])=as.flatMap λa=>qaA (λn' k'=>(qb9 x m n' k' r).2) x.w.l a.l [(k,0)]:=by
     intro as;induction as with
     | nil=>intro _; rw[List.flatMap_nil,List.flatMap_nil]
     | cons a as ihs =>
      intro h;rw[List.flatMap_cons,List.flatMap_cons,ihs λb hb=>h b (by simp[hb])];congr 1;refine(qdp (g:=x.g) k0 a.l [] [(k,0)] (λs hs hk=>(qcD hx (h a (by simp)) s hs hk).1) (λi hi hk e he=>?_) hnow).symm;obtain⟨q1,q2,q3,q4,q5⟩:=hask a (h a (by simp)) i hi hk e he;have hI:=ih (lat a.l i).n e.1 r (by omega) q2 q3 q4 q5;exact⟨by rw[hI.2.2 m2 (by omega)],hI.1⟩
    exact key _ λ_ h=>h
   simp only[qb9,hr,hc]
end
noncomputable def qaL (x:Ev) (n k ref:Int):List En × List En:=qb9 x (muN x.g x.w.l n k+1) n k ref
noncomputable def qaN (x:Ev) (ref:Int):Look:=λn k=>(qaL x n k ref).2
section
variable {x:Ev}(hx:EvW x)
include hx
theorem qbD{n k ref:Int}(n0:0<=n)(n1:n<x.g.p.l.length)(k0:0<=k)(k1:k<=x.w.l.length) :
  qaL x n k ref=(qcG x (qaN x (refV x n k ref)) n k,endE x n k ref (qcG x (qaN x (refV x n k ref)) n k)):=by
 obtain⟨r,hr⟩:∃r,refV x n k ref=r:=⟨_,rfl⟩;have hc:qcG x (λn' k'=>(qb9 x (muN x.g x.w.l n k) n' k' r).2) n k=qcG x (qaN x r) n k:=by
  unfold qcG;congr 1;have key:∀as:List (Sl Sy),(∀a∈as,a∈(lat x.g.p.l n.toNat).a.l)->(as.flatMap λa=>qaA (λn' k'=>(qb9 x (muN x.g x.w.l n k) n' k' r).2) x.w.l a.l [(k,0)])=as.flatMap λa=>qaA (qaN x r) x.w.l a.l [(k,0)]:=by
   intro as;induction as with
   | nil=>intro _; rfl
   | cons a as ihs =>
    intro h;rw[List.flatMap_cons,List.flatMap_cons,ihs λb hb=>h b (by simp[hb])];congr 1;refine qdp (g:=x.g) k0 a.l [] [(k,0)] (λs hs hk=>(qcD hx (h a (by simp)) s hs hk).1) (λi hi hk e he=>?_) (by
     intro e he;rw[Jah]at he; subst he;exact⟨Int.le_refl _,k1,by simp only; omega,λ_=>.nil⟩)
    obtain⟨e1,e2,_,e4⟩:=he;have hs:=qcD hx (h a (by simp)) (lat a.l i) (qai hi) hk;have hmu:=qhQ hx.m hx.c n0 k0 k1 (h a (by simp)) hi hk e2 e1 (by simpa using e4);have hI:=qgQ hx (muN x.g x.w.l n k) (lat a.l i).n e.1 r hmu hs.1 hs.2 (by omega) e2;refine⟨?_,hI.1⟩;simp only[qaN,qaL];rw[hI.2.2 _ (Nat.lt_succ_self _)]
  exact key _ λ_ h=>h
 unfold qaL;simp only[qb9,hr,hc]
end
theorem qif{N:Look}{w:List UInt8}(hN:∀n k,∀e∈N n k,e.2=0):∀(m:List Sy) (now:List En),(∀e∈now,e.2=0)->∀e∈qaA N w m now,e.2=0
 | [],now,h=>h
 | s::m,now,h=>qif hN m _ (qbN λf hf=>by
   obtain⟨e,he,hfe⟩:=List.mem_flatMap.1 hf;unfold qa2 at hfe;split at hfe
   ·obtain⟨f',hf',rfl⟩:=Jak.1 hfe;have:=hN _ _ f' hf';have:=h e he;simp only;omega
   ·split at hfe
    ·rw[Jah]at hfe; subst hfe; exact h e he
    ·cases hfe)
theorem qgU{x:Ev}(hh:x.heal=false)(n k:Int):qcr x n k=[]:=by
 unfold qcr; rw[Jaa (by simp[hh])]
theorem qjz{x:Ev}(hh:x.heal=false):∀(m:Nat) (n k ref:Int),(∀e∈(qb9 x m n k ref).1,e.2=0)/\∀e∈(qb9 x m n k ref).2,e.2=0
 | 0,_,_,_=>by simp[qb9]
 | m+1,n,k,ref=>by
  have ih:=qjz hh m;have hc:∀e∈qcG x (λn' k'=>(qb9 x m n' k' (refV x n k ref)).2) n k,e.2=0:=by
   unfold qcG;refine qbN λe he=>?_;obtain⟨a,_,hea⟩:=List.mem_flatMap.1 he;exact qif (λn' k'=>(ih n' k' _).2) _ _ (by simp) e hea
  refine⟨hc,?_⟩;simp only[qb9];unfold endE;refine qbN λe he=>?_;rw[qgU hh,List.append_nil]at he;exact hc e (qio (List.mem_filter.1 he).1)
theorem qd6{x:Ev}(hh:x.heal=false)(n k ref:Int):(∀e∈(qaL x n k ref).1,e.2=0)/\∀e∈(qaL x n k ref).2,e.2=0:=qjz hh _ n k ref
theorem qjc(x:Ev)(n:Int)(c:List En):(qb4 x n c).Sublist c:=by
 unfold qb4;split
 ·exact List.drop_sublist _ _
 ·exact List.Sublist.refl _
section
variable {x:Ev}(hx:EvW x) {n k ref:Int}(n0:0<=n) (n1:n<x.g.p.l.length) (k0:0<=k) (k1:k<=x.w.l.length)
include hx n0 n1 k0 k1
theorem qc3:(qaL x n k ref).1.Pairwise (λa b=>a.1<b.1)/\(qaL x n k ref).2.Pairwise (λa b=>a.1<b.1):=by
 rw[qbD hx n0 n1 k0 k1];exact⟨qdc _,qdc _⟩
theorem qbf:(∀e∈(qaL x n k ref).1,EndP x.g x.w.l n k e)/\∀e∈(qaL x n k ref).2,EndP x.g x.w.l n k e:=by
 have h:=qgQ hx (muN x.g x.w.l n k+1) n k ref (Nat.lt_succ_self _) n0 n1 k0 k1;exact⟨h.2.1,h.1⟩
theorem qcI(hh:x.heal=false):(qaL x n k ref).2=(qb4 x n (qaL x n k ref).1).filter λe=>qbp x n k e.1 ref:=by
 rw[qbD hx n0 n1 k0 k1];simp only;unfold endE;rw[qgU hh,List.append_nil];unfold qcG;exact qq8 (((qdc _).sublist (qjc x n _)).sublist List.filter_sublist)
end
theorem Rch.trans{g:Gr}{a b c:Int}(h:Rch g a b)(h':Rch g b c):Rch g a c:=by
 induction h' with
 | one h2=>exact .more h h2
 | more _ h2 ih=>exact .more ih h2
def qnp(g:Gr)(n:Int):Bool:=bitB (lat g.p.l n.toNat).marks 32
def Whole(g:Gr)(n:Int):Prop:=∀b,Rch g n b->b≠0/\qnp g b=false
section
variable {d:Bool}{mk:Nat}{h:Heap}{w:Wd}
theorem qcb(hB:WB h w)(k:Int):WF PR d mk (.fn 331 [] []) [w.v,.int .i64 k] h λr=>r=⟨.bool (qaW w.l k),h⟩:=by
 refine qBt f331 b331 [.tm 4] rfl rfl rfl rfl rfl rfl ?_;unfold b331;simp -dsimp;rw[Gd_t];refine⟨λh1=>?_,λh1=>?_⟩
 ·simp -dsimp[h1,hB.len];simp at h1;simp[qaW,h1]
 ·simp -dsimp[h1];simp at h1;simp[qaW]; omega
theorem qog(hB:WB h w)(hw:w.l.length<1000000000):WF PR d mk (.fn 354 [] []) [w.v,.int .u8 10] h λr=>r=⟨.int .i64 (qb0 w.l w.l.length),h⟩:=by
 refine qBt f354 b354 [.tm 4] rfl rfl rfl rfl rfl rfl ?_;unfold b354;simp -dsimp[hB.len,fw64 (n:=(w.l.length:Int)-1) (by omega) (by omega)];refine qaf (λk st=>k<=w.l.length/\(gK 5).run st.tm=.int .i64 ((k:Int)-1)/\qb0 w.l k=qb0 w.l w.l.length/\st.h=h/\st.defs=[]) w.l.length ⟨by omega,by simp,rfl,rfl,rfl⟩ ?_;rintro k ⟨tm,h1,defs,round⟩ ⟨hk,h5,hl,rfl,rfl⟩ hK;have t0:=hK 0 rfl;have t1:=hK 1 rfl;simp at t0 t1 h5;simp only at hB;clear hK;simp -dsimp[h5];rw[qaa];refine⟨λhc=>?_,λhc=>?_⟩
 ·simp at hc;obtain⟨j,rfl⟩:∃j,k=j+1:=⟨k-1,by omega⟩;have e0:((j+1:Nat):Int)-1=j:=by omega
  obtain⟨p,e1,e2⟩:=hB.at (k:=j) (by omega) (by omega);rw[e0]at h5;simp only[Int.toNat_natCast]at e2;simp -dsimp[h5,t0,t1,e0,e1,e2];rw[qaa];simp only[qb0]at hl;refine⟨λhd=>?_,λhd=>?_⟩
  ·simp at hd;rw[Jab (by omega)]at hl;simp -dsimp[h5,<-hl]
  ·simp at hd;rw[Jaa (by omega)]at hl;simp -dsimp[h5,fw64 (n:=(j:Int)-1) (by omega) (by omega)];refine qah.intro j (by omega) ⟨by omega,by simp,hl,rfl,rfl⟩
 ·simp at hc;have:k=0:=by omega
  subst this;simp only[qb0]at hl;simp -dsimp[<-hl]
theorem qjF(hB:WB h w)(hw:w.l.length<1000000000):WF PR d mk (.fn 350 [] []) [w.v,.int .u8 10] h λr=>r=⟨.int .i64 (qb0 w.l w.l.length),h⟩:=by
 refine qBt f350 b350 [.tm 4] rfl rfl rfl rfl rfl rfl ?_;unfold b350;simp -dsimp;refine WFS.by (qog hB hw) ?_
 intro v h' e;cases e;simp -dsimp
theorem qew(l:List UInt8)(k:Nat):∀i,i<=k->k<=l.length->qb0 (l.take k) i=qb0 l i
 | 0,_,_=>rfl
 | i+1,hi,hk=>by
  have h1:lat (l.take k) i=lat l i:=by rw[lat_eq (by simp; omega),lat_eq (by omega),List.getElem_take]
  simp only[qb0,h1,qew l k i (by omega) hk]
theorem qdN(l:List UInt8):∀i,-1<=qb0 l i/\qb0 l i<i
 | 0=>by simp[qb0]
 | i+1=>by
  have:=qdN l i;simp only[qb0];split<;>omega
theorem qqD(hB:WB h w)(hw:w.l.length<1000000000)(k:Int):WF PR d mk (.fn 341 [] []) [w.v,.int .i64 k] h λr=>r=⟨.int .i64 (qdw w.l k),h⟩:=by
 refine qBt f341 b341 [.tm 4] rfl rfl rfl rfl rfl rfl ?_;unfold b341;simp -dsimp;refine WFS.by (qcb hB k) ?_
 intro v h' e;cases e;simp -dsimp;rw[qaa];refine⟨λhc=>?_,λhc=>?_⟩
 ·simp at hc;simp -dsimp[qdw,hc]
 ·simp at hc;have hc2:=hc;simp[qaW]at hc2;simp -dsimp;refine ql5 hB hc2.1 hc2.2 (by simp) ?_;intro v hB2;simp -dsimp;refine WFS.by (qjF hB2 (by simp only[List.length_take]; omega)) ?_
  intro v2 h2 e;cases e;have hlen:(w.l.take k.toNat).length=k.toNat:=by rw[List.length_take]; omega
  simp only[hlen,qew w.l k.toNat k.toNat (Jac _) (by omega)];have hr:=qdN w.l k.toNat;simp -dsimp[qdw,hc,fw64 (n:=qb0 w.l k.toNat+1) (by omega) (by omega)]
theorem qgB{tm:Tm}{h:Heap}{n:Option Nat}{j i:Nat}:results tm h [.cell n j,.tm i]=(match qcp n ((gK j).run tm) h with
  | some v=>some (.tup [v,(gK i).run tm])
  | none=>none):=by
 have e:resV tm h (.cell n j)=qcp n ((gK j).run tm) h:=rfl;have e2:resV tm h (.tm i)=some ((gK i).run tm):=rfl;simp only[results,allM,e,e2];cases qcp n ((gK j).run tm) h<;>rfl
def asc0:List V:=List.replicate 256 (.bool false)
def asc1:List V:=asc0.set 32 (.bool true)
def asc2:List V:=asc1.set 9 (.bool true)
def asc3:List V:=asc2.set 13 (.bool true)
def ascR:Nat->List V
 | 0=>asc0
 | 1=>asc1
 | 2=>asc2
 | _=>asc3
theorem qsy{n:Nat}(hn:n<256):asc3[n]?=some (.bool (n == 32||n == 9||n == 13)):=by
 simp only[asc3,asc2,asc1,asc0,List.getElem?_set,List.length_set,List.length_replicate,List.getElem?_replicate]
 by_cases e1:13=n
 ·subst e1; rfl
 ·by_cases e2:9=n
  ·subst e2; rfl
  ·by_cases e3:32=n
   ·subst e3; rfl
   ·rw[Jaa e1,Jaa e2,Jaa e3,Jab hn];simp; omega
theorem qoU{mk:Nat}{h:Heap}(hmk:mk<=h.n):WF PR d mk (.fn 356 [] []) [.str [32,9,13]] h λr=>r.v=.tup [.agg asc3,.bool true]/\h.n<=r.h.n/\∀i,i<h.n->r.h.get i=h.get i:=by
 refine WF.go f356 b356 [.cell (some 256) 2,.tm 3] rfl rfl rfl rfl rfl rfl ?_;unfold b356;rw[show List.replicate 256 (V.bool false)=asc0 from rfl];simp -dsimp;refine qaf (λk st=>∃i:Nat,i+k=3/\(gK 4).run st.tm=.int .i64 i/\st.h.n=h.n+1/\st.h.get h.n=some (.rows [ascR i])/\(∀j,j<h.n->st.h.get j=h.get j)/\st.defs=[]) 3 ⟨0,rfl,by simp,by simp,by simp[ascR],λj hj=>by rw[qBq,Jaa (by omega)],rfl⟩ ?_;rintro k ⟨tm,h1,defs,round⟩ ⟨i,hi,h4,hn1,hg1,hk1,rfl⟩ hK;have t0:=hK 0 rfl;have t2:=hK 2 rfl;simp at t0 t2 h4;simp only at hn1 hg1 hk1;clear hK;simp -dsimp[h4,t0,t2];rw[qaa];refine⟨λhc=>?_,λhc=>?_⟩
 ·simp at hc;have hi3:i=0\/i=1\/i=2:=by omega
  have l0:asc0.length=256:=rfl;have l1:asc1.length=256:=rfl;have l2:asc2.length=256:=rfl;have i0:qp3 (.str [32,9,13]) (.int .i64 0)=some (.int .u8 32):=rfl;have i1:qp3 (.str [32,9,13]) (.int .i64 1)=some (.int .u8 9):=rfl;have i2:qp3 (.str [32,9,13]) (.int .i64 2)=some (.int .u8 13):=rfl;have j0:qez 256 1 (.ptr h.n 0 0) (.int .u8 32)=some (.ptr h.n 0 32):=rfl;have j1:qez 256 1 (.ptr h.n 0 0) (.int .u8 9)=some (.ptr h.n 0 9):=rfl;have j2:qez 256 1 (.ptr h.n 0 0) (.int .u8 13)=some (.ptr h.n 0 13):=rfl;have p0:qbW asc0 32 [.bool true]=asc1:=rfl;have p1:qbW asc1 9 [.bool true]=asc2:=rfl;have p2:qbW asc2 13 [.bool true]=asc3:=rfl;rcases hi3 with rfl|rfl|rfl
  ·simp only[ascR]at hg1;simp -dsimp[h4,t0,t2,hg1,i0,j0,l0,p0,hmk];exact qah.intro (k-1) (by omega) ⟨1,by omega,by simp; rfl,hn1,by simp[ascR],λj hj=>by rw[qBp,Jaa (by omega),hk1 j hj],rfl⟩
  ·simp only[ascR]at hg1;simp -dsimp[h4,t0,t2,hg1,i1,j1,l1,p1,hmk];exact qah.intro (k-1) (by omega) ⟨2,by omega,by simp; rfl,hn1,by simp[ascR],λj hj=>by rw[qBp,Jaa (by omega),hk1 j hj],rfl⟩
  ·simp only[ascR]at hg1;simp -dsimp[h4,t0,t2,hg1,i2,j2,l2,p2,hmk];exact qah.intro (k-1) (by omega) ⟨3,by omega,by simp; rfl,hn1,by simp[ascR],λj hj=>by rw[qBp,Jaa (by omega),hk1 j hj],rfl⟩
 ·simp at hc;have:i=3:=by omega
  subst this;have l3:asc3.length=256:=rfl;have t3:List.take 256 asc3=asc3:=List.take_of_length_le (by rw[l3]; exact Jac _);have p3:qbW asc3 0 asc3=asc3:=rfl;have o3:ones asc3=true:=rfl;simp only[ascR]at hg1;simp -dsimp[t2,hg1,l3,t3,p3,o3,hmk];have hload:qcp (some 256) ((gK 2).run ((sK 3).run (V.bool true) ((sK 20).run (V.agg asc3) ((sK 9).run (V.bool false) ((sK 8).run (V.int IntKind.i64 3) ((sK 7).run (V.str [32,9,13]) ((sK 6).run (V.int IntKind.i64 3) tm))))))) (h1.set h.n (Obj.rows [asc3]))=some (.agg asc3):=by
   simp[t2,l3,t3]
  rw[qgB,hload];refine OpS.intro rfl ⟨by simp,by show h.n<=h1.n; omega,λj hj=>?_⟩;show(h1.set h.n _).get j=_;rw[qBp,Jaa (by omega),hk1 j hj]
def qgt(l:List UInt8):List UInt8:=l.dropWhile qho
theorem qkM{mk:Nat}{h:Heap}{B:Nat}(hB:h.get B=some (.rows [asc3]))(c:UInt8):WF PR d mk (.fn 367 [] []) [.ptr B 0 0,.int .u8 c.toNat] h λr=>r=⟨.bool (qho c),h⟩:=by
 refine WF.go f367 b367 [.tm 4] rfl rfl rfl rfl rfl rfl ?_;unfold b367;have hc:=c.toNat_lt;have hi:qez 256 1 (.ptr B 0 0) (.int .u8 c.toNat)=some (.ptr B 0 c.toNat):=by
  have h3:idx (.int .u8 c.toNat) 256=some c.toNat:=by have:=qey (k:=.u8) (n:=c.toNat) (len:=256) (by omega) (by omega); simpa using this
  simp only[qez,h3];simp
 have hn:nth c.toNat asc3=some (.bool (qho c)):=by rw[qjt]; exact qsy hc
 simp -dsimp[qcT,hi,hB,hn]
theorem qi4{mk:Nat}{h:Heap}{B:Nat}(hB:h.get B=some (.rows [asc3]))(hW:WB h w)(hw:w.l.length<1000000000):WF PR d mk (.fn 357 [] []) [w.v,.ptr B 0 0] h λr=>r.h=h/\lenV .sl r.v h=some (.int .i64 (qgt w.l).length):=by
 refine WF.go f357 b357 [.tm 4] rfl rfl rfl rfl rfl rfl ?_;unfold b357;simp -dsimp;refine qaf (λk st=>∃b:Wd,b.l.length=k/\(gK 0).run st.tm=b.v/\WB h b/\qgt b.l=qgt w.l/\st.h=h/\st.defs=[]) w.l.length ⟨w,rfl,by simp,hW,rfl,rfl,rfl⟩ ?_;rintro k ⟨tm,h1,defs,round⟩ ⟨b,hk,h0,hb,ht,rfl,rfl⟩ hK;have t1:=hK 1 rfl;simp at t1 h0;clear hK;simp -dsimp[h0,hb.len];rw[qaa];refine⟨λhc=>?_,λhc=>?_⟩
 ·simp at hc;obtain⟨p,e1,e2⟩:=hb.at (k:=0) (by omega) (by omega);simp -dsimp[h0,t1,e1,e2];refine WFS.by (qkM hB _) ?_
  intro v h2 e;cases e;simp -dsimp;have hne:b.l≠[]:=λe=>by rw[e]at hc; simp at hc
  obtain⟨c,t,hct⟩:=List.exists_cons_of_ne_nil hne;rw[qaa];refine⟨λhd=>?_,λhd=>?_⟩
  ·have hb0:qho c=false:=by simpa[hct,lat]using hd
   have htr:qgt b.l=b.l:=by simp[qgt,hct,hb0]
   have hl:¬((b.l.length:Int)=0):=by omega
   have hl2:decide (b.l=[])=false:=by simpa using hne
   simp -dsimp[h0,hb.len];rw[hl2];simp -dsimp[h0];rw[<-ht,htr];simpa using hb.len (H:=h1)
  ·have hb0:qho c=true:=by simpa[hct,lat]using hd
   simp -dsimp[h0];refine qdq (k:=1) hb (by omega) (by omega) (by simp) ?_;intro v hb2;simp -dsimp;refine qah.intro (k-1) (by omega) ⟨⟨v,b.l.drop (Int.toNat 1),b.m⟩,by simp; omega,by simp,hb2,?_,rfl,rfl⟩;rw[<-ht,hct];simp[qgt,hb0]
 ·simp at hc;have hnil:b.l=[]:=by simpa using hc
  have hl:((b.l.length:Int)=0):=by simp[hnil]
  simp -dsimp[h0,hb.len,hl];rw[<-ht,hnil];rfl
theorem qsB{mk:Nat}{h:Heap}(hmk:mk<=h.n)(hW:WB h w)(hm:w.m<=h.n)(hw:w.l.length<1000000000):WF PR d mk (.fn 352 [] []) [w.v,.str [32,9,13]] h λr=>lenV .sl r.v r.h=some (.int .i64 (qgt w.l).length):=by
 refine WF.go f352 b352 [.tm 4] rfl rfl rfl rfl rfl rfl ?_;unfold b352;rw[show List.replicate 256 (V.bool false)=asc0 from rfl];simp -dsimp[hW.len];rw[qaa];refine⟨λhc=>?_,λhc=>?_⟩
 ·have hn:w.l=[]:=by simpa using hc
  simp -dsimp;rw[hn]; rfl
 ·have hn:w.l≠[]:=by simpa using hc
  have hse:(binK BinOp.eql).run (V.str [32,9,13]) (V.str [])=some (.bool false):=rfl;simp -dsimp[hse];refine WFS.by (qoU hmk) ?_
  rintro v h2 ⟨rfl,hn2,hk2⟩;have o3:ones asc3=true:=rfl;have l3:asc3.length=256:=rfl;have l0:asc0.length=256:=rfl;have p3:qbW asc0 0 asc3=asc3:=rfl;have hmk2:mk<=h2.n:=by simp only at hn2; omega
  simp -dsimp[o3,l3,l0,p3,hmk2];refine WFS.by (qi4 (w:=w) (h:=(h2.push (Obj.rows [asc0])).set h2.n (Obj.rows [asc3])) (by simp) (hW.keep λi hi=>?_) hw) ?_
  ·rw[qBp,Jaa (by simp only at hn2; omega),qBq,Jaa (by simp only at hn2; omega),hk2 i (by omega)]
  rintro v h3 ⟨rfl,hl⟩;simp -dsimp;exact hl
theorem qqz(hB:WB h w)(hm:w.m<=h.n)(hw:w.l.length<1000000000)(k:Int):WF PR d mk (.fn 343 [] []) [w.v,.int .i64 k] h λr=>r=⟨.int .i64 (qf2 w.l k),h⟩:=by
 refine qBt f343 b343 [.tm 4] rfl rfl rfl rfl rfl rfl ?_;unfold b343;simp -dsimp;refine WFS.by (qcb hB k) ?_
 intro v h' e;cases e;simp -dsimp;rw[qaa];refine⟨λhc=>?_,λhc=>?_⟩
 ·simp at hc;simp -dsimp[qf2,hc]
 ·simp at hc;have hc2:=hc;simp[qaW]at hc2;simp -dsimp[hB.len];refine qdq hB hc2.1 hc2.2 (by simp) ?_;intro v hB2;simp -dsimp;refine WFS.by (qsB (w:=⟨v,w.l.drop k.toNat,w.m⟩) (Jac _) hB2 hm (by simp only[List.length_drop]; omega)) ?_
  intro v2 h2 e;have hdl:(qgt (w.l.drop k.toNat)).length<=w.l.length:=by
   have h1:(qgt (w.l.drop k.toNat)).length<=(w.l.drop k.toNat).length:=(List.dropWhile_sublist _).length_le;rw[List.length_drop]at h1; omega
  simp only at e;simp -dsimp[e,fw64 (n:=(w.l.length:Int)-(qgt (w.l.drop k.toNat)).length) (by omega) (by omega)];simp[qf2,hc,qgt]
end
theorem WB.cut{h:Heap}{w:Wd}(hw:WB h w){x y:Nat}{lo hi:Opd}{tm:Tm}(h1:x<=y)(h2:y<=w.l.length)(ho:lo.ev tm=.int .i64 x)(hp:hi.ev tm=.int .i64 y):∃v,qaT 1 (cutK (some lo) (some hi) none) tm w.v=some v/\WB h ⟨v,(w.l.drop x).take (y-x),w.m⟩:=by
 have hl:((w.l.drop x).take (y-x)).length=y-x:=by rw[List.length_take,List.length_drop]; omega
 have b1:bnd (x:Int) y=some x:=by simpa using qaY (n:=(x:Int)) (top:=y) (by omega) (by omega)
 have b2:bnd (y:Int) w.l.length=some y:=by simpa using qaY (n:=(y:Int)) (top:=w.l.length) (by omega) (by omega)
 rcases hw with ⟨s,a,b⟩|⟨id,l0,f,rs,a,b,c,d,e⟩
 ·refine⟨(s.cut x y).enc qak,?_,.inl ⟨_,rfl,?_⟩⟩
  ·rw[a];refine qdD (λ_=>rfl) λfl=>?_;rw[b];simp[ho,hp,b2,qdl,b1]
  ·rw[qqd,b]
 ·refine⟨.sl id (l0+x) (y-x) 1 (f&&decide (y=w.l.length)),?_,.inr ⟨id,l0+x,f&&decide (y=w.l.length),rs,by simp only[hl],b,by simp only[hl]; omega,?_,e⟩⟩
  ·rw[a];simp[ho,hp,b2,qdl,b1]
  ·simp only[hl,List.map_take,List.map_drop,<-d];rw[List.drop_take,List.take_take,List.drop_drop,Nat.min_eq_left (by omega)]
theorem qoZ{h:Heap}{w:Wd}(hw:WB h w){x y:Nat}{lo hi:Opd}{tm:Tm}{Q:V->Prop}(h1:x<=y)(h2:y<=w.l.length)(ho:lo.ev tm=.int .i64 x)(hp:hi.ev tm=.int .i64 y)(hq:∀v,WB h ⟨v,(w.l.drop x).take (y-x),w.m⟩->Q v):OpS (qaT 1 (cutK (some lo) (some hi) none) tm w.v) Q ⟨⟩:=by
 obtain⟨v,a,b⟩:=hw.cut h1 h2 ho hp;exact⟨v,a,hq v b⟩
theorem qql(c:UInt8):(binK .andNot).run (.int .u8 c.toNat) (.int .u8 63)=some (.int .u8 ((c.toNat / 64 * 64:Nat):Int)):=by
 have h:∀n:Fin 256,fw .u8 (BitVec.ofInt IntKind.u8.bits (n.val:Int) &&& ~~~ BitVec.ofInt IntKind.u8.bits 63).toNat=((n.val / 64 * 64:Nat):Int):=by decide
 rw[qea,h ⟨c.toNat,c.toNat_lt⟩]
theorem qqm(c:UInt8):(binK .and).run (.int .u8 c.toNat) (.int .u8 63)=some (.int .u8 ((c.toNat % 64:Nat):Int)):=by
 have h:∀n:Fin 256,fw .u8 (BitVec.ofInt IntKind.u8.bits (n.val:Int) &&& BitVec.ofInt IntKind.u8.bits 63).toNat=((n.val % 64:Nat):Int):=by decide
 rw[qeG,h ⟨c.toNat,c.toNat_lt⟩]
theorem qri{a:Int}(a0:0<=a)(a1:a<1152921504606846976 / 64):(binK .shl).run (.int .i64 a) (.int .u64 6)=some (.int .i64 (a * 64)):=by
 show some (V.int .i64 (fw .i64 (a * ((2 ^ (Nat.min 6 IntKind.i64.bits):Nat):Int))))=_;rw[show((2 ^ (Nat.min 6 IntKind.i64.bits):Nat):Int)=64 from rfl,fw64 (by omega) (by omega)]
section
variable {d:Bool}{mk:Nat}{h:Heap}{w:Wd}
theorem qmZ{l:List UInt8}{r:Int}{i:Nat}(hi:i<l.length)(hc:¬(lat l i).toNat / 64=2):qfK (l.drop i) r=none:=by
 rw[qbu hi,qfK,Jaa hc]
theorem qmY{l:List UInt8}{r:Int}{i:Nat}(hi:i<l.length)(hc:(lat l i).toNat / 64=2):qfK (l.drop i) r=qfK (l.drop (i+1)) (r * 64+((lat l i).toNat % 64:Nat)):=by
 rw[qbu hi,qfK,Jab hc]
theorem qge(hB:WB h w)(hw:w.l.length<1000000000){n:Nat}(n1:1<=n)(n4:n<=4){hd:Int}(d0:0<=hd)(d1:hd<=240):WF PR d mk (.fn 216 [] []) [w.v,.int .i64 n,.int .i64 hd] h λr=>r=⟨.tup [.int .i64 (ofX w.l n hd).1,.bool (ofX w.l n hd).2],h⟩:=by
 refine qBt f216 b216 [.tm 6,.tm 7] rfl rfl rfl rfl rfl rfl ?_;unfold b216;simp -dsimp[hB.len];rw[Gd_f];refine⟨λhc=>?_,λhc=>?_⟩;rotate_left
 ·have hc1:w.l.length<n:=by simpa using hc
  simp -dsimp[hc];simp[ofX,hc1]
 have hc1:¬w.l.length<n:=by simpa using hc
 obtain⟨p,e1,e2⟩:=hB.at (k:=0) (by omega) (by omega);simp only[Int.toNat_zero]at e2;have hb:=(lat w.l 0).toNat_lt;simp -dsimp[hc,e1,e2,fw64 (n:=((lat w.l 0).toNat:Int)) (by omega) (by omega)];rw[qaa];refine⟨λhg=>?_,λhg=>?_⟩
 ·have hg1:((lat w.l 0).toNat:Int)<hd:=by simpa using hg
  simp -dsimp;simp[ofX,hg1]
 have hg1:¬((lat w.l 0).toNat:Int)<hd:=by simpa using hg
 simp -dsimp[e1,e2,fw64 (n:=((lat w.l 0).toNat:Int)) (by omega) (by omega),fw64 (n:=((lat w.l 0).toNat:Int)-hd) (by omega) (by omega)];refine qoZ (x:=1) (y:=n) hB n1 (by omega) (by simp) (by simp) ?_;intro v hB2;obtain⟨t,ht⟩:∃t,(w.l.drop 1).take (n-1)=t:=⟨_,rfl⟩;have htl:t.length=n-1:=by rw[<-ht,List.length_take,List.length_drop]; omega
 rw[ht]at hB2;obtain⟨r0,hr0⟩:∃r0:Int,((lat w.l 0).toNat:Int)-hd=r0:=⟨_,rfl⟩;have hof:ofX w.l n hd=(match qfK t r0 with
  | some r=>(r,mayI r&&decide ((qbB r:Int)=n))
  | none=>(0,false)):=by
  unfold ofX;rw[Jaa (by omega),ht,hr0]<;>rfl
 simp -dsimp[hB2.len,hr0];refine qaf (λk st=>∃(i:Nat) (r:Int),i+k=t.length/\(gK 33).run st.tm=.int .i64 i/\(gK 8).run st.tm=.int .i64 r/\0<=r/\r<p2 (8+6 * i)/\qfK (t.drop i) r=qfK t r0/\st.h=h/\st.defs=[]) t.length
  ⟨0,r0,by omega,by simp,by simp,by omega,by simp[p2]; omega,rfl,rfl,rfl⟩ ?_
 rintro k ⟨tm,h1,defs,round⟩ ⟨i,r,hi,h33,h8,r0',r1,hcn,rfl,rfl⟩ hK;have t1:=hK 1 rfl;have t31:=hK 31 rfl;have t32:=hK 32 rfl;simp at t1 t31 t32 h33 h8;clear hK;simp only at hB hB2 e2;have hp:p2 (8+6 * i)<=p2 26:=by
  simp only[p2,Int.ofNat_eq_natCast];exact_mod_cast Nat.pow_le_pow_right (by omega) (by omega)
 have hp26:p2 26=67108864:=rfl;simp -dsimp[h33,t32];rw[qaa];refine⟨λhd1=>?_,λhd1=>?_⟩
 ·simp at hd1;obtain⟨q,g1,g2⟩:=hB2.at (k:=i) (by omega) (by simp only; omega);simp only[Int.toNat_natCast]at g2;obtain⟨c,hcc⟩:∃c,lat t i=c:=⟨_,rfl⟩;rw[hcc]at g2;have hcl:=c.toNat_lt;have bt:=qql c;have bl:=qqm c;simp -dsimp[t31,h33,g1,g2,bt,-qea,-qeG];rw[qaa];refine⟨λhe=>?_,λhe=>?_⟩
  ·have hne:¬(lat t i).toNat / 64=2:=by
    rw[hcc]; intro e; simp at he; omega
   rw[qmZ (by omega) hne]at hcn;simp -dsimp;rw[hof,<-hcn];simp
  ·have heq:(lat t i).toNat / 64=2:=by
    rw[hcc]; simp at he; omega
   rw[qmY (by omega) heq,hcc]at hcn;have hsh:=qri (a:=r) r0' (by omega);have hcast:((c.toNat % 64:Nat):Int)=(c.toNat:Int) % 64:=by omega
   rw[hcast]at hcn;have hor:(binK .or).run (.int .i64 (r * 64)) (.int .i64 ((c.toNat:Int) % 64))=some (.int .i64 (r * 64+(c.toNat:Int) % 64)):=qfx (k:=6) (c:=r) (by simp[p2]; omega) r0' (by omega) (by omega) (by simp[p2]; omega) (by omega);have hfw:fw .i64 ((c.toNat:Int) % 64)=(c.toNat:Int) % 64:=fw64 (by omega) (by omega);simp -dsimp[h8,hsh,bl,-qeG,hfw,hor,-qia,h33,fw64 (n:=(i:Int)+1) (by omega) (by omega)];refine qah.intro (k-1) (by omega) ⟨i+1,r * 64+(c.toNat:Int) % 64,by omega,by simp,by simp,by omega,?_,hcn,rfl,rfl⟩;rw[show 8+6 * (i+1)=(8+6 * i)+6 by omega,qqL,show p2 6=64 from rfl];omega
 ·simp at hd1;rw[List.drop_eq_nil_of_le (by omega),qfK]at hcn;rw[<-hcn]at hof;simp only at hof;have hd2:decide (i<t.length)=false:=by simpa using hd1
  simp -dsimp[hd2,h8];refine WFS.by (qi1 r) ?_
  intro v2 h2 e;cases e;simp -dsimp;rw[Gd_t];refine⟨λhm=>?_,λhm=>?_⟩
  ·simp -dsimp[hm,h8];refine WFS.by (qny r) ?_
   intro v2 h2 e;cases e;simp -dsimp[t1];rw[hof];simp[hm]
  ·simp -dsimp[hm];rw[hof];simp[hm]
theorem qo0(hB:WB h w)(hw:w.l.length<1000000000)(k:Int):WF PR d mk (.fn 153 [] []) [w.v,.int .i64 k] h λr=>r=⟨.tup [.int .i64 (qc1 w.l k).1,.int .i64 (qc1 w.l k).2],h⟩:=by
 have hone:∀{b:Wd}(_:WB h b) (_:b.l.length<1000000000) {d:Bool}{mk:Nat},WF PR d mk (.fn 188 [] []) [b.v] h λr=>r=⟨.tup [.int .i64 (ofX b.l 1 0).1,.bool (ofX b.l 1 0).2],h⟩:=λ{b} hb hl {d mk}=>by
  refine WF.go f188 b188 [.tm 2,.tm 3] rfl rfl rfl rfl rfl rfl ?_;unfold b188;simp -dsimp;refine WFS.by (qge hb hl (n:=1) (by omega) (by omega) (hd:=0) (by omega) (by omega)) ?_
  intro v h' e;cases e;simp -dsimp
 have htwo:∀{b:Wd}(_:WB h b) (_:b.l.length<1000000000) {d:Bool}{mk:Nat},WF PR d mk (.fn 189 [] []) [b.v] h λr=>r=⟨.tup [.int .i64 (ofX b.l 2 192).1,.bool (ofX b.l 2 192).2],h⟩:=λ{b} hb hl {d mk}=>by
  refine WF.go f189 b189 [.tm 2,.tm 3] rfl rfl rfl rfl rfl rfl ?_;unfold b189;simp -dsimp;refine WFS.by qgk ?_
  intro v h' e;cases e;have hi:qfF 5 1 false qjJ (V.int IntKind.i64 2)=some (.int .i64 192):=rfl;simp -dsimp[hi];refine WFS.by (qge hb hl (n:=2) (by omega) (by omega) (hd:=192) (by omega) (by omega)) ?_
  intro v h' e;cases e;simp -dsimp
 have hthree:∀{b:Wd}(_:WB h b) (_:b.l.length<1000000000) {d:Bool}{mk:Nat},WF PR d mk (.fn 190 [] []) [b.v] h λr=>r=⟨.tup [.int .i64 (ofX b.l 3 224).1,.bool (ofX b.l 3 224).2],h⟩:=λ{b} hb hl {d mk}=>by
  refine WF.go f190 b190 [.tm 2,.tm 3] rfl rfl rfl rfl rfl rfl ?_;unfold b190;simp -dsimp;refine WFS.by qgk ?_
  intro v h' e;cases e;have hi:qfF 5 1 false qjJ (V.int IntKind.i64 3)=some (.int .i64 224):=rfl;simp -dsimp[hi];refine WFS.by (qge hb hl (n:=3) (by omega) (by omega) (hd:=224) (by omega) (by omega)) ?_
  intro v h' e;cases e;simp -dsimp
 have hfour:∀{b:Wd}(_:WB h b) (_:b.l.length<1000000000) {d:Bool}{mk:Nat},WF PR d mk (.fn 191 [] []) [b.v] h λr=>r=⟨.tup [.int .i64 (ofX b.l 4 240).1,.bool (ofX b.l 4 240).2],h⟩:=λ{b} hb hl {d mk}=>by
  refine WF.go f191 b191 [.tm 2,.tm 3] rfl rfl rfl rfl rfl rfl ?_;unfold b191;simp -dsimp;refine WFS.by qgk ?_
  intro v h' e;cases e;have hi:qfF 5 1 false qjJ (V.int IntKind.i64 4)=some (.int .i64 240):=rfl;simp -dsimp[hi];refine WFS.by (qge hb hl (n:=4) (by omega) (by omega) (hd:=240) (by omega) (by omega)) ?_
  intro v h' e;cases e;simp -dsimp
 refine qBt f153 b153 [.tm 4,.tm 5] rfl rfl rfl rfl rfl rfl ?_;unfold b153;simp -dsimp;rw[Gd_f];refine⟨λh1=>?_,λh1=>?_⟩;rotate_left
 ·have h1':k<0:=by simpa using h1
  simp -dsimp[h1];simp[qc1,h1']
 have h1':¬k<0:=by simpa using h1
 simp -dsimp[h1,hB.len];rw[qaa];refine⟨λh2=>?_,λh2=>?_⟩
 ·have h2':(w.l.length:Int)<=k:=by simpa using h2
  simp -dsimp;simp[qc1,h2']
 have h2':¬(w.l.length:Int)<=k:=by simpa using h2
 obtain⟨D,hD⟩:∃D,w.l.drop k.toNat=D:=⟨_,rfl⟩;have hDl:D.length<1000000000:=by rw[<-hD,List.length_drop]; omega
 have hnx:qc1 w.l k=nx1 D:=by
  unfold qc1;rw[Jaa (by omega),hD]
 rw[hnx];simp -dsimp;refine qaf (λk st=>∃i:Nat,i+k=4/\(gK 19).run st.tm=.int .i64 i/\nxI D i=nx1 D/\st.h=h/\st.defs=[]) 4 ⟨0,rfl,by simp,rfl,rfl,rfl⟩ ?_;rintro q ⟨tm,h1,defs,round⟩ ⟨i,hi,h19,hx,rfl,rfl⟩ hK;have t0:=hK 0 rfl;have t1:=hK 1 rfl;have t18:=hK 18 rfl;simp at t0 t1 t18 h19;clear hK;simp only at hB hone htwo hthree hfour;simp -dsimp[h19];rw[qaa];refine⟨λhc=>?_,λhc=>?_⟩
 ·simp at hc;have hi4:i=0\/i=1\/i=2\/i=3:=by omega
  rcases hi4 with rfl|rfl|rfl|rfl
  ·have e1:qfF 4 1 false (V.agg [.fn 188 [] [],.fn 189 [] [],.fn 190 [] [],.fn 191 [] []]) (.int .i64 0)=some (.fn 188 [] []):=rfl;simp -dsimp[h19,t18,t0,t1,e1];refine qdq (k:=k) hB (by omega) (by omega) (by simp[t1]) ?_;intro v hB2;rw[hD]at hB2;simp -dsimp;refine WFS.by (hone hB2 hDl) ?_
   intro v2 h2 e;cases e;simp -dsimp;rw[qaa];refine⟨λhd=>?_,λhd=>?_⟩
   ·skip
    simp -dsimp[fw64 (n:=1) (by omega) (by omega)];have hz:nxI D 0=((ofX D 1 0).1,1):=by simp only[nxI,nx1]; rw[Jab hd]
    rw[<-hx,hz];simp
   ·skip
    simp -dsimp[h19,fw64 (n:=1) (by omega) (by omega)];have hz:nxI D 0=nxI D 1:=by simp only[nxI,nx1]; rw[Jaa (by rw[hd]; exact Bool.false_ne_true)]
    rw[hz]at hx;refine qah.intro (q-1) (by omega) ⟨1,by omega,by simp,hx,rfl,rfl⟩
  ·have e1:qfF 4 1 false (V.agg [.fn 188 [] [],.fn 189 [] [],.fn 190 [] [],.fn 191 [] []]) (.int .i64 1)=some (.fn 189 [] []):=rfl;simp -dsimp[h19,t18,t0,t1,e1];refine qdq (k:=k) hB (by omega) (by omega) (by simp[t1]) ?_;intro v hB2;rw[hD]at hB2;simp -dsimp;refine WFS.by (htwo hB2 hDl) ?_
   intro v2 h2 e;cases e;simp -dsimp;rw[qaa];refine⟨λhd=>?_,λhd=>?_⟩
   ·skip
    simp -dsimp[fw64 (n:=2) (by omega) (by omega)];have hz:nxI D 1=((ofX D 2 192).1,2):=by simp only[nxI,nx2]; rw[Jab hd]
    rw[<-hx,hz];simp
   ·skip
    simp -dsimp[h19,fw64 (n:=2) (by omega) (by omega)];have hz:nxI D 1=nxI D 2:=by simp only[nxI,nx2]; rw[Jaa (by rw[hd]; exact Bool.false_ne_true)]
    rw[hz]at hx;refine qah.intro (q-1) (by omega) ⟨2,by omega,by simp,hx,rfl,rfl⟩
  ·have e1:qfF 4 1 false (V.agg [.fn 188 [] [],.fn 189 [] [],.fn 190 [] [],.fn 191 [] []]) (.int .i64 2)=some (.fn 190 [] []):=rfl;simp -dsimp[h19,t18,t0,t1,e1];refine qdq (k:=k) hB (by omega) (by omega) (by simp[t1]) ?_;intro v hB2;rw[hD]at hB2;simp -dsimp;refine WFS.by (hthree hB2 hDl) ?_
   intro v2 h2 e;cases e;simp -dsimp;rw[qaa];refine⟨λhd=>?_,λhd=>?_⟩
   ·skip
    simp -dsimp[fw64 (n:=3) (by omega) (by omega)];have hz:nxI D 2=((ofX D 3 224).1,3):=by simp only[nxI,nx3]; rw[Jab hd]
    rw[<-hx,hz];simp
   ·skip
    simp -dsimp[h19,fw64 (n:=3) (by omega) (by omega)];have hz:nxI D 2=nxI D 3:=by simp only[nxI,nx3]; rw[Jaa (by rw[hd]; exact Bool.false_ne_true)]
    rw[hz]at hx;refine qah.intro (q-1) (by omega) ⟨3,by omega,by simp,hx,rfl,rfl⟩
  ·have e1:qfF 4 1 false (V.agg [.fn 188 [] [],.fn 189 [] [],.fn 190 [] [],.fn 191 [] []]) (.int .i64 3)=some (.fn 191 [] []):=rfl;simp -dsimp[h19,t18,t0,t1,e1];refine qdq (k:=k) hB (by omega) (by omega) (by simp[t1]) ?_;intro v hB2;rw[hD]at hB2;simp -dsimp;refine WFS.by (hfour hB2 hDl) ?_
   intro v2 h2 e;cases e;simp -dsimp;rw[qaa];refine⟨λhd=>?_,λhd=>?_⟩
   ·skip
    simp -dsimp[fw64 (n:=4) (by omega) (by omega)];have hz:nxI D 3=((ofX D 4 240).1,4):=by simp only[nxI,nx4]; rw[Jab hd]
    rw[<-hx,hz];simp
   ·skip
    simp -dsimp[h19,fw64 (n:=4) (by omega) (by omega)];have hz:nxI D 3=nxI D 4:=by simp only[nxI,nx4]; rw[Jaa (by rw[hd]; exact Bool.false_ne_true)]
    rw[hz]at hx;refine qah.intro (q-1) (by omega) ⟨4,by omega,by simp,hx,rfl,rfl⟩
 ·simp at hc;have:i=4:=by omega
  subst this;simp -dsimp;simp[<-hx,nxI]
end
theorem qfA{w:List UInt8}{k:Int}(k0:0<=k)(k1:k<w.length):1<=(qc1 w k).2/\(qc1 w k).2<=4:=by
 unfold qc1;rw[Jaa (by omega)];unfold nx1 nx2 nx3 nx4;split
 ·simp
 ·split
  ·simp
  ·split
   ·simp
   ·split<;>simp
theorem qhp{w:List UInt8}{k:Int}(h:qaW w k=true):0<=qdw w k/\qdw w k<=k:=by
 unfold qdw;rw[Jab h];have:=qdN w k.toNat;simp[qaW]at h;omega
section
variable {d:Bool}{mk:Nat}{h:Heap}{w:Wd}
theorem qq3(hB:WB h w)(hw:w.l.length<1000000)(k tab:Int):WF PR d mk (.fn 332 [] []) [w.v,.int .i64 k,.int .i64 tab] h λr=>r=⟨.int .i64 (colV w.l tab k),h⟩:=by
 refine qBt f332 b332 [.tm 6] rfl rfl rfl rfl rfl rfl ?_;unfold b332;simp -dsimp;refine WFS.by (qcb hB k) ?_
 intro v h' e;cases e;simp -dsimp;rw[Gd_f];refine⟨λh1=>?_,λh1=>?_⟩;rotate_left
 ·have h1':qaW w.l k=false:=by simpa using h1
  simp -dsimp[h1'];simp[colV,h1']
 have hp:qaW w.l k=true:=by simpa using h1
 simp -dsimp[h1];rw[Gd_f];refine⟨λh2=>?_,λh2=>?_⟩;rotate_left
 ·have h2':tab<1:=by simpa using h2
  simp -dsimp[h2];have:¬1<=tab:=by omega
  simp[colV,this]
 have h2':¬tab<1:=by simpa using h2
 simp -dsimp[h2];rw[qaa];refine⟨λh3=>?_,λh3=>?_⟩
 ·have h3':16<tab:=by simpa using h3
  simp -dsimp;have:¬tab<=16:=by omega
  simp[colV,this]
 have h3':¬16<tab:=by simpa using h3
 have hp2:=hp;simp[qaW]at hp2;have hc:colV w.l tab k=colF w.l tab k (w.l.length+1) (qdw w.l k) 0:=by
  unfold colV;rw[Jab ⟨hp,by omega,by omega⟩]
 have hbr:=qhp hp;simp -dsimp;refine WFS.by (qqD hB (by omega) k) ?_
 intro v h' e;cases e;simp -dsimp;refine qaf (λm st=>∃i col:Int,(gK 8).run st.tm=.int .i64 i/\(gK 7).run st.tm=.int .i64 col/\colF w.l tab k m i col=colV w.l tab k/\0<=i/\i<=k/\k-i<m/\0<=col/\col<=16 * i/\st.h=h/\st.defs=[]) (w.l.length+1)
  ⟨qdw w.l k,0,by simp,by simp,hc.symm,hbr.1,hbr.2,by omega,by omega,by omega,rfl,rfl⟩ ?_
 rintro m ⟨tm,h1,defs,round⟩ ⟨i,col,h8,h7,hx,i0,i1,hm,c0,c1,rfl,rfl⟩ hK;have t0:=hK 0 rfl;have t1:=hK 1 rfl;have t2:=hK 2 rfl;simp at t0 t1 t2 h8 h7;clear hK;simp only at hB;simp -dsimp[h8,t1];rw[qaa];refine⟨λhd=>?_,λhd=>?_⟩
 ·have hd1:i<k:=by simpa using hd
  obtain⟨m2,rfl⟩:∃m2,m=m2+1:=⟨m-1,by omega⟩;have hnr:=qfA (w:=w.l) i0 (by omega);obtain⟨p,e1,e2⟩:=hB.at (k:=i) (by omega) (by omega);rw[colF,Jab hd1]at hx;simp -dsimp[h8,t0];refine WFS.by (qo0 hB (by omega) i) ?_
  intro v h' e;cases e;obtain⟨q,hq⟩:∃q,(qc1 w.l i).2=q:=⟨_,rfl⟩;rw[hq]at hnr hx;simp -dsimp[h8,t1,hq,fw64 (n:=i+q) (by omega) (by omega)];rw[qaa];refine⟨λhe=>?_,λhe=>?_⟩
  ·have he1:k<i+q:=by simpa using he
   rw[Jab he1]at hx;simp -dsimp[h7];simp[hx]
  ·have he1:¬k<i+q:=by simpa using he
   rw[Jaa he1]at hx;simp -dsimp[h8,t0,e1,e2];rw[qaa];refine⟨λhf=>?_,λhf=>?_⟩
   ·have hf1:(lat w.l i.toNat).toNat=9:=by simp at hf; omega
    rw[Jab hf1]at hx;have g0:0<=col.tmod tab:=Int.tmod_nonneg tab c0;have g1:col.tmod tab<tab:=Int.tmod_lt_of_pos col (by omega);simp -dsimp[h7,t2,qst (show tab≠0 by omega),h8,fw64 (n:=tab-col.tmod tab) (by omega) (by omega),fw64 (n:=col+(tab-col.tmod tab)) (by omega) (by omega),fw64 (n:=i+q) (by omega) (by omega)];refine qah.intro m2 (by omega) ⟨i+q,col+(tab-col.tmod tab),by simp,by simp,hx,by omega,by omega,by omega,by omega,by omega,rfl,rfl⟩
   ·have hf1:¬(lat w.l i.toNat).toNat=9:=by simp at hf; omega
    rw[Jaa hf1]at hx;simp -dsimp[h7,h8,fw64 (n:=col+1) (by omega) (by omega),fw64 (n:=i+q) (by omega) (by omega)];refine qah.intro m2 (by omega) ⟨i+q,col+1,by simp,by simp,hx,by omega,by omega,by omega,by omega,by omega,rfl,rfl⟩
 ·have hd1:¬i<k:=by simpa using hd
  have hcol:colF w.l tab k m i col=col:=by
   cases m with
   | zero=>rfl
   | succ m=>rw[colF,Jaa hd1]
  simp -dsimp[h7];rw[<-hx,hcol]
end
def qis(p same:Bool)(v:V):Bool:=match v with
 | .bool c=>cond (c == p) same true
 | .tup []=>true
 | _=>false
@[simp]theorem qpw{p same c:Bool}:qis p same (.bool c)=cond (c == p) same true:=(rfl)
@[simp]theorem qrI{d g:Nat}{o:RdO}{h:Heap}{tm:Tm}:qgg (some (Pr.gt d g (.r o))) (some h) tm=qis true (qpi ((qbc o).run tm h) ((gK d).run tm)) ((gK g).run tm):=(rfl)
@[simp]theorem qrJ{d g:Nat}{o:RdO}{h:Heap}{tm:Tm}:qgg (some (Pr.gf d g (.r o))) (some h) tm=qis false (qpi ((qbc o).run tm h) ((gK d).run tm)) ((gK g).run tm):=(rfl)
section
variable {d:Bool}{mk:Nat}{h:Heap}
theorem qlF(x:Ev)(hg:x.g.Small)(n:Int):WF PR d mk (.fn 325 [] []) [.agg x.cells,.int .i64 n] h λr=>r=⟨.bool (qdt x.g n),h⟩:=by
 refine qBt f325 b325 [.tm 4] rfl rfl rfl rfl rfl rfl ?_;unfold b325;have e2:[Sl.enc Pd.cells x.g.p,Sl.enc qac x.g.keys]=x.g.cells:=rfl;simp -dsimp[Ev.cells];rw[e2];refine WFS.by (qfV x.g hg) ?_
 intro v h' e;cases e;simp -dsimp;rw[Gd_t];refine⟨λh1=>?_,λh1=>?_⟩
 ·have h1':mayB x.g=true:=by simpa using h1
  simp -dsimp[h1'];rw[Gd_t];refine⟨λh2=>?_,λh2=>?_⟩
  ·simp -dsimp[h2];simp at h2;simp[qdt,h1',h2]
  ·simp -dsimp[h2];simp at h2;simp[qdt]; omega
 ·have h1':mayB x.g=false:=by simpa using h1
  simp -dsimp[h1'];simp[qdt,h1']
def qa0(x:Ev)(k u r:Int):List V:=[x.g.p.enc Pd.cells,x.g.keys.enc qac,x.w.v,.int .i64 x.tab,.bool x.heal,.int .i64 k,.int .i64 u,.int .i64 r]
theorem qrb(x:Ev)(hB:WB h x.w)(k u r:Int):WF PR d mk (.fn 326 [] []) [.agg (qa0 x k u r)] h λv=>v=⟨.bool (tMay x k u),h⟩:=by
 refine qBt f326 b326 [.tm 2] rfl rfl rfl rfl rfl rfl ?_;unfold b326;simp -dsimp[qa0];rw[Gd_t];refine⟨λh1=>?_,λh1=>?_⟩
 ·simp -dsimp[h1];rw[Gd_t];refine⟨λh2=>?_,λh2=>?_⟩
  ·simp -dsimp[h2,hB.len];rw[Gd_t];refine⟨λh3=>?_,λh3=>?_⟩
   ·simp -dsimp[h3];rw[Gd_t];refine⟨λh4=>?_,λh4=>?_⟩
    ·simp -dsimp[h4];simp at h1 h2 h3 h4;simp[tMay,h1,h2,h3,h4]
    ·simp -dsimp[h4];simp at h1 h2 h3 h4;simp[tMay]; omega
   ·simp -dsimp[h3];simp at h1 h2 h3;simp[tMay]; omega
  ·simp -dsimp[h2];simp at h1 h2;simp[tMay]; omega
 ·simp -dsimp[h1];simp at h1;simp[tMay]; omega
theorem qm7(s:Sl Rg)(hs:s.l.length<1000000000){w:Wd}(hB:WB h w)(hw:w.l.length<1000000000)(k:Int):WF PR d mk (.fn 327 [] []) [s.enc Rg.cells,w.v,.int .i64 k] h λv=>v=⟨.bool (qdR s.l w.l k),h⟩:=by
 refine qBt f327 b327 [.tm 6] rfl rfl rfl rfl rfl rfl ?_;unfold b327;simp -dsimp;refine WFS.by (qo0 hB hw k) ?_
 intro v h' e;cases e;simp -dsimp;rw[Gd_f];refine⟨λh1=>?_,λh1=>?_⟩;rotate_left
 ·simp -dsimp[h1];simp at h1;simp[qdR,h1]
 ·simp -dsimp[h1];refine WFS.by (qq2 s hs _) ?_
  intro v h' e;cases e;simp -dsimp;simp at h1;simp[qdR]; omega
theorem qki(x:Ev)(hB:WB h x.w)(hm:x.w.m<=h.n)(hw:x.w.l.length<1000000)(k u r c:Int):WF PR d mk (.fn 344 [] []) [.agg (qa0 x k u r),.int .i64 c] h λv=>v=⟨.int .i64 (colV x.w.l x.tab c),h⟩:=by
 refine qBt f344 b344 [.tm 4] rfl rfl rfl rfl rfl rfl ?_;unfold b344;simp -dsimp[qa0];refine WFS.by (qq3 (h:=h.push (.rows [qa0 x k u r])) (hB.keep λi hi=>by rw[qBq,Jaa (by omega)]) hw c x.tab) ?_
 intro v h' e;cases e;simp -dsimp
theorem qm5(x:Ev)(hB:WB h x.w)(hm:x.w.m<=h.n)(hw:x.w.l.length<1000000)(k u r:Int):WF PR d mk (.fn 337 [] []) [.agg (qa0 x k u r)] h λv=>v=⟨.bool (qfl x k r),h⟩:=by
 refine qBt f337 b337 [.tm 2] rfl rfl rfl rfl rfl rfl ?_;unfold b337;simp -dsimp[qa0];have hB2:WB (h.push (.rows [qa0 x k u r])) x.w:=hB.keep λi hi=>by rw[qBq,Jaa (by omega)]
 refine WFS.by (qki x hB2 (by simp; omega) hw k u r k) ?_
 intro v h' e;cases e;simp -dsimp[qa0];rfl
theorem qel{x:Ev}{k u:Int}{i:Nat}(h:qa7 x k u i=false):∀m,qa7 x k u (i+m)=false
 | 0=>h
 | m+1=>by
  have:=qel h m;show(qa7 x k u (i+m)&&_)=false;rw[this]; rfl
theorem qoS(x:Ev)(hB:WB h x.w)(hm:x.w.m<=h.n)(hw:x.w.l.length<1000000){k u:Int}(k0:0<=k)(k1:k<=u)(k2:u<=x.w.l.length)(r:Int):WF PR d mk (.fn 336 [] []) [.agg (qa0 x k u r)] h λv=>v=⟨.bool (qcW x k u),h⟩:=by
 refine qBt f336 b336 [.tm 2] rfl rfl rfl rfl rfl rfl ?_;unfold b336;simp -dsimp[qa0];have hB2:WB (h.push (.rows [qa0 x k u r])) x.w:=hB.keep λi hi=>by rw[qBq,Jaa (by omega)]
 obtain⟨H,hH⟩:∃H,h.push (.rows [qa0 x k u r])=H:=⟨_,rfl⟩;have hH':h.push (Obj.rows [[Sl.enc Pd.cells x.g.p,Sl.enc qac x.g.keys,x.w.v,V.int IntKind.i64 x.tab,V.bool x.heal,V.int IntKind.i64 k,V.int IntKind.i64 u,V.int IntKind.i64 r]])=H:=hH;have hg:H.get h.n=some (.rows [qa0 x k u r]):=by rw[<-hH]; simp
 have hn:H.n=h.n+1:=by rw[<-hH]; simp
 rw[hH]at hB2;rw[hH'];refine qaf (λm st=>∃i:Nat,(i:Int)+m=u-k/\(gK 3).run st.tm=.int .i64 (k+i)/\qa7 x k u i=true/\st.h=H/\st.defs=[]) (u-k).toNat ⟨0,by omega,by simp,rfl,rfl,rfl⟩ ?_;rintro m ⟨tm,h1,defs,round⟩ ⟨i,hi,h3,hup,rfl,rfl⟩ hK;have t1:=hK 1 rfl;simp at t1 h3;clear hK;simp only at hB2 hg hn;simp -dsimp[h3,t1,hg,qa0];rw[qaa];refine⟨λhc=>?_,λhc=>?_⟩
 ·have hc1:k+i<u:=by simpa using hc
  obtain⟨p,e1,e2⟩:=hB2.at (k:=k+i) (by omega) (by omega);simp -dsimp[h3,t1,hg,qa0,e1,e2];rw[qaa];refine⟨λhd=>?_,λhd=>?_⟩
  ·have hd1:¬(lat x.w.l (k+i).toNat).toNat=10:=by simp at hd; omega
   have hb1:qbY x k u (k+i)=true:=by simp[qbY,hd1]
   simp -dsimp[h3,fw64 (n:=k+i+1) (by omega) (by omega)];refine qah.intro (m-1) (by omega) ⟨i+1,by omega,by simp; omega,by simp[qa7,hup,hb1],rfl,rfl⟩
  ·have hd1:(lat x.w.l (k+i).toNat).toNat=10:=by simp at hd; omega
   simp -dsimp[h3,t1,hg,qa0,fw64 (n:=k+i+1) (by omega) (by omega)];refine WFS.by (qqz hB2 (by omega) (by omega) (k+i+1)) ?_
   intro v h' e;cases e;obtain⟨q,hq⟩:∃q,qf2 x.w.l (k+i+1)=q:=⟨_,rfl⟩;have hqr:k+i+1<=q/\q<=x.w.l.length:=by
    have hp:qaW x.w.l (k+i+1)=true:=by simp[qaW]; omega
    have h1:((x.w.l.drop (k+i+1).toNat).dropWhile qho).length<=(x.w.l.drop (k+i+1).toNat).length:=(List.dropWhile_sublist _).length_le;rw[List.length_drop]at h1;rw[<-hq,qf2,Jab hp];omega
   simp -dsimp[h3,t1,hg,qa0,hq];rw[Gd_t];refine⟨λhe=>?_,λhe=>?_⟩
   ·have he1:q<u:=by simpa using he
    obtain⟨p2,g1,g2⟩:=hB2.at (k:=q) (by omega) (by omega);simp -dsimp[he,t1,hg,qa0,g1,g2];rw[Gd_t];refine⟨λhf=>?_,λhf=>?_⟩
    ·have hf1:¬(lat x.w.l q.toNat).toNat=10:=by simp at hf; omega
     simp -dsimp[hf,t1,hg,qa0];refine WFS.by (qki x hB2 (by omega) hw k u r q) ?_
     intro v h' e;cases e;simp -dsimp[t1,hg,qa0];refine WFS.by (qki x hB2 (by omega) hw k u r k) ?_
     intro v h' e;cases e;simp -dsimp[t1,hg,qa0];rw[qaa];refine⟨λhg1=>?_,λhg1=>?_⟩
     ·have hb1:qbY x k u (k+i)=false:=by
       simp at hg1;simp[qbY,hq,hf1,hd1,he1,hg1]
      simp -dsimp;have:qcW x k u=false:=by
       obtain⟨m2,hm2⟩:∃m2,(u-k).toNat=(i+1)+m2:=⟨(u-k).toNat-(i+1),by omega⟩;unfold qcW;rw[hm2];exact qel (by simp[qa7,hb1]) m2
      simp[this]
     ·have hb1:qbY x k u (k+i)=true:=by
       simp at hg1;simp[qbY,hq]; omega
      simp -dsimp[h3,fw64 (n:=k+i+1) (by omega) (by omega)];refine qah.intro (m-1) (by omega) ⟨i+1,by omega,by simp; omega,by simp[qa7,hup,hb1],rfl,rfl⟩
    ·have hf1:(lat x.w.l q.toNat).toNat=10:=by simp at hf; omega
     have hb1:qbY x k u (k+i)=true:=by simp[qbY,hq,hf1]
     simp -dsimp[hf,t1,hg,qa0,h3,fw64 (n:=k+i+1) (by omega) (by omega)];refine qah.intro (m-1) (by omega) ⟨i+1,by omega,by simp; omega,by simp[qa7,hup,hb1],rfl,rfl⟩
   ·have he1:¬q<u:=by simpa using he
    have hb1:qbY x k u (k+i)=true:=by simp[qbY,hq,he1]
    simp -dsimp[he,t1,hg,qa0,h3,fw64 (n:=k+i+1) (by omega) (by omega)];refine qah.intro (m-1) (by omega) ⟨i+1,by omega,by simp; omega,by simp[qa7,hup,hb1],rfl,rfl⟩
 ·have hc1:¬k+i<u:=by simpa using hc
  have:qcW x k u=true:=by
   unfold qcW;rw[show(u-k).toNat=i by omega,hup]
  simp -dsimp;simp[this]
end
section
variable {d:Bool}{mk:Nat}{h:Heap}
theorem qDY{AP:Prog}{f:Nat}{v:V}{Q:VH->Prop}(hw:WF AP d mk (.fn f [] []) [v] h Q):WF AP d mk (.fn f [v] []) [] h Q:=by
 refine W.eq hw λn=>?_;cases n with
 | zero=>rfl
 | succ n=>simp only[evCall,List.nil_append,List.append_nil]
theorem qr0(s:Sl (List UInt8))(hs:s.l.length<1000000000)(v:List UInt8):WF PR d mk (.fn 149 [] []) [s.enc qac,.str v] h λr=>r=⟨.int .i64 (idxP (λa=>v == a) s.l 0),h⟩:=by
 refine WF.go f149 b149 [.tm 4] rfl rfl rfl rfl rfl rfl ?_;unfold b149;simp -dsimp;refine qaf (λk st=>∃(i:Int),0<=i/\(k:Int)=s.l.length-i/\idxP (λa=>v == a) (s.l.drop i.toNat) i=idxP (λa=>v == a) s.l 0/\(gK 8).run st.tm=.int .i64 i/\st.h=h/\st.defs=[]) s.l.length ⟨0,by simp⟩ ?_;rintro k ⟨tm,h',defs,round⟩ ⟨i,hi,hk,hx,h8,rfl,rfl⟩ hK;have h0:=hK 0 rfl;have h1:=hK 1 rfl;have h7:=hK 7 rfl;simp at h0 h1 h7 h8;clear hK;simp -dsimp[h7,h8];rw[qaa];refine⟨λhl=>?_,λhl=>?_⟩
 ·simp at hl;have ha:=qap (f:=qac) (s:=s) (esz:=1) (k:=.i64) hi hl (λ_=>rfl);obtain⟨a,haa⟩:∃a,lat s.l i.toNat=a:=⟨_,rfl⟩;rw[haa]at ha;have hse:(binK BinOp.eql).run (V.str v) (V.str a)=some (.bool (v == a)):=rfl;simp -dsimp[h0,h1,h7,h8,ha,qac,hse];rw[qbu (by omega),haa]at hx;simp only[idxP]at hx;rw[qaa];refine⟨λhb=>?_,λhb=>?_⟩
  ·rw[Jab hb]at hx;simp -dsimp[h8,hx]
  ·rw[Jaa (by rw[hb]; exact Bool.false_ne_true)]at hx;simp -dsimp[h8];refine qah.intro (k-1) (by omega) ⟨i+1,by omega,by omega,?_,by simp[fw64 (n:=i+1) (by omega) (by omega)]⟩;rw[show(i+1).toNat=i.toNat+1 by omega]; exact hx
 ·simp at hl;rw[List.drop_eq_nil_of_le (by omega)]at hx;simp[idxP]at hx;have hl':decide (i<(s.l.length:Int))=false:=by simpa using hl
  simp -dsimp[hl',<-hx]
theorem qjS(s:Sl (List UInt8))(hs:s.l.length<1000000000)(v:List UInt8):WF PR d mk (.fn 115 [] []) [s.enc qac,.str v] h λr=>r=⟨.bool (s.l.contains v),h⟩:=by
 refine WF.go f115 b115 [.tm 4] rfl rfl rfl rfl rfl rfl ?_;unfold b115;simp -dsimp;refine WFS.by (qr0 s hs v) ?_
 intro v' h' e;cases e;simp -dsimp[qiE];rw[Bool.eq_iff_iff];simp
theorem qhm:∀l:List UInt8,qdo (l.map qak)=some l
 | []=>rfl
 | c::l=>by
  have hc:qj0 (qak c)=some c:=by
   have:=c.toNat_lt;simp[qj0,qak];try omega
  simp only[List.map_cons,qdo,hc,qhm l]
theorem R_b2s{h:Heap}{tm:Tm}{x:Opd}{l:List UInt8}(hr:qal h (x.ev tm)=some (l.map qak)):(qbc (.b2s x)).run tm h=some (.str l):=by
 show(match qal h (x.ev tm)with
  | some rs=>(match qdo rs with
   | some s=>some (V.str s)
   | none=>none)
  | none=>none)=_
 simp only[hr,qhm]
theorem qsc(x:Ev)(hg:x.g.keys.l.length<1000000000)(hB:WB h x.w)(hm:x.w.m<=h.n){a b:Nat}(k1:a<=b)(k2:b<=x.w.l.length)(r:Int):WF PR d mk (.fn 335 [] []) [.agg (qa0 x a b r)] h λv=>v=⟨.bool (qhy x a b),h⟩:=by
 refine qBt f335 b335 [.tm 2] rfl rfl rfl rfl rfl rfl ?_;unfold b335;simp -dsimp[qa0];have hB2:WB (h.push (.rows [qa0 x a b r])) x.w:=hB.keep λi hi=>by rw[qBq,Jaa (by omega)]
 refine qoZ (x:=a) (y:=b) hB2 k1 k2 (by simp) (by simp) ?_;intro v hB3;simp -dsimp;rw[R_b2s (l:=(x.w.l.drop a).take (b-a)) (by simpa[qa0]using qjg hB3)];simp -dsimp;refine WFS.by (qjS x.g.keys hg _) ?_
 intro v h' e;cases e;simp -dsimp;simp[qhy]
def askS:List (Int × Nat):=[(2,335),(4,336),(16,337)]
def fnV(tc:V)(f:Nat):V:=.fn f [tc] []
theorem qsx(x:Ev)(k u r:Int)(hmk:mk<=h.n):WF PR d mk (.fn 328 [] []) [.agg (qa0 x k u r)] h λv=>v.v=.map (h.n+1)/\(∃es c,v.h.get (h.n+1)=some (.map es c)/\MapR intV (fnV (.agg (qa0 x k u r))) es askS)/\v.h.n=h.n+2/\∀i,i<h.n->v.h.get i=h.get i:=by
 refine WF.go f328 b328 [.tm 2] rfl rfl rfl rfl rfl rfl ?_;unfold b328;obtain⟨tc,htc⟩:∃tc,qa0 x k u r=tc:=⟨_,rfl⟩;have htc':[Sl.enc Pd.cells x.g.p,Sl.enc qac x.g.keys,x.w.v,V.int IntKind.i64 x.tab,V.bool x.heal,V.int IntKind.i64 k,V.int IntKind.i64 u,V.int IntKind.i64 r]=tc:=htc;have e1:¬h.n=h.n+1:=by omega
 have m1:mk<=h.n+1:=by omega
 simp -dsimp[qa0,e1];rw[htc'];have l8:tc.length=8:=by rw[<-htc]; rfl
 have t8:List.take 8 tc=tc:=List.take_of_length_le (by omega);obtain⟨H0,hH0⟩:∃H0,(h.push (.rows [tc])).push (.map [] 0)=H0:=⟨_,rfl⟩;have g0:H0.get (h.n+1)=some (.map [] 0):=by rw[<-hH0]; simp
 have gb:H0.get h.n=some (.rows [tc]):=by rw[<-hH0]; simp
 have n0:H0.n=h.n+2:=by rw[<-hH0]; simp
 have k0:∀i,i<h.n->H0.get i=h.get i:=λi hi=>by rw[<-hH0,qBq,Jaa (by simp; omega),qBq,Jaa (by omega)]
 rw[hH0];obtain⟨es1,c1,a1,r1⟩:=qgM (kn:=.one .int) (kf:=intV) (vf:=fnV (.agg tc)) (mk:=mk) (M:=h.n+1) (h:=H0) (S:=[]) qcc qdO g0 MapR.nil m1 2 335;simp only[intV,fnV]at a1;refine OpS.intro a1 ?_;simp -dsimp[gb,e1,l8,t8];obtain⟨es2,c2,a2,r2⟩:=qgM (kn:=.one .int) (kf:=intV) (vf:=fnV (.agg tc)) (mk:=mk) (M:=h.n+1) (h:=H0.set (h.n+1) (.map es1 c1)) qcc qdO (by rw[qBp,Jab rfl]) r1 m1 4 336;simp only[intV,fnV]at a2;refine OpS.intro a2 ?_;simp -dsimp[gb,e1,l8,t8];obtain⟨es3,c3,a3,r3⟩:=qgM (kn:=.one .int) (kf:=intV) (vf:=fnV (.agg tc)) (mk:=mk) (M:=h.n+1) (h:=(H0.set (h.n+1) (.map es1 c1)).set (h.n+1) (.map es2 c2)) qcc qdO (by rw[qBp,Jab rfl]) r2 m1 16 337;simp only[intV,fnV]at a3;refine OpS.intro a3 ?_;simp -dsimp;refine⟨by rw[htc]; exact r3,n0,λi hi=>?_⟩;simp[show ¬i=h.n+1 by omega,k0 i hi]
def pI2(x:Ev)(n k r:Int):Bool:=!bitB (lat x.g.p.l n.toNat).marks 16||qfl x k r
def pI1(x:Ev)(n k u r:Int):Bool:=(!bitB (lat x.g.p.l n.toNat).marks 4||qcW x k u)&&pI2 x n k r
def pI0(x:Ev)(n k u r:Int):Bool:=(!bitB (lat x.g.p.l n.toNat).marks 2||qhy x k u)&&pI1 x n k u r
def qeW(x:Ev)(n k u r:Int):Nat->Bool
 | 0=>pI0 x n k u r
 | 1=>pI1 x n k u r
 | 2=>pI2 x n k r
 | _=>true
structure EvS (x:Ev):Prop where
 g:x.g.Small
 k:x.g.keys.l.length<1000000000
 w:x.w.l.length<1000000
theorem qoY(x:Ev)(hx:EvS x)(hB:WB h x.w)(hm:x.w.m<=h.n)(n k u r:Int):WF PR d mk (.fn 314 [] []) [.agg x.cells,.int .i64 n,.int .i64 k,.int .i64 u,.int .i64 r] h λv=>v=⟨.bool (qbp x n k u r),h⟩:=by
 refine qBt f314 b314 [.tm 10] rfl rfl rfl rfl rfl rfl ?_;unfold b314;have hw:=hx.w;have e2:[Sl.enc Pd.cells x.g.p,Sl.enc qac x.g.keys,x.w.v,V.int IntKind.i64 x.tab,V.bool x.heal]=x.cells:=rfl;have e8:[Sl.enc Pd.cells x.g.p,Sl.enc qac x.g.keys,x.w.v,V.int IntKind.i64 x.tab,V.bool x.heal,V.int IntKind.i64 k,V.int IntKind.i64 u,V.int IntKind.i64 r]=qa0 x k u r:=rfl;have d1:¬h.n=h.n+1:=by omega
 have d2:¬h.n+1=h.n:=by omega
 simp -dsimp[Ev.cells,d1,d2,hB.cells.2];obtain⟨H,hH⟩:∃H,((h.push (Obj.rows [[Sl.enc Pd.cells x.g.p,Sl.enc qac x.g.keys,x.w.v,V.int IntKind.i64 x.tab,V.bool x.heal]])).push (Obj.rows [[V.nils,V.nils,V.nils,V.int IntKind.i64 0,V.bool false,V.int IntKind.i64 0,V.int IntKind.i64 0,V.int IntKind.i64 0]])).set (h.n+1) (Obj.rows [[Sl.enc Pd.cells x.g.p,Sl.enc qac x.g.keys,x.w.v,V.int IntKind.i64 x.tab,V.bool x.heal,V.int IntKind.i64 k,V.int IntKind.i64 u,V.int IntKind.i64 r]])=H:=⟨_,rfl⟩;have g5:H.get h.n=some (.rows [x.cells]):=by rw[<-hH]; simp[Ev.cells]
 have g11:H.get (h.n+1)=some (.rows [qa0 x k u r]):=by rw[<-hH]; simp[qa0]
 have gn:H.n=h.n+2:=by rw[<-hH]; simp
 have gk:∀i,i<h.n->H.get i=h.get i:=λi hi=>by rw[<-hH,qBp,Jaa (by omega),qBq,Jaa (by simp; omega),qBq,Jaa (by omega)]
 have hB2:WB H x.w:=hB.keep λi hi=>gk i (by omega);rw[hH];clear hH;rw[e2];refine WFS.by (qlF x hx.g n) ?_
 intro v h' e;cases e;simp -dsimp;rw[Gd_f];refine⟨λh1=>?_,λh1=>?_⟩;rotate_left
 ·have h1':qdt x.g n=false:=by simpa using h1
  simp -dsimp[h1'];simp[qbp,h1']
 have hkn:qdt x.g n=true:=by simpa using h1
 have hkn2:=hkn;simp only[qdt,Jad,Jai]at hkn2;obtain⟨_,n0,n1⟩:=hkn2;obtain⟨p,hq⟩:∃p,lat x.g.p.l n.toNat=p:=⟨_,rfl⟩;have hpm:p∈x.g.p.l:=by rw[<-hq]; exact qai (by omega)
 simp -dsimp[h1,g11,qa0];rw[e8];refine WFS.by (qrb x hB2 k u r) ?_
 intro v h' e;cases e;simp -dsimp;rw[Gd_f];refine⟨λh2=>?_,λh2=>?_⟩;rotate_left
 ·have h2':tMay x k u=false:=by simpa using h2
  simp -dsimp[h2'];simp[qbp,h2']
 have htm:tMay x k u=true:=by simpa using h2
 have htm2:=htm;simp only[tMay,Jad,Jai]at htm2;obtain⟨k0,k1,k2,_,_⟩:=htm2;simp -dsimp[h2,g5,Ev.cells,qbg n0 n1,Pd.cells,hq];refine WFS.by (qm7 p.no (hx.g.no p hpm) hB2 (by omega) u) ?_
 intro v h' e;cases e;simp -dsimp;rw[qaa];refine⟨λh3=>?_,λh3=>?_⟩
 ·have h3':qdR p.no.l x.w.l u=false:=by simpa using h3
  simp -dsimp;simp[qbp,hq,h3']
 have hfo:qdR p.no.l x.w.l u=true:=by simpa using h3
 have hps:qbp x n k u r=qeW x n k u r 0:=by
  simp[qbp,qeW,pI0,pI1,pI2,hkn,htm,hq,hfo]
 rw[hps];obtain⟨a,rfl⟩:=Int.eq_ofNat_of_zero_le k0;obtain⟨b,rfl⟩:=Int.eq_ofNat_of_zero_le (show 0<=u by omega);simp -dsimp[g11,qa0];rw[e8];refine WFS.by (qsx x a b r (by omega)) ?_
 rintro v H2 ⟨rfl,⟨es,c,hM,hR⟩,hn2,hk2⟩;simp only at hM hn2 hk2;have g52:H2.get h.n=some (.rows [x.cells]):=by rw[hk2 _ (by omega),g5]
 have hB3:WB H2 x.w:=hB2.keep λi hi=>hk2 i (by omega);clear g5;simp -dsimp;refine qaf (λm st=>∃i:Nat,i+m=3/\(gK 47).run st.tm=.int .i64 i/\qeW x n a b r i=qeW x n a b r 0/\st.h=H2/\st.defs=[]) 3 ⟨0,rfl,by simp,rfl,rfl,rfl⟩ ?_;rintro m ⟨tm,H3,defs,round⟩ ⟨i,hi,h47,hx2,rfl,rfl⟩ hK;have t1:=hK 1 rfl;have t5:=hK 5 rfl;have t12:=hK 12 rfl;have t45:=hK 45 rfl;have t46:=hK 46 rfl;simp at t1 t5 t12 t45 t46 h47;clear hK;simp only at hM hn2 hk2 g52 hB3;have g5:=g52;simp -dsimp[h47,t46];rw[qaa];refine⟨λhc=>?_,λhc=>?_⟩
 ·have hi3:i=0\/i=1\/i=2:=by simp at hc; omega
  rcases hi3 with rfl|rfl|rfl
  ·have e1:qaw 1 (V.slR [[V.int IntKind.i64 2],[V.int IntKind.i64 4],[V.int IntKind.i64 16]] true) (.int .i64 0)=some (.ptrR [V.int IntKind.i64 2] 0):=rfl;have hlk:=qiC (kn:=.one .int) (zero:=.nilf) (kf:=intV) (vf:=fnV (.agg (qa0 x a b r))) qcc qdO hM hR (2:Int);have hal:qaS (2:Int) askS=some 335:=rfl;simp only[hal,intV,fnV]at hlk;simp -dsimp[h47,t45,e1,g5,t5,t1,Ev.cells,qbg n0 n1,Pd.cells,hq,t12];rw[Gd_t];have hbit:bitB p.marks 2 = !decide (fw .i64 (BitVec.ofInt IntKind.i64.bits p.marks &&& BitVec.ofInt IntKind.i64.bits 2).toNat=0):=by simp[bitB]
   refine⟨λhc=>?_,λhc=>?_⟩
   ·have hb1:bitB p.marks 2=true:=by rw[hbit]; exact hc
    simp -dsimp[hc,t12,hlk];refine WFS.by (qDY (qsc x hx.k hB3 (by omega) (by omega) (by omega) r)) ?_
    intro v h' e;cases e;simp -dsimp;rw[qaa];refine⟨λhd=>?_,λhd=>?_⟩
    ·have hd1:qhy x a b=false:=by simpa using hd
     simp -dsimp;rw[<-hx2];simp[qeW,pI0,hq,hb1,hd1]
    ·have hd1:qhy x a b=true:=by simpa using hd
     simp -dsimp[h47,fw64 (n:=1) (by omega) (by omega)];refine qah.intro (m-1) (by omega) ⟨1,by omega,by simp,?_,rfl,rfl⟩;rw[<-hx2];simp[qeW,pI0,hq,hb1,hd1]
   ·have hb1:bitB p.marks 2=false:=by rw[hbit]; exact hc
    simp -dsimp[hc,h47,fw64 (n:=1) (by omega) (by omega)];refine qah.intro (m-1) (by omega) ⟨1,by omega,by simp,?_,rfl,rfl⟩;rw[<-hx2];simp[qeW,pI0,hq,hb1]
  ·have e1:qaw 1 (V.slR [[V.int IntKind.i64 2],[V.int IntKind.i64 4],[V.int IntKind.i64 16]] true) (.int .i64 1)=some (.ptrR [V.int IntKind.i64 4] 0):=rfl;have hlk:=qiC (kn:=.one .int) (zero:=.nilf) (kf:=intV) (vf:=fnV (.agg (qa0 x a b r))) qcc qdO hM hR (4:Int);have hal:qaS (4:Int) askS=some 336:=rfl;simp only[hal,intV,fnV]at hlk;simp -dsimp[h47,t45,e1,g5,t5,t1,Ev.cells,qbg n0 n1,Pd.cells,hq,t12];rw[Gd_t];have hbit:bitB p.marks 4 = !decide (fw .i64 (BitVec.ofInt IntKind.i64.bits p.marks &&& BitVec.ofInt IntKind.i64.bits 4).toNat=0):=by simp[bitB]
   refine⟨λhc=>?_,λhc=>?_⟩
   ·have hb1:bitB p.marks 4=true:=by rw[hbit]; exact hc
    simp -dsimp[hc,t12,hlk];refine WFS.by (qDY (qoS x hB3 (by omega) hw k0 k1 k2 r)) ?_
    intro v h' e;cases e;simp -dsimp;rw[qaa];refine⟨λhd=>?_,λhd=>?_⟩
    ·have hd1:qcW x a b=false:=by simpa using hd
     simp -dsimp;rw[<-hx2];simp[qeW,pI1,hq,hb1,hd1]
    ·have hd1:qcW x a b=true:=by simpa using hd
     simp -dsimp[h47,fw64 (n:=2) (by omega) (by omega)];refine qah.intro (m-1) (by omega) ⟨2,by omega,by simp,?_,rfl,rfl⟩;rw[<-hx2];simp[qeW,pI1,hq,hb1,hd1]
   ·have hb1:bitB p.marks 4=false:=by rw[hbit]; exact hc
    simp -dsimp[hc,h47,fw64 (n:=2) (by omega) (by omega)];refine qah.intro (m-1) (by omega) ⟨2,by omega,by simp,?_,rfl,rfl⟩;rw[<-hx2];simp[qeW,pI1,hq,hb1]
  ·have e1:qaw 1 (V.slR [[V.int IntKind.i64 2],[V.int IntKind.i64 4],[V.int IntKind.i64 16]] true) (.int .i64 2)=some (.ptrR [V.int IntKind.i64 16] 0):=rfl;have hlk:=qiC (kn:=.one .int) (zero:=.nilf) (kf:=intV) (vf:=fnV (.agg (qa0 x a b r))) qcc qdO hM hR (16:Int);have hal:qaS (16:Int) askS=some 337:=rfl;simp only[hal,intV,fnV]at hlk;simp -dsimp[h47,t45,e1,g5,t5,t1,Ev.cells,qbg n0 n1,Pd.cells,hq,t12];rw[Gd_t];have hbit:bitB p.marks 16 = !decide (fw .i64 (BitVec.ofInt IntKind.i64.bits p.marks &&& BitVec.ofInt IntKind.i64.bits 16).toNat=0):=by simp[bitB]
   refine⟨λhc=>?_,λhc=>?_⟩
   ·have hb1:bitB p.marks 16=true:=by rw[hbit]; exact hc
    simp -dsimp[hc,t12,hlk];refine WFS.by (qDY (qm5 x hB3 (by omega) hw a b r)) ?_
    intro v h' e;cases e;simp -dsimp;rw[qaa];refine⟨λhd=>?_,λhd=>?_⟩
    ·have hd1:qfl x a r=false:=by simpa using hd
     simp -dsimp;rw[<-hx2];simp[qeW,pI2,hq,hb1,hd1]
    ·have hd1:qfl x a r=true:=by simpa using hd
     simp -dsimp[h47,fw64 (n:=3) (by omega) (by omega)];refine qah.intro (m-1) (by omega) ⟨3,by omega,by simp,?_,rfl,rfl⟩;rw[<-hx2];simp[qeW,pI2,hq,hb1,hd1]
   ·have hb1:bitB p.marks 16=false:=by rw[hbit]; exact hc
    simp -dsimp[hc,h47,fw64 (n:=3) (by omega) (by omega)];refine qah.intro (m-1) (by omega) ⟨3,by omega,by simp,?_,rfl,rfl⟩;rw[<-hx2];simp[qeW,pI2,hq,hb1]
 ·have:i=3:=by simp at hc; omega
  subst this;simp -dsimp;rw[<-hx2];simp[qeW]
end
theorem qfc:∀(l m:List UInt8) (i:Int),qaH (l++m) i=qaH l i++qaH m (i+l.length)
 | [],m,i=>by simp[qaH]
 | c::l,m,i=>by
  have:=qfc l m (i+1);simp only[List.cons_append,qaH,List.length_cons];rw[show i+((l.length+1:Nat):Int)=i+1+l.length by omega,this];split<;>simp
theorem qmT{l:List UInt8}{i:Nat}(h:i<l.length):qaH (l.take (i+1)) 0=qaH (l.take i) 0++if(lat l i).toNat=10 then [(i:Int)+1]else []:=by
 rw[Jap,qaz h,qfc];congr 1;simp only[Option.toList,qaH,List.length_take];rw[show min i l.length=i by omega];simp
theorem qhL{H:Heap}{m n:Nat}{v:V}{l:List Int}(hO:Own H m v 1 (qab l))(h:n<=m):freeze n H qat v=some ((slOf l).enc qaM):=by
 rcases hO with ⟨rfl,e⟩|⟨id,rfl,hid,hmi,_,hne⟩
 ·have:l=[]:=by simpa[qab]using e
  subst this; rfl
 ·have hl:l≠[]:=λe=>hne (by simp[e,qab]);have hr:qal H (.sl id 0 (qab l).length 1 false)=some (qab l):=by
   simp[qal,hid];exact List.take_of_length_le (by simp)
  have hni:n<=id:=by omega
  rw[qc5,hr];simp only[qcL,qa3,hni,decide_true,cond];simp[slOf,hl,Sl.enc,qab,qaM]
section
variable {mk:Nat}{w:Wd}
theorem qlR{v:V}{d:Bool}{h:Heap}(hv:v.cells=[v])(hmk:mk<=h.n):WF PR d mk (.fn 329 [] []) [v] h λr=>r=⟨.fn 338 [] [.ptr h.n 0 0],h.push (.rows [[v]])⟩:=by
 refine WF.go f329 b329 [.tm 2] rfl rfl rfl rfl rfl rfl ?_;unfold b329;simp -dsimp[hv]
theorem qjN{l B:Nat}{h0:Heap}(hw:w.l.length<1000000000)(hmk:mk<=h0.n)(R:List Int->Heap->Prop)(hR:R [] h0)(hk:∀ys H,R ys H->H.get B=some (.rows [[w.v]])/\WB H w/\h0.n<=H.n)
  (hy:∀(ys:List Int) (y:Int) (H:Heap),R ys H->ys.length<=w.l.length->0<=y->y<=w.l.length->WF PR false mk (.yld l) [.int .i64 y] H λr=>r.v=.bool true/\R (ys++[y]) r.h) :
  WF PR false mk (.fn 338 [] [.ptr B 0 0]) [.yld l] h0 λr=>R (qaH w.l 0) r.h:=by
 obtain⟨hB0,hW0,_⟩:=hk _ _ hR;refine WF.go f338 b338 [] rfl rfl rfl rfl rfl rfl ?_;unfold b338;simp -dsimp[hB0,hW0.len];refine qaf (λk st=>∃i:Nat,i+k=w.l.length/\(gK 7).run st.tm=.int .i64 i/\R (qaH (w.l.take i) 0) st.h/\(qaH (w.l.take i) 0).length<=i/\st.defs=[]) w.l.length
  ⟨0,by omega,by simp,by simpa[qaH]using hR,by simp[qaH],rfl⟩ ?_
 rintro k ⟨tm,h1,defs,round⟩ ⟨i,hi,h7,hR1,hl,rfl⟩ hK;have t0:=hK 0 rfl;have t5:=hK 5 rfl;have t6:=hK 6 rfl;simp at t0 t5 t6 h7;simp only at hR1;clear hK;obtain⟨hB1,hW1,hn1⟩:=hk _ _ hR1;simp -dsimp[h7,t6];rw[qaa];refine⟨λhc=>?_,λhc=>?_⟩
 ·have hc1:i<w.l.length:=by simpa using hc
  obtain⟨p,e1,e2⟩:=hW1.at (k:=i) (by omega) (by omega);simp only[Int.toNat_natCast]at e2;have hst:=qmT hc1;simp -dsimp[h7,t5,e1,e2];rw[Gd_t];refine⟨λhd=>?_,λhd=>?_⟩
  ·have hd1:(lat w.l i).toNat=10:=by simp at hd; omega
   rw[Jab hd1]at hst;simp -dsimp[hd,t0,h7,fw64 (n:=(i:Int)+1) (by omega) (by omega)];refine WFS.by (hy _ ((i:Int)+1) _ hR1 (by omega) (by omega) (by omega)) ?_
   rintro v h2 ⟨hv,hR2⟩;simp only at hv hR2;subst hv;simp -dsimp[h7,fw64 (n:=(i:Int)+1) (by omega) (by omega)];refine qah.intro (k-1) (by omega) ⟨i+1,by omega,by simp,by rw[hst]; exact hR2,by rw[hst]; simp; omega,rfl⟩
  ·have hd1:¬(lat w.l i).toNat=10:=by simp at hd; omega
   rw[Jaa hd1,List.append_nil]at hst;simp -dsimp[hd,h7,fw64 (n:=(i:Int)+1) (by omega) (by omega)];refine qah.intro (k-1) (by omega) ⟨i+1,by omega,by simp,by rw[hst]; exact hR1,by rw[hst]; omega,rfl⟩
 ·have hc1:i=w.l.length:=by simp at hc; omega
  subst hc1;rw[List.take_length]at hR1;have hd:decide (w.l.length<w.l.length)=false:=by simp
  simp -dsimp[hd];exact hR1
structure LI (w:Wd) (h0:Heap) (A:Nat) (lp:Obj) (ys:List Int) (H:Heap):Prop where
 o:∃v,H.get A=some (.rows [[v]])/\Own H (A+5) v 1 (qab ys)
 a:H.get (A+1)=some (.rows [[.int .i64 (ys.getLast?.getD (-1))]])
 b:H.get (A+2)=some (.rows [[w.v]])
 d:H.get (A+3)=some .dfr
 l:H.get (A+4)=some lp
 n:A+5<=H.n
 k:∀i,i<A->H.get i=h0.get i
theorem qk3{h:Heap}(hW:WB h w)(hm:w.m<=h.n)(hw:w.l.length<1000000){d:Bool}:WF PR d mk (.fn 315 [] []) [w.v] h λr=>r=⟨(slOf (qaJ w.l)).enc qaM,h⟩:=by
 refine qBt f315 b315 [.tm 2] rfl rfl rfl rfl rfl rfl ?_;unfold b315;have n1:¬h.n+1=h.n:=by omega
 simp -dsimp[n1];refine WFS.by (qlR hW.cells.1 (by simp<;>omega)) ?_
 intro v h' e;cases e;simp -dsimp;obtain⟨H3,hH3⟩:∃H3,(((h.push (Obj.rows [[V.nils]])).push (Obj.rows [[V.int IntKind.i64 0]])).set (h.n+1) (Obj.rows [[V.int IntKind.i64 (-1)]])).push (Obj.rows [[w.v]])=H3:=⟨_,rfl⟩;have hn3:H3.n=h.n+3:=by rw[<-hH3]; simp
 have g0:H3.get h.n=some (.rows [[.nils]]):=by rw[<-hH3]; simp
 have g1:H3.get (h.n+1)=some (.rows [[.int .i64 (-1)]]):=by rw[<-hH3]; simp
 have g2:H3.get (h.n+2)=some (.rows [[w.v]]):=by rw[<-hH3]; simp
 have gk:∀i,i<h.n->H3.get i=h.get i:=λi hi=>by
  rw[<-hH3,qBq,Jaa (by simp; omega),qBp,Jaa (by omega),qBq,Jaa (by simp; omega),qBq,Jaa (by omega)]
 rw[hH3];refine qgr (λst=>st.h=H3/\(gK 0).run st.tm=w.v/\(gK 3).run st.tm=.ptr h.n 0 0/\(gK 4).run st.tm=.ptr (h.n+1) 0 0/\(gK 7).run st.tm=.fn 338 [] [.ptr (h.n+2) 0 0]/\st.defs=[]/\st.round=false) (by simp) ?_;rintro⟨tm,H3',defs,round⟩ ⟨rfl,k0,k3,k4,k7,rfl,rfl⟩;simp only at k0 k3 k4 k7 hn3 g0 g1 g2 gk;refine qeJ rfl ?_;intro H0 asg body hasg hbody z1 z2 z3 z4;simp only at z1 z2 z3 z4;simp only[ev_t,k7];have hb:∀{H:Heap},(∀i,i<h.n->H.get i=h.get i)->WB H w:=λ{H} hk=>hW.keep λi hi=>hk i (by omega);refine W.mono (qjN (w:=w) (l:=H3'.n+1) (B:=h.n+2) (by omega) (by omega) (λys H=>LI w h h.n (.loop .ready none tm [8] asg body) ys H/\H0.n<=H.n) ?_ ?_ ?_) ?_
 ·refine⟨⟨⟨.nils,by rw[z2 _ (by omega),g0],.inl ⟨rfl,rfl⟩⟩,by rw[z2 _ (by omega),g1]; rfl,by rw[z2 _ (by omega),g2],by rw[<-hn3,z3],by rw[show h.n+4=H3'.n+1 by omega,z4],by omega,λi hi=>by rw[z2 i (by omega),gk i hi]⟩,Jac _⟩
 ·rintro ys H ⟨hL,hn⟩;exact⟨hL.b,hb hL.k,hn⟩
 ·rintro ys y H ⟨hL,hn⟩ hyl y0 y1;obtain⟨v,hv,hO⟩:=hL.o;have hLn:=hL.n;rw[show H3'.n+1=h.n+4 by omega];refine qDH hL.l hasg hbody (by omega) rfl ?_;have nl:¬h.n+4=H.n:=by omega
  simp -dsimp[hL.l];have e0:¬h.n=h.n+4:=by omega
  have e1:¬h.n+1=h.n+4:=by omega
  have e2:¬h.n+1=h.n:=by omega
  obtain⟨H5,hH5⟩:∃H5,H.set (h.n+4) (.loop .busy none tm [8] asg body)=H5:=⟨_,rfl⟩;have k5:∀j,j≠h.n+4->H5.get j=H.get j:=λj hj=>by rw[<-hH5,qBp,Jaa hj]
  have n5:H5.n=H.n:=by rw[<-hH5]; simp
  have l5:H5.get (h.n+4)=some (.loop .busy none tm [8] asg body):=by rw[<-hH5,qBp,Jab rfl]
  have hO5:Own H5 (h.n+5) v 1 (qab ys):=by
   rcases hO with q|⟨id,q1,q2,q3,q4,q5⟩
   ·exact .inl q
   ·refine .inr ⟨id,q1,?_,q3,by omega,q5⟩;rw[k5 id (by omega),q2]
  rw[hH5];simp -dsimp[k3,k4,k5 h.n e0,hv];rw[qaE (xs:=qab [y]) (by simp; rfl)];obtain⟨v',H6,a1,a2,a3,a4,_⟩:=qaC (mk:=h.n) (bytes:=8) (xs:=qab [y]) hO5 (by omega) (by
   intro r hr;simp only[qab,Jak]at hr;obtain⟨a,_,rfl⟩:=hr;exact⟨rfl,rfl⟩) (by simp[qab]; omega) (by omega) (by omega)
  have k6:∀j,j<h.n+5->H6.get j=H5.get j:=λj hj=>a4 j (by omega) (hO5.slId hj);simp -dsimp;refine OpS.intro a1 ?_;have c6:v'.cells=[v']:=a2.cells.1;have o6:v'.one=true:=a2.cells.2;have g60:H6.get h.n=some (.rows [[v]]):=by rw[k6 _ (by omega),k5 _ (by omega),hv]
  have g61:H6.get (h.n+1)=some (.rows [[.int .i64 (ys.getLast?.getD (-1))]]):=by rw[k6 _ (by omega),k5 _ (by omega),hL.a]
  have m1:h.n<=h.n+1:=by omega
  simp -dsimp[k3,k4,g60,g61,c6,o6,e2,m1];refine⟨rfl,.busy,none,tm,[8],asg,body,by rw[qBp,Jaa (by omega),qBp,Jaa (by omega),k6 _ (by omega),l5],rfl,?_,?_⟩
  ·have hfix:∀j,j≠h.n+4->j≠h.n+1->j≠h.n->(((H6.set h.n (Obj.rows [[v']])).set (h.n+1) (Obj.rows [[V.int IntKind.i64 y]])).set (h.n+4) (.loop .ready none tm [8] asg body)).get j=H6.get j:=λj h1 h2 h3=>by
    rw[qBp,Jaa h1,qBp,Jaa h2,qBp,Jaa h3]
   refine⟨⟨v',by rw[qBp,Jaa (by omega),qBp,Jaa (by omega),qBp,Jab rfl],?_⟩,by rw[qBp,Jaa (by omega),qBp,Jab rfl]; simp,by rw[hfix _ (by omega) (by omega) (by omega),k6 _ (by omega),k5 _ (by omega),hL.b],by rw[hfix _ (by omega) (by omega) (by omega),k6 _ (by omega),k5 _ (by omega),hL.d],by rw[qBp,Jab rfl],by simp; omega,λj hj=>by rw[hfix _ (by omega) (by omega) (by omega),k6 _ (by omega),k5 _ (by omega),hL.k j hj]⟩;rcases a2 with ⟨q,q'⟩|⟨id,q1,q2,q3,q4,q5⟩
   ·simp[qab]at q'
   ·exact .inr ⟨id,by simpa[qab]using q1,by rw[hfix _ (by omega) (by omega) (by omega),q2]; simp[qab],q3,by simpa using q4,by simp[qab]⟩
  ·show H0.n<=H6.n;omega
 ·rintro⟨v,H7⟩ ⟨hL,hn⟩;simp only at hL hn ⊢;obtain⟨v7,hv7,hO7⟩:=hL.o;have hLn:=hL.n;refine⟨by rw[show H3'.n+1=h.n+4 by omega,hL.l],?_⟩;obtain⟨H8,hH8⟩:∃H8,H7.set (H3'.n+1) (.loop .exhausted none tm [8] asg body)=H8:=⟨_,rfl⟩;have k8:∀j,j≠h.n+4->H8.get j=H7.get j:=λj hj=>by rw[<-hH8,qBp,Jaa (by omega)]
  have n8:H8.n=H7.n:=by rw[<-hH8]; simp
  have hO8:Own H8 (h.n+5) v7 1 (qab (qaH w.l 0)):=by
   rcases hO7 with q|⟨id,q1,q2,q3,q4,q5⟩
   ·exact .inl q
   ·exact .inr ⟨id,q1,by rw[k8 id (by omega),q2],q3,by omega,q5⟩
  have hfl:(qaH w.l 0).length<=w.l.length:=by
   have key:∀(l:List UInt8) (i:Int),(qaH l i).length<=l.length:=by
    intro l;induction l with
    | nil=>intro i; simp[qaH]
    | cons c l ih =>
     intro i;have:=ih (i+1);simp only[qaH];split<;>simp<;>omega
   exact key _ _
  have d8:H8.get H3'.n=some .dfr:=by rw[show H3'.n=h.n+3 by omega,k8 _ (by omega),hL.d]
  have g80:H8.get h.n=some (.rows [[v7]]):=by rw[k8 _ (by omega),hv7]
  have g81:H8.get (h.n+1)=some (.rows [[.int .i64 ((qaH w.l 0).getLast?.getD (-1))]]):=by rw[k8 _ (by omega),hL.a]
  rw[hH8];have hne3:¬h.n=H3'.n:=by omega
  have hne4:¬H3'.n=h.n:=by omega
  have m3:h.n<=H3'.n:=by omega
  simp -dsimp[k3,k4,k0,g80,g81,hW.len];rw[qaa];refine⟨λhc=>?_,λhc=>?_⟩
  ·have hne:(qaH w.l 0).getLast?≠some (w.l.length:Int):=by
    intro e;rw[e]at hc;simp at hc
   have hle:qaJ w.l=qaH w.l 0++[(w.l.length:Int)]:=by unfold qaJ; rw[Jaa hne]
   simp -dsimp[k3,k0,g80,hW.len];rw[qaE (xs:=qab [(w.l.length:Int)]) (by simp; rfl)];obtain⟨v',H9,a1,a2,a3,a4,_⟩:=qaC (mk:=h.n) (bytes:=8) (xs:=qab [(w.l.length:Int)]) hO8 (by omega) (by
    intro r hr;simp only[qab,Jak]at hr;obtain⟨a,_,rfl⟩:=hr;exact⟨rfl,rfl⟩) (by simp[qab]; omega) (by omega) (by omega)
   have k9:∀j,j<h.n+5->H9.get j=H8.get j:=λj hj=>a4 j (by omega) (hO8.slId hj);simp -dsimp;refine OpS.intro a1 ?_;have c6:v'.cells=[v']:=a2.cells.1;have o6:v'.one=true:=a2.cells.2;have g90:H9.get h.n=some (.rows [[v7]]):=by rw[k9 _ (by omega),g80]
   have d9:H9.get H3'.n=some .dfr:=by rw[k9 _ (by omega),d8]
   simp -dsimp[k3,g90,c6,o6,d9,hne3,hne4,m3];have hsplit:qab (qaH w.l 0)++qab [(w.l.length:Int)]=qab (qaJ w.l):=by rw[hle]; simp[qab]
   rw[hsplit]at a2;refine qhL (m:=h.n+5) ?_ (by omega);rcases a2 with q|⟨id,q1,q2,q3,q4,q5⟩
   ·exact .inl q
   ·exact .inr ⟨id,q1,by rw[qBr,Jaa (by omega),qBp,Jaa (by omega),q2],q3,by simpa using q4,q5⟩
  ·have hle:qaJ w.l=qaH w.l 0:=by
    unfold qaJ;rw[Jab];cases hl:(qaH w.l 0).getLast? with
    | none=>rw[hl]at hc; simp at hc
    | some z=>rw[hl]at hc; simp at hc; rw[hc]
   simp -dsimp[k3,g80,d8,hne3,hne4,m3];rw[hle];refine qhL (m:=h.n+5) ?_ (by omega);rcases hO8 with q|⟨id,q1,q2,q3,q4,q5⟩
   ·exact .inl q
   ·exact .inr ⟨id,q1,by rw[qBr,Jaa (by omega),q2],q3,by simpa using q4,q5⟩
end
section
variable {d:Bool}{mk:Nat}{h:Heap}
theorem qtW(x:Ev)(hx:EvS x)(hB:WB h x.w)(hm:x.w.m<=h.n)(n k r:Int):WF PR d mk (.fn 319 [] []) [.agg x.cells,.int .i64 n,.int .i64 k,.int .i64 r] h λv=>v=⟨.int .i64 (refV x n k r),h⟩:=by
 refine qBt f319 b319 [.tm 8] rfl rfl rfl rfl rfl rfl ?_;unfold b319;have hw:=hx.w;have e2:[Sl.enc Pd.cells x.g.p,Sl.enc qac x.g.keys,x.w.v,V.int IntKind.i64 x.tab,V.bool x.heal]=x.cells:=rfl;have hB2:WB (h.push (.rows [x.cells])) x.w:=hB.keep λi hi=>by rw[qBq,Jaa (by omega)]
 simp -dsimp[Ev.cells];rw[e2];refine WFS.by (qlF x hx.g n) ?_
 intro v h' e;cases e;simp -dsimp;rw[Gd_t];refine⟨λh1=>?_,λh1=>?_⟩
 ·have hkn:qdt x.g n=true:=by simpa using h1
  have hkn2:=hkn;simp only[qdt,Jad,Jai]at hkn2;obtain⟨_,n0,n1⟩:=hkn2;obtain⟨p,hq⟩:∃p,lat x.g.p.l n.toNat=p:=⟨_,rfl⟩;have hbit:bitB p.marks 8 = !decide (fw .i64 (BitVec.ofInt IntKind.i64.bits p.marks &&& BitVec.ofInt IntKind.i64.bits 8).toNat=0):=by simp[bitB]
  simp -dsimp[h1,Ev.cells,qbg n0 n1,Pd.cells,hq];rw[qaa];refine⟨λh2=>?_,λh2=>?_⟩
  ·have hb:bitB p.marks 8=true:=by rw[hbit]; exact h2
   simp -dsimp[Ev.cells];refine WFS.by (qq3 hB2 hw k x.tab) ?_
   intro v h' e;cases e;simp -dsimp;simp[refV,hkn,hq,hb]
  ·have hb:bitB p.marks 8=false:=by rw[hbit]; exact h2
   simp -dsimp;simp[refV,hq,hb]
 ·have hkn:qdt x.g n=false:=by simpa using h1
  simp -dsimp[h1];simp[refV,hkn]
end
def qad(e:En):List V:=[.int .i64 e.1,.int .i64 e.2]
theorem qc6{l:List En}{r:Nat}(h:r<l.length):(qag l)[r]?=some [.int .i64 (lat l r).1,.int .i64 (lat l r).2]:=by
 simp[qag,qaz h]
@[simp]theorem qcg{l:List En}:(qag l).length=l.length:=by simp[qag]
theorem qmU{l:List En}{r:Nat}{v:En}:(qag l).set r [.int .i64 v.1,.int .i64 v.2]=qag (l.set r v):=by simp[qag,List.map_set]
theorem qpX{l:List En}{r j:Nat}{v:En}(h:j<l.length):lat (l.set r v) j=if j=r then v else lat l j:=qcK h
def qgc(l:List En):Nat->List En
 | 0=>[]
 | i+1=>if i=0\/(lat l i).1≠(lat l (i-1)).1 then qgc l i++[lat l i]else qgc l i
def ddX(l:List En):List En:=qgc l l.length
theorem qfd{l:List En}:∀{i:Nat},i<=l.length->(∀j,0<j->j<i->(lat l j).1≠(lat l (j-1)).1)->qgc l i=l.take i
 | 0,_,_=>rfl
 | i+1,hi,h=>by
  have hlt:i<l.length:=by omega
  rw[qgc,qfd (by omega) λj h0 h1=>h j h0 (by omega),Jab,Jap,qaz hlt]
  ·rfl
  ·by_cases e:i=0
   ·exact .inl e
   ·exact .inr (h i (by omega) (by omega))
theorem qnA{d:Bool}{mk:Nat}{h:Heap}(a b:En):WF PR d mk (.fn 349 [] []) [.agg [.int .i64 a.1,.int .i64 a.2],.agg [.int .i64 b.1,.int .i64 b.2]] h λr=>r=⟨.bool (decide (a.1=b.1)),h⟩:=by
 refine qBt f349 b349 [.tm 4] rfl rfl rfl rfl rfl rfl ?_;unfold b349;have n1:¬h.n=h.n+1:=by omega
 simp -dsimp[n1]
theorem qoM{mk id lo n:Nat}{f:Bool}{x:Opd}{tm:Tm}{h:Heap}{L:List En}(hx:x.ev tm=.sl id lo n 2 f)(hid:h.get id=some (.rows (qag L)))(hm:mk<=id)(hl:lo+n<=L.length) :
  ∃h' L',(qay (.clear [.int .i64 0,.int .i64 0] x)).run mk tm h=some ⟨.any,h'⟩/\h'.n=h.n/\(∀j,j≠id->h'.get j=h.get j)/\h'.get id=some (.rows (qag L'))/\L'.length=L.length/\L'.take lo=L.take lo:=by
 by_cases e:n=0
 ·exact⟨h,L,by simp[qay,hx,e],rfl,λ_ _=>rfl,hid,rfl,rfl⟩
 ·refine⟨h.set id (.rows (qag (L.take lo++List.replicate n (0,0)++L.drop (lo+n)))),L.take lo++List.replicate n (0,0)++L.drop (lo+n),?_,rfl,λj hj=>by simp[hj],by simp,by simp; omega,by rw[List.append_assoc,List.take_append_of_le_length (by simp; omega),List.take_take,Nat.min_self]⟩;simp[qay,hx,e,hid,hm,hl,qag,List.map_take,List.map_drop]
structure qm8 (id:Nat) (h:Heap) (out:List En) (r:VH):Prop where
 n:r.h.n=h.n
 keep:∀j,j≠id->r.h.get j=h.get j
 v:∃f,r.v=.sl id 0 out.length 2 f
 rest:∃L,r.h.get id=some (.rows (qag (out++L)))
theorem qkS{d:Bool}{mk id:Nat}{f:Bool}{h:Heap}{l:List En}(hid:h.get id=some (.rows (qag l)))(hm:mk<=id)(hl:l.length<1000000000) :
  WF PR d mk (.fn 348 [] []) [.sl id 0 l.length 2 f,.fn 349 [] []] h (qm8 id h (ddX l)):=by
 refine WF.go f348 b348 [.tm 4] rfl rfl rfl rfl rfl rfl ?_;unfold b348;simp -dsimp;rw[qaa];refine⟨λhb=>?_,λhb=>?_⟩
 ·simp -dsimp[hb];simp at hb;have e:ddX l=l:=by
   rw[ddX,qfd (Jac _) (λj h0 h1=>by omega)]; simp
  rw[e];exact⟨rfl,λ_ _=>rfl,⟨f,rfl⟩,[],by simpa using hid⟩
 ·simp -dsimp[hb];simp at hb;refine qaf (λk st=>∃i:Int,1<=i/\(k:Int)=l.length-i/\(∀j:Nat,0<j->j<i.toNat->(lat l j).1≠(lat l (j-1)).1)/\(gK 5).run st.tm=.int .i64 i/\st.h=h/\st.defs=[]) (l.length-1) ⟨1,by simp,by omega,by simp; omega,by simp⟩ ?_;rintro k ⟨tm,h',defs,round⟩ ⟨i,hi,hk,hd,h3,rfl,rfl⟩ hK;have h0:=hK 0 rfl;have h1c:=hK 1 rfl;simp at h0 h1c h3;clear hK;simp -dsimp[h0,h3];rw[qaa];refine⟨λhb1=>?_,λhb1=>?_⟩
  ·simp at hb1;have hlt:i.toNat<l.length:=by omega
   have hlt2:i.toNat-1<l.length:=by omega
   have hi0:0<=i:=by omega
   have hi1:0<=i-1:=by omega
   have hi2:i-1<l.length:=by omega
   simp -dsimp[h0,h1c,h3,qam hi0 hb1,fw64 (n:=i-1) (by omega) (by omega),qam (e:=2) (id:=id) (b:=0) (f:=f) (k:=.i64) hi1 hi2,hid,qc6 hlt,qc6 hlt2];refine WFS.by (qnA (lat l i.toNat) (lat l (i.toNat-1))) ?_
   intro v h' e;cases e;simp -dsimp;rw[qaa];refine⟨λhb2=>?_,λhb2=>?_⟩
   ·simp at hb2;simp -dsimp[h0,h1c,h3,qaY (n:=i) (top:=l.length) hi0 (by omega),qdl];refine qaf (λk st=>∃(a b:Int) (L:List En),1<=a/\1<=b/\(k:Int)=l.length-i-b/\a<=i+b-1/\L.length=l.length/\b<=l.length-i/\L.take a.toNat=qgc l (i+b).toNat/\(∀j,(i+b-1).toNat<=j->j<l.length->lat L j=lat l j) /\
     (gK 5).run st.tm=.int .i64 a/\(gK 7).run st.tm=.int .i64 b/\st.h.n=h'.n/\(∀j,j≠id->st.h.get j=h'.get j)/\st.h.get id=some (.rows (qag L))/\st.defs=[]) (l.length-i.toNat-1) ⟨i,1,l,hi,by omega,by omega,by omega,rfl,by omega,?_,λ_ _ _=>rfl,by simp[h3],by simp,rfl,λ_ _=>rfl,hid,rfl⟩ ?_
    ·rw[show(i+1).toNat=i.toNat+1 by omega,qgc,Jaa (by rintro (e|e); omega; exact e hb2),qfd (by omega) hd]
    ·rintro k2 ⟨tm2,h2,defs,round⟩ ⟨a,b,L,ha,hbb,hk2,hab,hLl,hble,htake,hsame,h3',h5,hn2,hkeep,hget,rfl⟩ hK;have h0':=hK 0 rfl;have h1':=hK 1 rfl;have h4:=hK 6 rfl;simp[h0,h1c]at h0' h1' h4 h3' h5 hn2 hkeep hget;clear hK;have hlen:(l.length-i.toNat:Nat)=(l.length:Int)-i:=by omega
     simp -dsimp[h4,h5,hlen];rw[qaa];refine⟨λhc=>?_,λhc=>?_⟩
     ·simp at hc;have hb0:0<=b:=by omega
      have hb1':b<((l.length-i.toNat:Nat):Int):=by omega
      have hb2':0<=b-1:=by omega
      have hb3':b-1<((l.length-i.toNat:Nat):Int):=by omega
      have r1:i.toNat+b.toNat<L.length:=by omega
      have r2:i.toNat+(b.toNat-1)<L.length:=by omega
      have v1:lat L (i.toNat+b.toNat)=lat l (i+b).toNat:=by rw[show(i+b).toNat=i.toNat+b.toNat by omega]; exact hsame _ (by omega) (by omega)
      have v2:lat L (i.toNat+(b.toNat-1))=lat l ((i+b).toNat-1):=by rw[show(i+b).toNat-1=i.toNat+(b.toNat-1) by omega]; exact hsame _ (by omega) (by omega)
      have fb:fw .i64 (b+1)=b+1:=fw64 (by omega) (by omega);have fa:fw .i64 (a+1)=a+1:=fw64 (by omega) (by omega);simp -dsimp[h1',h4,h5,qam (e:=2) hb0 hb1',fw64 (n:=b-1) (by omega) (by omega),qam (e:=2) (id:=id) (b:=i.toNat) (k:=.i64) hb2' hb3',hget,qc6 r1,qc6 r2,v1,v2];refine WFS.by (qnA (lat l (i+b).toNat) (lat l ((i+b).toNat-1))) ?_
      intro v h'' e;cases e;simp -dsimp;rw[qaa];refine⟨λhd2=>?_,λhd2=>?_⟩
      ·simp at hd2;have ha0:0<=a:=by omega
       have ha1:a<((l.length:Nat):Int):=by omega
       have r3:a.toNat<L.length:=by omega
       simp -dsimp[h0',h3',h4,h5,qam (e:=2) hb0 hb1',qam (e:=2) (id:=id) (b:=0) (k:=.i64) ha0 ha1,hget,qc6 r1,qc6 r3,v1,hm,fa,fb];rw[qmU];refine qah.intro (k2-1) (by omega) ⟨a+1,b+1,L.set a.toNat (lat l (i+b).toNat),by omega,by omega,by omega,by omega,by simp[hLl],by omega,?_,λj h1 h2=>?_,by simp,by simp,by simp[hn2],λj hj=>by simp[hj,hkeep],by simp,rfl⟩
       ·rw[show(i+(b+1)).toNat=(i+b).toNat+1 by omega,qgc,Jab (.inr hd2),<-htake,show(a+1).toNat=a.toNat+1 by omega,Jap,List.getElem?_set_self (by omega),List.take_set,List.set_eq_of_length_le (by simp; omega)];rfl
       ·rw[qpX (by omega),Jaa (by omega)]; exact hsame j (by omega) h2
      ·simp at hd2;simp -dsimp[h5,fb];refine qah.intro (k2-1) (by omega) ⟨a,b+1,L,by omega,by omega,by omega,by omega,hLl,by omega,?_,λj h1 h2=>hsame j (by omega) h2,by simp[h3'],by simp,hn2,hkeep,hget,rfl⟩;rw[show(i+(b+1)).toNat=(i+b).toNat+1 by omega,qgc,Jaa (by rintro (e|e); omega; exact e hd2),htake]
     ·simp at hc;have ha0:0<=a:=by omega
      have hend:(i+b).toNat=l.length:=by omega
      have hbl:¬b<(l.length:Int)-i:=by omega
      have htake':L.take a.toNat=ddX l:=by rw[htake,hend]; rfl
      have hddl:(ddX l).length=a.toNat:=by rw[<-htake']; simp; omega
      simp -dsimp[hbl,h0',h3',qaY (n:=a) (top:=l.length) ha0 (by omega),qdl];refine qBC ?_;obtain⟨h3,L',q1,q2,q3,q4,q5,q6⟩:=qoM (x:=Opd.t 61) (tm:=(sK 61).run (V.sl id a.toNat (l.length-a.toNat) 2 f) ((sK 60).run (V.int IntKind.i64 a) ((sK 59).run (V.sl id 0 l.length 2 f) ((sK 35).run (V.bool false) ((sK 34).run (V.int IntKind.i64 (↑l.length-i)) ((sK 33).run (V.sl id i.toNat (l.length-i.toNat) 2 f) ((sK 32).run (V.int IntKind.i64 b) tm2))))))) (f:=f) (lo:=a.toNat) (n:=l.length-a.toNat) (by simp) hget hm (by omega);refine⟨_,q1,?_⟩;simp -dsimp[h0',h3',qaY (n:=a) (top:=l.length) ha0 (by omega),qdl];refine⟨by rw[q2,hn2],λj hj=>by rw[q3 j hj,hkeep j hj],⟨_,by rw[hddl]⟩,L'.drop a.toNat,?_⟩;show h3.get id=_;rw[q4,<-htake',<-q6,List.take_append_drop]
   ·simp at hb2;simp -dsimp[h3,fw64 (n:=i+1) (by omega) (by omega)];refine qah.intro (k-1) (by omega) ⟨i+1,by omega,by omega,λj h1 h2=>?_,by simp,rfl,rfl⟩
    by_cases e:j=i.toNat
    ·subst e; exact hb2
    ·exact hd j h1 (by omega)
  ·simp at hb1;have hb1':decide (i<(l.length:Int))=false:=by simpa using hb1
   have e:ddX l=l:=by
    rw[ddX,qfd (Jac _) (λj h0 h1=>hd j h0 (by omega))]; simp
   simp -dsimp[hb1',h0,e];exact⟨rfl,λ_ _=>rfl,⟨f,rfl⟩,[],by simpa using hid⟩
theorem qiP:∀(l:List En) (x y:En),ddE x (l++[y])=if y.1=((x::l).getLast (by simp)).1 then ddE x l else ddE x l++[y]
 | [],x,y=>by simp only[List.nil_append,ddE,List.getLast_singleton]; split<;>rename_i c<;>simp[c]
 | z::l,x,y=>by
  simp only[List.cons_append,ddE]
  by_cases c:z.1=x.1
  ·rw[Jab c,Jab c,qiP l x y];have:((x::l).getLast (by simp)).1=((x::z::l).getLast (by simp)).1:=by
    cases l with
    | nil=>simp[c]
    | cons u l=>simp
   rw[this]
  ·rw[Jaa c,Jaa c,qiP l z y];have:((z::l).getLast (by simp)).1=((x::z::l).getLast (by simp)).1:=by simp
   rw[this];split<;>simp
theorem qlU(l:List En):∀i,i<=l.length->qgc l i=qjW (l.take i)
 | 0,_=>by simp[qgc,qjW]
 | i+1,hi=>by
  have ih:=qlU l i (by omega);have hlt:i<l.length:=by omega
  have ht:l.take (i+1)=l.take i++[lat l i]:=by rw[Jap,qaz hlt]; rfl
  rw[qgc,ih,ht];cases hq:l.take i with
  | nil =>
   have:i=0:=by
    have h3:(l.take i).length=0:=by rw[hq]; rfl
    rw[List.length_take]at h3;omega
   simp[this,qjW,ddE]
  | cons x r =>
   have hi0:i≠0:=by rintro rfl; simp at hq
   have hlast:((x::r).getLast (by simp))=lat l (i-1):=by
    have e:(x::r).getLast (by simp)=(l.take i).getLast (by rw[hq]; simp):=by congr 1; exact hq.symm
    have hi1:i-1<l.length:=by omega
    rw[e,List.getLast_take,lat_eq hi1];simp[Jal hi1]
   simp only[List.cons_append,qjW,qiP,hlast]
   by_cases c:(lat l i).1=(lat l (i-1)).1
   ·rw[Jaa (by simp[hi0,c]),Jab c]
   ·rw[Jab (.inr c),Jaa c]
theorem qqc(l:List En):ddX (qbd l)=qbG l:=by
 unfold ddX qbG;rw[qlU _ _ (Jac _),List.take_length]
def slE(l:List En):Sl En:=if l=[]then .nil else .of l
@[simp]theorem qjd(l:List En):(slE l).l=l:=by unfold slE; split<;>simp_all
theorem qh2:∀l:List En,qkK (qag l)=some l
 | []=>rfl
 | x::l=>by
  have:=qh2 l;simp only[qag]at this;simp[qag,qkK,this]
theorem qdi{mk k:Nat}{h:Heap}:∀l:List En,allM (allM (freeze mk h (k+1))) (qag l)=some (qag l)
 | []=>rfl
 | x::l=>by
  have:=qdi (mk:=mk) (k:=k) (h:=h) l;simp only[qag]at this;have e (a:Int):freeze mk h (k+1) (.int .i64 a)=some (.int .i64 a):=rfl;simp only[qag,List.map_cons,allM,e,this]
theorem qnv{d:Bool}{mk m0:Nat}{h:Heap}{v:V}{l:List En}(hO:Own h m0 v 2 (qag l))(h0:mk<=m0)(hl:l.length<1000000000) :
  WF PR d mk (.fn 345 [] []) [v,.fn 346 [] []] h λr=>r.v=.tup []/\Own r.h m0 v 2 (qag (qbd l))/\r.h.n=h.n/\∀j,slId v≠some j->r.h.get j=h.get j:=by
 refine WF.prim (p:=qbz 346) rfl ?_;rcases hO with ⟨rfl,e⟩|⟨id,rfl,hid,hmi,hlt,hne⟩
 ·have:l=[]:=by simpa[qag]using e
  subst this;exact W.one ⟨rfl,.inl ⟨rfl,rfl⟩,rfl,λ_ _=>rfl⟩
 ·have e:qbz 346 mk ([]++[V.sl id 0 (qag l).length 2 false,.fn 346 [] []]++[]) h=some [⟨.tup [],h.set id (.rows (qag (qbd l)))⟩]:=by
   have:l.length<4294967296:=by omega
   have hmi':mk<=id:=by omega
   simp[qbz,qeP,hid,hmi',qh2,this]
  refine qDI e (by simp) (λ_=>rfl) ?_;intro r hr;simp at hr;subst hr;refine⟨rfl,.inr ⟨id,by simp[qbR],by simp,hmi,hlt,?_⟩,rfl,λj hj=>?_⟩
  ·intro e;have:(qbd l).length=0:=by simpa[qag]using congrArg List.length e
   rw[qbR]at this;exact hne (by simp[qag,List.length_eq_zero_iff.1 this])
  ·simp[slId]at hj; simp[Ne.symm hj]
theorem qjU{d:Bool}{mk:Nat}{h:Heap}:WF PR d mk (.fn 348 [] []) [.nils,.fn 349 [] []] h λr=>r=⟨.nils,h⟩:=by
 refine WF.go f348 b348 [.tm 4] rfl rfl rfl rfl rfl rfl ?_;unfold b348;simp -dsimp
theorem frzE{mk id:Nat}{h:Heap}{l L:List En}{f:Bool}(hid:h.get id=some (.rows (qag (l++L))))(hm:mk<=id)(hn:l≠[]):frzV mk ⟨.sl id 0 l.length 2 f,h⟩=some ⟨(slE l).enc qad,h.kill id⟩:=by
 have hr:qal h (.sl id 0 l.length 2 false)=some (qag l):=by
  simp[qal,hid,qag]
 have:=qdi (mk:=h.n) (h:=h) (k:=15) l;simp only[frzV,hr,qat,this,qa3,hm,decide_true,cond];simp[slE,hn,Sl.enc,qag];exact λ_ _ _=>rfl
theorem qq9{d:Bool}{mk m0:Nat}{h:Heap}{v:V}{l:List En}(hO:Own h m0 v 2 (qag l))(h0:mk<=m0)(hl:l.length<1000000000) :
  WF PR d mk (.fn 339 [] []) [v] h λr=>∃h',frzV mk r=some ⟨(slE (qbG l)).enc qad,h'⟩/\h'.n=h.n/\∀j,slId v≠some j->h'.get j=h.get j:=by
 have hv:=hO.cells;refine WF.go f339 b339 [.tm 2] rfl rfl rfl rfl rfl rfl ?_;unfold b339;simp -dsimp;refine WFS.by (qnv hO h0 hl) ?_
 rintro v1 h1 ⟨rfl,hO1,hn1,hk1⟩;simp only at hO1 hn1 hk1;simp -dsimp;rcases hO1 with ⟨rfl,e⟩|⟨id,rfl,hid,hmi,hlt,hne⟩
 ·have hs:qbd l=[]:=by simpa[qag]using e
  have ht:qbG l=[]:=by unfold qbG; rw[hs]; rfl
  refine WFS.by qjU ?_
  intro v2 h2 e;cases e;simp -dsimp;refine⟨h1,?_,hn1,hk1⟩;rw[ht]; rfl
 ·have hlen:(qag (qbd l)).length=(qbd l).length:=by simp
  have hsl:(qbd l).length<1000000000:=by rw[qbR]; exact hl
  rw[hlen];refine WFS.by (qkS hid (by omega) hsl) ?_
  rintro v2 h2 ⟨c1,c2,⟨f,hv2⟩,L,c4⟩;simp only at c1 c2 hv2 c4;subst hv2;rw[qqc]at c4 ⊢;have htn:qbG l≠[]:=by
   intro e;rw[qpb]at e;subst e;exact hne rfl
  simp -dsimp;refine⟨_,frzE c4 (by omega) htn,by simp[c1,hn1],λj hj=>?_⟩;have hji:j≠id:=by rintro rfl; exact hj rfl
  rw[qBr,Jaa hji,c2 j hji,hk1 j hj]
theorem qgG{H:Heap}{m n:Nat}{v:V}{l:List En}(hO:Own H m v 2 (qag l))(h:n<=m):freeze n H qat v=some ((slE l).enc qad):=by
 rcases hO with ⟨rfl,e⟩|⟨id,rfl,hid,hmi,_,hne⟩
 ·have:l=[]:=by simpa[qag]using e
  subst this; rfl
 ·have hl:l≠[]:=λe=>hne (by simp[e,qag]);have hr:qal H (.sl id 0 (qag l).length 2 false)=some (qag l):=by
   simp[qal,hid];exact List.take_of_length_le (by simp)
  have hni:n<=id:=by omega
  have e:freeze n H qat (.sl id 0 (qag l).length 2 false)=cond (Nat.ble n id) (match qal H (.sl id 0 (qag l).length 2 false)with|some rows=>(match allM (allM (freeze n H 15)) rows with|some r=>some (.slR r false)|none=>none)|none=>none) none:=rfl;rw[e,hr];simp only[qdi,qa3,hni,decide_true,cond];simp[slE,hl,Sl.enc,qag];exact λ_ _ _=>rfl
theorem qh1:∀(l:List UInt8) (i:Int),(qaH l i).length<=l.length
 | [],i=>by simp[qaH]
 | c::l,i=>by
  have:=qh1 l (i+1);simp only[qaH];split<;>simp<;>omega
theorem qcJ(w:List UInt8):(qaJ w).length<=w.length+1:=by
 have:=qh1 w 0;unfold qaJ;split
 ·omega
 ·simp; omega
def qba(x:Ev)(M:Nat):List V:=[x.g.p.enc Pd.cells,x.g.keys.enc qac,x.w.v,.int .i64 x.tab,.bool x.heal,.map M]
def qi8(n k r:Int):V:=.agg [.int .i64 n,.int .i64 k,.int .i64 r]
theorem qrT{d:Bool}{mk:Nat}{h:Heap}(x:Ev)(hx:EvS x)(hB:WB h x.w)(hm:x.w.m<=h.n){K M:Nat}(hK:h.get K=some (.rows [qba x M]))(lK:K<h.n){n:Int}(n0:0<=n)(n1:n<x.g.p.l.length)(k r:Int) :
  WF PR d mk (.fn 340 [] []) [.ptr K 0 0,qi8 n k r] h λv=>v=⟨(slE (qcr x n k)).enc qad,h⟩:=by
 refine qBt f340 b340 [.tm 4] rfl rfl rfl rfl rfl rfl ?_;unfold b340;have hw:=hx.w;have nK:¬K=h.n:=by omega
 obtain⟨p,hq⟩:∃p,lat x.g.p.l n.toNat=p:=⟨_,rfl⟩;have hbit:bitB p.marks 32 = !decide (fw .i64 (BitVec.ofInt IntKind.i64.bits p.marks &&& BitVec.ofInt IntKind.i64.bits 32).toNat=0):=by simp[bitB]
 simp -dsimp[qi8,qcT,hK,nK,qba];rw[Gd_f];refine⟨λh1=>?_,λh1=>?_⟩;rotate_left
 ·have hh:x.heal=false:=by simpa using h1
  simp -dsimp[h1,hh];rw[qgU hh];rfl
 have hh:x.heal=true:=by simpa using h1
 simp -dsimp[h1,qcT,hK,nK,qba,qbg n0 n1,Pd.cells,hq];rw[Gd_t];refine⟨λh2=>?_,λh2=>?_⟩
 ·have hn:n≠0:=by simpa using h2
  simp -dsimp[h2,qcT,hK,nK,qba,qbg n0 n1,Pd.cells,hq];rw[qaa];refine⟨λh3=>?_,λh3=>?_⟩
  ·have hb:bitB p.marks 32=false:=by rw[hbit]; exact congrArg (!·) h3
   simp -dsimp;have hle:qcr x n k=[]:=by
    unfold qcr;rw[Jaa];rintro⟨_,e|e⟩
    ·exact hn e
    ·rw[hq,hb]at e; cases e
   rw[hle];rfl
  ·have hb:bitB p.marks 32=true:=by rw[hbit]; exact congrArg (!·) h3
   simp -dsimp[qcT,hK,nK,qba];have hle:qcr x n k=((qaJ x.w.l).filter λy=>decide (k<y)).map λy=>(y,1):=by
    unfold qcr;rw[Jab ⟨hh,.inr (by rw[hq,hb])⟩]
   obtain⟨H,hH⟩:∃H,h.push (Obj.rows [[V.int IntKind.i64 n,V.int IntKind.i64 k,V.int IntKind.i64 r]])=H:=⟨_,rfl⟩;have hHn:H.n=h.n+1:=by rw[<-hH]; simp
   have hH3:H.get h.n=some (.rows [[.int .i64 n,.int .i64 k,.int .i64 r]]):=by rw[<-hH]; simp
   have hHk:∀i,i<h.n->H.get i=h.get i:=λi hi=>by rw[<-hH,qBq,Jaa (by omega)]
   rw[hH];refine WFS.by (qk3 (hB.keep λi hi=>hHk i (by omega)) (by omega) hw) ?_
   intro v h' e;cases e;have hll:=qcJ x.w.l;have hlr:∀y∈qaJ x.w.l,0<=y/\y<=x.w.l.length:=λy hy=>qcU hy;obtain⟨L,hL⟩:∃L,qaJ x.w.l=L:=⟨_,rfl⟩;rw[hL]at hle hll hlr ⊢;rw[hle];simp -dsimp;refine qaf (λm st=>∃(i:Nat) (v:V),i+m=L.length/\(gK 42).run st.tm=.int .i64 i/\(gK 5).run st.tm=v/\Own st.h (h.n+1) v 2 (qag (((L.take i).filter λy=>decide (k<y)).map λy=>(y,1)))/\h.n+1<=st.h.n/\(∀j,j<h.n+1->st.h.get j=H.get j)/\st.defs=[]) L.length
    ⟨0,.nils,by omega,by simp,by simp,.inl ⟨rfl,by simp[qag]⟩,by simp only; omega,λ_ _=>rfl,rfl⟩ ?_
   rintro m ⟨tm,H2,defs,round⟩ ⟨i,v,hi,h42,h5,hO,hn2,hk2,rfl⟩ hK';have t3:=hK' 3 rfl;have t40:=hK' 40 rfl;have t41:=hK' 41 rfl;simp at t3 t40 t41 h42 h5;simp only at hO hn2 hk2;clear hK';have g3:H2.get h.n=some (.rows [[.int .i64 n,.int .i64 k,.int .i64 r]]):=by rw[hk2 _ (by omega),hH3]
   simp -dsimp[h42,t41];rw[qaa];refine⟨λhc=>?_,λhc=>?_⟩
   ·have hc1:i<L.length:=by simpa using hc
    obtain⟨y,hy⟩:∃y,lat L i=y:=⟨_,rfl⟩;have hyr:=hlr y (by rw[<-hy]; exact qai hc1);have ht:(((L.take (i+1)).filter λy=>decide (k<y)).map λy=>((y,1):En))=(((L.take i).filter λy=>decide (k<y)).map λy=>((y,1):En))++(if k<y then [(y,1)]else []):=by
     rw[Jap,qaz hc1,hy];simp only[Option.toList,List.filter_append,List.map_append];congr 1
     by_cases c:k<y<;>simp[c]
    simp -dsimp[t40,h42,qe6 (n:=(i:Int)) (s:=slOf L) (by omega) (by simp; omega),hy,qaM,t3,g3];rw[qaa];refine⟨λhd=>?_,λhd=>?_⟩
    ·have hd1:k<y:=by simpa using hd
     rw[Jab hd1]at ht;simp -dsimp[h5];rw[qaE (xs:=qag [(y,1)]) (by simp; rfl)];have hlen:(((L.take i).filter λy=>decide (k<y)).map λy=>((y,1):En)).length<=L.length:=by
      rw[List.length_map];exact Jaf (List.length_filter_le _ _) (by rw[List.length_take]; omega)
     obtain⟨v',H4,a1,a2,a3,a4,_⟩:=qaC (mk:=h.n) (bytes:=16) (xs:=qag [(y,1)]) hO (by omega) (by
      intro r hr;simp only[qag,Jak]at hr;obtain⟨a,_,rfl⟩:=hr;exact⟨rfl,rfl⟩) (by simp only[qcg,List.length_singleton]; omega) (by omega) hn2
     simp -dsimp;refine OpS.intro a1 ?_;simp -dsimp[h42,fw64 (n:=(i:Int)+1) (by omega) (by omega)];refine qah.intro (m-1) (by omega) ⟨i+1,v',by omega,by simp,by simp,?_,by simp only; omega,λj hj=>by rw[a4 j (by omega) (hO.slId hj),hk2 j hj],rfl⟩;rw[ht];simpa[qag]using a2
    ·have hd1:¬k<y:=by simpa using hd
     rw[Jaa hd1,List.append_nil]at ht;simp -dsimp[h42,fw64 (n:=(i:Int)+1) (by omega) (by omega)];refine qah.intro (m-1) (by omega) ⟨i+1,v,by omega,by simp,by simp[h5],by rw[ht]; exact hO,hn2,hk2,rfl⟩
   ·have hc1:i=L.length:=by simp at hc; omega
    subst hc1;have hd:decide (L.length<L.length)=false:=by simp
    rw[List.take_length]at hO;simp -dsimp[hd,h5];exact qgG hO (by omega)
 ·have hn:n=0:=by simpa using h2
  simp -dsimp[h2,hh,qcT,hK,nK,qba];have hle:qcr x n k=((qaJ x.w.l).filter λy=>decide (k<y)).map λy=>(y,1):=by
   unfold qcr;rw[Jab ⟨hh,.inl hn⟩]
  obtain⟨H,hH⟩:∃H,h.push (Obj.rows [[V.int IntKind.i64 n,V.int IntKind.i64 k,V.int IntKind.i64 r]])=H:=⟨_,rfl⟩;have hHn:H.n=h.n+1:=by rw[<-hH]; simp
  have hH3:H.get h.n=some (.rows [[.int .i64 n,.int .i64 k,.int .i64 r]]):=by rw[<-hH]; simp
  have hHk:∀i,i<h.n->H.get i=h.get i:=λi hi=>by rw[<-hH,qBq,Jaa (by omega)]
  rw[hH];refine WFS.by (qk3 (hB.keep λi hi=>hHk i (by omega)) (by omega) hw) ?_
  intro v h' e;cases e;have hll:=qcJ x.w.l;have hlr:∀y∈qaJ x.w.l,0<=y/\y<=x.w.l.length:=λy hy=>qcU hy;obtain⟨L,hL⟩:∃L,qaJ x.w.l=L:=⟨_,rfl⟩;rw[hL]at hle hll hlr ⊢;rw[hle];simp -dsimp;refine qaf (λm st=>∃(i:Nat) (v:V),i+m=L.length/\(gK 42).run st.tm=.int .i64 i/\(gK 5).run st.tm=v/\Own st.h (h.n+1) v 2 (qag (((L.take i).filter λy=>decide (k<y)).map λy=>(y,1)))/\h.n+1<=st.h.n/\(∀j,j<h.n+1->st.h.get j=H.get j)/\st.defs=[]) L.length
   ⟨0,.nils,by omega,by simp,by simp,.inl ⟨rfl,by simp[qag]⟩,by simp only; omega,λ_ _=>rfl,rfl⟩ ?_
  rintro m ⟨tm,H2,defs,round⟩ ⟨i,v,hi,h42,h5,hO,hn2,hk2,rfl⟩ hK';have t3:=hK' 3 rfl;have t40:=hK' 40 rfl;have t41:=hK' 41 rfl;simp at t3 t40 t41 h42 h5;simp only at hO hn2 hk2;clear hK';have g3:H2.get h.n=some (.rows [[.int .i64 n,.int .i64 k,.int .i64 r]]):=by rw[hk2 _ (by omega),hH3]
  simp -dsimp[h42,t41];rw[qaa];refine⟨λhc=>?_,λhc=>?_⟩
  ·have hc1:i<L.length:=by simpa using hc
   obtain⟨y,hy⟩:∃y,lat L i=y:=⟨_,rfl⟩;have hyr:=hlr y (by rw[<-hy]; exact qai hc1);have ht:(((L.take (i+1)).filter λy=>decide (k<y)).map λy=>((y,1):En))=(((L.take i).filter λy=>decide (k<y)).map λy=>((y,1):En))++(if k<y then [(y,1)]else []):=by
    rw[Jap,qaz hc1,hy];simp only[Option.toList,List.filter_append,List.map_append];congr 1
    by_cases c:k<y<;>simp[c]
   simp -dsimp[t40,h42,qe6 (n:=(i:Int)) (s:=slOf L) (by omega) (by simp; omega),hy,qaM,t3,g3];rw[qaa];refine⟨λhd=>?_,λhd=>?_⟩
   ·have hd1:k<y:=by simpa using hd
    rw[Jab hd1]at ht;simp -dsimp[h5];rw[qaE (xs:=qag [(y,1)]) (by simp; rfl)];have hlen:(((L.take i).filter λy=>decide (k<y)).map λy=>((y,1):En)).length<=L.length:=by
     rw[List.length_map];exact Jaf (List.length_filter_le _ _) (by rw[List.length_take]; omega)
    obtain⟨v',H4,a1,a2,a3,a4,_⟩:=qaC (mk:=h.n) (bytes:=16) (xs:=qag [(y,1)]) hO (by omega) (by
     intro r hr;simp only[qag,Jak]at hr;obtain⟨a,_,rfl⟩:=hr;exact⟨rfl,rfl⟩) (by simp only[qcg,List.length_singleton]; omega) (by omega) hn2
    simp -dsimp;refine OpS.intro a1 ?_;simp -dsimp[h42,fw64 (n:=(i:Int)+1) (by omega) (by omega)];refine qah.intro (m-1) (by omega) ⟨i+1,v',by omega,by simp,by simp,?_,by simp only; omega,λj hj=>by rw[a4 j (by omega) (hO.slId hj),hk2 j hj],rfl⟩;rw[ht];simpa[qag]using a2
   ·have hd1:¬k<y:=by simpa using hd
    rw[Jaa hd1,List.append_nil]at ht;simp -dsimp[h42,fw64 (n:=(i:Int)+1) (by omega) (by omega)];refine qah.intro (m-1) (by omega) ⟨i+1,v,by omega,by simp,by simp[h5],by rw[ht]; exact hO,hn2,hk2,rfl⟩
  ·have hc1:i=L.length:=by simp at hc; omega
   subst hc1;have hd:decide (L.length<L.length)=false:=by simp
   rw[List.take_length]at hO;simp -dsimp[hd,h5];exact qgG hO (by omega)
abbrev Spt:=Int × Int × Int
def qme(p:Spt):V:=qi8 p.1 p.2.1 p.2.2
def qdQ(f:List En × List En):V:=.agg [(slE f.1).enc qad,(slE f.2).enc qad]
theorem qgu(a b:Spt):qcV (qme a) (qme b)=some (decide (a=b)):=by
 obtain⟨a1,a2,a3⟩:=a;obtain⟨b1,b2,b3⟩:=b;simp[qcV,qme,qi8,eqL,eq1]
theorem qin(a:Spt):qbX (.agg [.int,.int,.int]) (qme a)=true:=rfl
def qm6(x:Ev)(r0 r:Int):Prop:=r=r0\/∃j:Int,0<=j/\j<=x.w.l.length/\r=colV x.w.l x.tab j
structure SptOk (x:Ev) (r0:Int) (p:Spt):Prop where
 n0:0<=p.1
 n1:p.1<x.g.p.l.length
 k0:0<=p.2.1
 k1:p.2.1<=x.w.l.length
 r:qm6 x r0 p.2.2
theorem qm6.ref{x:Ev}{r0 n k r:Int}(h:qm6 x r0 r)(k0:0<=k)(k1:k<=x.w.l.length):qm6 x r0 (refV x n k r):=by
 unfold refV;split
 ·exact .inr ⟨k,k0,k1,rfl⟩
 ·exact h
structure LkE (x:Ev) (r0:Int) (K M:Nat) (h:Heap):Prop where
 k:h.get K=some (.rows [qba x M])
 m:∃es c S,h.get M=some (.map es c)/\MapR qme qdQ es S/\(S.map (·.1)).Nodup/\∀p v,qaS p S=some v->SptOk x r0 p/\v=qaL x p.1 p.2.1 p.2.2
 lk:K<h.n
 lm:M<h.n
 km:K≠M
 wb:WB h x.w
 mq:x.w.m<=K
 mm:x.w.m<=M
theorem LkE.keep{x:Ev}{r0:Int}{K M:Nat}{h h':Heap}(hL:LkE x r0 K M h)(hn:h.n<=h'.n)(hk:∀i,i<h.n->h'.get i=h.get i):LkE x r0 K M h':=by
 obtain⟨k,⟨es,c,S,e1,e2⟩,lk,lm,km,wb,mk,mm⟩:=hL;exact⟨by rw[hk _ lk,k],⟨es,c,S,by rw[hk _ lm,e1],e2⟩,by omega,by omega,km,wb.keep λi hi=>hk i (by omega),mk,mm⟩
def NeM(M:Nat)(h:Heap):Prop:=∃es c,h.get M=some (.map es c)/\es≠[]
def ql6(x:Ev)(r0 n k r:Int):Prop:=∀mk h K M,LkE x r0 K M h->mk<=K->mk<=M->WF PR false mk (.fn 330 [] []) [.ptr K 0 0,qi8 n k r] h λq =>
 q.v=qdQ (qaL x n k r)/\LkE x r0 K M q.h/\Fr1 M h q.h/\NeM M q.h
theorem qrd{d:Bool}{mk:Nat}{h:Heap}{K:Nat}(s:Sy)(e:En)(r:Int):WF PR d mk (.fn 342 [] []) [.ptr K 0 0,.agg s.cells,.agg [.int .i64 e.1,.int .i64 e.2],.int .i64 r] h λq =>
  q.v=.fn 351 [] [.ptr (h.n+1) 0 0,.ptr h.n 0 0,.ptr (h.n+2) 0 0,.ptr (h.n+3) 0 0]/\q.h.n=h.n+4/\q.h.get h.n=some (.rows [[.ptr K 0 0]])/\q.h.get (h.n+1)=some (.rows [s.cells])/\q.h.get (h.n+2)=some (.rows [[.int .i64 e.1,.int .i64 e.2]])/\q.h.get (h.n+3)=some (.rows [[.int .i64 r]])/\∀i,i<h.n->q.h.get i=h.get i:=by
 refine WF.go f342 b342 [.tm 8] rfl rfl rfl rfl rfl rfl ?_;unfold b342;simp -dsimp[Sy.cells];intro i hi;simp[show ¬i=h.n by omega,show ¬i=h.n+1 by omega,show ¬i=h.n+1+1 by omega,show ¬i=h.n+1+1+1 by omega,show ¬i=h.n+2 by omega,show ¬i=h.n+3 by omega]
section
variable {x:Ev}{r0:Int}{K M mk l B:Nat}{h0:Heap}
theorem qpd(hx:EvS x)(s:Sy)(hs:s.r.l.length<1500000)(e:En)(r:Int)(mK:mk<=K)(mM:mk<=M)(hmk:mk<=h0.n)(e0:0<=e.1)(e1:e.1<=x.w.l.length)(b0:0<=e.2)(b1:e.2<=1000)
  (hlk:s.kind=2->ql6 x r0 s.n e.1 r/\∀f∈qaN x r s.n e.1,0<=f.1/\f.1<=x.w.l.length/\0<=f.2/\f.2<=1000)
  (hlen:s.kind=2->(qaN x r s.n e.1).length<=1000)
  (R:List En->Heap->Prop) (hR:R [] h0)
  (hk:∀ys H,R ys H->LkE x r0 K M H/\h0.n<=H.n/\H.get B=some (.rows [[.ptr K 0 0]])/\H.get (B+1)=some (.rows [s.cells])/\H.get (B+2)=some (.rows [[.int .i64 e.1,.int .i64 e.2]])/\H.get (B+3)=some (.rows [[.int .i64 r]])/\B+3<H.n)
  (hst:∀ys H H',R ys H->LkE x r0 K M H'->Fr1 M H H'->R ys H')
  (hy:∀ys y H,R ys H->ys.length<=1000->y∈qa2 (qaN x r) x.w.l s e->WF PR false mk (.yld l) [.agg [.int .i64 y.1,.int .i64 y.2]] H λq=>q.v=.bool true/\R (ys++[y]) q.h) :
  WF PR false mk (.fn 351 [] [.ptr (B+1) 0 0,.ptr B 0 0,.ptr (B+2) 0 0,.ptr (B+3) 0 0]) [.yld l] h0 λq=>R (qa2 (qaN x r) x.w.l s e) q.h:=by
 obtain⟨hL0,hn0,g0,g1,g2,g3,lB⟩:=hk _ _ hR;have hw:=hx.w;refine WF.go f351 b351 [] rfl rfl rfl rfl rfl rfl ?_;unfold b351;simp -dsimp[g1,Sy.cells];rw[qaa];refine⟨λhc=>?_,λhc=>?_⟩
 ·have hkd:¬s.kind=2:=by simpa using hc
  have hsc:[V.int IntKind.i64 s.kind,Sl.enc Rg.cells s.r,V.int IntKind.i64 s.n]=s.cells:=rfl;simp -dsimp[g0,g1,g2,g3,Sy.cells,qcT,hL0.k,qba];rw[hsc];refine WFS.by (qnn s hL0.wb (by have:=hL0.mq; have:=hL0.lk; omega) e.1 hs (by omega)) ?_
  intro v h' e';cases e';simp -dsimp;rw[qaa];refine⟨λhd=>?_,λhd=>?_⟩
  ·have hd1:0<qbr s x.w.l e.1:=by simpa using hd
   have hst2:qa2 (qaN x r) x.w.l s e=[(e.1+qbr s x.w.l e.1,e.2)]:=by
    unfold qa2; rw[Jaa hkd,Jab hd1]
   have hmr:=qdJ hd1;simp -dsimp[g2,fw64 (n:=e.1+qbr s x.w.l e.1) (by omega) (by omega)];refine WFS.by (hy [] (e.1+qbr s x.w.l e.1,e.2) _ hR (by simp) (by rw[hst2]; simp)) ?_
   rintro v h2 ⟨hv,hR2⟩;simp only at hv hR2;subst hv;simp -dsimp;rw[hst2];exact hR2
  ·have hd1:¬0<qbr s x.w.l e.1:=by simpa using hd
   have hst2:qa2 (qaN x r) x.w.l s e=[]:=by
    unfold qa2; rw[Jaa hkd,Jaa hd1]
   simp -dsimp;rw[hst2];exact hR
 ·have hkd:s.kind=2:=by simpa using hc
  obtain⟨hlo,hin⟩:=hlk hkd;have hll:=hlen hkd;simp -dsimp[g0,g1,g2,g3,Sy.cells];refine WFS.by (hlo mk h0 K M hL0 mK mM) ?_
  rintro v h2 ⟨rfl,hL2,hF2,-⟩;simp only at hL2 hF2;have hR2:=hst [] h0 h2 hR hL2 hF2;obtain⟨F,hF⟩:∃F,qaN x r s.n e.1=F:=⟨_,rfl⟩;have hF':(qaL x s.n e.1 r).2=F:=hF;have hstep:qa2 (qaN x r) x.w.l s e=F.map λf=>(f.1,e.2+f.2):=by
   unfold qa2; rw[Jab hkd,hF]
  rw[hF]at hin hll;rw[hstep];simp -dsimp[qdQ,hF'];refine qaf (λm st=>∃i:Nat,i+m=F.length/\(gK 45).run st.tm=.int .i64 i/\R ((F.take i).map λf=>(f.1,e.2+f.2)) st.h/\st.defs=[]) F.length ⟨0,by omega,by simp,by simpa using hR2,rfl⟩ ?_;rintro m ⟨tm,H,defs,round⟩ ⟨i,hi,h45,hRi,rfl⟩ hK';have t0:=hK' 0 rfl;have t3:=hK' 3 rfl;have t43:=hK' 43 rfl;have t44:=hK' 44 rfl;simp at t0 t3 t43 t44 h45;simp only at hRi;clear hK';obtain⟨hL,hn,q0,q1,q2,q3,lB'⟩:=hk _ _ hRi;simp -dsimp[h45,t44];rw[qaa];refine⟨λhd=>?_,λhd=>?_⟩
  ·have hd1:i<F.length:=by simpa using hd
   obtain⟨f,hf⟩:∃f,lat F i=f:=⟨_,rfl⟩;have hfm:f∈F:=by rw[<-hf]; exact qai hd1
   obtain⟨f0,f1,f2,f3⟩:=hin f hfm;have ht:(F.take (i+1)).map (λf=>((f.1,e.2+f.2):En))=(F.take i).map (λf=>((f.1,e.2+f.2):En))++[(f.1,e.2+f.2)]:=by
    rw[Jap,qaz hd1,hf]; simp
   have hia:qaw 2 ((slE F).enc qad) (.int .i64 i)=some (.ptrR (qad f) 0):=by
    have:=qap (f:=qad) (s:=slE F) (esz:=2) (k:=.i64) (n:=(i:Int)) (by omega) (by simp; omega) (λ_=>rfl);rw[this]; simp[hf]
   have hmkH:mk<=H.n:=by omega
   have nB:¬B+2=H.n:=by omega
   simp -dsimp[h45,t43,hia,qad,hmkH];obtain⟨H2,hH2⟩:∃H2,(H.push (Obj.rows [[V.int IntKind.i64 0,V.int IntKind.i64 0]])).set H.n (Obj.rows [[V.int IntKind.i64 f.1,V.int IntKind.i64 f.2]])=H2:=⟨_,rfl⟩;have k2:∀j,j<H.n->H2.get j=H.get j:=λj hj=>by rw[<-hH2,qBp,Jaa (by omega),qBq,Jaa (by omega)]
   have n2:H2.n=H.n+1:=by rw[<-hH2]; simp
   have g9:H2.get H.n=some (.rows [[.int .i64 f.1,.int .i64 f.2]]):=by rw[<-hH2,qBp,Jab rfl]
   have hRi2:=hst _ H H2 hRi (hL.keep (by omega) k2) ⟨by omega,λj hj _=>k2 j hj⟩;rw[hH2];simp -dsimp[t0,t3,g9,k2 (B+2) (by omega),q2,fw64 (n:=e.2+f.2) (by omega) (by omega)];refine WFS.by (hy _ (f.1,e.2+f.2) _ hRi2 (by rw[List.length_map,List.length_take]; omega) (by rw[hstep]; exact Jak.2 ⟨f,hfm,rfl⟩)) ?_
   rintro v h3 ⟨hv,hR3⟩;simp only at hv hR3;subst hv;simp -dsimp[h45,fw64 (n:=(i:Int)+1) (by omega) (by omega)];refine qah.intro (m-1) (by omega) ⟨i+1,by omega,by simp,by rw[ht]; exact hR3,rfl⟩
  ·have hd1:i=F.length:=by simp at hd; omega
   subst hd1;have hdd:decide (F.length<F.length)=false:=by simp
   rw[List.take_length]at hRi;simp -dsimp[hdd];exact hRi
end
theorem qb7{l:List En}{n:Nat}(hp:l.Pairwise (λa b=>a.1<b.1))(h:∀e∈l,0<=e.1/\e.1<=n)(hn:n<=200):l.length<=201:=by
 have:=qqa (l:=l.map (·.1)) (n:=n) (List.pairwise_map.2 hp) (λy hy=>by
  obtain⟨e,he,rfl⟩:=Jak.1 hy;exact h e he) hn
 simpa using this
structure Dfr (n0:Nat) (ms:List Nat) (H:Heap):Prop where
 u:ms.Nodup
 m:∀m∈ms,n0<=m/\m<H.n/\H.get m=some .dfr
theorem Dfr.move{n0:Nat}{ms:List Nat}{H H':Heap}(hD:Dfr n0 ms H)(hn:H.n<=H'.n)(hk:∀m,n0<=m->m<H.n->H.get m=some .dfr->H'.get m=some .dfr):Dfr n0 ms H' :=
 ⟨hD.u,λm hm=>⟨(hD.m m hm).1,by have:=(hD.m m hm).2.1; omega,hk m (hD.m m hm).1 (hD.m m hm).2.1 (hD.m m hm).2.2⟩⟩
theorem qiX{AP:Prog}{d:Bool}{mk n0:Nat}:∀{ms:List Nat}{H:Heap}{Q:Heap->Prop},Dfr n0 ms H->mk<=n0->(∀H',H'.n=H.n->(∀i,i ∉ ms->H'.get i=H.get i)->Q H')->wunS AP d mk (ms.map DefI.mark) H Q ⟨⟩
 | [],H,Q,_,_,hq=>hq H rfl λ_ _=>rfl
 | m::ms,H,Q,hD,hm,hq=>by
  obtain⟨u,hd⟩:=hD;rw[List.nodup_cons]at u;have h1:=hd m (by simp);rw[List.map_cons,qo7];refine⟨h1.2.2,by omega,qiX (n0:=n0) ⟨u.2,λq hq'=>?_⟩ hm λH' h2 h3=>hq H' (by simpa using h2) λi hi=>?_⟩
  ·have:=hd q (by simp[hq']);have hne:q≠m:=by rintro rfl; exact u.1 hq'
   exact⟨this.1,by simpa using this.2.1,by rw[qBr,Jaa hne,this.2.2]⟩
  ·simp only[Jag,not_or]at hi;rw[h3 i hi.2,qBr,Jaa hi.1]
theorem LkE.low{x:Ev}{r0:Int}{K M n0:Nat}{h h':Heap}(hL:LkE x r0 K M h)(hK:K<n0)(hM:M<n0)(hn:n0<=h'.n)(hk:∀i,i<n0->h'.get i=h.get i):LkE x r0 K M h':=by
 obtain⟨k,⟨es,c,S,e1,e2⟩,lk,lm,km,wb,mk,mm⟩:=hL;exact⟨by rw[hk _ hK,k],⟨es,c,S,by rw[hk _ hM,e1],e2⟩,by omega,by omega,km,wb.keep λi hi=>hk i (by omega),mk,mm⟩
structure NxE (x:Ev) (r0:Int) (K M:Nat) (h:Heap) (B:Nat) (s:Sy) (ms:List Nat) (nx:List En) (H:Heap):Prop where
 l:LkE x r0 K M H
 f:Fr1 M h H
 b:H.get B=some (.rows [s.cells])
 o:∃v,H.get (B+1)=some (.rows [[v]])/\Own H (B+2) v 2 (qag nx)
 n:B+2<=H.n
 hb:h.n<=B
 d:Dfr h.n ms H
structure RdE (x:Ev) (r0:Int) (K M:Nat) (h:Heap) (B:Nat) (s:Sy) (P D:Nat) (H0:Heap) (lp:Obj) (ms:List Nat) (nx:List En) (H:Heap):Prop where
 l:LkE x r0 K M H
 f:Fr1 M h H
 b:H.get B=some (.rows [s.cells])
 o:∃v,H.get (B+1)=some (.rows [[v]])/\Own H (B+2) v 2 (qag nx)/\∀id,slId v=some id->id<P\/D+2<=id
 k:∀i,P<=i->i<D+1->H.get i=H0.get i
 p:H.get (D+1)=some lp
 n:D+2<=H.n
 d:Dfr h.n ms H
 m:∀m∈ms,m<P
section
variable {x:Ev}{r0:Int}{K M:Nat}{h:Heap}{B:Nat}{s:Sy}{P D:Nat}{H0 H H':Heap}{lp:Obj}{ms:List Nat}{nx:List En}
theorem RdE.move(hA:RdE x r0 K M h B s P D H0 lp ms nx H)(hM:M<h.n)(hb:h.n<=B)(hP:B+2<=P)(hD:P<=D)(hl:LkE x r0 K M H')(hf:Fr1 M H H'):RdE x r0 K M h B s P D H0 lp ms nx H':=by
 obtain⟨_,f,b,⟨v,hv,hO,hid⟩,k,p,n,d,m⟩:=hA;have:=hf.1;exact⟨hl,f.trans hf,by rw[hf.2 _ (by omega) (by omega),b],⟨v,by rw[hf.2 _ (by omega) (by omega),hv],hO.ext1 (by omega) hf,hid⟩,λi h1 h2=>by rw[hf.2 i (by omega) (by omega),k i h1 h2],by rw[hf.2 _ (by omega) (by omega),p],by omega,d.move hf.1 λq h1 h2 h3=>by rw[hf.2 q h2 (by omega),h3],m⟩
theorem RdE.setLp(hA:RdE x r0 K M h B s P D H0 lp ms nx H)(hK:K<h.n)(hM:M<h.n)(hb:h.n<=B)(hP:B+2<=P)(hD:P<=D)(lp':Obj):RdE x r0 K M h B s P D H0 lp' ms nx (H.set (D+1) lp'):=by
 obtain⟨l,f,b,⟨v,hv,hO,hid⟩,k,p,n,d,m⟩:=hA;have hk:∀i,i≠D+1->(H.set (D+1) lp').get i=H.get i:=λi hi=>by rw[qBp,Jaa hi]
 have:=f.1;refine⟨l.low hK hM (by simp; omega) λi hi=>hk i (by omega),⟨by simp; omega,λi hi hiM=>by rw[hk i (by omega),f.2 i hi hiM]⟩,by rw[hk _ (by omega),b],⟨v,by rw[hk _ (by omega),hv],?_,hid⟩,λi h1 h2=>by rw[hk i (by omega),k i h1 h2],by rw[qBp,Jab rfl],by simpa using n,⟨d.u,λq hq=>⟨(d.m q hq).1,by simpa using(d.m q hq).2.1,by rw[hk q (by have:=m q hq; omega),(d.m q hq).2.2]⟩⟩,m⟩;rcases hO with q|⟨id,q1,q2,q3,q4,q5⟩
 ·exact .inl q
 ·have:=hid id (by rw[q1]; rfl);exact .inr ⟨id,q1,by rw[hk id (by omega),q2],q3,by simpa using q4,q5⟩
theorem RdE.app{mk:Nat}(hA:RdE x r0 K M h B s P D H0 lp ms nx H)(hK:K<h.n)(hM:M<h.n)(hb:h.n<=B)(hP:B+2<=P)(hD:P<=D)(hmk:mk<=h.n)(hl:nx.length<100000)(y:En){v:V}(hv:H.get (B+1)=some (.rows [[v]])) :
  ∃v' H4,qaj mk H 2 16 v (qag [y])=some ⟨v',H4⟩/\v'.cells=[v']/\v'.one=true/\H4.get (B+1)=some (.rows [[v]])/\H.n<=H4.n/\H4.get (D+1)=some lp/\RdE x r0 K M h B s P D H0 lp ms (nx++[y]) (H4.set (B+1) (.rows [[v']])):=by
 obtain⟨l,f,b,⟨v0,hv0,hO,hid⟩,k,p,n,d,m⟩:=hA;rw[hv]at hv0;simp only[Jae,Obj.rows.injEq,List.cons.injEq,and_true]at hv0;subst hv0;obtain⟨v',H4,a1,a2,a3,a4,a5⟩:=qaC (mk:=mk) (bytes:=16) (xs:=qag [y]) hO (by omega) (by
  intro r hr;simp only[qag,Jak]at hr;obtain⟨a,_,rfl⟩:=hr;exact⟨rfl,rfl⟩) (by simp only[qcg,List.length_singleton]; omega) (by omega) (by omega)
 have hf:=f.1;have hlow:∀i,i<B+2->H4.get i=H.get i:=λi hi=>a4 i (by omega) (hO.slId hi);have hmid:∀i,P<=i->i<D+2->H4.get i=H.get i:=λi h1 h2=>a4 i (by omega) λe=>by have:=hid i e; omega
 have hs:∀i,i≠B+1->(H4.set (B+1) (.rows [[v']])).get i=H4.get i:=λi hi=>by rw[qBp,Jaa hi]
 have hdf:∀q∈ms,H4.get q=H.get q:=λq hq=>a4 q (by have:=(d.m q hq).2.1; omega) λe=>by
  rcases hO with ⟨q1,_⟩|⟨id,q1,q2,_⟩
  ·rw[q1]at e; cases e
  ·rw[q1]at e;simp only[slId,Jae]at e;subst e;have:=(d.m id hq).2.2;rw[q2]at this; cases this
 refine⟨v',H4,a1,a2.cells.1,a2.cells.2,by rw[hlow _ (by omega),hv],a3,by rw[hmid _ (by omega) (by omega),p],l.low hK hM (by simp; omega) λi hi=>by rw[hs i (by omega),hlow i (by omega)],⟨by simp; omega,λi hi hiM=>by rw[hs i (by omega),hlow i (by omega),f.2 i hi hiM]⟩,by rw[hs _ (by omega),hlow _ (by omega),b],⟨v',by rw[qBp,Jab rfl],?_,λid e=>?_⟩,λi h1 h2=>by rw[hs i (by omega),hmid i h1 (by omega),k i h1 h2],by rw[hs _ (by omega),hmid _ (by omega) (by omega),p],by simp; omega,⟨d.u,λq hq=>⟨(d.m q hq).1,by have:=(d.m q hq).2.1; simp; omega,?_⟩⟩,m⟩
 ·rcases a2 with ⟨q1,q2⟩|⟨id,q1,q2,q3,q4,q5⟩
  ·simp[qag]at q2
  ·exact .inr ⟨id,by simpa[qag]using q1,by rw[hs _ (by omega),q2]; simp[qag],q3,by simpa using q4,by simp[qag]⟩
 ·rcases a5 id e with e|e
  ·omega
  ·exact hid id e
 ·have hne:q≠B+1:=by
   rintro rfl;have:=(d.m _ hq).2.2;rw[hv]at this; cases this
  rw[hs q hne,hdf q hq,(d.m q hq).2.2]
end
section
variable {x:Ev}{r0:Int}{K M mk:Nat}
theorem qoW(hx:EvS x)(hW:x.w.l.length<=200)(l:Sl Sy)(hl:l.l.length<=60){k r:Int}(k0:0<=k)(k1:k<=x.w.l.length)(hsy:∀s∈l.l,(s.kind=2->0<=s.n)/\s.r.l.length<1500000)
  (hask:∀i,i<l.l.length->(lat l.l i).kind=2->∀e,NowP x.g x.w.l (l.l.take i) k e->ql6 x r0 (lat l.l i).n e.1 r/\(∀f∈qaN x r (lat l.l i).n e.1,EndP x.g x.w.l (lat l.l i).n e.1 f)/\(qaN x r (lat l.l i).n e.1).Pairwise (λa b=>a.1<b.1))
  {h:Heap}(hL:LkE x r0 K M h) (mK:mk<=K) (mM:mk<=M) :
  WF PR false mk (.fn 334 [] []) [.ptr K 0 0,l.enc Sy.cells,.int .i64 k,.int .i64 r] h λq=>(∃s:Sl En,q.v=s.enc qad/\s.l=qaA (qaN x r) x.w.l l.l [(k,0)]/\s=if l.l.length=0 then .full [(k,0)]else slE s.l)/\LkE x r0 K M q.h/\Fr1 M h q.h:=by
 have hK:=hL.lk;have hM:=hL.lm;refine WF.go f334 b334 [.tm 8] rfl rfl rfl rfl rfl rfl ?_;unfold b334;simp -dsimp;refine qaf (λn st=>∃(i:Nat) (s:Sl En),(i+n=l.l.length/\(gK 21).run st.tm=.int .i64 i/\(gK 9).run st.tm=s.enc qad/\(s.l=qaA (qaN x r) x.w.l (l.l.take i) [(k,0)]/\s=if i=0 then .full [(k,0)]else slE s.l)/\s.l.Pairwise (λa b=>a.1<b.1)/\(∀e∈s.l,NowP x.g x.w.l (l.l.take i) k e))/\((gK 0).run st.tm=.ptr K 0 0/\(gK 3).run st.tm=.int .i64 r/\(gK 19).run st.tm=l.enc Sy.cells/\(gK 20).run st.tm=.int .i64 l.l.length)/\LkE x r0 K M st.h/\Fr1 M h st.h/\st.round=false/\∃ms:List Nat,st.defs=ms.map DefI.mark/\Dfr h.n ms st.h) l.l.length
  ⟨0,.full [(k,0)],⟨by omega,by simp,by simp; rfl,⟨by simp[qaA],rfl⟩,by simp,λe he=>by
   simp at he; subst he;exact⟨Int.le_refl _,k1,by simp only; omega,λ_=>.nil⟩⟩,by simp,hL,Fr1.refl,rfl,[],rfl,⟨List.nodup_nil,by simp⟩⟩ ?_
 rintro n ⟨tm,h1,defs,round⟩ ⟨i,now,⟨hi,h21,h9,⟨hnow,hnf⟩,hp,hN⟩,⟨t0,t3,t19,t20⟩,hL1,hF1,rfl,ms1,rfl,hD1⟩ hK';clear hK';simp only at h21 h9 t0 t3 t19 t20 hL1 hF1 hD1;simp -dsimp[h21,t20];rw[qaa];refine⟨λhc=>?_,λhc=>?_⟩
 ·have c1:i<l.l.length:=by simpa using hc
  obtain⟨s,hs⟩:∃s,lat l.l i=s:=⟨_,rfl⟩;have hsm:s∈l.l:=by rw[<-hs]; exact qai c1
  obtain⟨hsn,hsr⟩:=hsy s hsm;have hh1:=hF1.1;have hmk1:mk<=h1.n:=by omega
  have hnl:now.l.length<=201:=qb7 hp (λe he=>by have:=hN e he; exact⟨by have:=this.1; omega,this.2.1⟩) hW;have hst:qaA (qaN x r) x.w.l (l.l.take (i+1)) [(k,0)]=qbG (now.l.flatMap (qa2 (qaN x r) x.w.l s)):=by
   rw[Jap,qaz c1,hs,hnow];simp only[Option.toList,qfn,qaA]
  have hsc:[V.int IntKind.i64 s.kind,Sl.enc Rg.cells s.r,V.int IntKind.i64 s.n]=s.cells:=rfl;have hia:qaw 3 (l.enc Sy.cells) (.int .i64 i)=some (.ptrR s.cells 0):=by
   have:=qap (f:=Sy.cells) (s:=l) (esz:=3) (k:=.i64) (n:=(i:Int)) (by omega) (by omega) (λ_=>rfl);rw[this]; simp[hs]
  simp -dsimp[t19,h21,hia,Sy.cells,hmk1,h9];rw[hsc];obtain⟨B,hB⟩:∃B,h1.n=B:=⟨_,rfl⟩;obtain⟨H1,hH1⟩:∃H1,((h1.push (Obj.rows [[V.int IntKind.i64 0,V.nils,V.int IntKind.i64 0]])).set h1.n (Obj.rows [s.cells])).push (Obj.rows [[V.nils]])=H1:=⟨_,rfl⟩;have hkp:∀j,j<h1.n->H1.get j=h1.get j:=λj hj=>by rw[<-hH1,qBq,Jaa (by simp; omega),qBp,Jaa (by omega),qBq,Jaa (by omega)]
  have hn1:H1.n=B+2:=by rw[<-hH1]; simp[hB]
  have hA:NxE x r0 K M h B s ms1 [] H1:=⟨hL1.keep (by omega) hkp,hF1.trans ⟨by omega,λj hj _=>hkp j hj⟩,by rw[<-hH1,<-hB]; simp,⟨.nils,by rw[<-hH1,<-hB]; simp,.inl ⟨rfl,rfl⟩⟩,by omega,by omega,hD1.move (by omega) λq _ h2 h3=>by rw[hkp q h2,h3]⟩;rw[hH1,hB];refine qaf (λn st=>∃j:Nat,j+n=now.l.length/\(gK 27).run st.tm=.int .i64 j/\(st.round=false/\∃ms:List Nat,st.defs=ms.map DefI.mark/\NxE x r0 K M h B s ms ((now.l.take j).flatMap (qa2 (qaN x r) x.w.l s)) st.h)/\((now.l.take j).flatMap (qa2 (qaN x r) x.w.l s)).length<=j * 201/\((gK 0).run st.tm=.ptr K 0 0/\(gK 3).run st.tm=.int .i64 r/\(gK 19).run st.tm=l.enc Sy.cells/\(gK 20).run st.tm=.int .i64 l.l.length)/\((gK 21).run st.tm=.int .i64 i/\(gK 11).run st.tm=.ptr B 0 0/\(gK 12).run st.tm=.ptr (B+1) 0 0/\(gK 25).run st.tm=now.enc qad/\(gK 26).run st.tm=.int .i64 now.l.length)) now.l.length
   ⟨0,by omega,by simp,⟨rfl,ms1,rfl,by simpa using hA⟩,by simp,by simp[t0,t3,t19,t20],by simp[h21,h9]⟩ ?_
  rintro n2 ⟨tm2,h2,defs2,round2⟩ ⟨j,hj,h27,⟨rfl,ms2,rfl,hA2⟩,hlen2,⟨u0,u3,u19,u20⟩,u21,u11,u12,u25,u26⟩ hK';clear hK';simp only at h27 hA2 u0 u3 u19 u20 u21 u11 u12 u25 u26;simp -dsimp[h27,u26];rw[qaa];refine⟨λhd=>?_,λhd=>?_⟩
  ·have d1:j<now.l.length:=by simpa using hd
   obtain⟨e,he⟩:∃e,lat now.l j=e:=⟨_,rfl⟩;have hem:e∈now.l:=by rw[<-he]; exact qai d1
   have hNe:=hN e hem;have hia2:qaw 2 (now.enc qad) (.int .i64 j)=some (.ptrR (qad e) 0):=by
    have:=qap (f:=qad) (s:=now) (esz:=2) (k:=.i64) (n:=(j:Int)) (by omega) (by omega) (λ_=>rfl);rw[this]; simp[he]
   have hn2:=hA2.n;have hhb:=hA2.hb;have hmk2:mk<=h2.n:=by omega
   have nB:¬B=h2.n:=by omega
   have ht:(now.l.take (j+1)).flatMap (qa2 (qaN x r) x.w.l s)=(now.l.take j).flatMap (qa2 (qaN x r) x.w.l s)++qa2 (qaN x r) x.w.l s e:=by
    rw[Jap,qaz d1,he]; simp
   simp -dsimp[u25,h27,hia2,qad,hmk2,u0,u11,u3,nB,hA2.b,Sy.cells];rw[hsc];obtain⟨Hp,hHp⟩:∃Hp,(h2.push (Obj.rows [[V.int IntKind.i64 0,V.int IntKind.i64 0]])).set h2.n (Obj.rows [[V.int IntKind.i64 e.1,V.int IntKind.i64 e.2]])=Hp:=⟨_,rfl⟩;have kp:∀q,q<h2.n->Hp.get q=h2.get q:=λq hq=>by rw[<-hHp,qBp,Jaa (by omega),qBq,Jaa (by omega)]
   have np:Hp.n=h2.n+1:=by rw[<-hHp]; simp
   rw[hHp];clear hHp;refine WFS.by (qrd s e r) ?_
   rintro v h3 ⟨rfl,s1,s2,s3,s4,s5,s6⟩;simp only at s1 s2 s3 s4 s5 s6;have k3:∀q,q<h2.n->h3.get q=h2.get q:=λq hq=>by rw[s6 q (by omega),kp q hq]
   simp -dsimp;refine qgr (λst=>st.h=h3/\(gK 35).run st.tm=.fn 351 [] [.ptr (Hp.n+1) 0 0,.ptr Hp.n 0 0,.ptr (Hp.n+2) 0 0,.ptr (Hp.n+3) 0 0]/\(gK 27).run st.tm=.int .i64 j/\((gK 0).run st.tm=.ptr K 0 0/\(gK 3).run st.tm=.int .i64 r/\(gK 19).run st.tm=l.enc Sy.cells/\(gK 20).run st.tm=.int .i64 l.l.length)/\((gK 21).run st.tm=.int .i64 i/\(gK 11).run st.tm=.ptr B 0 0/\(gK 12).run st.tm=.ptr (B+1) 0 0/\(gK 25).run st.tm=now.enc qad/\(gK 26).run st.tm=.int .i64 now.l.length)/\st.defs=ms2.map DefI.mark/\st.round=false) (by simp[u0,u3,u19,u20,u21,u11,u12,u25,u26,h27]) ?_;rintro⟨tm3,h3',defs,round⟩ ⟨rfl,k35,k27,⟨w0,w3,w19,w20⟩,⟨w21,w11,w12,w25,w26⟩,rfl,rfl⟩;simp only at k35 k27 w0 w3 w19 w20 w21 w11 w12 w25 w26 s1 s2 s3 s4 s5 k3;refine qeJ rfl ?_;intro H0 asg body hasg hbody z1 z2 z3 z4;simp only at z1 z2 z3 z4;simp only[ev_t,k35];obtain⟨nx0,hnx0⟩:∃nx0,(now.l.take j).flatMap (qa2 (qaN x r) x.w.l s)=nx0:=⟨_,rfl⟩;rw[hnx0]at hA2 hlen2 ht;have hj200:j * 201<=201 * 201:=Nat.mul_le_mul_right _ (by omega);have hF2:=hA2.f.1;have hR0:RdE x r0 K M h B s h2.n h3'.n H0 (.loop .ready none tm3 [36] asg body) ms2 nx0 H0:=by
    obtain⟨q1,q2,q3,⟨v,q4,q5⟩,q6,q7,q8⟩:=hA2;have hz:∀q,q<h2.n->H0.get q=h2.get q:=λq hq=>by rw[z2 q (by omega),k3 q hq]
    refine⟨q1.low hK hM (by omega) λq hq=>hz q (by omega),⟨by omega,λq hq hqM=>by rw[hz q (by omega),q2.2 q hq hqM]⟩,by rw[hz _ (by omega),q3],⟨v,by rw[hz _ (by omega),q4],?_,λid e=>?_⟩,λ_ _ _=>rfl,z4,by omega,q8.move (by omega) λq _ g1 g2=>by rw[hz q g1,g2],λq hq=>(q8.m q hq).2.1⟩
    ·rcases q5 with g|⟨id,g1,g2,g3,g4,g5⟩
     ·exact .inl g
     ·exact .inr ⟨id,g1,by rw[hz id g4,g2],g3,by omega,g5⟩
    ·rcases q5 with ⟨g,_⟩|⟨id',g1,g2,g3,g4,g5⟩
     ·rw[g]at e; cases e
     ·rw[g1]at e; simp only[slId,Jae]at e; left; omega
   have hask2:=λhkd=>hask i c1 (by rw[hs]; exact hkd) e hNe;rw[hs]at hask2;refine Go.Abs.W.mono (qpd (l:=h3'.n+1) (B:=Hp.n) hx s hsr e r mK mM (by omega) (by have:=hNe.1; omega) hNe.2.1 hNe.2.2.1.1 (by have:=hNe.1; have:=hNe.2.1; have:=hNe.2.2.1.2; omega)
    (λhkd=>⟨(hask2 hkd).1,λf hf=>by
     obtain⟨g1,g2,g3,_⟩:=(hask2 hkd).2.1 f hf;have:=hNe.1;omega⟩) (λhkd=>by
     have:=qb7 (hask2 hkd).2.2 (λf hf=>by
      obtain⟨g1,g2,g3,_⟩:=(hask2 hkd).2.1 f hf;have:=hNe.1;omega) hW
     omega)
    (λys H=>RdE x r0 K M h B s h2.n h3'.n H0 (.loop .ready none tm3 [36] asg body) ms2 (nx0++ys) H) (by simpa using hR0) ?_ ?_ ?_) ?_
   ·intro ys H hR;have hn:=hR.n;refine⟨hR.l,by omega,?_,?_,?_,?_,by omega⟩
    ·rw[hR.k _ (by omega) (by omega),z2 _ (by omega),s2]
    ·rw[hR.k _ (by omega) (by omega),z2 _ (by omega),s3]
    ·rw[hR.k _ (by omega) (by omega),z2 _ (by omega),s4]
    ·rw[hR.k _ (by omega) (by omega),z2 _ (by omega),s5]
   ·intro ys H H' hR hL' hF';exact hR.move hM (by omega) hn2 (by omega) hL' hF'
   ·intro ys y H hR hyl hym;refine qDH hR.p hasg hbody (by omega) rfl ?_;have hn:=hR.n;have nl:¬h3'.n+1=H.n:=by omega
    have hmkH:mk<=H.n:=by omega
    simp -dsimp[nl,hR.p,hmkH];have hRp:RdE x r0 K M h B s h2.n h3'.n H0 (.loop .ready none tm3 [36] asg body) ms2 (nx0++ys) ((H.push (Obj.rows [[V.int IntKind.i64 0,V.int IntKind.i64 0]])).set H.n (Obj.rows [[V.int IntKind.i64 y.1,V.int IntKind.i64 y.2]])):=by
     have hkk:∀q,q<H.n->((H.push (Obj.rows [[V.int IntKind.i64 0,V.int IntKind.i64 0]])).set H.n (Obj.rows [[V.int IntKind.i64 y.1,V.int IntKind.i64 y.2]])).get q=H.get q:=λq hq=>by rw[qBp,Jaa (by omega),qBq,Jaa (by omega)]
     exact hR.move hM (by omega) hn2 (by omega) (hR.l.keep (by simp) hkk) ⟨by simp,λq hq _=>hkk q hq⟩
    have hRb:=hRp.setLp hK hM (by omega) hn2 (by omega) (.loop .busy none tm3 [36] asg body);have hgy:((((H.push (Obj.rows [[V.int IntKind.i64 0,V.int IntKind.i64 0]])).set H.n (Obj.rows [[V.int IntKind.i64 y.1,V.int IntKind.i64 y.2]])).set (h3'.n+1) (Obj.loop LoopState.busy none tm3 [36] asg body))).get H.n=some (.rows [[.int .i64 y.1,.int .i64 y.2]]):=by
     rw[qBp,Jaa (by omega),qBp,Jab rfl]
    obtain⟨G,hG⟩:∃G,((H.push (Obj.rows [[V.int IntKind.i64 0,V.int IntKind.i64 0]])).set H.n (Obj.rows [[V.int IntKind.i64 y.1,V.int IntKind.i64 y.2]])).set (h3'.n+1) (Obj.loop LoopState.busy none tm3 [36] asg body)=G:=⟨_,rfl⟩;rw[hG]at hRb hgy ⊢;clear hRp hG;obtain⟨v,hv,_⟩:=hRb.o;obtain⟨v',H4,a1,a2,a3,a4,a5,a6,a7⟩:=hRb.app (mk:=mk) hK hM (by omega) hn2 (by omega) (by omega) (by simp only[Jao]; omega) y hv;simp -dsimp[w12,hv,hgy];rw[qaE (xs:=qag [y]) (by simp; rfl)];simp -dsimp;refine OpS.intro a1 ?_;have mB:mk<=B+1:=by omega
    simp -dsimp[w12,a2,a3,a4,mB];refine⟨rfl,.busy,none,tm3,[36],asg,body,a7.p,rfl,?_⟩;have:=a7.setLp hK hM (by omega) hn2 (by omega) (.loop .ready none tm3 [36] asg body);rw[<-List.append_assoc];exact this
   ·rintro⟨v,H7⟩ hR;simp only at hR ⊢;refine⟨hR.p,?_⟩;have hn:=hR.n;have hRe:=hR.setLp hK hM (by omega) hn2 (by omega) (.loop .exhausted none tm3 [36] asg body);obtain⟨H8,hH8⟩:∃H8,H7.set (h3'.n+1) (.loop .exhausted none tm3 [36] asg body)=H8:=⟨_,rfl⟩;rw[hH8]at hRe ⊢;clear hH8;simp -dsimp[k27,fw64 (n:=(j:Int)+1) (by omega) (by omega)];refine qah.intro (n2-1) (by omega) ⟨j+1,by omega,by simp,⟨rfl,h3'.n::ms2,rfl,?_⟩,?_,by simp[w0,w3,w19,w20],by simp[w21,w11,w12,w25,w26]⟩
    ·rw[ht];obtain⟨q1,q2,q3,⟨v,q4,q5,_⟩,q6,q7,q8,q9,q10⟩:=hRe;refine⟨q1,q2,q3,⟨v,q4,q5⟩,by simp only; omega,by omega,⟨List.nodup_cons.2 ⟨λhm=>?_,q9.u⟩,λq hq=>?_⟩⟩
     ·have:=q10 _ hm; omega
     ·rcases Jag.1 hq with rfl|hq
      ·exact⟨by omega,by simp only; omega,by simp only; rw[q6 _ (by omega) (by omega),z3]⟩
      ·exact q9.m q hq
    ·rw[ht,Jao,Nat.add_mul];have hsl:(qa2 (qaN x r) x.w.l s e).length<=201:=by
      unfold qa2;split
      ·rename_i hkd;rw[List.length_map];exact qb7 (hask2 hkd).2.2 (λf hf=>by
        obtain⟨g1,g2,g3,_⟩:=(hask2 hkd).2.1 f hf;have:=hNe.1;omega) hW
      ·split<;>simp
     omega
  ·have hd1:j=now.l.length:=by simp at hd; omega
   subst hd1;have hdd:decide (now.l.length<now.l.length)=false:=by simp
   rw[List.take_length]at hA2 hlen2;obtain⟨q1,q2,q3,⟨v,q4,q5⟩,q6,q7,q8⟩:=hA2;have hj200:now.l.length * 201<=201 * 201:=Nat.mul_le_mul_right _ (by omega);simp -dsimp[hdd,u12,q4];refine WFS.by (qq9 q5 (by omega) (by omega)) ?_
   rintro v' h4 ⟨h5,e5,hn5,hk5⟩;refine OpS.intro e5 ?_;have hq2:=q2.1;have hlow:∀q,q<B+2->h5.get q=h2.get q:=λq hq=>hk5 q (q5.slId hq);simp -dsimp[u21,fw64 (n:=(i:Int)+1) (by omega) (by omega)];refine qah.intro (n-1) (by omega) ⟨i+1,slE (qbG (now.l.flatMap (qa2 (qaN x r) x.w.l s))),⟨by omega,by simp,by simp,⟨by rw[qjd,hst],by rw[qjd,Jaa (Nat.succ_ne_zero i)]⟩,by rw[qjd]; exact qdc _,?_⟩,by simp[u0,u3,u19,u20],q1.low hK hM (by simp only; omega) (λq hq=>hlow q (by omega)),⟨by simp only; omega,λq hq hqM=>by simp only; rw[hlow q (by omega),q2.2 q hq hqM]⟩,rfl,ms2,rfl,q8.move (by simp only; omega) λq _ g1 g2=>?_⟩
   ·rw[qjd];refine qbN λf hf=>?_;obtain⟨e,he,hfe⟩:=List.mem_flatMap.1 hf;rw[Jap,qaz c1,hs];exact qeM k0 hsn (λhkd f hf=>(hask i c1 (by rw[hs]; exact hkd) e (hN e he)).2.1 f (by rw[hs]; exact hf) |> λh=>by rw[hs]at h; exact h) (hN e he) hfe
   ·simp only;rw[hk5 q λee=>?_,g2];rcases q5 with ⟨g,_⟩|⟨id,g3,g4,_⟩
    ·rw[g]at ee; cases ee
    ·rw[g3]at ee;simp only[slId,Jae]at ee;subst ee;rw[g4]at g2; cases g2
 ·have c1:i=l.l.length:=by simp at hc; omega
  subst c1;have hd:decide (l.l.length<l.l.length)=false:=by simp
  rw[List.take_length]at hnow;simp -dsimp[hd,h9];refine qiX hD1 (by omega) λH' e1 e2=>?_;have e3:∀i,i<h.n->H'.get i=h1.get i:=λi hi=>e2 i λhm=>by have:=(hD1.m i hm).1; omega
  simp -dsimp;have:=hF1.1;exact⟨⟨now,rfl,hnow,by simpa using hnf⟩,hL1.low hK hM (by omega) e3,by omega,λi hi hiM=>by rw[e3 i hi,hF1.2 i hi hiM]⟩
end
structure SpE (x:Ev) (r0:Int) (K M:Nat) (h:Heap) (n k r:Int) (p:Pd) (nx:List En) (v:V) (H:Heap):Prop where
 l:LkE x r0 K M H
 f:Fr1 M h H
 b:H.get h.n=some (.rows [[.int .i64 n,.int .i64 k,.int .i64 r]])
 c:H.get (h.n+1)=some (.rows [[.nils,.nils]])
 p:H.get (h.n+3)=some (.rows [p.cells])
 o:Own H (h.n+4) v 2 (qag nx)
 n:h.n+4<=H.n
theorem SpE.move{x:Ev}{r0:Int}{K M:Nat}{h:Heap}{n k r:Int}{p:Pd}{nx:List En}{v:V}{H H':Heap}(hS:SpE x r0 K M h n k r p nx v H)(hM:M<h.n)(hl:LkE x r0 K M H')(hf:Fr1 M H H'):SpE x r0 K M h n k r p nx v H':=by
 obtain⟨_,f,b,c,p,o,n⟩:=hS;have:=hf.1;exact⟨hl,f.trans hf,by rw[hf.2 _ (by omega) (by omega),b],by rw[hf.2 _ (by omega) (by omega),c],by rw[hf.2 _ (by omega) (by omega),p],o.ext1 (by omega) hf,by omega⟩
theorem SpE.app{mk:Nat}{x:Ev}{r0:Int}{K M:Nat}{h:Heap}{n k r:Int}{p:Pd}{nx:List En}{v:V}{H:Heap}(hS:SpE x r0 K M h n k r p nx v H)(hK:K<h.n)(hM:M<h.n)(hmk:mk<=h.n)(ys:List En)(hl:nx.length+ys.length<100000) :
  ∃v' H',qaj mk H 2 16 v (qag ys)=some ⟨v',H'⟩/\SpE x r0 K M h n k r p (nx++ys) v' H':=by
 obtain⟨l,f,b,c,p,o,n⟩:=hS;have hf:=f.1;obtain⟨v',H',a1,a2,a3,a4,_⟩:=qaC (mk:=mk) (bytes:=16) (xs:=qag ys) o (by omega) (by
  intro r hr;simp only[qag,Jak]at hr;obtain⟨a,_,rfl⟩:=hr;exact⟨rfl,rfl⟩) (by simp only[qcg]; omega) (by omega) n
 have hk:∀j,j<h.n+4->H'.get j=H.get j:=λj hj=>a4 j (by omega) (o.slId hj);exact⟨v',H',a1,l.low hK hM (by omega) λi hi=>hk i (by omega),⟨by omega,λi hi hiM=>by rw[hk i (by omega),f.2 i hi hiM]⟩,by rw[hk _ (by omega),b],by rw[hk _ (by omega),c],by rw[hk _ (by omega),p],by simpa[qag]using a2,by omega⟩
structure FdE (x:Ev) (r0:Int) (K M:Nat) (h:Heap) (n k r:Int) (T:Nat) (CC:List En) (nx:List En) (v:V) (H:Heap):Prop where
 l:LkE x r0 K M H
 f:Fr1 M h H
 b:H.get h.n=some (.rows [[.int .i64 n,.int .i64 k,.int .i64 r]])
 c:H.get (h.n+1)=some (.rows [[.nils,.nils]])
 g:H.get T=some (.rows [[(slE CC).enc qad,v]])
 o:Own H (T+1) v 2 (qag nx)
 n:T+1<=H.n
 t:h.n+4<=T
theorem FdE.move{x:Ev}{r0:Int}{K M:Nat}{h:Heap}{n k r:Int}{T:Nat}{CC nx:List En}{v:V}{H H':Heap}(hS:FdE x r0 K M h n k r T CC nx v H)(hM:M<h.n)(hl:LkE x r0 K M H')(hf:Fr1 M H H'):FdE x r0 K M h n k r T CC nx v H':=by
 obtain⟨_,f,b,c,g,o,n,t⟩:=hS;have:=hf.1;exact⟨hl,f.trans hf,by rw[hf.2 _ (by omega) (by omega),b],by rw[hf.2 _ (by omega) (by omega),c],by rw[hf.2 _ (by omega) (by omega),g],o.ext1 (by omega) hf,by omega,t⟩
theorem FdE.app{mk:Nat}{x:Ev}{r0:Int}{K M:Nat}{h:Heap}{n k r:Int}{T:Nat}{CC nx:List En}{v:V}{H:Heap}(hS:FdE x r0 K M h n k r T CC nx v H)(hK:K<h.n)(hM:M<h.n)(hmk:mk<=h.n)(y:En)(hl:nx.length<100000) :
  ∃v' H',qaj mk H 2 16 v (qag [y])=some ⟨v',H'⟩/\v'.cells=[v']/\v'.one=true/\H'.get T=some (.rows [[(slE CC).enc qad,v]])/\FdE x r0 K M h n k r T CC (nx++[y]) v' (H'.set T (.rows [[(slE CC).enc qad,v']])):=by
 obtain⟨l,f,b,c,g,o,n,t⟩:=hS;have hf:=f.1;obtain⟨v',H',a1,a2,a3,a4,_⟩:=qaC (mk:=mk) (bytes:=16) (xs:=qag [y]) o (by omega) (by
  intro r hr;simp only[qag,Jak]at hr;obtain⟨a,_,rfl⟩:=hr;exact⟨rfl,rfl⟩) (by simp only[qcg,List.length_singleton]; omega) (by omega) n
 have hk:∀j,j<T+1->H'.get j=H.get j:=λj hj=>a4 j (by omega) (o.slId hj);have hs:∀j,j≠T->(H'.set T (.rows [[(slE CC).enc qad,v']])).get j=H'.get j:=λj hj=>by rw[qBp,Jaa hj]
 refine⟨v',H',a1,a2.cells.1,a2.cells.2,by rw[hk _ (by omega),g],l.low hK hM (by simp; omega) λi hi=>by rw[hs i (by omega),hk i (by omega)],⟨by simp; omega,λi hi hiM=>by rw[hs i (by omega),hk i (by omega),f.2 i hi hiM]⟩,by rw[hs _ (by omega),hk _ (by omega),b],by rw[hs _ (by omega),hk _ (by omega),c],by rw[qBp,Jab rfl],?_,by simp; omega,t⟩;rcases a2 with ⟨q1,q2⟩|⟨id,q1,q2,q3,q4,q5⟩
 ·simp[qag]at q2
 ·exact .inr ⟨id,by simpa[qag]using q1,by rw[hs _ (by omega),q2]; simp[qag],q3,by simpa using q4,by simp[qag]⟩
theorem qka{N:Look}{w:List UInt8}:∀(l:List Sy) (now:List En),now.Pairwise (λa b=>a.1<b.1)->(qaA N w l now).Pairwise (λa b=>a.1<b.1)
 | [],now,h=>h
 | s::l,now,_=>qka l _ (qdc _)
theorem qgS{x:Ev}{r0:Int}(hx:EvS x)(hw:EvW x)(hr:∀p∈x.g.p.l,∀a∈p.a.l,∀s∈a.l,s.r.l.length<1500000):∀(m:Nat) (n k r:Int),muN x.g x.w.l n k<m->0<=n->n<x.g.p.l.length->0<=k->k<=x.w.l.length->qm6 x r0 r->ql6 x r0 n k r
 | 0,_,_,_,h,_,_,_,_,_=>by omega
 | m+1,n,k,r,hmu,n0,n1,k0,k1,hro=>by
  intro mk h K M hL mK mM;have hok:=qaF hw.m;have hK:=hL.lk;have hM:=hL.lm;have hKM:=hL.km;refine WF.go f330 b330 [.cell (some 2) 4] rfl rfl rfl rfl rfl rfl ?_;unfold b330;obtain⟨es,c,S,e1,e2,-,e3⟩:=hL.m;have a1:¬K=h.n:=by omega
  have a2:¬K=h.n+1:=by omega
  have a3:¬K=h.n+2:=by omega
  have a4:¬h.n=h.n+1:=by omega
  have a5:¬h.n=h.n+2:=by omega
  have b1:¬M=h.n:=by omega
  have b2:¬M=h.n+1:=by omega
  obtain⟨Hg,hHg⟩:∃Hg,(h.push (.rows [[.int .i64 n,.int .i64 k,.int .i64 r]])).push (.rows [[.nils,.nils]])=Hg:=⟨_,rfl⟩;have hgM:Hg.get M=some (.map es c):=by rw[<-hHg]; simp[b1,b2,e1]
  have hlook:=qlz (kn:=.agg [.int,.int,.int]) (zero:=.agg [.nils,.nils]) qgu qin (h:=Hg) (M:=M) (c:=c) hgM e2 (n,k,r);have hkk:qme (n,k,r)=.agg [.int .i64 n,.int .i64 k,.int .i64 r]:=rfl;have hlook2:=qlz (kn:=.agg [.int,.int,.int]) (zero:=.agg [.nils,.nils]) qgu qin (h:=Hg.push (.rows [[.nils,.nils]])) (M:=M) (c:=c) (by rw[qBq,Jaa (by rw[<-hHg]; simp; omega),hgM]) e2 (n,k,r);rw[hkk]at hlook hlook2;have hgK:Hg.get K=some (.rows [qba x M]):=by rw[<-hHg]; simp[a1,a2,hL.k]
  have hg0:Hg.get h.n=some (.rows [[.int .i64 n,.int .i64 k,.int .i64 r]]):=by rw[<-hHg]; simp[a4]
  have hg1:Hg.get (h.n+1)=some (.rows [[.nils,.nils]]):=by rw[<-hHg]; simp
  have hgn:Hg.n=h.n+2:=by rw[<-hHg]; simp
  have hgk:∀i,i<h.n->Hg.get i=h.get i:=λi hi=>by rw[<-hHg]; simp[show ¬i=h.n by omega,show ¬i=h.n+1 by omega]
  have m1:mk<=h.n:=by omega
  have m2:mk<=h.n+1:=by omega
  have m3:mk<=h.n+2:=by omega
  have a6:¬h.n+1=h.n+2:=by omega
  simp -dsimp[qi8,qcT,a1,a2,a3,a4,a5,hL.k,qba];rw[hHg,hlook];obtain⟨o,ho⟩:∃o,qaS (n,k,r) S=o:=⟨_,rfl⟩;rw[ho]at hlook hlook2 ⊢;clear hHg;cases o with
  | some q =>
   obtain⟨-,hq⟩:=e3 _ _ ho;simp only at hq;subst hq;simp -dsimp[qdQ,m1,m2,m3,hgn];simp only[qdQ]at hlook hlook2;simp -dsimp[hgK,hgn,a3,a5,hg0,qba,hlook2,hg1,a6,m2];refine⟨rfl,hL.low hK hM (by simp; omega) λi hi=>?_,⟨by simp; omega,λi hi _=>?_⟩,es,c,?_,λe=>?_⟩
   ·rw[qBp,Jaa (by omega),qBp,Jaa (by omega),qBq,Jaa (by omega),hgk i hi]
   ·rw[qBp,Jaa (by omega),qBp,Jaa (by omega),qBq,Jaa (by omega),hgk i hi]
   ·rw[qBp,Jaa (by omega),qBp,Jaa (by omega),qBq,Jaa (by omega),hgM]
   ·subst e;rw[e2.nil_inv]at ho;cases ho
  | none =>
   obtain⟨p,hp⟩:∃p,lat x.g.p.l n.toNat=p:=⟨_,rfl⟩;have hpm:p∈x.g.p.l:=by rw[<-hp]; exact qai (by omega)
   have a7:¬K=h.n+3:=by omega
   have a8:¬h.n=h.n+3:=by omega
   have a9:¬h.n+1=h.n+3:=by omega
   have m4:mk<=h.n+3:=by omega
   have e2':[Sl.enc Pd.cells x.g.p,Sl.enc qac x.g.keys,x.w.v,V.int IntKind.i64 x.tab,V.bool x.heal]=x.cells:=rfl;simp -dsimp[m1,m2,m3,hgn];simp only at hlook2;simp -dsimp[hgK,hg0,qba,hlook2,hg1,a6,m2,a3,a5,a7,a8,hgn,qcT,qbg n0 n1,hp,Pd.cells,m4];rw[e2'];obtain⟨H3,hH3⟩:∃H3,(((Hg.push (Obj.rows [[V.nils,V.nils]])).set (h.n+2) (Obj.rows [[V.nils,V.nils]])).push (Obj.rows [[V.nils,V.int IntKind.i64 0,V.nils]])).set (h.n+3) (Obj.rows [[Sl.enc qaK p.a,V.int IntKind.i64 p.marks,Sl.enc Rg.cells p.no]])=H3:=⟨_,rfl⟩;have k3:∀i,i<h.n+2->H3.get i=Hg.get i:=λi hi=>by rw[<-hH3,qBp,Jaa (by omega),qBq,Jaa (by simp[hgn]; omega),qBp,Jaa (by omega),qBq,Jaa (by omega)]
   have n3:H3.n=h.n+4:=by rw[<-hH3]; simp[hgn]
   have g33:H3.get (h.n+3)=some (.rows [p.cells]):=by rw[<-hH3,qBp,Jab rfl]; rfl
   have hL3:LkE x r0 K M H3:=hL.low hK hM (by omega) λi hi=>by rw[k3 i (by omega),hgk i hi]
   rw[hH3];clear hH3;obtain⟨q,hq⟩:∃q,refV x n k r=q:=⟨_,rfl⟩;have hqo:qm6 x r0 q:=by rw[<-hq]; exact hro.ref k0 k1
   refine WFS.by (qtW x hx hL3.wb (by have:=hL.mq; omega) n k r) ?_
   intro v h' e;cases e;rw[hq];have hS3:SpE x r0 K M h n k r p [] .nils H3:=⟨hL3,⟨by omega,λi hi _=>by rw[k3 i (by omega),hgk i hi]⟩,by rw[k3 _ (by omega),hg0],by rw[k3 _ (by omega),hg1],g33,.inl ⟨rfl,rfl⟩,by omega⟩;simp -dsimp[g33,Pd.cells];have hal:=hok.a p hpm;have hlx:=qbD hw (ref:=r) n0 n1 k0 k1;rw[hq]at hlx;obtain⟨CC,hCC⟩:∃CC,qcG x (qaN x q) n k=CC:=⟨_,rfl⟩;rw[hCC]at hlx;have hin:=(qbf hw (ref:=r) n0 n1 k0 k1).1;rw[hlx]at hin;simp only at hin;have hpwC:CC.Pairwise (λa b=>a.1<b.1):=by rw[<-hCC]; exact qdc _
   refine qaf (λm st=>∃(i:Nat) (v:V),i+m=p.a.l.length/\(gK 52).run st.tm=.int .i64 i/\(gK 9).run st.tm=v/\SpE x r0 K M h n k r p ((p.a.l.take i).flatMap λa=>qaA (qaN x q) x.w.l a.l [(k,0)]) v st.h/\((p.a.l.take i).flatMap λa=>qaA (qaN x q) x.w.l a.l [(k,0)]).length<=i * 201/\st.defs=[]) p.a.l.length
    ⟨0,.nils,by omega,by simp,by simp,by simpa using hS3,by simp,rfl⟩ ?_
   rintro mm ⟨tm,H4,defs,round⟩ ⟨i,v,hi,h52,h9,hS,hlen,rfl⟩ hK';have t0:=hK' 0 rfl;have t3:=hK' 3 rfl;have t4:=hK' 4 rfl;have t7:=hK' 7 rfl;have t8:=hK' 8 rfl;have t50:=hK' 50 rfl;have t51:=hK' 51 rfl;simp[hgn]at t0 t3 t4 t7 t8 t50 t51 h52 h9;simp only at hS;clear hK';simp -dsimp[h52,t51];rw[qaa];refine⟨λhc=>?_,λhc=>?_⟩
   ·have c1:i<p.a.l.length:=by simpa using hc
    obtain⟨a,ha⟩:∃a,lat p.a.l i=a:=⟨_,rfl⟩;have ham:a∈p.a.l:=by rw[<-ha]; exact qai c1
    have ham2:a∈(lat x.g.p.l n.toNat).a.l:=by rw[hp]; exact ham
    have hia:qaw 1 (p.a.enc qaK) (.int .i64 i)=some (.ptrR (qaK a) 0):=by
     have:=qap (f:=qaK) (s:=p.a) (esz:=1) (k:=.i64) (n:=(i:Int)) (by omega) (by omega) (λ_=>rfl);rw[this]; simp[ha]
    have hSn:=hS.n;have hask:∀j,j<a.l.length->(lat a.l j).kind=2->∀e,NowP x.g x.w.l (a.l.take j) k e->ql6 x r0 (lat a.l j).n e.1 q/\(∀f∈qaN x q (lat a.l j).n e.1,EndP x.g x.w.l (lat a.l j).n e.1 f)/\(qaN x q (lat a.l j).n e.1).Pairwise (λa b=>a.1<b.1):=by
     intro j hj hkj e he;have hsy:=qcD hw ham2 (lat a.l j) (qai hj) hkj;have hmu2:=qhQ hw.m hw.c n0 k0 k1 ham2 hj hkj he.2.1 he.1 he.2.2.2;have z0:0<=e.1:=by have:=he.1; omega
     exact⟨qgS hx hw hr m _ _ q (by omega) hsy.1 hsy.2 z0 he.2.1 hqo,(qbf hw hsy.1 hsy.2 z0 he.2.1).2,(qc3 hw hsy.1 hsy.2 z0 he.2.1).2⟩
    simp -dsimp[t50,h52,hia,qaK,t0,t3,hS.b,t8,h9];refine WFS.by (qoW hx hw.w a (by have:=hok.s p hpm a ham; omega) k0 k1 (λs hs=>⟨λhk2=>(qcD hw ham2 s hs hk2).1,hr p hpm a ham s hs⟩) hask hS.l mK mM) ?_
    rintro v2 H5 ⟨⟨s,rfl,hs,-⟩,hL5,hF5⟩;simp only at hL5 hF5;have hsl:s.l.length<=201:=by
     rw[hs];refine qb7 (qka _ _ (by simp)) (λe he=>?_) hw.w;have:=qfm (g:=x.g) (N:=qaN x q) (w:=x.w.l) k0 a.l [] [(k,0)] (λs hs hk2=>(qcD hw ham2 s hs hk2).1) (λj hj hkj e he=>(hask j hj hkj e (by simpa using he)).2.1) (by
      intro e he;rw[Jah]at he; subst he;exact⟨Int.le_refl _,k1,by simp only; omega,λ_=>.nil⟩) e he
     exact⟨by have:=this.1; omega,this.2.1⟩
    have hS5:=hS.move hM hL5 hF5;have ht:((p.a.l.take (i+1)).flatMap λa=>qaA (qaN x q) x.w.l a.l [(k,0)])=((p.a.l.take i).flatMap λa=>qaA (qaN x q) x.w.l a.l [(k,0)])++s.l:=by
     rw[Jap,qaz c1,ha,hs]; simp
    have hi8:i * 201<=8 * 201:=Nat.mul_le_mul_right _ (by omega);obtain⟨v',H6,a1',hS6⟩:=hS5.app (mk:=mk) hK hM (by omega) s.l (by omega);simp -dsimp;rw[qaE (xs:=qag s.l) (by simp; rfl)];simp -dsimp;refine OpS.intro a1' ?_;simp -dsimp[h52,fw64 (n:=(i:Int)+1) (by omega) (by omega)];refine qah.intro (mm-1) (by omega) ⟨i+1,v',by omega,by simp,by simp,by rw[ht]; exact hS6,by rw[ht,Jao,Nat.add_mul]; omega,rfl⟩
   ·have c1:i=p.a.l.length:=by simp at hc; omega
    subst c1;have hd:decide (p.a.l.length<p.a.l.length)=false:=by simp
    rw[List.take_length]at hS hlen;have hcand:qbG (p.a.l.flatMap λa=>qaA (qaN x q) x.w.l a.l [(k,0)])=CC:=by
     rw[<-hCC]; unfold qcG; rw[hp]
    have hi8:p.a.l.length * 201<=8 * 201:=Nat.mul_le_mul_right _ (by omega);simp -dsimp[hd,h9];refine WFS.by (qq9 hS.o (by omega) (by omega)) ?_
    rintro v' h4 ⟨H5,e5,hn5,hk5⟩;refine OpS.intro e5 ?_;rw[hcand];have hSn:=hS.n;have hlow:∀j,j<h.n+4->H5.get j=H4.get j:=λj hj=>hk5 j (hS.o.slId hj);have mH:mk<=H5.n:=by omega
    simp -dsimp[mH,-qgq];rw[qgq];simp -dsimp[-qgq];rw[qgq];have hD6:FdE x r0 K M h n k r H5.n CC [] .nils ((H5.push (Obj.rows [[V.nils,V.nils]])).set H5.n (Obj.rows [[Sl.enc qad (slE CC),V.nils]])):=by
     obtain⟨q1,q2,q3,q4,q5,q6,q7⟩:=hS;have hz:∀j,j<H5.n->((H5.push (Obj.rows [[V.nils,V.nils]])).set H5.n (Obj.rows [[Sl.enc qad (slE CC),V.nils]])).get j=H5.get j:=λj hj=>by rw[qBp,Jaa (by omega),qBq,Jaa (by omega)]
     refine⟨q1.low hK hM (by simp; omega) λi hi=>by rw[hz i (by omega),hlow i (by omega)],⟨by simp; omega,λi hi hiM=>by rw[hz i (by omega),hlow i (by omega),q2.2 i hi hiM]⟩,by rw[hz _ (by omega),hlow _ (by omega),q3],by rw[hz _ (by omega),hlow _ (by omega),q4],by rw[qBp,Jab rfl],.inl ⟨rfl,rfl⟩,by simp,by omega⟩
    have g76:((H5.push (Obj.rows [[V.nils,V.nils]])).set H5.n (Obj.rows [[Sl.enc qad (slE CC),V.nils]])).get (h.n+3)=some (.rows [p.cells]):=by
     rw[qBp,Jaa (by omega),qBq,Jaa (by omega),hlow _ (by omega),hS.p]
    obtain⟨H6,hH6⟩:∃H6,(H5.push (Obj.rows [[V.nils,V.nils]])).set H5.n (Obj.rows [[Sl.enc qad (slE CC),V.nils]])=H6:=⟨_,rfl⟩;rw[hH6]at hD6 g76 ⊢;clear hH6;have hbit:bitB p.marks 1 = !decide (fw .i64 (BitVec.ofInt IntKind.i64.bits p.marks &&& BitVec.ofInt IntKind.i64.bits 1).toNat=0):=by simp[bitB]
    have hCl:CC.length<=201:=qb7 hpwC (λe he=>by
     have:=hin e he;exact⟨by have:=this.1; omega,this.2.1⟩) hw.w
    refine qk6 (λo st=>o=.normal/\∃SS:Sl En,SS.l=qb4 x n CC/\SS.l.length<=201/\(gK 13).run st.tm=SS.enc qad/\st.h=H6/\(gK 0).run st.tm=.ptr K 0 0/\(gK 3).run st.tm=.ptr h.n 0 0/\(gK 4).run st.tm=.ptr (h.n+1) 0 0/\(gK 12).run st.tm=.ptr H5.n 0 0/\st.defs=[]) ?_ ?_
    ·simp -dsimp;rw[Gd_t];refine⟨λhz1=>?_,λhz1=>?_⟩
     ·have hne:0<CC.length:=by simpa using hz1
      simp -dsimp[hz1,t7,g76,Pd.cells];rw[qaa];refine⟨λhz2=>?_,λhz2=>?_⟩
      ·have hb1:bitB p.marks 1=true:=by rw[hbit]; exact hz2
       have hse:qb4 x n CC=CC.drop (CC.length-1):=by unfold qb4; rw[hp,Jab hb1]
       have hss:((slE CC).cut (CC.length-1) CC.length).l=qb4 x n CC:=by rw[hse,qqd,qjd]; exact List.take_of_length_le (by simp)
       have hfwc:fw .i64 ((CC.length:Int)-1)=((CC.length-1:Nat):Int):=by rw[fw64 (by omega) (by omega)]; omega
       have hcut:∀tm:Tm,(gK 82).run tm=.int .i64 ((CC.length-1:Nat):Int)->qaT 2 (cutK (some (Opd.t 82)) none none) tm ((slE CC).enc qad)=some (((slE CC).cut (CC.length-1) CC.length).enc qad):=λtm h=>by
        refine qdD (λ_=>rfl) λfl=>?_;have hb:bnd (((CC.length-1:Nat)):Int) CC.length=some (CC.length-1):=by simpa using qaY (n:=((CC.length-1:Nat):Int)) (top:=CC.length) (by omega) (by omega)
        simp[h,hb,qdl]
       simp -dsimp[hfwc,hcut];exact⟨_,hss,by rw[hss,hse,List.length_drop]; omega,rfl,t0,t3,t4⟩
      ·have hb1:bitB p.marks 1=false:=by rw[hbit]; exact hz2
       simp -dsimp;exact⟨slE CC,by unfold qb4; rw[hp,hb1,qjd]; rfl,by rw[qjd]; exact hCl,rfl,t0,t3,t4⟩
     ·have hne:CC=[]:=by simpa using hz1
      simp -dsimp[hz1];exact⟨slE CC,by unfold qb4; rw[qjd,hne]; simp,by rw[qjd]; exact hCl,rfl,t0,t3,t4⟩
    rintro o ⟨tm6,H6',defs6,round6⟩ ⟨rfl,SS,hss,hSl,w13,e6,w0,w3,w4,w12,rfl⟩;simp only at w13 e6 w0 w3 w4 w12;subst e6;simp -dsimp[w13];refine qaf (λm st=>∃(i:Nat) (v:V),i+m=SS.l.length/\(gK 86).run st.tm=.int .i64 i/\FdE x r0 K M h n k r H5.n CC ((SS.l.take i).filter λe=>qbp x n k e.1 r) v st.h/\st.defs=[]) SS.l.length
     ⟨0,.nils,by omega,by simp,by simpa using hD6,rfl⟩ ?_
    rintro mm2 ⟨tm7,H7,defs7,round7⟩ ⟨i2,v2,hi2,h86,hD7,rfl⟩ hK';have z0:=hK' 0 rfl;have z3:=hK' 3 rfl;have z4:=hK' 4 rfl;have z12:=hK' 12 rfl;have z84:=hK' 84 rfl;have z85:=hK' 85 rfl;simp[w0,w3,w4,w12]at z0 z3 z4 z12 z84 z85 h86;simp only at hD7;clear hK';have hDn:=hD7.n;have hDt:=hD7.t;simp -dsimp[h86,z85];rw[qaa];refine⟨λhcc=>?_,λhcc=>?_⟩
    ·have c2:i2<SS.l.length:=by simpa using hcc
     obtain⟨f,hf⟩:∃f,lat SS.l i2=f:=⟨_,rfl⟩;have hia2:qaw 2 (SS.enc qad) (.int .i64 i2)=some (.ptrR (qad f) 0):=by
      have:=qap (f:=qad) (s:=SS) (esz:=2) (k:=.i64) (n:=(i2:Int)) (by omega) (by omega) (λ_=>rfl);rw[this]; simp[hf]
     have hmk7:mk<=H7.n:=by omega
     have y1:¬K=H7.n:=by omega
     have y2:¬h.n=H7.n:=by omega
     have hlk7:=hD7.l.k;have ht2:((SS.l.take (i2+1)).filter λe=>qbp x n k e.1 r)=((SS.l.take i2).filter λe=>qbp x n k e.1 r)++(if qbp x n k f.1 r=true then [f]else []):=by
      rw[Jap,qaz c2,hf];simp only[Option.toList,List.filter_append];congr 1
      by_cases c:qbp x n k f.1 r=true<;>simp[c]
     simp -dsimp[h86,z84,hia2,qad,hmk7,z0,z3,y1,y2,qcT,hlk7,qba,hD7.b];rw[e2'];obtain⟨H8,hH8⟩:∃H8,(H7.push (Obj.rows [[V.int IntKind.i64 0,V.int IntKind.i64 0]])).set H7.n (Obj.rows [[V.int IntKind.i64 f.1,V.int IntKind.i64 f.2]])=H8:=⟨_,rfl⟩;have k8:∀j,j<H7.n->H8.get j=H7.get j:=λj hj=>by rw[<-hH8,qBp,Jaa (by omega),qBq,Jaa (by omega)]
     have n8:H8.n=H7.n+1:=by rw[<-hH8]; simp
     have g8:H8.get H7.n=some (.rows [[.int .i64 f.1,.int .i64 f.2]]):=by rw[<-hH8,qBp,Jab rfl]
     have hD8:=hD7.move hM (hD7.l.keep (by omega) k8) ⟨by omega,λj hj _=>k8 j hj⟩;rw[hH8];clear hH8;refine WFS.by (qoY x hx hD8.l.wb (by have:=hL.mq; omega) n k f.1 r) ?_
     intro v' h' e;cases e;simp -dsimp;rw[qaa];refine⟨λhpa=>?_,λhpa=>?_⟩
     ·have hpa1:qbp x n k f.1 r=true:=hpa;rw[Jab hpa1]at ht2;obtain⟨v',H9,q1,q2,q3,q4,q5⟩:=hD8.app (mk:=mk) hK hM (by omega) f (by
       have hh:((SS.l.take i2).filter λe=>qbp x n k e.1 r).length<=SS.l.length:=Jaf (List.length_filter_le _ _) (by rw[List.length_take]; omega);omega)
      have mT:mk<=H5.n:=by omega
      simp -dsimp[z12,hD8.g,g8];rw[qaE (xs:=qag [f]) (by simp; rfl)];simp -dsimp;refine OpS.intro q1 ?_;simp -dsimp[z12,q2,q3,q4,mT,h86,fw64 (n:=(i2:Int)+1) (by omega) (by omega)];refine qah.intro (mm2-1) (by omega) ⟨i2+1,v',by omega,by simp,by rw[ht2]; exact q5,rfl⟩
     ·have hpa1:¬qbp x n k f.1 r=true:=by intro e; rw[e]at hpa; cases hpa
      rw[Jaa hpa1,List.append_nil]at ht2;simp -dsimp[h86,fw64 (n:=(i2:Int)+1) (by omega) (by omega)];refine qah.intro (mm2-1) (by omega) ⟨i2+1,v2,by omega,by simp,by rw[ht2]; exact hD8,rfl⟩
    ·have c2:i2=SS.l.length:=by simp at hcc; omega
     subst c2;have hdd:decide (SS.l.length<SS.l.length)=false:=by simp
     rw[List.take_length]at hD7;have hlk7:=hD7.l.k;simp -dsimp[hdd,z12,z0,z3,z4,hD7.g,hD7.b];refine WFS.by (qrT x hx hD7.l.wb (by have:=hL.mq; omega) hlk7 hD7.l.lk n0 n1 k r) ?_
     intro v' h' e;cases e;have hfl:(SS.l.filter λe=>qbp x n k e.1 r).length<=SS.l.length:=List.length_filter_le _ _;have hll:(qcr x n k).length<=201:=by
      unfold qcr;split
      ·rw[List.length_map];have g1:=List.length_filter_le (λy=>decide (k<y)) (qaJ x.w.l);have g2:=qcJ x.w.l;have g3:=hw.w;omega
      ·simp
     obtain⟨v9,H9,q1,q2,q3,q4,_⟩:=qaC (mk:=mk) (bytes:=16) (xs:=qag (qcr x n k)) hD7.o (by omega) (by
      intro r hr;simp only[qag,Jak]at hr;obtain⟨a,_,rfl⟩:=hr;exact⟨rfl,rfl⟩) (by simp only[qcg]; omega) (by omega) hD7.n
     have k9:∀j,j<H5.n+1->H9.get j=H7.get j:=λj hj=>q4 j (by omega) (hD7.o.slId hj);have q2':Own H9 (H5.n+1) v9 2 (qag ((SS.l.filter λe=>qbp x n k e.1 r)++qcr x n k)):=by simpa[qag]using q2
     simp -dsimp;rw[qaE (xs:=qag (qcr x n k)) (by simp; rfl)];simp -dsimp;refine OpS.intro q1 ?_;simp -dsimp;refine WFS.by (qq9 q2' (by omega) (by rw[Jao]; omega)) ?_
     rintro v10 h10 ⟨HA,e10,n10,k10⟩;refine OpS.intro e10 ?_;have hEE:qbG ((SS.l.filter λe=>qbp x n k e.1 r)++qcr x n k)=endE x n k r CC:=by unfold endE; rw[hss]
     rw[hEE];have kA:∀j,j<H5.n+1->HA.get j=H7.get j:=λj hj=>by rw[k10 j (q2'.slId hj),k9 j hj]
     have gT:HA.get H5.n=some (.rows [[(slE CC).enc qad,v2]]):=by rw[kA _ (by omega),hD7.g]
     have mT:mk<=H5.n:=by omega
     obtain⟨HB,hHB⟩:∃HB,HA.set H5.n (.rows [[(slE CC).enc qad,(slE (endE x n k r CC)).enc qad]])=HB:=⟨_,rfl⟩;have kB:∀j,j<H5.n->HB.get j=H7.get j:=λj hj=>by rw[<-hHB,qBp,Jaa (by omega),kA j (by omega)]
     have gB:HB.get H5.n=some (.rows [[(slE CC).enc qad,(slE (endE x n k r CC)).enc qad]]):=by rw[<-hHB,qBp,Jab rfl]
     have nB:HB.n=HA.n:=by rw[<-hHB]; simp
     have hD7f:=hD7.f.1;have hLB:LkE x r0 K M HB:=hD7.l.low hK hM (by omega) λi hi=>kB i (by omega);obtain⟨fs,cB,SB,f1,f2,f3⟩:=hLB.m;obtain⟨gs,c2,g1,g2⟩:=qgM (kn:=.agg [.int,.int,.int]) (vf:=qdQ) (mk:=mk) qgu qin f1 f2 mM (n,k,r) (CC,endE x n k r CC);rw[hkk]at g1;simp only[qdQ]at g1;have gBK:=hLB.k;have gB0:HB.get h.n=some (.rows [[.int .i64 n,.int .i64 k,.int .i64 r]]):=by rw[kB _ (by omega),hD7.b]
     have gB1:HB.get (h.n+1)=some (.rows [[.nils,.nils]]):=by rw[kB _ (by omega),hD7.c]
     have y5:¬H5.n=M:=by omega
     have y6:¬h.n+1=M:=by omega
     simp -dsimp[z12,gT,hD7.g,mT];rw[hHB];simp -dsimp[z0,z3,z12,qcT,gBK,qba,gB0,gB];refine OpS.intro g1 ?_;simp -dsimp[z12,z4,gB,gB1,y5,y6,m2];refine⟨by rw[hlx]; rfl,?_,?_,gs,c2,by rw[qBp,Jaa (by omega),qBp,Jab rfl],qrQ g2⟩
     ·have hz:∀j,j≠M->j≠h.n+1->((HB.set M (Obj.map gs c2)).set (h.n+1) (Obj.rows [[Sl.enc qad (slE CC),Sl.enc qad (slE (endE x n k r CC))]])).get j=HB.get j:=λj h1 h2=>by rw[qBp,Jaa h2,qBp,Jaa h1]
      obtain⟨l1,_,l3,l4,l5,l6,l7,l8⟩:=hLB;refine⟨by rw[hz _ hKM (by omega),l1],⟨gs,c2,_,by rw[qBp,Jaa (by omega),qBp,Jab rfl],g2,qhO f3.1,λp' v hv=>?_⟩,l3,l4,l5,l6.keep λi hi=>hz i (by omega) (by omega),l7,l8⟩;rw[qhs]at hv;split at hv
      ·rename_i hpe;cases hv;subst hpe;exact⟨⟨n0,n1,k0,k1,hro⟩,hlx.symm⟩
      ·exact f3.2 p' v hv
     ·refine⟨by show h.n<=HB.n; omega,λi hi hiM=>?_⟩;rw[qBp,Jaa (by omega),qBp,Jaa hiM,kB i (by omega),hD7.f.2 i hi hiM]
noncomputable def mayE (x:Ev):Bool:=decide ((qcP x.g).2=0)&&(decide (x.w.l.length<=200)&&(decide (1<=x.tab)&&decide (x.tab<=16)))
theorem qbq{x:Ev}(h:mayE x=true):EvW x:=by
 simp only[mayE,Jad,Jai]at h;exact⟨(qc8 h.1).1,(qc8 h.1).2,h.2.1,h.2.2.1,h.2.2.2⟩
section
variable {d:Bool}{mk:Nat}{h:Heap}
theorem qbJ(x:Ev)(hg:x.g.Fine)(hB:WB h x.w):WF PR d mk (.fn 312 [] []) [.agg x.cells] h λv=>v=⟨.bool (mayE x),h⟩:=by
 refine qBt f312 b312 [.tm 2] rfl rfl rfl rfl rfl rfl ?_;unfold b312;have e2:[Sl.enc Pd.cells x.g.p,Sl.enc qac x.g.keys]=x.g.cells:=rfl;simp -dsimp[Ev.cells];rw[e2];refine WFS.by (qqB x.g hg) ?_
 intro v h' e;cases e;simp -dsimp;rw[Gd_t];refine⟨λh1=>?_,λh1=>?_⟩
 ·simp -dsimp[h1,Ev.cells,hB.len];rw[Gd_t];refine⟨λh2=>?_,λh2=>?_⟩
  ·simp -dsimp[h2,Ev.cells];rw[Gd_t];refine⟨λh3=>?_,λh3=>?_⟩
   ·simp -dsimp[h3,Ev.cells];simp at h1 h2 h3;have h2':x.w.l.length<=200:=by omega
    simp[mayE,h1,h2',h3]
   ·simp -dsimp[h3];simp at h1 h2 h3;simp[mayE]; omega
  ·simp -dsimp[h2];simp at h1 h2;simp[mayE]; omega
 ·simp -dsimp[h1];simp at h1;simp[mayE,h1]
noncomputable def ofE (x:Ev) (n k r:Int):List En × List En:=if mayE x=true/\0<=n/\n<x.g.p.l.length/\0<=k/\k<=x.w.l.length then qaL x n k r else([],[])
theorem qjP(x:Ev)(hx:EvS x)(hg:x.g.Fine)(hr:∀p∈x.g.p.l,∀a∈p.a.l,∀s∈a.l,s.r.l.length<1500000)(hB:WB h x.w)(hm:x.w.m<=h.n)(hmk:mk<=h.n)(n k r:Int) :
  WF PR false mk (.fn 324 [] []) [.agg x.cells,qi8 n k r] h λv=>v.v=qdQ (ofE x n k r):=by
 refine WF.go f324 b324 [.cell (some 2) 4] rfl rfl rfl rfl rfl rfl ?_;unfold b324;have e5:[Sl.enc Pd.cells x.g.p,Sl.enc qac x.g.keys,x.w.v,V.int IntKind.i64 x.tab,V.bool x.heal]=x.cells:=rfl;have a1:¬h.n=h.n+1:=by omega
 have a2:¬h.n=h.n+2:=by omega
 have a3:¬h.n+1=h.n+2:=by omega
 simp -dsimp[Ev.cells,qi8,a1,a2,a3];rw[e5];obtain⟨H,hH⟩:∃H,((h.push (Obj.rows [x.cells])).push (Obj.rows [[V.int IntKind.i64 n,V.int IntKind.i64 k,V.int IntKind.i64 r]])).push (Obj.rows [[V.nils,V.nils]])=H:=⟨_,rfl⟩;have g0:H.get h.n=some (.rows [x.cells]):=by rw[<-hH]; simp[a1,a2]
 have g1:H.get (h.n+1)=some (.rows [[.int .i64 n,.int .i64 k,.int .i64 r]]):=by rw[<-hH]; simp[a3]
 have g2:H.get (h.n+2)=some (.rows [[.nils,.nils]]):=by rw[<-hH]; simp
 have gn:H.n=h.n+3:=by rw[<-hH]; simp
 have gk:∀i,i<h.n->H.get i=h.get i:=λi hi=>by rw[<-hH]; simp[show ¬i=h.n by omega,show ¬i=h.n+1 by omega,show ¬i=h.n+2 by omega]
 have hB2:WB H x.w:=hB.keep λi hi=>gk i (by omega);rw[hH];refine WFS.by (qbJ x hg hB2) ?_
 intro v h' e;cases e;simp -dsimp;have m2:mk<=h.n+2:=by omega
 have hnone:¬(mayE x=true/\0<=n/\n<x.g.p.l.length/\0<=k/\k<=x.w.l.length)->ofE x n k r=([],[]):=λh=>Jaa h;rw[Gd_f];refine⟨λh1=>?_,λh1=>?_⟩;rotate_left
 ·have hof:=hnone (by simp at h1; simp[h1]);simp -dsimp[h1,g2,m2];rw[hof];rfl
 have hmay:mayE x=true:=by simpa using h1
 simp -dsimp[h1,g1];rw[Gd_f];refine⟨λh2=>?_,λh2=>?_⟩;rotate_left
 ·have hof:=hnone (by simp at h2; omega);simp -dsimp[h2,g2,m2];rw[hof];rfl
 have n0:0<=n:=by simpa using h2
 simp -dsimp[h2,g0,g1,Ev.cells];rw[Gd_f];refine⟨λh3=>?_,λh3=>?_⟩;rotate_left
 ·have hof:=hnone (by simp at h3; omega);simp -dsimp[h3,g2,m2];rw[hof];rfl
 have n1:n<x.g.p.l.length:=by simp at h3; omega
 simp -dsimp[h3,g1];rw[Gd_f];refine⟨λh4=>?_,λh4=>?_⟩;rotate_left
 ·have hof:=hnone (by simp at h4; omega);simp -dsimp[h4,g2,m2];rw[hof];rfl
 have k0:0<=k:=by simpa using h4
 simp -dsimp[h4,g0,g1,Ev.cells,hB2.len];rw[qaa];refine⟨λh6=>?_,λh6=>?_⟩
 ·have hof:=hnone (by simp at h6; omega);simp -dsimp[g2,m2];rw[hof];rfl
 have k1:k<=x.w.l.length:=by simp at h6; omega
 have hof:ofE x n k r=qaL x n k r:=Jab ⟨hmay,n0,n1,k0,k1⟩;have b1:¬h.n=H.n:=by omega
 have b2:¬h.n=H.n+1:=by omega
 have b3:¬h.n+1=H.n:=by omega
 have b4:¬h.n+1=H.n+1:=by omega
 simp -dsimp[g0,g1,Ev.cells,b1,b2,b3,b4];have hL:LkE x r (H.n+1) H.n ((H.push (Obj.map [] 0)).push (Obj.rows [qba x H.n])):=by
  refine⟨by simp,⟨[],0,[],by simp,MapR.nil,List.nodup_nil,λp v hv=>by simp[qaS]at hv⟩,by simp,by simp<;>omega,by omega,hB2.keep λi hi=>?_,by omega,by omega⟩;rw[qBq,Jaa (by simp; omega),qBq,Jaa (by omega)]
 refine WFS.by (qgS hx (qbq hmay) hr _ n k r (Nat.lt_succ_self _) n0 n1 k0 k1 (.inl rfl) mk _ (H.n+1) H.n hL (by omega) (by omega)) ?_
 rintro v H5 ⟨rfl,_,hF5,-⟩;simp only at hF5;have g25:H5.get (h.n+2)=some (.rows [[.nils,.nils]]):=by
  rw[hF5.2 _ (by simp; omega) (by omega),qBq,Jaa (by simp; omega),qBq,Jaa (by omega),g2]
 simp -dsimp[qdQ,g25,m2];rw[hof];exact⟨rfl,rfl⟩
theorem qou{n:Nat}{H:Heap}(l:List En):freeze n H qat ((slE l).enc qad)=some ((slE l).enc qad):=by
 unfold slE;split
 ·rfl
 ·have:=qdi (mk:=n) (h:=H) (k:=14) l;have e:freeze n H qat ((Sl.of l).enc qad)=(match allM (allM (freeze n H 15)) (qag l)with|some r=>some (.slR r false)|none=>none):=rfl;rw[e,this];rfl
theorem qec(x:Ev)(hx:EvS x)(hg:x.g.Fine)(hr:∀p∈x.g.p.l,∀a∈p.a.l,∀s∈a.l,s.r.l.length<1500000)(hB:WB h x.w)(hm:x.w.m<=h.n)(n k r:Int) :
  WF PR d mk (.fn 311 [] []) [.agg x.cells,.int .i64 n,.int .i64 k,.int .i64 r] h λv=>v=⟨(slE (ofE x n k r).2).enc qad,h⟩:=by
 refine qBt f311 b311 [.tm 8] rfl rfl rfl rfl rfl rfl ?_;unfold b311;have e5:[Sl.enc Pd.cells x.g.p,Sl.enc qac x.g.keys,x.w.v,V.int IntKind.i64 x.tab,V.bool x.heal]=x.cells:=rfl;simp -dsimp[Ev.cells];rw[e5];refine WFS.by (qjP x hx hg hr (h:=h.push (.rows [x.cells])) (hB.keep λi hi=>by rw[qBq,Jaa (by omega)]) (by simp; omega) (by simp) n k r) ?_
 rintro v H hv;simp only at hv;subst hv;simp -dsimp[qdQ];exact qou _
theorem qqC(x:Ev)(hx:EvS x)(hg:x.g.Fine)(hr:∀p∈x.g.p.l,∀a∈p.a.l,∀s∈a.l,s.r.l.length<1500000)(hB:WB h x.w)(hm:x.w.m<=h.n)(n k r:Int) :
  WF PR d mk (.fn 313 [] []) [.agg x.cells,.int .i64 n,.int .i64 k,.int .i64 r] h λv=>v=⟨(slE (ofE x n k r).1).enc qad,h⟩:=by
 refine qBt f313 b313 [.tm 8] rfl rfl rfl rfl rfl rfl ?_;unfold b313;have e5:[Sl.enc Pd.cells x.g.p,Sl.enc qac x.g.keys,x.w.v,V.int IntKind.i64 x.tab,V.bool x.heal]=x.cells:=rfl;simp -dsimp[Ev.cells];rw[e5];refine WFS.by (qjP x hx hg hr (h:=h.push (.rows [x.cells])) (hB.keep λi hi=>by rw[qBq,Jaa (by omega)]) (by simp; omega) (by simp) n k r) ?_
 rintro v H hv;simp only at hv;subst hv;simp -dsimp[qdQ];exact qou _
end
section
variable {s t:Ev}(hs:mayE s=true) (ht:mayE t=true) (hg:t.g=s.g) (hw:t.w=s.w) (htab:t.tab=s.tab) (hh:s.heal=false)
include hs ht hg hw htab hh
end
theorem qqO{x:Ev}{n k r:Int}(hm:mayE x=true)(n0:0<=n)(n1:n<x.g.p.l.length)(k0:0<=k)(k1:k<=x.w.l.length):ofE x n k r=qaL x n k r:=Jab ⟨hm,n0,n1,k0,k1⟩
theorem qly{x:Ev}(hm:mayE x=true){n k r:Int}(n0:0<=n)(n1:n<x.g.p.l.length)(k0:0<=k)(k1:k<=x.w.l.length):(qaL x n k r).2.length<=201 :=
 qb7 (qc3 (qbq hm) (ref:=r) n0 n1 k0 k1).2 (n:=x.w.l.length) (λe he=>by
  have:=(qbf (qbq hm) (ref:=r) n0 n1 k0 k1).2 e he;exact⟨by have:=this.1; omega,this.2.1⟩) (qbq hm).w
abbrev Nd:=Int × Int × Int × Int
def qui(y:Nd):List V:=[.int .i64 y.1,.int .i64 y.2.1,.int .i64 y.2.2.1,.int .i64 y.2.2.2]
@[simp]theorem len_nd{y:Nd}:(qui y).length=4:=(rfl)
def outN(g:Gr)(y:Nd):Bool:=decide (0<=y.1)&&(decide (y.1<g.p.l.length)&&decide (y.2.1=(lat g.p.l y.1.toNat).a.l.length))
section
variable {s t:Ev}(hs:mayE s=true) (ht:mayE t=true) (hg:t.g=s.g) (hw:t.w=s.w) (htab:t.tab=s.tab)
include hs ht hg hw htab
end
def numN(g:Gr)(y:Nd):List Int:=if outN g y=true then [y.2.1,y.2.2.2]else [y.2.1]
def qum(g:Gr)(l:List Nd):List Int:=l.flatMap (numN g)
structure Nv where
 v:V
 l:List Nd
 m:Nat
def NdB(h:Heap)(w:Nv):Prop:=(∃s:Sl Nd,w.v=s.enc qui/\s.l=w.l) \/
 ∃id lo f rs,w.v=.sl id lo w.l.length 4 f/\h.get id=some (.rows rs)/\lo+w.l.length<=rs.length/\(rs.drop lo).take w.l.length=w.l.map qui/\id<w.m
theorem NdB.keep{h h':Heap}{w:Nv}(hw:NdB h w)(hk:∀i,i<w.m->h'.get i=h.get i):NdB h' w:=by
 rcases hw with a|⟨id,lo,f,rs,a,b,c,d,e⟩
 ·exact .inl a
 ·exact .inr ⟨id,lo,f,rs,a,by rw[hk id e,b],c,d,e⟩
theorem NdB.len{h H:Heap}{w:Nv}(hw:NdB h w):lenV .sl w.v H=some (.int .i64 w.l.length):=by
 rcases hw with ⟨s,a,b⟩|⟨id,lo,f,rs,a,_⟩
 ·rw[a,<-b]; simp
 ·rw[a]; simp
theorem NdB.cells{h:Heap}{w:Nv}(hw:NdB h w):w.v.cells=[w.v]/\w.v.one=true:=by
 rcases hw with ⟨s,a,b⟩|⟨id,lo,f,rs,a,_⟩
 ·rw[a]; simp
 ·rw[a]; simp
theorem NdB.at{h:Heap}{w:Nv}(hw:NdB h w){k:Int}(k0:0<=k)(k1:k<w.l.length):∃p,qaw 4 w.v (.int .i64 k)=some p/\qcp (some 4) p h=some (.agg (qui (lat w.l k.toNat)))/\(∀o,o<4->∃q,qoF o p=some q/\qcp none q h=nth o (qui (lat w.l k.toNat))):=by
 rcases hw with ⟨s,a,b⟩|⟨id,lo,f,rs,a,b,c,d,e⟩
 ·rw[<-b]at k1;refine⟨_,by rw[a]; exact qap k0 k1 λ_=>rfl,by rw[<-b]; simp[qui],λo ho=>⟨.ptrR (qui (lat s.l k.toNat)) (0+o),rfl,by rw[<-b]; simp⟩⟩
 ·refine⟨.ptr id (lo+k.toNat) 0,by rw[a]; exact qam k0 k1,?_⟩;have h1:k.toNat<w.l.length:=by omega
  have h2:rs[lo+k.toNat]?=some (qui (lat w.l k.toNat)):=by
   have:=congrArg (λl=>l[k.toNat]?) d;simp only[List.getElem?_take,h1,if_true,List.getElem?_drop,List.getElem?_map,qaz h1]at this;exact this
  refine⟨?_,λo ho=>⟨.ptr id (lo+k.toNat) (0+o),rfl,?_⟩⟩
  ·rw[qdL,b,qcq,h2];simp[qui]
  ·rw[qdL,b,qcq,h2];simp
theorem NdB.from{h:Heap}{w:Nv}(hw:NdB h w){k:Int}{o:Opd}{tm:Tm}(k0:0<=k)(k1:k<=w.l.length)(ho:o.ev tm=.int .i64 k):∃v,qaT 4 (cutK (some o) none none) tm w.v=some v/\NdB h ⟨v,w.l.drop k.toNat,w.m⟩:=by
 rcases hw with ⟨s,a,b⟩|⟨id,lo,f,rs,a,b,c,d,e⟩
 ·refine⟨(s.cut k.toNat s.l.length).enc qui,?_,.inl ⟨_,rfl,?_⟩⟩
  ·rw[a];refine qdD (λ_=>rfl) λfl=>?_;rw[b];simp[ho,qaY k0 k1,qdl]
  ·rw[qqd,List.take_of_length_le (by simp),b]
 ·refine⟨.sl id (lo+k.toNat) (w.l.length-k.toNat) 4 (f&&true),?_,.inr ⟨id,lo+k.toNat,f&&true,rs,by simp,b,by simp; omega,?_,e⟩⟩
  ·rw[a];simp[ho,qaY k0 k1,qdl]
  ·have hl:(w.l.drop k.toNat).length=w.l.length-k.toNat:=List.length_drop;simp only[hl,List.map_drop,<-d];rw[List.drop_take,List.drop_drop]
theorem NdB.upto{h:Heap}{w:Nv}(hw:NdB h w){n:Nat}{hi mx:Opd}{tm:Tm}(hn:n<=w.l.length)(h1:hi.ev tm=.int .i64 n)(h2:mx.ev tm=.int .i64 n):∃v,qaT 4 (cutK none (some hi) (some mx)) tm w.v=some v/\NdB h ⟨v,w.l.take n,w.m⟩:=by
 rcases hw with ⟨s,a,b⟩|⟨id,lo,f,rs,a,b,c,d,e⟩
 ·exact⟨_,by rw[a]; exact qmj (λ_=>rfl) (by rw[b]; exact hn) h1 h2,.inl ⟨_,rfl,by rw[qvh,b]⟩⟩
 ·have hb:∀top:Nat,n<=top->bnd (n:Int) top=some n:=λtop ht=>by
   have:=qaY (n:=(n:Int)) (top:=top) (by omega) (by omega);simpa using this
  have hk:(cutK none (some hi) (some mx)).run w.l.length f tm=some ⟨0,n,true⟩:=by
   simp only[cutK,optK,h1,h2,hb _ hn,hb n (Jac _)];simp
  have hl:(w.l.take n).length=n:=by rw[List.length_take]; omega
  refine⟨.sl id lo n 4 true,?_,.inr ⟨id,lo,true,rs,by rw[hl],b,by rw[hl]; omega,?_,e⟩⟩
  ·rw[a,qpg,hk]; simp
  ·simp only[hl,List.map_take,<-d,List.take_take];rw[Nat.min_eq_left hn]
theorem NdB.head{h:Heap}{w:Nv}(hw:NdB h w){k:Int}{o:Opd}{tm:Tm}(k0:0<=k)(k1:k<=w.l.length)(ho:o.ev tm=.int .i64 k):∃v,qaT 4 (cutK none (some o) none) tm w.v=some v/\NdB h ⟨v,w.l.take k.toNat,w.m⟩:=by
 have hl:(w.l.take k.toNat).length=k.toNat:=by rw[List.length_take]; omega
 rcases hw with ⟨s,a,b⟩|⟨id,lo,f,rs,a,b,c,d,e⟩
 ·refine⟨(s.cut 0 k.toNat).enc qui,?_,.inl ⟨_,rfl,?_⟩⟩
  ·rw[a];refine qdD (λ_=>rfl) λfl=>?_;rw[b];simp[ho,qaY k0 k1,qdl]
  ·rw[qqd,b]; simp
 ·refine⟨.sl id lo k.toNat 4 (f&&decide (k.toNat=w.l.length)),?_,.inr ⟨id,lo,f&&decide (k.toNat=w.l.length),rs,by simp only[hl],b,by simp only[hl]; omega,?_,e⟩⟩
  ·rw[a];simp[ho,qaY k0 k1,qdl]
  ·simp only[hl,List.map_take,<-d,List.take_take];rw[Nat.min_eq_left (by omega)]
theorem Own.ndb{h:Heap}{m:Nat}{v:V}{l:List Nd}(hO:Own h m v 4 (l.map qui)):NdB h ⟨v,l,h.n⟩:=by
 rcases hO with ⟨rfl,e⟩|⟨id,rfl,h2,_,h4,_⟩
 ·have:l=[]:=by simpa using e
  subst this;exact .inl ⟨.nil,rfl,rfl⟩
 ·refine .inr ⟨id,0,false,_,by simp,h2,by simp,by simp; rw[List.take_of_length_le (by simp)],h4⟩
section
variable {AP:Prog}{d:Bool}{mk:Nat}
theorem qus(fs2:List Fr)(Q:OS->Prop):∀(fs1:List Fr) (r:OS),through AP d mk (fs1++fs2) Q r=through AP d mk fs1 (through AP d mk fs2 Q) r
 | [],r=>rfl
 | .seq b::fs,⟨o,s⟩=>by
  have:=qus fs2 Q fs;cases o with
  | normal=>show wc AP d mk b s (through AP d mk (fs++fs2) Q)=wc AP d mk b s _; rw[funext this]
  | exit i=>exact this _
  | ret=>exact this _
 | .block id::fs,⟨o,s⟩=>by
  have:=qus fs2 Q fs;cases o with
  | normal=>exact this _
  | exit i=>show cond _ (through AP d mk (fs++fs2) Q ⟨.normal,s⟩) (through AP d mk (fs++fs2) Q ⟨.exit i,s⟩)=_; rw[this,this]; rfl
  | ret=>exact this _
theorem qvg{st:St}{Q:OS->Prop}{fs:List Fr}{id:Nat}{c:IC}(M:Out->St->Prop)(h1:wk AP d mk c [.block id] st (λr=>M r.o r.s) ⟨⟩)(h2:∀o s,M o s->nx AP d mk fs o s Q ⟨⟩):wk AP d mk c (.block id::fs) st Q ⟨⟩:=by
 unfold wk at h1 ⊢;rw[show(Fr.block id::fs)=[.block id]++fs from rfl,funext (qus fs Q [.block id])];refine qcR c h1 λr h=>?_;obtain⟨o,s⟩:=r;cases o with
 | normal=>exact h2 _ _ h
 | exit i =>
  simp only[through]at h ⊢;cases hb:Nat.beq i id<;>rw[hb]at h<;>exact h2 _ _ h
 | ret=>exact h2 _ _ h
end
def qvN(sz:Nat)(kn:KK)(z:V):IC :=
  (.seq (.ops [bx 4 sz 1,i 6 (.p (.mov (.c z)))])
 (.seq (.seq (.ops [mv 11 0,lg 12 sz 4,i 13 (.r (.lookup kn z true (.t 11) (.t 12))),mv 10 13,ex 14 0 10,ex 15 1 10,mv 7 14,mv 8 15])
 (.seq (.ops [mv 16 8])
 (.cond (.t 16)
 (.seq (.ops [mv 17 7,mv 6 17])
 .ret)
 .skip)))
 (.seq (.ops [mv 18 2,i 19 (.call (.val (.t 18)) [] false),mv 9 19])
 (.seq (.ops [mv 20 0,lg 21 sz 4,mv 22 9,n (.w (.mupd kn (.t 20) (.t 21) (.t 22)))])
 (.seq (.ops [mv 23 9,mv 6 23])
 .ret)))))
def keepF(sz:Nat)(kn:KK)(z:V):IFn:=⟨false,24,[.tm 6],qvN sz kn z⟩
theorem qvV {κ β : Type} [DecidableEq κ] {d : Bool} {f sz M c mk : Nat} {kn : KK} {z tell : V} {kf : κ → V} {vf : β → V} {h : Heap} {es : List (Nat × V × V)} {S : List (κ × β)} {cs : List V} {Q : VH → Prop} (p : κ)
    (hF:PR.fn f=some (keepF sz kn z)) (hp:PR.prim f=none) (hk:∀a b,qcV (kf a) (kf b)=some (decide (a=b))) (hkn:∀a,qbX kn (kf a)=true) (hcs:kf p=.agg cs) (hsz:cs.length=sz) (h0:0<sz) (hM:h.get M=some (.map es c)) (hMn:M<h.n) (hS:MapR kf vf es S)
    (hit:∀v h',qaS p S=some v->h.n<=h'.n->(∀i,i<h.n->h'.get i=h.get i)->Q ⟨vf v,h'⟩)
    (miss:∀h',h'.n=h.n+1->(∀i,i<h.n->h'.get i=h.get i)->WF PR d mk tell [] h' λq=>h'.n<=q.h.n/\q.h.get h.n=h'.get h.n/\mk<=M/\∃v es' c' S',q.v=vf v/\q.h.get M=some (.map es' c')/\MapR kf vf es' S'/\∀gs c2,MapR kf vf gs (aSet p v S')->Q ⟨vf v,q.h.set M (.map gs c2)⟩) :
    WF PR d mk (.fn f [] []) [.map M,kf p,tell] h Q:=by
  refine WF.go (keepF sz kn z) (qvN sz kn z) [.tm 6] hp hF rfl rfl rfl rfl ?_;unfold qvN;have ht:List.take sz cs=cs:=List.take_of_length_le (by omega);have z0:¬M=h.n:=by omega
  have hlook:=qlz (kn:=kn) (zero:=z) hk hkn (h:=h.push (.rows [cs])) (M:=M) (c:=c) (by rw[qBq,Jaa z0,hM]) hS p;rw[hcs]at hlook;simp -dsimp[hcs,hsz,h0,ht,hlook];obtain⟨o,ho⟩:∃o,qaS p S=o:=⟨_,rfl⟩;rw[ho];cases o with
  | some v =>
    simp -dsimp;exact hit v _ ho (by simp) λi hi=>by rw[qBq,Jaa (by omega)]
  | none =>
    simp -dsimp;refine WFS.by (miss _ (by simp) λi hi=>by rw[qBq,Jaa (by omega)]) ?_
    rintro v2 h2 ⟨g1,g2,mM,v,es',c',S',rfl,e1,e2,e3⟩;simp only at g1 g2 e1 e3;have g3:h2.get h.n=some (.rows [cs]):=by rw[g2]; simp
    obtain⟨gs,c2,m1,m2⟩:=qgM (kn:=kn) (mk:=mk) hk hkn e1 e2 mM p v;rw[hcs]at m1;simp -dsimp[g3,hsz,ht];refine OpS.intro m1 ?_;simp -dsimp;exact e3 gs c2 m2
def qvs(L:Look)(C:Int->Int->Int->Nat)(w:List UInt8)(u:Int):List Sy->Int->Nat
 | [],k=>if k=u then 1 else 0
 | s::ss,k=>if s.kind=2 then((L s.n k).map λe=>qvs L C w u ss e.1 * C s.n k e.1).sum else if 0<qbr s w k then qvs L C w u ss (k+qbr s w k)else 0
def endB(l:List En)(u:Int):Bool:=l.any λe=>decide (e.1=u)
noncomputable def qvK (x:Ev):Nat->Int->Int->Int->Int->Nat
 | 0,_,_,_,_=>0
 | m+1,n,k,u,r=>if endB (qaL x n k r).2 u=true then((lat x.g.p.l n.toNat).a.l.map λa=>qvs (qaN x (refV x n k r)) (λn' k' u'=>qvK x m n' k' u' (refV x n k r)) x.w.l u a.l k).sum else 0
noncomputable def qvr (x:Ev) (n k u r:Int):Nat:=qvK x (muN x.g x.w.l n k+1) n k u r
theorem qv7:∀{l:List Nat}{a:Nat},a∈l->a<=l.sum
 | [],a,h=>by cases h
 | b::l,a,h=>by
  rw[List.sum_cons];rcases Jag.1 h with rfl|h
  ·omega
  ·have:=qv7 h; omega
theorem qvY{g:Gr}{w:List UInt8}{l:List Sy}{k:Int}{e:En}(h:NowP g w l k e):NowP g w l k (e.1,0):=⟨h.1,h.2.1,by have:=h.1; simp only; omega,h.2.2.2⟩
theorem qvO{g:Gr}{w:List UInt8}{L:Look}{l:List Sy}{s:Sy}{k0 k:Int}(h0:0<=k0)(hs:0<=s.n)(hk:s.kind=2)(hL:∀f∈L s.n k,EndP g w s.n k f)(h:NowP g w l k0 (k,0)){e:En}(he:e∈L s.n k):NowP g w (l++[s]) k0 (e.1,0) :=
 qvY (e:=(e.1,0+e.2)) (qeM (N:=L) (e:=(k,0)) (f:=(e.1,0+e.2)) h0 (λ_=>hs) (λ_=>hL) h (by
  unfold qa2; rw[Jab hk]; exact Jak.2 ⟨e,he,rfl⟩))
theorem qvA{g:Gr}{w:List UInt8}{l:List Sy}{s:Sy}{k0 k:Int}(h0:0<=k0)(hk:¬s.kind=2)(h:NowP g w l k0 (k,0))(hm:0<qbr s w k):NowP g w (l++[s]) k0 (k+qbr s w k,0) :=
 qvY (qeM (N:=λ_ _=>[]) (e:=(k,0)) (f:=(k+qbr s w k,0)) h0 (λe=>absurd e hk) (λe=>absurd e hk) h (by
  unfold qa2; rw[Jaa hk,Jab hm]; simp))
section
variable {g:Gr}{w:List UInt8}{L:Look}{k0:Int}
theorem qvB{C C':Int->Int->Int->Nat}{u:Int}(h0:0<=k0):∀(m l:List Sy) (k:Int),(∀s∈m,s.kind=2->0<=s.n)->(∀i,i<m.length->(lat m i).kind=2->∀j,NowP g w (l++m.take i) k0 (j,0)->(∀u',C (lat m i).n j u'=C' (lat m i).n j u')/\∀f∈L (lat m i).n j,EndP g w (lat m i).n j f) ->
  NowP g w l k0 (k,0)->qvs L C w u m k=qvs L C' w u m k
 | [],_,_,_,_,_=>rfl
 | s::m,l,k,hs,hC,h=>by
  rw[qvs,qvs];have h1:∀k',NowP g w (l++[s]) k0 (k',0)->qvs L C w u m k'=qvs L C' w u m k':=λk' hk' =>
   qvB h0 m (l++[s]) k' (λt ht=>hs t (by simp[ht])) (λi hi hk j hj=>hC (i+1) (by simp; omega) (by simpa[lat]using hk) j (by simpa using hj)) hk'
  split
  ·rename_i hk;obtain⟨e1,e2⟩:=hC 0 (by simp) (by simpa[lat]using hk) k (by simpa using h);rw[show lat (s::m) 0=s from rfl]at e1 e2;congr 1;refine List.map_congr_left λe he=>?_;rw[h1 e.1 (qvO h0 (hs s (by simp) hk) hk e2 h he),e1]
  ·split
   ·rename_i hk hm;exact h1 _ (qvA h0 hk h hm)
   ·rfl
theorem qvJ{C:Int->Int->Int->Nat}(h0:0<=k0):∀(m l:List Sy) (now:List En),(∀s∈m,s.kind=2->0<=s.n)->(∀i,i<m.length->(lat m i).kind=2->∀e,NowP g w (l++m.take i) k0 e->∀f∈L (lat m i).n e.1,EndP g w (lat m i).n e.1 f/\0<C (lat m i).n e.1 f.1) ->
  (∀e∈now,NowP g w l k0 e)->∀e∈qaA L w m now,∃f∈now,0<qvs L C w e.1 m f.1
 | [],_,now,_,_,_,e,he=>⟨e,he,by simp[qvs]⟩
 | s::m,l,now,hs,hC,h,e,he=>by
  rw[qaA]at he;have hst:∀f∈now.flatMap (qa2 L w s),NowP g w (l++[s]) k0 f:=λf hf=>by
   obtain⟨e,he,hfe⟩:=List.mem_flatMap.1 hf;exact qeM h0 (hs s (by simp)) (λhk f hf=>(hC 0 (by simp) (by simpa[lat]using hk) e (by simpa using h e he) f hf).1) (h e he) hfe
  obtain⟨f',hf',hp⟩:=qvJ h0 m (l++[s]) _ (λt ht=>hs t (by simp[ht])) (λi hi hk e he=>hC (i+1) (by simp; omega) (by simpa[lat]using hk) e (by simpa using he)) (qbN hst) e he;obtain⟨f,hf,hff⟩:=List.mem_flatMap.1 (qgf hf');refine⟨f,hf,?_⟩;rw[qvs];unfold qa2 at hff;split at hff
  ·rename_i hk;rw[Jab hk];obtain⟨q,hq,rfl⟩:=Jak.1 hff;have hpos:=(hC 0 (by simp) (by simpa[lat]using hk) f (by simpa using h f hf) q (by simpa[lat]using hq)).2;rw[show lat (s::m) 0=s from rfl]at hpos;have hm:qvs L C w e.1 m q.1 * C s.n f.1 q.1∈(L s.n f.1).map λe'=>qvs L C w e.1 m e'.1 * C s.n f.1 e'.1:=Jak.2 ⟨q,hq,rfl⟩;have:=qv7 hm;exact Nat.lt_of_lt_of_le (Nat.mul_pos hp hpos) this
  ·rename_i hk;rw[Jaa hk];split at hff
   ·rename_i hm;rw[Jab hm];rw[Jah]at hff;subst hff;exact hp
   ·cases hff
end
section
variable {x:Ev}(hx:EvW x)
include hx
theorem qvT{n k:Int}(n0:0<=n)(k0:0<=k)(k1:k<=x.w.l.length){a:Sl Sy}(ha:a∈(lat x.g.p.l n.toNat).a.l){i:Nat}(hi:i<a.l.length)(hk:(lat a.l i).kind=2){e:En}(he:NowP x.g x.w.l (a.l.take i) k e) :
  muN x.g x.w.l (lat a.l i).n e.1<muN x.g x.w.l n k/\0<=(lat a.l i).n/\(lat a.l i).n<x.g.p.l.length/\0<=e.1/\e.1<=x.w.l.length:=by
 obtain⟨e1,e2,_,e4⟩:=he;have hs:=qcD hx ha (lat a.l i) (qai hi) hk;exact⟨qhQ hx.m hx.c n0 k0 k1 ha hi hk e2 e1 e4,hs.1,hs.2,by omega,e2⟩
theorem qvH:∀(m:Nat) (n k u r:Int),muN x.g x.w.l n k<m->0<=n->n<x.g.p.l.length->0<=k->k<=x.w.l.length->∀m',muN x.g x.w.l n k<m'->qvK x m' n k u r=qvK x m n k u r:=by
 intro m;induction m with
 | zero=>intro _ _ _ _ h; omega
 | succ m ih =>
  intro n k u r hmu n0 n1 k0 k1 m' hm';obtain⟨m2,rfl⟩:∃m2,m'=m2+1:=⟨m'-1,by omega⟩;rw[qvK,qvK];split
  ·congr 1;refine List.map_congr_left λa ha=>?_;refine qvB (g:=x.g) k0 a.l [] k (λs hs hk=>(qcD hx ha s hs hk).1) (λi hi hk j hj=>?_) ⟨Int.le_refl _,k1,by simp,λ_=>.nil⟩;obtain⟨q1,q2,q3,q4,q5⟩:=qvT hx n0 k0 k1 ha hi hk (by simpa using hj);simp only at q1 q4 q5;exact⟨λu'=>ih _ _ _ _ (by omega) q2 q3 q4 q5 m2 (by omega),(qbf hx q2 q3 q4 q5).2⟩
  ·rfl
theorem qvy{n k:Int}(u r:Int)(n0:0<=n)(n1:n<x.g.p.l.length)(k0:0<=k)(k1:k<=x.w.l.length) :
  qvr x n k u r=if endB (qaL x n k r).2 u=true then((lat x.g.p.l n.toNat).a.l.map λa=>qvs (qaN x (refV x n k r)) (λn' k' u'=>qvr x n' k' u' (refV x n k r)) x.w.l u a.l k).sum else 0:=by
 unfold qvr;rw[qvK];split
 ·congr 1;refine List.map_congr_left λa ha=>?_;refine qvB (g:=x.g) k0 a.l [] k (λs hs hk=>(qcD hx ha s hs hk).1) (λi hi hk j hj=>?_) ⟨Int.le_refl _,k1,by simp,λ_=>.nil⟩;obtain⟨q1,q2,q3,q4,q5⟩:=qvT hx n0 k0 k1 ha hi hk (by simpa using hj);simp only at q1 q4 q5;exact⟨λu'=>qvH hx _ _ _ _ _ (Nat.lt_succ_self _) q2 q3 q4 q5 _ q1,(qbf hx q2 q3 q4 q5).2⟩
 ·rfl
theorem qv2(hh:x.heal=false):∀(m:Nat) (n k r:Int),muN x.g x.w.l n k<m->0<=n->n<x.g.p.l.length->0<=k->k<=x.w.l.length->∀e∈(qaL x n k r).2,0<qvr x n k e.1 r:=by
 intro m;induction m with
 | zero=>intro _ _ _ h; omega
 | succ m ih =>
  intro n k r hmu n0 n1 k0 k1 e he;rw[qvy hx e.1 r n0 n1 k0 k1,Jab (by unfold endB; rw[List.any_eq_true]; exact⟨e,he,by simp⟩)];rw[qcI hx n0 n1 k0 k1 hh]at he;have hc:=qio (List.mem_filter.1 he).1;rw[qbD hx n0 n1 k0 k1]at hc;simp only[qcG]at hc;obtain⟨a,ha,hea⟩:=List.mem_flatMap.1 (qgf hc);obtain⟨f,hf,hp⟩:=qvJ (g:=x.g) (C:=λn' k' u'=>qvr x n' k' u' (refV x n k r)) k0 a.l [] [(k,0)] (λs hs hk=>(qcD hx ha s hs hk).1) (λi hi hk e he f hf=>by
   obtain⟨q1,q2,q3,q4,q5⟩:=qvT hx n0 k0 k1 ha hi hk (by simpa using he);exact⟨(qbf hx q2 q3 q4 q5).2 f hf,ih _ _ _ (by omega) q2 q3 q4 q5 f hf⟩) (by
   intro e he;rw[Jah]at he; subst he;exact⟨Int.le_refl _,k1,by simp,λ_=>.nil⟩) e hea
  rw[Jah]at hf;subst hf;have hm:qvs (qaN x (refV x n k r)) (λn' k' u'=>qvr x n' k' u' (refV x n k r)) x.w.l e.1 a.l k∈(lat x.g.p.l n.toNat).a.l.map λa=>qvs (qaN x (refV x n k r)) (λn' k' u'=>qvr x n' k' u' (refV x n k r)) x.w.l e.1 a.l k:=Jak.2 ⟨a,ha,rfl⟩;exact Nat.lt_of_lt_of_le hp (qv7 hm)
end
noncomputable def qvt (x:Ev) (n k u r:Int):Int:=if mayE x=true/\0<=n/\n<x.g.p.l.length/\0<=k/\k<=x.w.l.length then((min (qvr x n k u r) 2:Nat):Int)else 0
theorem qvG(x:Ev)(n k u r:Int):0<=qvt x n k u r/\qvt x n k u r<=2:=by
 unfold qvt;split
 ·omega
 ·omega
theorem qvI{x:Ev}(hh:x.heal=false)(n k u r:Int):(0<qvt x n k u r)↔endB (ofE x n k r).2 u=true:=by
 unfold qvt ofE;split
 ·rename_i h;obtain⟨hm,n0,n1,k0,k1⟩:=h;have hx:=qbq hm;constructor
  ·intro h;have h1:0<qvr x n k u r:=by omega
   rw[qvy hx u r n0 n1 k0 k1]at h1;split at h1
   ·rename_i h2; exact h2
   ·omega
  ·intro h;unfold endB at h;rw[List.any_eq_true]at h;obtain⟨e,he,h2⟩:=h;rw[Jai]at h2;subst h2;have:=qv2 hx hh _ n k r (Nat.lt_succ_self _) n0 n1 k0 k1 e he;omega
 ·simp[endB]
def cap2(n:Nat):Int:=((min n 2:Nat):Int)
theorem qvu(n:Nat):0<=cap2 n/\cap2 n<=2:=by unfold cap2; omega
theorem qvZ(a b:Nat):cap2 (a+b)=min (cap2 a+cap2 b) 2:=by unfold cap2; omega
theorem qwg(r t:Nat):cap2 (r * t)=min (cap2 r * cap2 t) 2:=by
 have key:∀n:Nat,cap2 n=if n=0 then 0 else if n=1 then 1 else 2:=λn=>by
  unfold cap2; split
  ·omega
  ·split<;>omega
 by_cases r0:r=0
 ·subst r0; simp[key]; rfl
 by_cases t0:t=0
 ·subst t0; simp[key]; rfl
 by_cases r1:r=1
 ·subst r1; rw[Nat.one_mul,key,key]; simp[t0]; split<;>omega
 by_cases t1:t=1
 ·subst t1; rw[Nat.mul_one,key,key]; simp[r0]; split<;>omega
 have h1:r<=r * t:=Nat.le_mul_of_pos_right _ (by omega);rw[key,key,key,Jaa r0,Jaa r1,Jaa t0,Jaa t1,Jaa (by omega),Jaa (by omega)];omega
abbrev Spn:=Int × Int × Int × Int
abbrev Pls:=Int × Int × Int × Int × Int × Int
def qvL(p:Spn):V:=.agg [.int .i64 p.1,.int .i64 p.2.1,.int .i64 p.2.2.1,.int .i64 p.2.2.2]
def qvz(p:Pls):V:=.agg [.int .i64 p.1,.int .i64 p.2.1,.int .i64 p.2.2.1,.int .i64 p.2.2.2.1,.int .i64 p.2.2.2.2.1,.int .i64 p.2.2.2.2.2]
def qvF(l:List En):V:=(slE l).enc qad
def intW(n:Nat):V:=.int .i64 (cap2 n)
theorem qv3(a b:Spn):qcV (qvL a) (qvL b)=some (decide (a=b)):=by
 obtain⟨a1,a2,a3,a4⟩:=a;obtain⟨b1,b2,b3,b4⟩:=b;simp[qcV,qvL,eqL,eq1]
theorem qv0(a b:Pls):qcV (qvz a) (qvz b)=some (decide (a=b)):=by
 obtain⟨a1,a2,a3,a4,a5,a6⟩:=a;obtain⟨b1,b2,b3,b4,b5,b6⟩:=b;simp[qcV,qvz,eqL,eq1]
theorem qwd(a:Spn):qbX (.agg [.int,.int,.int,.int]) (qvL a)=true:=rfl
theorem qv4(a:Pls):qbX (.agg [.int,.int,.int,.int,.int,.int]) (qvz a)=true:=rfl
noncomputable def qvv (x:Ev) (p:Pls):Nat:=qvs (qaN x p.2.2.2.2.2) (λn k u=>qvr x n k u p.2.2.2.2.2) x.w.l p.2.2.2.2.1 ((lat (lat x.g.p.l p.1.toNat).a.l p.2.1.toNat).l.drop p.2.2.1.toNat) p.2.2.2.1
def Kept{κ β : Type} [DecidableEq κ] (kf : κ->V)(vf : β->V)(f : κ->β)(M:Nat)(h:Heap):Prop:=∃es c S,h.get M=some (.map es c)/\MapR kf vf es S/\∀p v,qaS p S=some v->v=f p
theorem Kept.keep{κ β : Type} [DecidableEq κ] {kf : κ->V}{vf : β->V}{f : κ->β}{M:Nat}{h h':Heap}(hk:Kept kf vf f M h)(e:h'.get M=h.get M):Kept kf vf f M h':=by
 obtain⟨es,c,S,e1,e2⟩:=hk;exact⟨es,c,S,by rw[e,e1],e2⟩
structure CtC (x:Ev) (K M1 M2 M3:Nat) (h:Heap):Prop where
 k:h.get K=some (.rows [[x.g.p.enc Pd.cells,x.g.keys.enc qac,x.w.v,.int .i64 x.tab,.bool x.heal,.map M1,.map M2,.map M3]])
 m1:Kept qme qvF (λp=>(ofE x p.1 p.2.1 p.2.2).2) M1 h
 m2:Kept qvL intW (λp=>qvr x p.1 p.2.1 p.2.2.2 p.2.2.1) M2 h
 m3:Kept qvz intW (qvv x) M3 h
 lk:K<h.n
 l1:M1<h.n
 l2:M2<h.n
 l3:M3<h.n
 d1:K≠M1
 d2:K≠M2
 d3:K≠M3
 d4:M1≠M2
 d5:M1≠M3
 d6:M2≠M3
 wb:WB h x.w
 wk:x.w.m<=K
 w1:x.w.m<=M1
 w2:x.w.m<=M2
 w3:x.w.m<=M3
def Fr3(M1 M2 M3:Nat)(h h':Heap):Prop:=h.n<=h'.n/\∀i,i<h.n->i≠M1->i≠M2->i≠M3->h'.get i=h.get i
theorem Fr3.refl{M1 M2 M3:Nat}{h:Heap}:Fr3 M1 M2 M3 h h:=⟨Jac _,λ_ _ _ _ _=>rfl⟩
theorem Fr3.trans{M1 M2 M3:Nat}{h h' h'':Heap}(a:Fr3 M1 M2 M3 h h')(b:Fr3 M1 M2 M3 h' h''):Fr3 M1 M2 M3 h h'' :=
 ⟨Jaf a.1 b.1,λi hi x1 x2 x3=>by rw[b.2 i (by have:=a.1; omega) x1 x2 x3,a.2 i hi x1 x2 x3]⟩
theorem Fr3.of{M1 M2 M3:Nat}{h h':Heap}(hn:h.n<=h'.n)(hk:∀i,i<h.n->h'.get i=h.get i):Fr3 M1 M2 M3 h h':=⟨hn,λi hi _ _ _=>hk i hi⟩
section
variable {x:Ev}{K M1 M2 M3:Nat}{h h':Heap}
theorem CtC.keep(hC:CtC x K M1 M2 M3 h)(hn:h.n<=h'.n)(hk:∀i,i<h.n->h'.get i=h.get i):CtC x K M1 M2 M3 h':=by
 obtain⟨k,m1,m2,m3,lk,l1,l2,l3,d1,d2,d3,d4,d5,d6,wb,wk,w1,w2,w3⟩:=hC;exact⟨by rw[hk _ lk,k],m1.keep (hk _ l1),m2.keep (hk _ l2),m3.keep (hk _ l3),by omega,by omega,by omega,by omega,d1,d2,d3,d4,d5,d6,wb.keep λi hi=>hk i (by omega),wk,w1,w2,w3⟩
theorem CtC.set1(hC:CtC x K M1 M2 M3 h){es:List (Nat × V × V)}{c:Nat}(hm:Kept qme qvF (λp=>(ofE x p.1 p.2.1 p.2.2).2) M1 (h.set M1 (.map es c))):CtC x K M1 M2 M3 (h.set M1 (.map es c)):=by
 obtain⟨k,m1,m2,m3,lk,l1,l2,l3,d1,d2,d3,d4,d5,d6,wb,wk,w1,w2,w3⟩:=hC;exact⟨by rw[qBp,Jaa d1,k],hm,m2.keep (by rw[qBp,Jaa (Ne.symm d4)]),m3.keep (by rw[qBp,Jaa (Ne.symm d5)]),lk,l1,l2,l3,d1,d2,d3,d4,d5,d6,wb.keep λi hi=>by rw[qBp,Jaa (by omega)],wk,w1,w2,w3⟩
theorem CtC.set2(hC:CtC x K M1 M2 M3 h){es:List (Nat × V × V)}{c:Nat}(hm:Kept qvL intW (λp=>qvr x p.1 p.2.1 p.2.2.2 p.2.2.1) M2 (h.set M2 (.map es c))):CtC x K M1 M2 M3 (h.set M2 (.map es c)):=by
 obtain⟨k,m1,m2,m3,lk,l1,l2,l3,d1,d2,d3,d4,d5,d6,wb,wk,w1,w2,w3⟩:=hC;exact⟨by rw[qBp,Jaa d2,k],m1.keep (by rw[qBp,Jaa d4]),hm,m3.keep (by rw[qBp,Jaa (Ne.symm d6)]),lk,l1,l2,l3,d1,d2,d3,d4,d5,d6,wb.keep λi hi=>by rw[qBp,Jaa (by omega)],wk,w1,w2,w3⟩
theorem CtC.set3(hC:CtC x K M1 M2 M3 h){es:List (Nat × V × V)}{c:Nat}(hm:Kept qvz intW (qvv x) M3 (h.set M3 (.map es c))):CtC x K M1 M2 M3 (h.set M3 (.map es c)):=by
 obtain⟨k,m1,m2,m3,lk,l1,l2,l3,d1,d2,d3,d4,d5,d6,wb,wk,w1,w2,w3⟩:=hC;exact⟨by rw[qBp,Jaa d3,k],m1.keep (by rw[qBp,Jaa d5]),m2.keep (by rw[qBp,Jaa d6]),hm,lk,l1,l2,l3,d1,d2,d3,d4,d5,d6,wb.keep λi hi=>by rw[qBp,Jaa (by omega)],wk,w1,w2,w3⟩
theorem Kept.put{κ β : Type} [DecidableEq κ] {kf : κ->V}{vf : β->V}{f : κ->β}{M:Nat}{S:List (κ × β)}{es:List (Nat × V × V)}{c:Nat}{p : κ}{v : β}(hR:MapR kf vf es (aSet p v S))(hS:∀p v,qaS p S=some v->v=f p)(hv:v=f p):Kept kf vf f M (h.set M (.map es c)) :=
 ⟨es,c,aSet p v S,by rw[qBp,Jab rfl],hR,λq w hq=>by
  rw[qhs]at hq;split at hq
  ·rename_i e; cases hq; rw[e]; exact hv
  ·exact hS q w hq⟩
end
section
variable {x:Ev}{K M1 M2 M3 mk:Nat}{h:Heap}{d:Bool}
theorem at1_ok(hx:EvS x)(hg:x.g.Fine)(hr:∀p∈x.g.p.l,∀a∈p.a.l,∀s∈a.l,s.r.l.length<1500000)(hC:CtC x K M1 M2 M3 h){B:Nat}(n k r:Int)(b0:h.get B=some (.rows [[.ptr K 0 0]]))(b1:h.get (B+1)=some (.rows [[.int .i64 n,.int .i64 k,.int .i64 r]])) :
  WF PR d mk (.fn 413 [] [.ptr B 0 0,.ptr (B+1) 0 0]) [] h λq=>q=⟨qvF (ofE x n k r).2,h⟩:=by
 refine WF.go f413 b413 [.tm 2] rfl rfl rfl rfl rfl rfl ?_;unfold b413;have e5:[Sl.enc Pd.cells x.g.p,Sl.enc qac x.g.keys,x.w.v,V.int IntKind.i64 x.tab,V.bool x.heal]=x.cells:=rfl;simp -dsimp[b0,b1,hC.k,qcT];rw[e5];refine WFS.by (qec x hx hg hr hC.wb (by have:=hC.wk; have:=hC.lk; omega) n k r) ?_
 intro v h' e;cases e;simp -dsimp;rfl
theorem qwj(hx:EvS x)(hg:x.g.Fine)(hr:∀p∈x.g.p.l,∀a∈p.a.l,∀s∈a.l,s.r.l.length<1500000)(hC:CtC x K M1 M2 M3 h)(m1:mk<=M1)(n k r:Int) :
  WF PR d mk (.fn 401 [] []) [.ptr K 0 0,.agg [.int .i64 n,.int .i64 k,.int .i64 r]] h λq=>q.v=qvF (ofE x n k r).2/\CtC x K M1 M2 M3 q.h/\Fr3 M1 M2 M3 h q.h:=by
 refine WF.go f401 b401 [.tm 4] rfl rfl rfl rfl rfl rfl ?_;unfold b401;have lk:=hC.lk;have z0:¬K=h.n:=by omega
 have z1:¬K=h.n+1:=by omega
 have z2:¬h.n=h.n+1:=by omega
 simp -dsimp[z0,z1,z2,hC.k,qcT];obtain⟨H,hH⟩:∃H,(h.push (.rows [[.ptr K 0 0]])).push (.rows [[.int .i64 n,.int .i64 k,.int .i64 r]])=H:=⟨_,rfl⟩;have hn:H.n=h.n+2:=by rw[<-hH]; simp
 have gk:∀i,i<h.n->H.get i=h.get i:=λi hi=>by rw[<-hH]; simp[show ¬i=h.n by omega,show ¬i=h.n+1 by omega]
 have b0:H.get h.n=some (.rows [[.ptr K 0 0]]):=by rw[<-hH]; simp
 have b1:H.get (h.n+1)=some (.rows [[.int .i64 n,.int .i64 k,.int .i64 r]]):=by rw[<-hH]; simp
 have hC2:=hC.keep (h':=H) (by omega) gk;rw[hH];obtain⟨es,c,S,e1,e2,e3⟩:=hC2.m1;refine WFS.by (qvV (f:=412) (sz:=3) (z:=.nils) (kf:=qme) (vf:=qvF) (n,k,r) rfl rfl qgu qin rfl rfl (by omega) e1 hC2.l1 e2 (Q:=λq=>q.v=qvF (ofE x n k r).2/\CtC x K M1 M2 M3 q.h/\Fr3 M1 M2 M3 H q.h) ?_ ?_) ?_
 ·intro v h' hv hn' hk';exact⟨by rw[e3 _ _ hv],hC2.keep hn' hk',.of hn' hk'⟩
 ·intro h' hn' hk';have hC3:=hC2.keep (h':=h') (by omega) hk';refine W.mono (at1_ok (mk:=mk) hx hg hr hC3 (B:=h.n) n k r (by rw[hk' _ (by omega),b0]) (by rw[hk' _ (by omega),b1])) ?_;rintro q rfl;refine⟨Jac _,rfl,m1,(ofE x n k r).2,es,c,S,rfl,by rw[hk' _ hC2.l1,e1],e2,λgs c2 hg2=>⟨rfl,hC3.set1 (Kept.put hg2 e3 rfl),?_⟩⟩;exact⟨by simp only[qBB]; omega,λi hi x1 _ _=>by rw[qBp,Jaa x1,hk' i hi]⟩
 rintro v H2 ⟨rfl,hC3,hF⟩;simp -dsimp;exact⟨hC3,(Fr3.of (by omega) gk).trans hF⟩
theorem qwh(a b:Int)(ha:0<=a/\a<=100)(hb:0<=b/\b<=100):WF PR d mk (.fn 403 [] []) [.int .i64 a,.int .i64 b] h λq=>q=⟨.int .i64 (min (a+b) 2),h⟩:=by
 refine qBt f403 b403 [.tm 4] rfl rfl rfl rfl rfl rfl ?_;unfold b403;have hm:∀tm:Tm,qbS .i64 tm (a+b) [Opd.c (.int .i64 2)]=some (.int .i64 (min 2 (a+b))):=λtm=>by
  rw[qer (m:=2) rfl]; rfl
 simp -dsimp[fw64 (n:=a+b) (by omega) (by omega),hm];omega
end
def pSum{α : Type}(f : α->Nat)(l:List α)(i:Nat):Nat:=((l.take i).map f).sum
theorem qvQ{α : Type}(f : α->Nat)(l:List α):pSum f l 0=0:=rfl
theorem qvE{α : Type} [Inhabited α] (f : α->Nat){l:List α}{i:Nat}(h:i<l.length):pSum f l (i+1)=pSum f l i+f (lat l i):=by
 unfold pSum;rw[Jap,qaz h,List.map_append,List.sum_append];simp
theorem qvM{α : Type}(f : α->Nat)(l:List α):pSum f l l.length=(l.map f).sum:=by unfold pSum; rw[List.take_length]
theorem qvR{α : Type} [Inhabited α] (f : α->Nat){l:List α}{i:Nat}(h:∀j,i<=j->j<l.length->f (lat l j)=0):∀d,i+d<=l.length->pSum f l (i+d)=pSum f l i
 | 0,_=>rfl
 | d+1,hd=>by rw[<-Nat.add_assoc,qvE f (by omega),h _ (by omega) (by omega),qvR f h d (by omega),Nat.add_zero]
def OfOK(x:Ev)(n k u r:Int):Prop:=∀(d:Bool) (mk:Nat) (h:Heap) (K M1 M2 M3:Nat),CtC x K M1 M2 M3 h->mk<=M1->mk<=M2->mk<=M3 ->
 WF PR d mk (.fn 394 [] []) [.ptr K 0 0,qvL (n,k,r,u)] h λq=>q.v=intW (qvr x n k u r)/\CtC x K M1 M2 M3 q.h/\Fr3 M1 M2 M3 h q.h
def qv9(x:Ev)(p:Pls):Prop:=∀(d:Bool) (mk:Nat) (h:Heap) (K M1 M2 M3:Nat),CtC x K M1 M2 M3 h->mk<=M1->mk<=M2->mk<=M3 ->
 WF PR d mk (.fn 404 [] []) [.ptr K 0 0,qvz p] h λq=>q.v=intW (qvv x p)/\CtC x K M1 M2 M3 q.h/\Fr3 M1 M2 M3 h q.h
theorem qvP{g:Gr}{w:List UInt8}{L:Look}{C:Int->Int->Int->Nat}{k0 u:Int}(h0:0<=k0):∀(m l:List Sy) (k:Int),(∀s∈m,s.kind=2->0<=s.n)->(∀i,i<m.length->(lat m i).kind=2->∀j,NowP g w (l++m.take i) k0 (j,0)->∀f∈L (lat m i).n j,EndP g w (lat m i).n j f) ->
  NowP g w l k0 (k,0)->u<k->qvs L C w u m k=0
 | [],_,k,_,_,_,hu=>by rw[qvs,Jaa (by omega)]
 | s::m,l,k,hs,hC,h,hu=>by
  have h1:∀k',NowP g w (l++[s]) k0 (k',0)->u<k'->qvs L C w u m k'=0:=λk' hk' hu' =>
   qvP h0 m (l++[s]) k' (λt ht=>hs t (by simp[ht])) (λi hi hk j hj=>hC (i+1) (by simp; omega) (by simpa[lat]using hk) j (by simpa using hj)) hk' hu'
  rw[qvs];split
  ·rename_i hk;have e2:=hC 0 (by simp) (by simpa[lat]using hk) k (by simpa using h);rw[show lat (s::m) 0=s from rfl]at e2;have:(L s.n k).map (λe=>qvs L C w u m e.1 * C s.n k e.1)=(L s.n k).map λ_=>0:=List.map_congr_left λe he=>by
    rw[h1 e.1 (qvO h0 (hs s (by simp) hk) hk e2 h he) (by have:=(e2 e he).1; omega),Nat.zero_mul]
   rw[this]
   have key:∀l:List En,(l.map λ_=>0).sum=0:=λl=>by induction l with
    | nil=>rfl
    | cons a l ih=>simp[ih]
   exact key _
  ·rename_i hk;split
   ·rename_i hm;exact h1 _ (qvA h0 hk h hm) (by omega)
   ·rfl
section
variable {x:Ev}{k0 q u n alt:Int}{A:Sl Sy}
structure BxC (x:Ev) (K M1 M2 M3 B:Nat) (p:Pls) (Lc:Sl Sy) (h:Heap):Prop where
 c:CtC x K M1 M2 M3 h
 b0:h.get B=some (.rows [[.ptr K 0 0]])
 b1:h.get (B+1)=some (.rows [[.int .i64 p.1,.int .i64 p.2.1,.int .i64 p.2.2.1,.int .i64 p.2.2.2.1,.int .i64 p.2.2.2.2.1,.int .i64 p.2.2.2.2.2]])
 b2:h.get (B+2)=some (.rows [[Lc.enc Sy.cells]])
 lb:B+2<h.n
 nb:∀i,i<3->B+i≠M1/\B+i≠M2/\B+i≠M3
theorem qvW(hx:EvS x)(hg:x.g.Fine)(n0:0<=n)(n1:n<x.g.p.l.length)(a0:0<=alt)(a1:alt<(lat x.g.p.l n.toNat).a.l.length)(hA:lat (lat x.g.p.l n.toNat).a.l alt.toNat=A){sym:Nat}{j:Int}(hsd:sym<=A.l.length)
  (htell:sym<A.l.length->∀(d:Bool) (mk:Nat) (h:Heap) (K M1 M2 M3 B:Nat) (Lc:Sl Sy),Lc.l=A.l.drop sym->BxC x K M1 M2 M3 B (n,alt,(sym:Int),j,u,q) Lc h->mk<=M1->mk<=M2->mk<=M3->mk<=B ->
   WF PR d mk (.fn 415 [] [.ptr (B+1) 0 0,.ptr (B+2) 0 0,.ptr B 0 0]) [] h λqq=>qq.v=intW (qvv x (n,alt,(sym:Int),j,u,q))/\CtC x K M1 M2 M3 qq.h/\Fr3 M1 M2 M3 h qq.h):qv9 x (n,alt,(sym:Int),j,u,q):=by
 intro d mk h K M1 M2 M3 hC m1 m2 m3;have hAm:A∈(lat x.g.p.l n.toNat).a.l:=by rw[<-hA]; exact qai (by omega)
 have hpm:lat x.g.p.l n.toNat∈x.g.p.l:=qai (by omega);have hAl:A.l.length<1000000000:=hx.g.s _ hpm A hAm;refine WF.go f404 b404 [.tm 4] rfl rfl rfl rfl rfl rfl ?_;unfold b404;have lk:=hC.lk;have z0:¬K=h.n:=by omega
 have z1:¬K=h.n+1:=by omega
 have z2:¬h.n=h.n+1:=by omega
 obtain⟨H,hH⟩:∃H,(h.push (.rows [[.ptr K 0 0]])).push (.rows [[.int .i64 n,.int .i64 alt,.int .i64 sym,.int .i64 j,.int .i64 u,.int .i64 q]])=H:=⟨_,rfl⟩;have hn:H.n=h.n+2:=by rw[<-hH]; simp
 have gk:∀i,i<h.n->H.get i=h.get i:=λi hi=>by rw[<-hH]; simp[show ¬i=h.n by omega,show ¬i=h.n+1 by omega]
 have b0:H.get h.n=some (.rows [[.ptr K 0 0]]):=by rw[<-hH]; simp
 have b1:H.get (h.n+1)=some (.rows [[.int .i64 n,.int .i64 alt,.int .i64 sym,.int .i64 j,.int .i64 u,.int .i64 q]]):=by rw[<-hH]; simp
 have hC2:=hC.keep (h':=H) (by omega) gk;obtain⟨P,hP⟩:∃P,lat x.g.p.l n.toNat=P:=⟨_,rfl⟩;rw[hP]at hA a1;obtain⟨Lc,hLc⟩:∃Lc,A.cut sym A.l.length=Lc:=⟨_,rfl⟩;have hLl:Lc.l=A.l.drop sym:=by rw[<-hLc,qqd,List.take_of_length_le (by simp)]
 have hcut:∀tm:Tm,(gK 22).run tm=.int .i64 sym->qaT 3 (cutK (some (Opd.t 22)) none none) tm (A.enc Sy.cells)=some (Lc.enc Sy.cells):=λtm ht=>by
  rw[<-hLc];refine qdD (λ_=>rfl) λfl=>?_;have hb:bnd ((sym:Nat):Int) A.l.length=some sym:=by simpa using qaY (n:=(sym:Int)) (top:=A.l.length) (by omega) (by omega)
  simp[ht,hb,qdl]
 simp -dsimp[qvz,-qnc];rw[hH,qnc];have m0:mk<=H.n:=by have:=hC.l1; omega
 have z3:¬h.n=H.n:=by omega
 have z4:¬h.n+1=H.n:=by omega
 have z5:¬K=H.n:=by omega
 simp -dsimp[b0,b1,hC2.k,qcT,n0,n1,hP,Pd.cells,a0,a1,hA,qaK,hcut,m0,z3,z4,z5];have hrp:qvv x (n,alt,(sym:Int),j,u,q)=qvs (qaN x q) (λn k u=>qvr x n k u q) x.w.l u Lc.l j:=by
  unfold qvv;simp only[Int.toNat_natCast];rw[hP,hA,hLl]
 obtain⟨H2,hH2⟩:∃H2,(H.push (.rows [[.nils]])).set H.n (.rows [[Lc.enc Sy.cells]])=H2:=⟨_,rfl⟩;have hn2:H2.n=h.n+3:=by rw[<-hH2]; simp[hn]
 have gk2:∀i,i<H.n->H2.get i=H.get i:=λi hi=>by rw[<-hH2,qBp,Jaa (by omega),qBq,Jaa (by omega)]
 have b2:H2.get H.n=some (.rows [[Lc.enc Sy.cells]]):=by rw[<-hH2,qBp,Jab rfl]
 have hC3:=hC2.keep (h':=H2) (by omega) gk2;have hF3:Fr3 M1 M2 M3 h H2:=.of (by omega) λi hi=>by rw[gk2 i (by omega),gk i hi]
 by_cases hem:Lc.l=[]
 ·rw[hem,qvs]at hrp;have hr2:intW (qvv x (n,alt,(sym:Int),j,u,q))=.int .i64 (if j=u then 1 else 0):=by
   rw[hrp]
   by_cases c:j=u
   ·rw[Jab c,Jab c]; rfl
   ·rw[Jaa c,Jaa c]; rfl
  rw[hr2]
  by_cases c:j=u
  ·simp -dsimp[hem,b1,z4,c];rw[hH2];exact⟨hC3,hF3⟩
  ·simp -dsimp[hem,b1,z4,c];rw[hH2];exact⟨hC3,hF3⟩
 ·simp -dsimp[hem,-qnc];rw[hH2,qnc];have g0:H2.get h.n=some (.rows [[.ptr K 0 0]]):=by rw[gk2 _ (by omega),b0]
  have g1:H2.get (h.n+1)=some (.rows [[.int .i64 n,.int .i64 alt,.int .i64 sym,.int .i64 j,.int .i64 u,.int .i64 q]]):=by rw[gk2 _ (by omega),b1]
  simp -dsimp[g0,g1,hC3.k,qcT];obtain⟨es,c,S,e1,e2,e3⟩:=hC3.m3;have hl1:=hC.l1;have hl2:=hC.l2;have hl3:=hC.l3;refine WFS.by (qvV (f:=414) (sz:=6) (z:=.int .i64 0) (kf:=qvz) (vf:=intW) (n,alt,(sym:Int),j,u,q) rfl rfl qv0 qv4 rfl rfl (by omega) e1 hC3.l3 e2 (Q:=λqq=>qq.v=intW (qvv x (n,alt,(sym:Int),j,u,q))/\CtC x K M1 M2 M3 qq.h/\Fr3 M1 M2 M3 H2 qq.h) ?_ ?_) ?_
  ·intro v h' hv hn' hk';exact⟨by rw[e3 _ _ hv],hC3.keep hn' hk',.of hn' hk'⟩
  ·intro h' hn' hk';have hC4:=hC3.keep (h':=h') (by omega) hk';have hlt:sym<A.l.length:=by
    rcases Nat.lt_or_eq_of_le hsd with c|c
    ·exact c
    ·exact absurd (by rw[hLl,c,List.drop_length]) hem
   have hB:BxC x K M1 M2 M3 h.n (n,alt,(sym:Int),j,u,q) Lc h':=⟨hC4,by rw[hk' _ (by omega),g0],by rw[hk' _ (by omega),g1],by rw[hk' _ (by omega),<-hn,b2],by omega,λi hi=>by omega⟩;have ht:=htell hlt true mk h' K M1 M2 M3 h.n Lc hLl hB m1 m2 m3 (by omega);rw[show h.n+2=H.n by omega]at ht;refine W.mono ht ?_;rintro⟨v,h5⟩ ⟨rfl,hC5,hF5⟩;simp only at hC5 hF5;obtain⟨es',c',S',f1,f2,f3⟩:=hC5.m3;refine⟨hF5.1,hF5.2 _ (by omega) (by omega) (by omega) (by omega),m3,qvv x (n,alt,(sym:Int),j,u,q),es',c',S',rfl,f1,f2,λgs c2 hg2=>⟨rfl,hC5.set3 (Kept.put hg2 f3 rfl),?_⟩⟩;have:=hF5.1;exact⟨by simp only[qBB]; omega,λi hi x1 x2 x3=>by rw[qBp,Jaa x3,hF5.2 i (by omega) x1 x2 x3,hk' i hi]⟩
  rintro v H3 ⟨rfl,hC4,hF4⟩;simp -dsimp;exact⟨hC4,hF3.trans hF4⟩
theorem Fr3.trans_lt{M1 M2 M3:Nat}{h h' h'':Heap}(a:Fr3 M1 M2 M3 h h')(hn:h'.n<=h''.n)(hk:∀i,i<h.n->h''.get i=h'.get i):Fr3 M1 M2 M3 h h'' :=
 ⟨Jaf a.1 hn,λi hi x1 x2 x3=>by rw[hk i hi,a.2 i hi x1 x2 x3]⟩
theorem CtC.upd{K M1 M2 M3 N:Nat}{h h':Heap}(hC:CtC x K M1 M2 M3 h)(hn:h.n<=h'.n)(h1:K≠N)(h2:M1≠N)(h3:M2≠N)(h4:M3≠N)(h5:x.w.m<=N)(hk:∀i,i<h.n->i≠N->h'.get i=h.get i):CtC x K M1 M2 M3 h':=by
 obtain⟨k,m1,m2,m3,lk,l1,l2,l3,d1,d2,d3,d4,d5,d6,wb,wk,w1,w2,w3⟩:=hC;exact⟨by rw[hk _ lk h1,k],m1.keep (hk _ l1 h2),m2.keep (hk _ l2 h3),m3.keep (hk _ l3 h4),by omega,by omega,by omega,by omega,d1,d2,d3,d4,d5,d6,wb.keep λi hi=>hk i (by omega) (by omega),wk,w1,w2,w3⟩
theorem qwe(hx:EvS x)(hg:x.g.Fine)(hr:∀p∈x.g.p.l,∀a∈p.a.l,∀s∈a.l,s.r.l.length<1500000)(hm:mayE x=true)(n0:0<=n)(n1:n<x.g.p.l.length)(a0:0<=alt)(a1:alt<(lat x.g.p.l n.toNat).a.l.length)(hA:lat (lat x.g.p.l n.toNat).a.l alt.toNat=A)
  (h0:0<=k0) (hask:∀i,i<A.l.length->(lat A.l i).kind=2->∀j,NowP x.g x.w.l (A.l.take i) k0 (j,0)->∀u,OfOK x (lat A.l i).n j u q) :
  ∀(dd sym:Nat) (j:Int),sym+dd=A.l.length->NowP x.g x.w.l (A.l.take sym) k0 (j,0)->qv9 x (n,alt,(sym:Int),j,u,q):=by
 intro dd;induction dd with
 | zero =>
  intro sym j hsd hnow;exact qvW hx hg n0 n1 a0 a1 hA (by omega) λh=>by omega
 | succ dd ih =>
  intro sym j hsd hnow;refine qvW hx hg n0 n1 a0 a1 hA (by omega) ?_;intro hlt d mk h K M1 M2 M3 B Lc hLl hB m1 m2 m3 mB;have hw:=qbq hm;have hAm:A∈(lat x.g.p.l n.toNat).a.l:=by rw[<-hA]; exact qai (by omega)
  have hpm:lat x.g.p.l n.toNat∈x.g.p.l:=qai (by omega);have hAl:A.l.length<1000000000:=hx.g.s _ hpm A hAm;obtain⟨s,hs⟩:∃s,lat A.l sym=s:=⟨_,rfl⟩;have hsm:s∈A.l:=by rw[<-hs]; exact qai hlt
  have hdr:=qbu hlt;rw[hs]at hdr;have hll:Lc.l.length=A.l.length-sym:=by rw[hLl,List.length_drop]
  have hia:qaw 3 (Lc.enc Sy.cells) (.int .i64 0)=some (.ptrR s.cells 0):=by
   have:=qap (f:=Sy.cells) (s:=Lc) (esz:=3) (k:=.i64) (n:=0) (by omega) (by omega) (λ_=>rfl);rw[this];have:lat Lc.l (0:Int).toNat=s:=by rw[hLl,hdr]; rfl
   rw[this]
  have hrp:qvv x (n,alt,(sym:Int),j,u,q)=qvs (qaN x q) (λn k u=>qvr x n k u q) x.w.l u (s::A.l.drop (sym+1)) j:=by
   unfold qvv;simp only[Int.toNat_natCast];rw[hA,hdr]
  obtain⟨z,hz⟩:∃z:Int,((sym+1:Nat):Int)=z:=⟨_,rfl⟩;have hrp2:∀j',qvv x (n,alt,z,j',u,q)=qvs (qaN x q) (λn k u=>qvr x n k u q) x.w.l u (A.l.drop (sym+1)) j':=λj'=>by
   rw[<-hz];unfold qvv;simp only[Int.toNat_natCast];rw[hA]
  have htk:A.l.take (sym+1)=A.l.take sym++[s]:=by rw[Jap,qaz hlt,hs]; rfl
  have hsy:s.kind=2->0<=s.n/\s.n<x.g.p.l.length:=λhk=>qcD hw hAm s hsm hk;refine WF.go f415 b415 [.tm 3] rfl rfl rfl rfl rfl rfl ?_;unfold b415;obtain⟨hC,b0,b1,b2,lb,nb⟩:=hB;simp only at b1;have lk:=hC.lk;have m0:mk<=h.n:=by omega
  obtain⟨H,hH⟩:∃H,((h.push (.rows [[.int .i64 0,.int .i64 0,.int .i64 0,.int .i64 0,.int .i64 0,.int .i64 0]])).set h.n (.rows [[.int .i64 n,.int .i64 alt,.int .i64 sym,.int .i64 j,.int .i64 u,.int .i64 q]])).set h.n (.rows [[.int .i64 n,.int .i64 alt,.int .i64 z,.int .i64 j,.int .i64 u,.int .i64 q]])=H:=⟨_,rfl⟩;have hn:H.n=h.n+1:=by rw[<-hH]; simp
  have gk:∀i,i<h.n->H.get i=h.get i:=λi hi=>by rw[<-hH,qBp,Jaa (by omega),qBp,Jaa (by omega),qBq,Jaa (by omega)]
  have gN:H.get h.n=some (.rows [[.int .i64 n,.int .i64 alt,.int .i64 z,.int .i64 j,.int .i64 u,.int .i64 q]]):=by rw[<-hH,qBp,Jab rfl]
  have hC2:=hC.keep (h':=H) (by omega) gk;have c0:H.get B=some (.rows [[.ptr K 0 0]]):=by rw[gk _ (by omega),b0]
  have c1:H.get (B+1)=some (.rows [[.int .i64 n,.int .i64 alt,.int .i64 sym,.int .i64 j,.int .i64 u,.int .i64 q]]):=by rw[gk _ (by omega),b1]
  have c2:H.get (B+2)=some (.rows [[Lc.enc Sy.cells]]):=by rw[gk _ (by omega),b2]
  simp -dsimp[-qar,b1,m0];rw[qar];simp -dsimp[-qar,b1,m0];rw[qar];simp -dsimp[-qar,b1,m0];rw[qar];simp -dsimp[-qar,m0,fw64 (n:=(sym:Int)+1) (by omega) (by omega)];rw[show((sym:Int)+1)=z by omega,hH,qar];simp -dsimp[-qar,-qnc,c2,hia,Sy.cells];rw[qaa];refine⟨λhk=>?_,λhk=>?_⟩
  ·have hk2:¬s.kind=2:=by simpa using hk
   have hsc:[V.int IntKind.i64 s.kind,s.r.enc Rg.cells,V.int IntKind.i64 s.n]=s.cells:=rfl;simp -dsimp[c0,c1,c2,hia,Sy.cells,hC2.k,qcT];rw[hsc];refine WFS.by (qnn s hC2.wb (by have:=hC2.wk; omega) j (hr _ hpm A hAm s hsm) (by have:=hx.w; omega)) ?_
   intro v' h' e;cases e;simp -dsimp;rw[qaa];refine⟨λhd=>?_,λhd=>?_⟩
   ·have hm0:¬0<qbr s x.w.l j:=by simpa using hd
    rw[qvs,Jaa hk2,Jaa hm0]at hrp;simp -dsimp;rw[hrp];exact⟨rfl,hC2,.of (by omega) gk⟩
   ·have hm0:0<qbr s x.w.l j:=by simpa using hd
    have hmr:=qdJ hm0;have hww:=hx.w;rw[qvs,Jaa hk2,Jab hm0,<-hrp2]at hrp;have hnow2:NowP x.g x.w.l (A.l.take (sym+1)) k0 (j+qbr s x.w.l j,0):=by rw[htk]; exact qvA h0 hk2 hnow hm0
    have hI:=ih (sym+1) (j+qbr s x.w.l j) (by omega) hnow2;rw[hz]at hI;obtain⟨H2,hH2⟩:∃H2,H.set h.n (.rows [[.int .i64 n,.int .i64 alt,.int .i64 z,.int .i64 (j+qbr s x.w.l j),.int .i64 u,.int .i64 q]])=H2:=⟨_,rfl⟩;have gk2:∀i,i<h.n->H2.get i=h.get i:=λi hi=>by rw[<-hH2,qBp,Jaa (by omega),gk i hi]
    have gN2:H2.get h.n=some (.rows [[.int .i64 n,.int .i64 alt,.int .i64 z,.int .i64 (j+qbr s x.w.l j),.int .i64 u,.int .i64 q]]):=by rw[<-hH2,qBp,Jab rfl]
    have hn2:H2.n=h.n+1:=by rw[<-hH2]; simpa using hn
    have hC3:=hC.keep (h':=H2) (by omega) gk2;have d0:H2.get B=some (.rows [[.ptr K 0 0]]):=by rw[gk2 _ (by omega),b0]
    simp -dsimp[-qar];rw[qar];simp -dsimp[-qar,gN,m0,fw64 (n:=j+qbr s x.w.l j) (by omega) (by omega)];rw[hH2,qar];simp -dsimp[d0,gN2];refine WFS.by (hI d mk H2 K M1 M2 M3 hC3 m1 m2 m3) ?_
    rintro v H3 ⟨rfl,hC4,hF4⟩;simp only at hC4 hF4;simp -dsimp;rw[hrp];exact⟨rfl,hC4,(Fr3.of (by omega) gk2).trans hF4⟩
  ·have hk2:s.kind=2:=by simpa using hk
   obtain⟨s0,s1⟩:=hsy hk2;have j0:0<=j:=by have:=hnow.1; simp only at this; omega
   have j1:j<=x.w.l.length:=hnow.2.1;simp -dsimp[c0,c1,c2,hia,Sy.cells,hC2.k,qcT];refine WFS.by (qwj hx hg hr hC2 m1 s.n j q) ?_
   rintro v H3 ⟨rfl,hC3,hF3⟩;simp only at hC3 hF3;rw[qqO hm s0 s1 j0 j1];obtain⟨E,hE⟩:∃E,(qaL x s.n j q).2=E:=⟨_,rfl⟩;rw[hE];have hEl:E.length<=201:=by rw[<-hE]; exact qly hm s0 s1 j0 j1
   have hEin:∀e∈E,EndP x.g x.w.l s.n j e:=λe he=>(qbf hw s0 s1 j0 j1).2 e (by rw[hE]; exact he);have hErise:E.Pairwise (λa b=>a.1<b.1):=by rw[<-hE]; exact(qc3 hw s0 s1 j0 j1).2
   obtain⟨f,hf⟩:∃f:En->Nat,(λe=>qvs (qaN x q) (λn k u=>qvr x n k u q) x.w.l u (A.l.drop (sym+1)) e.1 * qvr x s.n j e.1 q)=f:=⟨_,rfl⟩;have hfe:∀e,f e=qvs (qaN x q) (λn k u=>qvr x n k u q) x.w.l u (A.l.drop (sym+1)) e.1 * qvr x s.n j e.1 q:=λe=>by rw[<-hf]
   have hrs:qvv x (n,alt,(sym:Int),j,u,q)=(E.map f).sum:=by
    rw[hrp,qvs,Jab hk2,<-hE,<-hf];rfl
   have hnow2:∀e∈E,NowP x.g x.w.l (A.l.take (sym+1)) k0 (e.1,0):=λe he=>by
    rw[htk];exact qvO (L:=λ_ _=>E) h0 s0 hk2 hEin hnow he
   have hzero:∀e∈E,u<e.1->f e=0:=λe he hu=>by
    rw[hfe,qvP (g:=x.g) (k0:=k0) h0 _ (A.l.take (sym+1)) e.1 (λt ht hkt=>(qcD hw hAm t (List.mem_of_mem_drop ht) hkt).1) (λi hi hki j' hj'=>?_) (hnow2 e he) hu,Nat.zero_mul];have hi2:sym+1+i<A.l.length:=by rw[List.length_drop]at hi; omega
    have hle:lat (A.l.drop (sym+1)) i=lat A.l (sym+1+i):=by rw[lat_eq hi,lat_eq hi2,List.getElem_drop]
    rw[hle]at hki ⊢;rw[<-List.take_add]at hj';have hlm:=qai hi2;have:=qcD hw hAm _ hlm hki;have h1:=hj'.1;have h2:=hj'.2.1;simp only at h1 h2;exact(qbf hw this.1 this.2 (by omega) h2).2
   have hF:Fr3 M1 M2 M3 h H3:=(Fr3.of (by omega) gk).trans hF3;have hF3n:=hF3.1;have gN3:H3.get h.n=some (.rows [[.int .i64 n,.int .i64 alt,.int .i64 z,.int .i64 j,.int .i64 u,.int .i64 q]]):=by
    have:=hC.l1; have:=hC.l2; have:=hC.l3
    rw[hF3.2 _ (by omega) (by omega) (by omega) (by omega),gN]
   have hend:∀H,lenV .sl (qvF E) H=some (.int .i64 E.length):=λH=>by unfold qvF; simp
   simp -dsimp[hend];refine qvg (λo st=>o=.normal/\(gK 7).run st.tm=intW (qvv x (n,alt,(sym:Int),j,u,q))/\CtC x K M1 M2 M3 st.h/\Fr3 M1 M2 M3 h st.h/\st.defs=[]) ?_ ?_;rotate_left
   ·rintro o ⟨tm,H4,defs,round⟩ ⟨rfl,t7,hC4,hF4,rfl⟩;simp only at t7 hC4 hF4;simp -dsimp[t7];exact⟨hC4,hF4⟩
   refine qaf (λk st=>∃(i:Nat) (fr:Int),i+k=E.length/\(gK 57).run st.tm=.int .i64 i/\(gK 7).run st.tm=.int .i64 (cap2 (pSum f E i))/\CtC x K M1 M2 M3 st.h/\Fr3 M1 M2 M3 h st.h/\h.n+1<=st.h.n /\
    st.h.get h.n=some (.rows [[.int .i64 n,.int .i64 alt,.int .i64 z,.int .i64 fr,.int .i64 u,.int .i64 q]])/\st.defs=[]) E.length
    ⟨0,j,by omega,by simp,by simp[qvQ]; rfl,hC3,hF,by simp only; omega,gN3,rfl⟩ ?_
   rintro k ⟨tm,H4,defs,round⟩ ⟨i,fr,hi,t57,t7,hC4,hF4,hn4,gN4,rfl⟩ hK';have t0:=hK' 0 rfl;have t1:=hK' 1 rfl;have t2:=hK' 2 rfl;have t4:=hK' 4 rfl;have t55:=hK' 55 rfl;have t56:=hK' 56 rfl;simp at t0 t1 t2 t4 t55 t56 t57 t7;simp only at hC4 hF4 hn4 gN4;clear hK';simp -dsimp[t57,t56];rw[qaa];refine⟨λhc=>?_,λhc=>?_⟩;rotate_left
   ·have e1:i=E.length:=by simp at hc; omega
    subst e1;rw[qvM,<-hrs]at t7;simp -dsimp[t7];exact⟨rfl,hC4,hF4⟩
   have e1:i<E.length:=by simpa using hc
   obtain⟨e,he⟩:∃e,lat E i=e:=⟨_,rfl⟩;have hem:e∈E:=by rw[<-he]; exact qai e1
   have hie:qaw 2 (qvF E) (.int .i64 i)=some (.ptrR (qad e) 0):=by
    have:=qap (f:=qad) (s:=slE E) (esz:=2) (k:=.i64) (n:=(i:Int)) (by omega) (by simp; omega) (λ_=>rfl);unfold qvF;rw[this]; simp[he]
   have l1:=hC.l1;have l2:=hC.l2;have l3:=hC.l3;obtain⟨H5,hH5⟩:∃H5,((H4.push (.rows [[.int .i64 0,.int .i64 0]])).set H4.n (.rows [[.int .i64 e.1,.int .i64 e.2]])).set h.n (.rows [[.int .i64 n,.int .i64 alt,.int .i64 z,.int .i64 e.1,.int .i64 u,.int .i64 q]])=H5:=⟨_,rfl⟩;have n5:H5.n=H4.n+1:=by rw[<-hH5]; simp
   have gk5:∀i,i<H4.n->i≠h.n->H5.get i=H4.get i:=λi hi hne=>by rw[<-hH5,qBp,Jaa hne,qBp,Jaa (by omega),qBq,Jaa (by omega)]
   have gN5:H5.get h.n=some (.rows [[.int .i64 n,.int .i64 alt,.int .i64 z,.int .i64 e.1,.int .i64 u,.int .i64 q]]):=by rw[<-hH5,qBp,Jab rfl]
   have gE5:H5.get H4.n=some (.rows [[.int .i64 e.1,.int .i64 e.2]]):=by rw[<-hH5,qBp,Jaa (by omega),qBp,Jab rfl]
   have hF5:Fr3 M1 M2 M3 h H5:=hF4.trans_lt (by omega) λi hi=>gk5 i (by have:=hF4.1; omega) (by omega);have hC5:CtC x K M1 M2 M3 H5:=hC4.upd (by omega) (by omega) (by omega) (by omega) (by omega) (by have:=hC.wk; omega) gk5;have b5:H5.get B=some (.rows [[.ptr K 0 0]]):=by
    have:=nb 0 (by omega);rw[Nat.add_zero]at this;rw[hF5.2 _ (by omega) this.1 this.2.1 this.2.2,b0]
   have b15:H5.get (B+1)=some (.rows [[.int .i64 n,.int .i64 alt,.int .i64 sym,.int .i64 j,.int .i64 u,.int .i64 q]]):=by
    have:=nb 1 (by omega);rw[hF5.2 _ (by omega) this.1 this.2.1 this.2.2,b1]
   have b25:H5.get (B+2)=some (.rows [[Lc.enc Sy.cells]]):=by
    have:=nb 2 (by omega);rw[hF5.2 _ (by omega) this.1 this.2.1 this.2.2,b2]
   have m4:mk<=H4.n:=by omega
   have y1:¬h.n=H4.n:=by omega
   simp -dsimp[-qar];rw[qar];simp -dsimp[-qar,t57,t55,hie,qad,m4];rw[qar];simp -dsimp[-qar,t4,m0,gN4,y1];rw[hH5,qar];simp -dsimp[-qar,-qnc,gE5,t0,b15];have hps:=qvE f e1;rw[he]at hps;rw[qaa];refine⟨λhd=>?_,λhd=>?_⟩
   ·have hu:u<e.1:=by simpa using hd
    have hstop:pSum f E i=(E.map f).sum:=by
     have:=qvR f (l:=E) (i:=i) (λj' hj1 hj2=>hzero _ (qai hj2) (by
      rcases Nat.lt_or_eq_of_le hj1 with c|c
      ·have:=List.pairwise_iff_getElem.1 hErise i j' e1 hj2 c;rw[<-lat_eq e1,<-lat_eq hj2,he]at this;omega
      ·rw[<-c,he]; exact hu)) (E.length-i) (by omega)
     rw[show i+(E.length-i)=E.length by omega,qvM]at this;exact this.symm
    rw[hstop,<-hrs]at t7;simp -dsimp[t7];exact⟨rfl,hC5,hF5⟩
   have hue:¬u<e.1:=by simpa using hd
   simp -dsimp[-qnc,t2,b5,t4,gN5];have hI:=ih (sym+1) e.1 (by omega) (hnow2 e hem);rw[hz]at hI;refine WFS.by (hI d mk H5 K M1 M2 M3 hC5 m1 m2 m3) ?_
   rintro v H6 ⟨rfl,hC6,hF6⟩;simp only at hC6 hF6;rw[hrp2];obtain⟨R,hR⟩:∃R,qvs (qaN x q) (λn k u=>qvr x n k u q) x.w.l u (A.l.drop (sym+1)) e.1=R:=⟨_,rfl⟩;have hfe2:=hfe e;rw[hR]at hfe2;rw[hR];have hF6':=hF5.trans hF6;have n6:=hF6.1;have gN6:H6.get h.n=some (.rows [[.int .i64 n,.int .i64 alt,.int .i64 z,.int .i64 e.1,.int .i64 u,.int .i64 q]]):=by rw[hF6.2 _ (by omega) (by omega) (by omega) (by omega),gN5]
   have l41:=hC4.l1;have l42:=hC4.l2;have l43:=hC4.l3;have gE6:H6.get H4.n=some (.rows [[.int .i64 e.1,.int .i64 e.2]]):=by rw[hF6.2 _ (by omega) (by omega) (by omega) (by omega),gE5]
   have b6:H6.get B=some (.rows [[.ptr K 0 0]]):=by
    have:=nb 0 (by omega);rw[Nat.add_zero]at this;rw[hF6'.2 _ (by omega) this.1 this.2.1 this.2.2,b0]
   have b16:H6.get (B+1)=some (.rows [[.int .i64 n,.int .i64 alt,.int .i64 sym,.int .i64 j,.int .i64 u,.int .i64 q]]):=by
    have:=nb 1 (by omega);rw[hF6'.2 _ (by omega) this.1 this.2.1 this.2.2,b1]
   have b26:H6.get (B+2)=some (.rows [[Lc.enc Sy.cells]]):=by
    have:=nb 2 (by omega);rw[hF6'.2 _ (by omega) this.1 this.2.1 this.2.2,b2]
   have hcR:=qvu R;have hcO:=qvu (pSum f E i);have hiw:fw .i64 ((i:Int)+1)=((i+1:Nat):Int):=by rw[fw64 (by omega) (by omega)]; rfl
   simp -dsimp[-qnc,intW];rw[qaa];refine⟨λhp=>?_,λhp=>?_⟩
   ·have hp1:0<cap2 R:=by simpa using hp
    simp -dsimp[t7,t2,b6,t1,b26,hia,Sy.cells,t0,b16,gE6];have hO:=hask sym hlt (by rw[hs]; exact hk2) j hnow e.1;rw[hs]at hO;refine WFS.by (hO _ mk H6 K M1 M2 M3 hC6 m1 m2 m3) ?_
    rintro v H7 ⟨rfl,hC7,hF7⟩;simp only at hC7 hF7;have hcT:=qvu (qvr x s.n j e.1 q);have hmul:0<=cap2 R * cap2 (qvr x s.n j e.1 q)/\cap2 R * cap2 (qvr x s.n j e.1 q)<=4:=by
     refine⟨Int.mul_nonneg hcR.1 hcT.1,?_⟩;have:=Int.mul_le_mul hcR.2 hcT.2 hcT.1 (by omega:(0:Int)<=2);omega
    simp -dsimp[intW,fw64 (n:=cap2 R * cap2 (qvr x s.n j e.1 q)) (by omega) (by omega)];refine WFS.by (qwh (cap2 (pSum f E i)) (cap2 R * cap2 (qvr x s.n j e.1 q)) (by omega) (by omega)) ?_
    intro v H8 e8;cases e8;have hnew:min (cap2 (pSum f E i)+cap2 R * cap2 (qvr x s.n j e.1 q)) 2=cap2 (pSum f E (i+1)):=by
     rw[hps,hfe2,qvZ,qwg];omega
    simp -dsimp[hnew,t57,hiw];have n7:=hF7.1;refine qah.intro (k-1) (by omega) ⟨i+1,e.1,by omega,by simp,by simp,hC7,hF6'.trans hF7,by simp only; omega,?_,rfl⟩;rw[hF7.2 _ (by omega) (by omega) (by omega) (by omega),gN6]
   ·have hp1:R=0:=by
     have:¬0<cap2 R:=by simpa using hp
     unfold cap2 at this;omega
    have hnew:pSum f E (i+1)=pSum f E i:=by rw[hps,hfe2,hp1,Nat.zero_mul,Nat.add_zero]
    simp -dsimp[t57,hiw];exact qah.intro (k-1) (by omega) ⟨i+1,e.1,by omega,by simp,by simp[t7,hnew],hC6,hF6',by simp only; omega,gN6,rfl⟩
end
def ltI:List Int->List Int->Bool
 | [],[]=>false
 | [],_::_=>true
 | _::_,[]=>false
 | a::l,b::m=>decide (a<b)||(decide (a=b)&&ltI l m)
def cmpI(l m:List Int):Int:=if ltI l m=true then -1 else if ltI m l=true then 1 else 0
theorem qvk{l m:List Int}:decide (cmpI l m<0)=ltI l m:=by
 unfold cmpI;cases h:ltI l m with
 | true=>simp
 | false =>
  simp only[Jan,if_false,Jaq];split<;>omega
def quw(g:Gr)(a b:List Nd):Bool:=mayB g&&ltI (qum g a) (qum g b)
theorem qve{g:Gr}{y:Nd}:(numN g y).length<=2:=by unfold numN; split<;>simp
theorem quA{g:Gr}:∀(l:List Nd),(qum g l).length<=2 * l.length
 | []=>by simp[qum]
 | y::l=>by
  have h1:=quA (g:=g) l;have h2:=qve (g:=g) (y:=y);have e:qum g (y::l)=numN g y++qum g l:=rfl;rw[e,Jao,List.length_cons];omega
def qwn:Int:=1099511627776
def badC(L:Look)(w:List UInt8)(u:Int):List Sy->Int->Int
 | [],k=>if k=u then 0 else qwn
 | s::ss,k=>if s.kind=2 then(L s.n k).foldl (λo e=>min o (e.2+badC L w u ss e.1)) qwn else if 0<qbr s w k then badC L w u ss (k+qbr s w k)else qwn
def qwt(g:Gr)(f:En->List Nd)(ok:En->Bool):List En->Option (List Nd × En)->Option (List Nd × En)
 | [],b=>b
 | e::l,b=>qwt g f ok l (if ok e=true then(match b with
   | none=>some (f e,e)
   | some c=>if quw g (f e) c.1=true then some (f e,e)else b)else b)
def qwp(g:Gr)(L:Look)(T:Int->Int->Int->Int->List Nd)(w:List UInt8)(u:Int):List Sy->Int->Int->List Nd
 | [],_,_=>[]
 | s::ss,k,b=>if s.kind=2 then(match qwt g (λe=>T s.n k e.1 e.2) (λe=>decide (e.2+badC L w u ss e.1=b)) (L s.n k) none with
   | some c=>c.1++qwp g L T w u ss c.2.1 (b-c.2.2)
   | none=>[])else if 0<qbr s w k then qwp g L T w u ss (k+qbr s w k) b else []
noncomputable def qwq (x:Ev) (n k u r:Int):Bool:=qbp x n k u r&&(!bitB (lat x.g.p.l n.toNat).marks 1||decide (((qaL x n k r).1.getLast?.map (·.1))=some u))
noncomputable def qwx (x:Ev):Nat->Int->Int->Int->Int->Int->List Nd
 | 0,_,_,_,_,_=>[]
 | m+1,n,k,u,r,b =>
  if 0<=idxP (λa=>qwq x n k u r&&decide (badC (qaN x (refV x n k r)) x.w.l u a.l k=b)) (lat x.g.p.l n.toNat).a.l 0 then
   (n,idxP (λa=>qwq x n k u r&&decide (badC (qaN x (refV x n k r)) x.w.l u a.l k=b)) (lat x.g.p.l n.toNat).a.l 0,k,u) ::
    qwp x.g (qaN x (refV x n k r)) (λn' k' u' b'=>qwx x m n' k' u' (refV x n k r) b') x.w.l u (lat (lat x.g.p.l n.toNat).a.l (idxP (λa=>qwq x n k u r&&decide (badC (qaN x (refV x n k r)) x.w.l u a.l k=b)) (lat x.g.p.l n.toNat).a.l 0).toNat).l k b
  else [(n,(lat x.g.p.l n.toNat).a.l.length,k,u)]
noncomputable def lstN (x:Ev) (n k u r b:Int):List Nd:=qwx x (muN x.g x.w.l n k+1) n k u r b
theorem qww{α : Type}{p : α->Bool}:∀{l:List α}{i:Int},0<=i->0<=idxP p l i->i<=idxP p l i/\idxP p l i<i+l.length
 | [],i,_,h=>by simp[idxP]at h
 | a::l,i,h0,h=>by
  rw[idxP]at h ⊢;simp only[List.length_cons];split
  ·omega
  ·rename_i hp;rw[Jaa hp]at h;have:=qww (l:=l) (i:=i+1) (by omega) h;omega
theorem qwH{α : Type}{p : α->Bool}{l:List α}(h:0<=idxP p l 0):(idxP p l 0).toNat<l.length:=by
 have:=qww (l:=l) (i:=0) (Int.le_refl 0) h;omega
theorem qwF{g:Gr}{f f':En->List Nd}{ok:En->Bool}:∀(l:List En) (b:Option (List Nd × En)),(∀e∈l,f e=f' e)->qwt g f ok l b=qwt g f' ok l b
 | [],_,_=>rfl
 | e::l,b,h=>by
  simp only[qwt,h e (by simp)];exact qwF l _ λe he=>h e (by simp[he])
theorem qwu{g:Gr}{f:En->List Nd}{ok:En->Bool}:∀(l:List En) (b:Option (List Nd × En)) (c:List Nd × En),qwt g f ok l b=some c->b=some c\/(c.2∈l/\ok c.2=true/\c.1=f c.2)
 | [],b,c,h=>.inl h
 | e::l,b,c,h=>by
  simp only[qwt]at h;rcases qwu l _ c h with h|⟨h1,h2,h3⟩
  ·split at h
   ·rename_i hok;split at h
    ·cases h; exact .inr ⟨by simp,hok,rfl⟩
    ·split at h
     ·cases h; exact .inr ⟨by simp,hok,rfl⟩
     ·exact .inl h
   ·exact .inl h
  ·exact .inr ⟨by simp[h1],h2,h3⟩
theorem qwv{g:Gr}{w:List UInt8}{L:Look}{k0:Int}{T T':Int->Int->Int->Int->List Nd}{u:Int}(h0:0<=k0):∀(m l:List Sy) (k b:Int),(∀s∈m,s.kind=2->0<=s.n)->(∀i,i<m.length->(lat m i).kind=2->∀j,NowP g w (l++m.take i) k0 (j,0)->(∀u' b',T (lat m i).n j u' b'=T' (lat m i).n j u' b')/\∀f∈L (lat m i).n j,EndP g w (lat m i).n j f) ->
  NowP g w l k0 (k,0)->qwp g L T w u m k b=qwp g L T' w u m k b
 | [],_,_,_,_,_,_=>rfl
 | s::m,l,k,b,hs,hC,h=>by
  have h1:∀k' b',NowP g w (l++[s]) k0 (k',0)->qwp g L T w u m k' b'=qwp g L T' w u m k' b':=λk' b' hk' =>
   qwv h0 m (l++[s]) k' b' (λt ht=>hs t (by simp[ht])) (λi hi hk j hj=>hC (i+1) (by simp; omega) (by simpa[lat]using hk) j (by simpa using hj)) hk'
  rw[qwp,qwp];split
  ·rename_i hk;obtain⟨e1,e2⟩:=hC 0 (by simp) (by simpa[lat]using hk) k (by simpa using h);rw[show lat (s::m) 0=s from rfl]at e1 e2;rw[qwF (f':=λe=>T' s.n k e.1 e.2) (L s.n k) none (λe _=>e1 e.1 e.2)];split
   ·rename_i c hc;rcases qwu _ _ _ hc with h2|⟨h2,_,_⟩
    ·cases h2
    ·rw[h1 _ _ (qvO h0 (hs s (by simp) hk) hk e2 h h2)]
   ·rfl
  ·split
   ·rename_i hk hm;exact h1 _ _ (qvA h0 hk h hm)
   ·rfl
section
variable {x:Ev}(hx:EvW x)
include hx
theorem qwC:∀(m:Nat) (n k u r b:Int),muN x.g x.w.l n k<m->0<=n->n<x.g.p.l.length->0<=k->k<=x.w.l.length->∀m',muN x.g x.w.l n k<m'->qwx x m' n k u r b=qwx x m n k u r b:=by
 intro m;induction m with
 | zero=>intro _ _ _ _ _ h; omega
 | succ m ih =>
  intro n k u r b hmu n0 n1 k0 k1 m' hm';obtain⟨m2,rfl⟩:∃m2,m'=m2+1:=⟨m'-1,by omega⟩;rw[qwx,qwx];split
  ·rename_i hi;congr 1;have hlt:=qwH hi;have ha:=qai hlt;refine qwv (g:=x.g) k0 _ [] k b (λs hs hk=>(qcD hx ha s hs hk).1) (λi hi hk j hj=>?_) ⟨Int.le_refl _,k1,by simp,λ_=>.nil⟩;obtain⟨q1,q2,q3,q4,q5⟩:=qvT hx n0 k0 k1 ha hi hk (by simpa using hj);simp only at q1 q4 q5;exact⟨λu' b'=>ih _ _ _ _ _ (by omega) q2 q3 q4 q5 m2 (by omega),(qbf hx q2 q3 q4 q5).2⟩
  ·rfl
noncomputable def altL (x:Ev) (n k u r b:Int):Int:=idxP (λa=>qwq x n k u r&&decide (badC (qaN x (refV x n k r)) x.w.l u a.l k=b)) (lat x.g.p.l n.toNat).a.l 0
theorem qw2{n k:Int}(u r b:Int)(n0:0<=n)(n1:n<x.g.p.l.length)(k0:0<=k)(k1:k<=x.w.l.length) :
  lstN x n k u r b=if 0<=altL x n k u r b then(n,altL x n k u r b,k,u)::qwp x.g (qaN x (refV x n k r)) (λn' k' u' b'=>lstN x n' k' u' (refV x n k r) b') x.w.l u (lat (lat x.g.p.l n.toNat).a.l (altL x n k u r b).toNat).l k b
   else [(n,(lat x.g.p.l n.toNat).a.l.length,k,u)]:=by
 unfold lstN;rw[qwx];show(if 0<=altL x n k u r b then _ else _)=_;split
 ·rename_i hi;show(n,altL x n k u r b,k,u)::_=_;congr 1;have hlt:(altL x n k u r b).toNat<(lat x.g.p.l n.toNat).a.l.length:=qwH hi;have ha:=qai hlt;refine qwv (g:=x.g) k0 _ [] k b (λs hs hk=>(qcD hx ha s hs hk).1) (λi hi hk j hj=>?_) ⟨Int.le_refl _,k1,by simp,λ_=>.nil⟩;obtain⟨q1,q2,q3,q4,q5⟩:=qvT hx n0 k0 k1 ha hi hk (by rw[List.nil_append]at hj; exact hj);simp only at q1 q4 q5;exact⟨λu' b'=>qwC hx _ _ _ _ _ _ (Nat.lt_succ_self _) q2 q3 q4 q5 _ q1,(qbf hx q2 q3 q4 q5).2⟩
 ·rfl
end
def intI(n:Int):V:=.int .i64 n
def NdX(X:Nat->Prop)(h:Heap)(v:V)(l:List Nd):Prop:=(∃s:Sl Nd,v=s.enc qui/\s.l=l) \/
 ∃id lo f rs,v=.sl id lo l.length 4 f/\h.get id=some (.rows rs)/\lo+l.length<=rs.length/\(rs.drop lo).take l.length=l.map qui/\id<h.n/\¬X id
theorem NdX.ndb{X:Nat->Prop}{h:Heap}{v:V}{l:List Nd}(hw:NdX X h v l):NdB h ⟨v,l,h.n⟩:=by
 rcases hw with a|⟨id,lo,f,rs,a,b,c,d,e,_⟩
 ·exact .inl a
 ·exact .inr ⟨id,lo,f,rs,a,b,c,d,e⟩
theorem NdX.fr{X X':Nat->Prop}{h h':Heap}{v:V}{l:List Nd}(hw:NdX X h v l)(hn:h.n<=h'.n)(hk:∀i rs,i<h.n->¬X i->h.get i=some (.rows rs)->h'.get i=some (.rows rs))(hX:∀i,i<h.n->X' i->X i):NdX X' h' v l:=by
 rcases hw with a|⟨id,lo,f,rs,a,b,c,d,e,g⟩
 ·exact .inl a
 ·exact .inr ⟨id,lo,f,rs,a,hk id rs e g b,c,d,by omega,λhx=>g (hX id e hx)⟩
noncomputable def bdS (x:Ev) (p:Spn):Int:=(((qaL x p.1 p.2.1 p.2.2.1).2.find? λe=>decide (e.1=p.2.2.2)).map (·.2)).getD 0
noncomputable def lstS (x:Ev) (p:Spn):List Nd:=lstN x p.1 p.2.1 p.2.2.2 p.2.2.1 (bdS x p)
noncomputable def badP (x:Ev) (p:Pls):Int:=badC (qaN x p.2.2.2.2.2) x.w.l p.2.2.2.2.1 ((lat (lat x.g.p.l p.1.toNat).a.l p.2.1.toNat).l.drop p.2.2.1.toNat) p.2.2.2.1
def qwL(x:Ev)(M:Nat)(X:Nat->Prop)(h:Heap):Prop:=∃es c S,h.get M=some (.map es c)/\MapR qvL (λv:V=>v) es S/\∀p v,qaS p S=some v->NdX X h v (lstS x p)
theorem qwL.fr{x:Ev}{M:Nat}{X X':Nat->Prop}{h h':Heap}(hw:qwL x M X h)(hM:h'.get M=h.get M)(hn:h.n<=h'.n)(hk:∀i rs,i<h.n->¬X i->h.get i=some (.rows rs)->h'.get i=some (.rows rs))(hX:∀i,i<h.n->X' i->X i):qwL x M X' h':=by
 obtain⟨es,c,S,a,b,e⟩:=hw;exact⟨es,c,S,by rw[hM,a],b,λp v hv=>(e p v hv).fr hn hk hX⟩
structure CtL (x:Ev) (K M1 M2 M3:Nat) (X:Nat->Prop) (h:Heap):Prop where
 k:h.get K=some (.rows [[x.g.p.enc Pd.cells,x.g.keys.enc qac,x.w.v,.int .i64 x.tab,.bool x.heal,.map M1,.map M2,.map M3]])
 m1:Kept qme qvF (λp=>(ofE x p.1 p.2.1 p.2.2).2) M1 h
 m2:Kept qvz intI (badP x) M2 h
 m3:qwL x M3 X h
 lk:K<h.n
 l1:M1<h.n
 l2:M2<h.n
 l3:M3<h.n
 d1:K≠M1
 d2:K≠M2
 d3:K≠M3
 d4:M1≠M2
 d5:M1≠M3
 d6:M2≠M3
 wb:WB h x.w
 wk:x.w.m<=K
 w1:x.w.m<=M1
 w2:x.w.m<=M2
 w3:x.w.m<=M3
section
variable {x:Ev}{K M1 M2 M3:Nat}{X X':Nat->Prop}{h h':Heap}
theorem CtL.keep(hC:CtL x K M1 M2 M3 X h)(hn:h.n<=h'.n)(hk:∀i,i<h.n->h'.get i=h.get i)(hX:∀i,i<h.n->X' i->X i):CtL x K M1 M2 M3 X' h':=by
 obtain⟨k,m1,m2,m3,lk,l1,l2,l3,d1,d2,d3,d4,d5,d6,wb,wk,w1,w2,w3⟩:=hC;exact⟨by rw[hk _ lk,k],m1.keep (hk _ l1),m2.keep (hk _ l2),m3.fr (hk _ l3) hn (λi rs hi _ e=>by rw[hk i hi,e]) hX,by omega,by omega,by omega,by omega,d1,d2,d3,d4,d5,d6,wb.keep λi hi=>hk i (by omega),wk,w1,w2,w3⟩
theorem CtL.less(hC:CtL x K M1 M2 M3 X h)(hX:∀i,i<h.n->X' i->X i):CtL x K M1 M2 M3 X' h:=hC.keep (Jac _) (λ_ _=>rfl) hX
theorem CtL.upd(hC:CtL x K M1 M2 M3 X h){N:Nat}(hN:X N)(hn:h.n<=h'.n)(h1:K≠N)(h2:M1≠N)(h3:M2≠N)(h4:M3≠N)(h5:x.w.m<=N)(hk:∀i,i<h.n->i≠N->h'.get i=h.get i):CtL x K M1 M2 M3 X h':=by
 obtain⟨k,m1,m2,m3,lk,l1,l2,l3,d1,d2,d3,d4,d5,d6,wb,wk,w1,w2,w3⟩:=hC;exact⟨by rw[hk _ lk h1,k],m1.keep (hk _ l1 h2),m2.keep (hk _ l2 h3),m3.fr (hk _ l3 h4) hn (λi rs hi hx e=>by rw[hk i hi (λc=>hx (c ▸ hN)),e]) (λ_ _ h=>h),by omega,by omega,by omega,by omega,d1,d2,d3,d4,d5,d6,wb.keep λi hi=>hk i (by omega) (by omega),wk,w1,w2,w3⟩
theorem CtL.set1(hC:CtL x K M1 M2 M3 X h){es:List (Nat × V × V)}{c:Nat}(hm:Kept qme qvF (λp=>(ofE x p.1 p.2.1 p.2.2).2) M1 (h.set M1 (.map es c))):CtL x K M1 M2 M3 X (h.set M1 (.map es c)):=by
 obtain⟨k,m1,m2,m3,lk,l1,l2,l3,d1,d2,d3,d4,d5,d6,wb,wk,w1,w2,w3⟩:=hC;obtain⟨es1,c1,S1,g1,_⟩:=m1
 exact⟨by rw[qBp,Jaa d1,k],hm,m2.keep (by rw[qBp,Jaa (Ne.symm d4)]),m3.fr (by rw[qBp,Jaa (Ne.symm d5)]) (by simp) (λi rs hi _ e=>by
  rw[qBp,Jaa (λc=>by rw[c,g1]at e; cases e),e]) (λ_ _ h=>h),lk,l1,l2,l3,d1,d2,d3,d4,d5,d6,wb.keep λi hi=>by rw[qBp,Jaa (by omega)],wk,w1,w2,w3⟩
theorem CtL.set2(hC:CtL x K M1 M2 M3 X h){es:List (Nat × V × V)}{c:Nat}(hm:Kept qvz intI (badP x) M2 (h.set M2 (.map es c))):CtL x K M1 M2 M3 X (h.set M2 (.map es c)):=by
 obtain⟨k,m1,m2,m3,lk,l1,l2,l3,d1,d2,d3,d4,d5,d6,wb,wk,w1,w2,w3⟩:=hC;obtain⟨es1,c1,S1,g1,_⟩:=m2
 exact⟨by rw[qBp,Jaa d2,k],m1.keep (by rw[qBp,Jaa d4]),hm,m3.fr (by rw[qBp,Jaa (Ne.symm d6)]) (by simp) (λi rs hi _ e=>by
  rw[qBp,Jaa (λc=>by rw[c,g1]at e; cases e),e]) (λ_ _ h=>h),lk,l1,l2,l3,d1,d2,d3,d4,d5,d6,wb.keep λi hi=>by rw[qBp,Jaa (by omega)],wk,w1,w2,w3⟩
theorem CtL.set3(hC:CtL x K M1 M2 M3 X h){es:List (Nat × V × V)}{c:Nat}(hm:qwL x M3 X (h.set M3 (.map es c))):CtL x K M1 M2 M3 X (h.set M3 (.map es c)):=by
 obtain⟨k,m1,m2,m3,lk,l1,l2,l3,d1,d2,d3,d4,d5,d6,wb,wk,w1,w2,w3⟩:=hC;exact⟨by rw[qBp,Jaa d3,k],m1.keep (by rw[qBp,Jaa d5]),m2.keep (by rw[qBp,Jaa d6]),hm,lk,l1,l2,l3,d1,d2,d3,d4,d5,d6,wb.keep λi hi=>by rw[qBp,Jaa (by omega)],wk,w1,w2,w3⟩
end
section
variable {x:Ev}{K M1 M2 M3 mk:Nat}{X:Nat->Prop}{h:Heap}{d:Bool}
theorem qw5(hx:EvS x)(hg:x.g.Fine)(hr:∀p∈x.g.p.l,∀a∈p.a.l,∀s∈a.l,s.r.l.length<1500000)(hC:CtL x K M1 M2 M3 X h)(hX:∀i,X i->i<h.n)(m1:mk<=M1)(n k r:Int) :
  WF PR d mk (.fn 396 [] []) [.ptr K 0 0,.agg [.int .i64 n,.int .i64 k,.int .i64 r]] h λq=>q.v=qvF (ofE x n k r).2/\CtL x K M1 M2 M3 X q.h/\Fr3 M1 M2 M3 h q.h:=by
 refine WF.go f396 b396 [.tm 4] rfl rfl rfl rfl rfl rfl ?_;unfold b396;have lk:=hC.lk;have e5:[Sl.enc Pd.cells x.g.p,Sl.enc qac x.g.keys,x.w.v,V.int IntKind.i64 x.tab,V.bool x.heal]=x.cells:=rfl;obtain⟨H,hH⟩:∃H,h.push (.rows [[.int .i64 n,.int .i64 k,.int .i64 r]])=H:=⟨_,rfl⟩;have hn:H.n=h.n+1:=by rw[<-hH]; simp
 have gk:∀i,i<h.n->H.get i=h.get i:=λi hi=>by rw[<-hH]; simp[show ¬i=h.n by omega]
 have b1:H.get h.n=some (.rows [[.int .i64 n,.int .i64 k,.int .i64 r]]):=by rw[<-hH]; simp
 have hC2:=hC.keep (h':=H) (X':=X) (by omega) gk λ_ _ h=>h;obtain⟨es,c,S,e1,e2,e3⟩:=hC2.m1;have hlook:=qlz (kn:=.agg [.int,.int,.int]) (zero:=.nils) qgu qin e1 e2 (n,k,r);have hsp:qme (n,k,r)=.agg [.int .i64 n,.int .i64 k,.int .i64 r]:=rfl;rw[hsp]at hlook;simp -dsimp[-qnc];rw[hH,qnc];simp -dsimp[b1,hC2.k,qcT,hlook];obtain⟨o,ho⟩:∃o,qaS (n,k,r) S=o:=⟨_,rfl⟩;rw[ho];cases o with
 | some v =>
  simp -dsimp;exact⟨by rw[e3 _ _ ho],hC2,.of (by omega) gk⟩
 | none =>
  simp -dsimp[b1,hC2.k,qcT];rw[e5];refine WFS.by (qec x hx hg hr hC2.wb (by have:=hC2.wk; have:=hC2.lk; omega) n k r) ?_
  intro v h' e;cases e;obtain⟨gs,c2,q1,q2⟩:=qgM (kn:=.agg [.int,.int,.int]) (mk:=mk) qgu qin e1 e2 m1 (n,k,r) (ofE x n k r).2;rw[hsp]at q1;simp -dsimp[b1,hC2.k,qcT];refine OpS.intro q1 ?_;simp -dsimp;exact⟨rfl,hC2.set1 (Kept.put q2 e3 rfl),by simp only[qBB]; omega,λi hi x1 _ _=>by rw[qBp,Jaa x1,gk i hi]⟩
end
def pMin{α : Type}(f : α->Int)(l:List α)(i:Nat):Int:=(l.take i).foldl (λo e=>min o (f e)) qwn
theorem qwX{α : Type}(f : α->Int)(l:List α):pMin f l 0=qwn:=rfl
theorem qwY{α : Type} [Inhabited α] (f : α->Int){l:List α}{i:Nat}(h:i<l.length):pMin f l (i+1)=min (pMin f l i) (f (lat l i)):=by
 unfold pMin;rw[Jap,qaz h,List.foldl_append];rfl
theorem qwO{α : Type}(f : α->Int)(l:List α):pMin f l l.length=l.foldl (λo e=>min o (f e)) qwn:=by unfold pMin; rw[List.take_length]
theorem qwI{α : Type}{f : α->Int}:∀(l:List α) (o:Int),0<=o/\o<=qwn->(∀e∈l,0<=f e)->0<=l.foldl (λo e=>min o (f e)) o/\l.foldl (λo e=>min o (f e)) o<=qwn
 | [],_,h,_=>h
 | e::l,o,h,hf=>by
  have:=hf e (by simp);exact qwI l (min o (f e)) (by omega) λe' he=>hf e' (by simp[he])
theorem qwQ{α : Type}{f : α->Int}{l:List α}{i:Nat}(h:∀e∈l,0<=f e):0<=pMin f l i/\pMin f l i<=qwn :=
 qwI _ _ (by unfold qwn; omega) λe he=>h e (List.mem_of_mem_take he)
def qwM(x:Ev)(p:Pls):Prop:=(0<=badP x p/\badP x p<=qwn)/\∀(d:Bool) (mk:Nat) (h:Heap) (K M1 M2 M3:Nat) (X:Nat->Prop),CtL x K M1 M2 M3 X h->(∀i,X i->i<h.n)->mk<=M1->mk<=M2->mk<=h.n ->
 WF PR d mk (.fn 409 [] []) [.ptr K 0 0,qvz p] h λq=>q.v=intI (badP x p)/\CtL x K M1 M2 M3 X q.h/\Fr3 M1 M2 M3 h q.h
section
variable {x:Ev}{k0 q u n alt:Int}{A:Sl Sy}
theorem qw4(hx:EvS x)(hg:x.g.Fine)(hr:∀p∈x.g.p.l,∀a∈p.a.l,∀s∈a.l,s.r.l.length<1500000)(hm:mayE x=true)(n0:0<=n)(n1:n<x.g.p.l.length)(a0:0<=alt)(a1:alt<(lat x.g.p.l n.toNat).a.l.length)(hA:lat (lat x.g.p.l n.toNat).a.l alt.toNat=A)
  (h0:0<=k0) :
  ∀(dd sym:Nat) (j:Int),sym+dd=A.l.length->NowP x.g x.w.l (A.l.take sym) k0 (j,0)->qwM x (n,alt,(sym:Int),j,u,q):=by
 intro dd;have hw:=qbq hm;have hAm:A∈(lat x.g.p.l n.toNat).a.l:=by rw[<-hA]; exact qai (by omega)
 have hpm:lat x.g.p.l n.toNat∈x.g.p.l:=qai (by omega);have hAl:A.l.length<1000000000:=hx.g.s _ hpm A hAm;obtain⟨P,hP⟩:∃P,lat x.g.p.l n.toNat=P:=⟨_,rfl⟩;induction dd with
 | zero =>
  intro sym j hsd hnow;have hb:badP x (n,alt,(sym:Int),j,u,q)=if j=u then 0 else qwn:=by
   unfold badP;simp only[Int.toNat_natCast];rw[hA,List.drop_of_length_le (by omega),badC]
  refine⟨by rw[hb]; unfold qwn; split<;>omega,?_⟩;intro d mk h K M1 M2 M3 X hC hX m1 m2 mh;refine WF.go f409 b409 [.tm 4] rfl rfl rfl rfl rfl rfl ?_;unfold b409;have lk:=hC.lk;obtain⟨H,hH⟩:∃H,h.push (.rows [[.int .i64 n,.int .i64 alt,.int .i64 sym,.int .i64 j,.int .i64 u,.int .i64 q]])=H:=⟨_,rfl⟩;have hn:H.n=h.n+1:=by rw[<-hH]; simp
  have gk:∀i,i<h.n->H.get i=h.get i:=λi hi=>by rw[<-hH]; simp[show ¬i=h.n by omega]
  have b1:H.get h.n=some (.rows [[.int .i64 n,.int .i64 alt,.int .i64 sym,.int .i64 j,.int .i64 u,.int .i64 q]]):=by rw[<-hH]; simp
  have hC2:=hC.keep (h':=H) (X':=X) (by omega) gk λ_ _ h=>h;obtain⟨Lc,hLc⟩:∃Lc,A.cut sym A.l.length=Lc:=⟨_,rfl⟩;have hLl:Lc.l=A.l.drop sym:=by rw[<-hLc,qqd,List.take_of_length_le (by simp)]
  have hem:Lc.l=[]:=by rw[hLl,List.drop_of_length_le (by omega)]
  have hcut:∀tm:Tm,(gK 30).run tm=.int .i64 sym->qaT 3 (cutK (some (Opd.t 30)) none none) tm (A.enc Sy.cells)=some (Lc.enc Sy.cells):=λtm ht=>by
   rw[<-hLc];refine qdD (λ_=>rfl) λfl=>?_;have hb:bnd ((sym:Nat):Int) A.l.length=some sym:=by simpa using qaY (n:=(sym:Int)) (top:=A.l.length) (by omega) (by omega)
   simp[ht,hb,qdl]
  rw[hP]at hA a1;simp -dsimp[qvz,-qnc];rw[hH,qnc];simp -dsimp[b1,hC2.k,qcT,n0,n1,hP,Pd.cells,a0,a1,hA,qaK,hcut,hem];rw[hb]
  by_cases c:j=u
  ·simp -dsimp[c];exact⟨rfl,hC2,.of (by omega) gk⟩
  ·simp -dsimp[c];exact⟨rfl,hC2,.of (by omega) gk⟩
 | succ dd ih =>
  intro sym j hsd hnow;have hlt:sym<A.l.length:=by omega
  obtain⟨s,hs⟩:∃s,lat A.l sym=s:=⟨_,rfl⟩;have hsm:s∈A.l:=by rw[<-hs]; exact qai hlt
  have hdr:=qbu hlt;rw[hs]at hdr;have hrp:badP x (n,alt,(sym:Int),j,u,q)=badC (qaN x q) x.w.l u (s::A.l.drop (sym+1)) j:=by
   unfold badP;simp only[Int.toNat_natCast];rw[hA,hdr]
  obtain⟨z,hz⟩:∃z:Int,((sym+1:Nat):Int)=z:=⟨_,rfl⟩;have hrp2:∀j',badP x (n,alt,z,j',u,q)=badC (qaN x q) x.w.l u (A.l.drop (sym+1)) j':=λj'=>by
   rw[<-hz];unfold badP;simp only[Int.toNat_natCast];rw[hA]
  have htk:A.l.take (sym+1)=A.l.take sym++[s]:=by rw[Jap,qaz hlt,hs]; rfl
  have hsy:s.kind=2->0<=s.n/\s.n<x.g.p.l.length:=λhk=>qcD hw hAm s hsm hk;have j0:0<=j:=by have:=hnow.1; simp only at this; omega
  have j1:j<=x.w.l.length:=hnow.2.1;obtain⟨b,hb⟩:∃b,badP x (n,alt,(sym:Int),j,u,q)=b:=⟨_,rfl⟩;have hnow2:s.kind=2->∀e∈(qaL x s.n j q).2,NowP x.g x.w.l (A.l.take (sym+1)) k0 (e.1,0):=λhk2 e he=>by
   obtain⟨s0,s1⟩:=hsy hk2;rw[htk];exact qvO (L:=qaN x q) h0 s0 hk2 (qbf hw s0 s1 j0 j1).2 hnow he
  have hnx:∀j',NowP x.g x.w.l (A.l.take (sym+1)) k0 (j',0)->qwM x (n,alt,z,j',u,q):=λj' hj'=>by
   have:=ih (sym+1) j' (by omega) hj';rw[hz]at this;exact this
  obtain⟨f,hf⟩:∃f:En->Int,(λe:En=>e.2+badC (qaN x q) x.w.l u (A.l.drop (sym+1)) e.1)=f:=⟨_,rfl⟩;have hfe:∀e,f e=e.2+badP x (n,alt,z,e.1,u,q):=λe=>by rw[<-hf,hrp2]
  have hfr:s.kind=2->∀e∈(qaL x s.n j q).2,0<=e.2/\e.2<=1000000/\0<=f e:=λhk2 e he=>by
   obtain⟨s0,s1⟩:=hsy hk2;have h1:=(hnx e.1 (hnow2 hk2 e he)).1;have h2:=(qbf hw s0 s1 j0 j1).2 e he;have h3:=h2.2.2.1;have h4:=h2.2.1;have:=hx.w;rw[hfe];omega
  have hbr:0<=b/\b<=qwn:=by
   rw[<-hb,hrp,badC];split
   ·rename_i hk2;have:=qwQ (f:=f) (l:=(qaL x s.n j q).2) (i:=(qaL x s.n j q).2.length) λe he=>(hfr hk2 e he).2.2;rw[qwO,<-hf]at this;exact this
   ·rename_i hk2;split
    ·rename_i hm0;have:=(hnx (j+qbr s x.w.l j) (by rw[htk]; exact qvA h0 hk2 hnow hm0)).1;rw[hrp2]at this;exact this
    ·unfold qwn; omega
  refine⟨by rw[hb]; exact hbr,?_⟩;intro d mk h K M1 M2 M3 X hC hX m1 m2 mh;rw[hb];refine WF.go f409 b409 [.tm 4] rfl rfl rfl rfl rfl rfl ?_;unfold b409;have lk:=hC.lk;have l1:=hC.l1;have l2:=hC.l2;have l3:=hC.l3;obtain⟨H,hH⟩:∃H,h.push (.rows [[.int .i64 n,.int .i64 alt,.int .i64 sym,.int .i64 j,.int .i64 u,.int .i64 q]])=H:=⟨_,rfl⟩;have hn:H.n=h.n+1:=by rw[<-hH]; simp
  have gk:∀i,i<h.n->H.get i=h.get i:=λi hi=>by rw[<-hH]; simp[show ¬i=h.n by omega]
  have b1:H.get h.n=some (.rows [[.int .i64 n,.int .i64 alt,.int .i64 sym,.int .i64 j,.int .i64 u,.int .i64 q]]):=by rw[<-hH]; simp
  obtain⟨Y,hY⟩:∃Y:Nat->Prop,(λi=>X i\/i=h.n\/i=h.n+1)=Y:=⟨_,rfl⟩;have hYX:∀i,i<h.n->Y i->X i:=λi hi hy=>by
   rw[<-hY]at hy;rcases hy with c|c|c
   ·exact c
   ·omega
   ·omega
  have hXY:∀i,X i->Y i:=λi hi=>by rw[<-hY]; exact .inl hi
  have Y1:Y (h.n+1):=by rw[<-hY]; exact .inr (.inr rfl)
  have hYn:∀i,Y i->i<h.n+2:=λi hi=>by
   rw[<-hY]at hi;rcases hi with c|c|c
   ·have:=hX i c; omega
   ·omega
   ·omega
  have hC2:=hC.keep (h':=H) (X':=Y) (by omega) gk hYX;obtain⟨Lc,hLc⟩:∃Lc,A.cut sym A.l.length=Lc:=⟨_,rfl⟩;have hLl:Lc.l=A.l.drop sym:=by rw[<-hLc,qqd,List.take_of_length_le (by simp)]
  have hem:¬Lc.l=[]:=by rw[hLl,hdr]; simp
  have hll:Lc.l.length=A.l.length-sym:=by rw[hLl,List.length_drop]
  have hcut:∀tm:Tm,(gK 30).run tm=.int .i64 sym->qaT 3 (cutK (some (Opd.t 30)) none none) tm (A.enc Sy.cells)=some (Lc.enc Sy.cells):=λtm ht=>by
   rw[<-hLc];refine qdD (λ_=>rfl) λfl=>?_;have hb:bnd ((sym:Nat):Int) A.l.length=some sym:=by simpa using qaY (n:=(sym:Int)) (top:=A.l.length) (by omega) (by omega)
   simp[ht,hb,qdl]
  have hia:qaw 3 (Lc.enc Sy.cells) (.int .i64 0)=some (.ptrR s.cells 0):=by
   have:=qap (f:=Sy.cells) (s:=Lc) (esz:=3) (k:=.i64) (n:=0) (by omega) (by omega) (λ_=>rfl);rw[this];have:lat Lc.l (0:Int).toNat=s:=by rw[hLl,hdr]; rfl
   rw[this]
  obtain⟨es,c,S,e1,e2,e3⟩:=hC2.m2;have hlook:=qlz (kn:=.agg [.int,.int,.int,.int,.int,.int]) (zero:=.int .i64 0) qv0 qv4 e1 e2 (n,alt,(sym:Int),j,u,q);have hpk:∀z' j',qvz (n,alt,z',j',u,q)=.agg [.int .i64 n,.int .i64 alt,.int .i64 z',.int .i64 j',.int .i64 u,.int .i64 q]:=λ_ _=>rfl;rw[hpk]at hlook;have hA':=hA;have a1':=a1;rw[hP]at hA' a1';simp -dsimp[hpk,-qnc];rw[hH,qnc];simp -dsimp[b1,hC2.k,qcT,n0,n1,hP,Pd.cells,a0,a1',hA',qaK,hcut,hem,-qnc];rw[qnc];simp -dsimp[b1,hC2.k,qcT,hlook,-qar];obtain⟨o,ho⟩:∃o,qaS (n,alt,(sym:Int),j,u,q) S=o:=⟨_,rfl⟩;rw[ho];cases o with
  | some v =>
   have:=e3 _ _ ho;rw[hb]at this;subst this;simp -dsimp[qar];exact⟨hC2.less λi _=>hXY i,.of (by omega) gk⟩
  | none =>
  have fin:∀H3,CtL x K M1 M2 M3 Y H3->Fr3 M1 M2 M3 h H3->∃gs c2,qmD mk (.agg [.int,.int,.int,.int,.int,.int]) (.map M2) (.agg [.int .i64 n,.int .i64 alt,.int .i64 sym,.int .i64 j,.int .i64 u,.int .i64 q]) (.int .i64 b) H3=some ⟨.any,H3.set M2 (.map gs c2)⟩/\CtL x K M1 M2 M3 X (H3.set M2 (.map gs c2))/\Fr3 M1 M2 M3 h (H3.set M2 (.map gs c2)):=λH3 hC3 hF3=>by
   obtain⟨es',c',S',g1,g2,g3⟩:=hC3.m2;obtain⟨gs,c2,q1,q2⟩:=qgM (kn:=.agg [.int,.int,.int,.int,.int,.int]) (mk:=mk) qv0 qv4 g1 g2 m2 (n,alt,(sym:Int),j,u,q) b;refine⟨gs,c2,q1,(hC3.set2 (Kept.put q2 g3 hb.symm)).less λi _=>hXY i,?_⟩;have:=hF3.1;exact⟨by simp only[qBB]; omega,λi hi x1 x2 x3=>by rw[qBp,Jaa x2,hF3.2 i hi x1 x2 x3]⟩
  obtain⟨H1,hH1⟩:∃H1,((H.push (.rows [[.int .i64 0,.int .i64 0,.int .i64 0,.int .i64 0,.int .i64 0,.int .i64 0]])).set H.n (.rows [[.int .i64 n,.int .i64 alt,.int .i64 sym,.int .i64 j,.int .i64 u,.int .i64 q]])).set H.n (.rows [[.int .i64 n,.int .i64 alt,.int .i64 z,.int .i64 j,.int .i64 u,.int .i64 q]])=H1:=⟨_,rfl⟩;have hn1:H1.n=h.n+2:=by rw[<-hH1]; simp[hn]
  have gk1:∀i,i<H.n->H1.get i=H.get i:=λi hi=>by rw[<-hH1,qBp,Jaa (by omega),qBp,Jaa (by omega),qBq,Jaa (by omega)]
  have gN:H1.get H.n=some (.rows [[.int .i64 n,.int .i64 alt,.int .i64 z,.int .i64 j,.int .i64 u,.int .i64 q]]):=by rw[<-hH1,qBp,Jab rfl]
  have hC3:=hC2.keep (h':=H1) (X':=Y) (by omega) gk1 λ_ _ h=>h;have hF1:Fr3 M1 M2 M3 h H1:=.of (by omega) λi hi=>by rw[gk1 i (by omega),gk i hi]
  have b11:H1.get h.n=some (.rows [[.int .i64 n,.int .i64 alt,.int .i64 sym,.int .i64 j,.int .i64 u,.int .i64 q]]):=by rw[gk1 _ (by omega),b1]
  have m0:mk<=H.n:=by omega
  have z3:¬h.n=H.n:=by omega
  simp -dsimp[-qar];rw[qar];simp -dsimp[-qar];rw[qar];simp -dsimp[-qar];rw[qar];simp -dsimp[-qar,b1,m0,z3];rw[qar];simp -dsimp[-qar,b1,m0,z3,fw64 (n:=(sym:Int)+1) (by omega) (by omega)];rw[show((sym:Int)+1)=z by omega,hH1,qar];simp -dsimp[-qar,-qnc,hia,Sy.cells];rw[qaa];refine⟨λhk=>?_,λhk=>?_⟩
  ·have hk2:¬s.kind=2:=by simpa using hk
   have hsc:[V.int IntKind.i64 s.kind,s.r.enc Rg.cells,V.int IntKind.i64 s.n]=s.cells:=rfl;simp -dsimp[-qar,b11,hia,Sy.cells,hC3.k,qcT];rw[hsc];refine WFS.by (qnn s hC3.wb (by have:=hC3.wk; omega) j (hr _ hpm A hAm s hsm) (by have:=hx.w; omega)) ?_
   intro v' h' e;cases e;simp -dsimp[-qar];rw[qar];simp -dsimp[-qar];rw[qaa];refine⟨λhd=>?_,λhd=>?_⟩
   ·have hm0:0<qbr s x.w.l j:=by simpa using hd
    have hmr:=qdJ hm0;have hww:=hx.w;have hb2:badP x (n,alt,z,j+qbr s x.w.l j,u,q)=b:=by rw[hrp2,<-hb,hrp,badC,Jaa hk2,Jab hm0]
    have hnow3:NowP x.g x.w.l (A.l.take (sym+1)) k0 (j+qbr s x.w.l j,0):=by rw[htk]; exact qvA h0 hk2 hnow hm0
    obtain⟨H2,hH2⟩:∃H2,H1.set H.n (.rows [[.int .i64 n,.int .i64 alt,.int .i64 z,.int .i64 (j+qbr s x.w.l j),.int .i64 u,.int .i64 q]])=H2:=⟨_,rfl⟩;have hn2:H2.n=h.n+2:=by rw[<-hH2]; simpa using hn1
    have gk2:∀i,i<H1.n->i≠H.n->H2.get i=H1.get i:=λi hi hne=>by rw[<-hH2,qBp,Jaa hne]
    have gN2:H2.get H.n=some (.rows [[.int .i64 n,.int .i64 alt,.int .i64 z,.int .i64 (j+qbr s x.w.l j),.int .i64 u,.int .i64 q]]):=by rw[<-hH2,qBp,Jab rfl]
    have hC4:=hC3.upd (N:=H.n) (h':=H2) (by rw[hn]; exact Y1) (by omega) (by omega) (by omega) (by omega) (by omega) (by have:=hC.wk; omega) gk2;have hF2:Fr3 M1 M2 M3 h H2:=hF1.trans_lt (by omega) λi hi=>gk2 i (by omega) (by omega);simp -dsimp[-qar];rw[qar];simp -dsimp[-qar,gN,m0,fw64 (n:=j+qbr s x.w.l j) (by omega) (by omega)];rw[hH2,qar];simp -dsimp[-qnc,gN2];refine WFS.by ((hnx _ hnow3).2 _ mk H2 K M1 M2 M3 Y hC4 (λi hi=>by have:=hYn i hi; omega) m1 m2 (by omega)) ?_
    rintro v H3 ⟨rfl,hC5,hF5⟩;simp only at hC5 hF5;rw[hb2];obtain⟨gs,c2,q1,q2,q3⟩:=fin H3 hC5 (hF2.trans hF5);have b13:H3.get h.n=some (.rows [[.int .i64 n,.int .i64 alt,.int .i64 sym,.int .i64 j,.int .i64 u,.int .i64 q]]):=by rw[hF5.2 _ (by omega) (by omega) (by omega) (by omega),gk2 _ (by omega) (by omega),b11]
    simp -dsimp[b13,hC5.k,qcT,intI];refine OpS.intro q1 ?_;simp -dsimp;exact⟨rfl,q2,q3⟩
   ·have hm0:¬0<qbr s x.w.l j:=by simpa using hd
    have hb2:qwn=b:=by rw[<-hb,hrp,badC,Jaa hk2,Jaa hm0]
    obtain⟨gs,c2,q1,q2,q3⟩:=fin H1 hC3 hF1;rw[<-hb2]at q1 ⊢;have hnv:qwn=1099511627776:=rfl;rw[hnv]at q1 ⊢;simp -dsimp[b11,hC3.k,qcT];refine OpS.intro q1 ?_;simp -dsimp;exact⟨rfl,q2,q3⟩
  ·have hk2:s.kind=2:=by simpa using hk
   obtain⟨s0,s1⟩:=hsy hk2;simp -dsimp[b11,hia,Sy.cells,hC3.k,qcT];refine WFS.by (qw5 hx hg hr hC3 (λi hi=>by have:=hYn i hi; omega) m1 s.n j q) ?_
   rintro v H3 ⟨rfl,hC4,hF4⟩;simp only at hC4 hF4;rw[qqO hm s0 s1 j0 j1];have hnow2:=hnow2 hk2;have hfr:=hfr hk2;have hbE:b=(qaL x s.n j q).2.foldl (λo e=>min o (f e)) qwn:=by
    rw[<-hb,hrp,badC,Jab hk2,<-hf];rfl
   have hEl:=qly hm (r:=q) s0 s1 j0 j1;obtain⟨E,hE⟩:∃E,(qaL x s.n j q).2=E:=⟨_,rfl⟩;rw[hE]at hnow2 hfr hbE hEl ⊢;have hF:=hF1.trans hF4;have hF4n:=hF4.1;have gN3:H3.get H.n=some (.rows [[.int .i64 n,.int .i64 alt,.int .i64 z,.int .i64 j,.int .i64 u,.int .i64 q]]):=by rw[hF4.2 _ (by omega) (by omega) (by omega) (by omega),gN]
   have b13:H3.get h.n=some (.rows [[.int .i64 n,.int .i64 alt,.int .i64 sym,.int .i64 j,.int .i64 u,.int .i64 q]]):=by rw[hF4.2 _ (by omega) (by omega) (by omega) (by omega),b11]
   have hend:∀H,lenV .sl (qvF E) H=some (.int .i64 E.length):=λH=>by unfold qvF; simp
   simp -dsimp[hend];refine qvg (λo st=>o=.normal/\(gK 0).run st.tm=.ptr K 0 0/\(gK 3).run st.tm=.ptr h.n 0 0/\(gK 8).run st.tm=.int .i64 b/\CtL x K M1 M2 M3 Y st.h/\Fr3 M1 M2 M3 h st.h/\st.h.get h.n=some (.rows [[.int .i64 n,.int .i64 alt,.int .i64 sym,.int .i64 j,.int .i64 u,.int .i64 q]])/\st.defs=[]) ?_ ?_;rotate_left
   ·rintro o ⟨tm,H5,defs,round⟩ ⟨rfl,t0,t3,t8,hC5,hF5,b15,rfl⟩;simp only at t0 t3 t8 hC5 hF5 b15;obtain⟨gs,c2,q1,q2,q3⟩:=fin H5 hC5 hF5;simp -dsimp[t0,t3,t8,b15,hC5.k,qcT];refine OpS.intro q1 ?_;simp -dsimp[t8];exact⟨rfl,q2,q3⟩
   refine qaf (λk st=>∃(i:Nat) (fr:Int),i+k=E.length/\(gK 96).run st.tm=.int .i64 i/\(gK 8).run st.tm=.int .i64 (pMin f E i)/\CtL x K M1 M2 M3 Y st.h/\Fr3 M1 M2 M3 h st.h/\H.n+1<=st.h.n /\
    st.h.get h.n=some (.rows [[.int .i64 n,.int .i64 alt,.int .i64 sym,.int .i64 j,.int .i64 u,.int .i64 q]]) /\
    st.h.get H.n=some (.rows [[.int .i64 n,.int .i64 alt,.int .i64 z,.int .i64 fr,.int .i64 u,.int .i64 q]])/\st.defs=[]) E.length
    ⟨0,j,by omega,by simp,by simp[qwX]; rfl,hC4,hF,by simp only; omega,b13,gN3,rfl⟩ ?_
   rintro k ⟨tm,H4,defs,round⟩ ⟨i,fr,hi,t96,t8,hC5,hF5,hn4,b14,gN4,rfl⟩ hK';have t0:=hK' 0 rfl;have t3:=hK' 3 rfl;have t9:=hK' 9 rfl;have t94:=hK' 94 rfl;have t95:=hK' 95 rfl;simp at t0 t3 t9 t94 t95 t96 t8;simp only at hC5 hF5 hn4 b14 gN4;clear hK';simp -dsimp[t96,t95];rw[qaa];refine⟨λhc=>?_,λhc=>?_⟩;rotate_left
   ·have e1:i=E.length:=by simp at hc; omega
    subst e1;rw[qwO,<-hbE]at t8;simp -dsimp[t8];exact⟨t0,t3,hC5,hF5,b14⟩
   have e1:i<E.length:=by simpa using hc
   obtain⟨e,he⟩:∃e,lat E i=e:=⟨_,rfl⟩;have hem:e∈E:=by rw[<-he]; exact qai e1
   have hie:qaw 2 (qvF E) (.int .i64 i)=some (.ptrR (qad e) 0):=by
    have:=qap (f:=qad) (s:=slE E) (esz:=2) (k:=.i64) (n:=(i:Int)) (by omega) (by simp; omega) (λ_=>rfl);unfold qvF;rw[this]; simp[he]
   obtain⟨H5,hH5⟩:∃H5,((H4.push (.rows [[.int .i64 0,.int .i64 0]])).set H4.n (.rows [[.int .i64 e.1,.int .i64 e.2]])).set H.n (.rows [[.int .i64 n,.int .i64 alt,.int .i64 z,.int .i64 e.1,.int .i64 u,.int .i64 q]])=H5:=⟨_,rfl⟩;have n5:H5.n=H4.n+1:=by rw[<-hH5]; simp
   have gk5:∀i,i<H4.n->i≠H.n->H5.get i=H4.get i:=λi hi hne=>by rw[<-hH5,qBp,Jaa hne,qBp,Jaa (by omega),qBq,Jaa (by omega)]
   have gN5:H5.get H.n=some (.rows [[.int .i64 n,.int .i64 alt,.int .i64 z,.int .i64 e.1,.int .i64 u,.int .i64 q]]):=by rw[<-hH5,qBp,Jab rfl]
   have gE5:H5.get H4.n=some (.rows [[.int .i64 e.1,.int .i64 e.2]]):=by rw[<-hH5,qBp,Jaa (by omega),qBp,Jab rfl]
   have hF6:Fr3 M1 M2 M3 h H5:=hF5.trans_lt (by omega) λi hi=>gk5 i (by have:=hF5.1; omega) (by omega);have hC6:=hC5.upd (N:=H.n) (h':=H5) (by rw[hn]; exact Y1) (by omega) (by omega) (by omega) (by omega) (by omega) (by have:=hC.wk; omega) gk5;have m4:mk<=H4.n:=by omega
   have y1:¬H.n=H4.n:=by omega
   simp -dsimp[-qar];rw[qar];simp -dsimp[-qar,t96,t94,hie,qad,m4];rw[qar];simp -dsimp[-qar,-qnc,t9,m0,gN4,y1];rw[hH5,qnc];simp -dsimp[-qar,t0,t8,t9,gE5,gN5];refine WFS.by ((hnx _ (hnow2 e hem)).2 _ mk H5 K M1 M2 M3 Y hC6 (λi hi=>by have:=hYn i hi; omega) m1 m2 (by omega)) ?_
   rintro v H6 ⟨rfl,hC7,hF7⟩;simp only at hC7 hF7;have hr1:=(hnx _ (hnow2 e hem)).1;have hr2:=hfr e hem;have hnv:qwn=1099511627776:=rfl;rw[hfe]at hr2;have hmn:∀tm:Tm,(gK 109).run tm=.int .i64 (e.2+badP x (n,alt,z,e.1,u,q))->qbS .i64 tm (pMin f E i) [Opd.t 109]=some (.int .i64 (pMin f E (i+1))):=λtm ht=>by
    rw[qer (m:=e.2+badP x (n,alt,z,e.1,u,q)) (by simp[ht]),qwY f e1,he,hfe,Int.min_comm]; rfl
   have hF8:=hF6.trans hF7;have n8:=hF7.1;have gN6:H6.get H.n=some (.rows [[.int .i64 n,.int .i64 alt,.int .i64 z,.int .i64 e.1,.int .i64 u,.int .i64 q]]):=by rw[hF7.2 _ (by omega) (by omega) (by omega) (by omega),gN5]
   have b16:H6.get h.n=some (.rows [[.int .i64 n,.int .i64 alt,.int .i64 sym,.int .i64 j,.int .i64 u,.int .i64 q]]):=by rw[hF7.2 _ (by omega) (by omega) (by omega) (by omega),gk5 _ (by omega) (by omega),b14]
   have gE6:H6.get H4.n=some (.rows [[.int .i64 e.1,.int .i64 e.2]]):=by rw[hF7.2 _ (by omega) (by omega) (by omega) (by omega),gE5]
   have hiw:fw .i64 ((i:Int)+1)=((i+1:Nat):Int):=by rw[fw64 (by omega) (by omega)]; rfl
   simp -dsimp[intI,fw64 (n:=e.2+badP x (n,alt,z,e.1,u,q)) (by omega) (by omega),hmn,t96,hiw,gE6];exact qah.intro (k-1) (by omega) ⟨i+1,e.1,by omega,by simp,by simp,hC7,hF8,by simp only; omega,b16,gN6,rfl⟩
end
section
variable {x:Ev}{K M1 M2 M3 mk:Nat}{X:Nat->Prop}{h:Heap}{d:Bool}
theorem qxc{α : Type} [Inhabited α] (l:List α)(h:l≠[]):l.getLast?=some (lat l (l.length-1)):=by
 have:0<l.length:=List.length_pos_iff.2 h;rw[List.getLast?_eq_getElem?,qaz (by omega)]
theorem qxg(hx:EvS x)(hg:x.g.Fine)(hr:∀p∈x.g.p.l,∀a∈p.a.l,∀s∈a.l,s.r.l.length<1500000)(hm:mayE x=true){n k:Int}(u r:Int)(n0:0<=n)(n1:n<x.g.p.l.length)(k0:0<=k)(k1:k<=x.w.l.length)(hC:CtL x K M1 M2 M3 X h) :
  WF PR d mk (.fn 408 [] []) [.ptr K 0 0,qvL (n,k,r,u)] h λq=>q=⟨.bool (qwq x n k u r),h⟩:=by
 refine qBt f408 b408 [.tm 4] rfl rfl rfl rfl rfl rfl ?_;unfold b408;have lk:=hC.lk;have e5:[Sl.enc Pd.cells x.g.p,Sl.enc qac x.g.keys,x.w.v,V.int IntKind.i64 x.tab,V.bool x.heal]=x.cells:=rfl;obtain⟨H,hH⟩:∃H,h.push (.rows [[.int .i64 n,.int .i64 k,.int .i64 r,.int .i64 u]])=H:=⟨_,rfl⟩;have hn:H.n=h.n+1:=by rw[<-hH]; simp
 have gk:∀i,i<h.n->H.get i=h.get i:=λi hi=>by rw[<-hH]; simp[show ¬i=h.n by omega]
 have b1:H.get h.n=some (.rows [[.int .i64 n,.int .i64 k,.int .i64 r,.int .i64 u]]):=by rw[<-hH]; simp
 have hC2:=hC.keep (h':=H) (X':=X) (by omega) gk λ_ _ h=>h;obtain⟨P,hP⟩:∃P,lat x.g.p.l n.toNat=P:=⟨_,rfl⟩;have hbit:bitB P.marks 1 = !decide (fw .i64 (BitVec.ofInt IntKind.i64.bits P.marks &&& BitVec.ofInt IntKind.i64.bits 1).toNat=0):=by simp[bitB]
 simp -dsimp[qvL,-qnc];rw[hH,qnc];simp -dsimp[b1,hC2.k,qcT];rw[e5];refine WFS.by (qoY x hx hC2.wb (by have:=hC2.wk; have:=hC2.lk; omega) n k u r) ?_
 intro v h' e;cases e;cases hp:qbp x n k u r with
 | false =>
  have:qwq x n k u r=false:=by unfold qwq; rw[hp]; rfl
  rw[this];simp -dsimp
 | true =>
 simp -dsimp[b1,hC2.k,qcT,n0,n1,hP,Pd.cells];rw[qaa];refine⟨λhz=>?_,λhz=>?_⟩
 ·have hb:bitB P.marks 1=false:=by rw[hbit]; exact congrArg (!·) hz
  have:qwq x n k u r=true:=by unfold qwq; rw[hp,hP,hb]; rfl
  rw[this];simp -dsimp
 ·have hb:bitB P.marks 1=true:=by rw[hbit]; exact congrArg (!·) hz
  have hl:qwq x n k u r=decide (((qaL x n k r).1.getLast?.map (·.1))=some u):=by unfold qwq; rw[hp,hP,hb]; rfl
  simp -dsimp[b1,hC2.k,qcT];rw[e5];refine WFS.by (qqC x hx hg hr hC2.wb (by have:=hC2.wk; have:=hC2.lk; omega) n k r) ?_
  intro v h' e;cases e;rw[qqO hm n0 n1 k0 k1];obtain⟨E,hE⟩:∃E,(qaL x n k r).1=E:=⟨_,rfl⟩;have hEl:E.length<=201:=by
   rw[<-hE];exact qb7 (qc3 (qbq hm) (ref:=r) n0 n1 k0 k1).1 (n:=x.w.l.length) (λe he=>by
    have:=(qbf (qbq hm) (ref:=r) n0 n1 k0 k1).1 e he;exact⟨by have:=this.1; omega,this.2.1⟩) (qbq hm).w
  rw[hE]at hl ⊢
  by_cases hem:E=[]
  ·subst hem;rw[hl];simp -dsimp
  ·have hpos:0<E.length:=List.length_pos_iff.2 hem;rw[qxc E hem]at hl;obtain⟨e,he⟩:∃e,lat E (E.length-1)=e:=⟨_,rfl⟩;rw[he]at hl;have hie:qaw 2 ((slE E).enc qad) (.int .i64 ((E.length:Int)-1))=some (.ptrR (qad e) 0):=by
    have:=qap (f:=qad) (s:=slE E) (esz:=2) (k:=.i64) (n:=(E.length:Int)-1) (by omega) (by simp; omega) (λ_=>rfl);rw[this];have h2:((E.length:Int)-1).toNat=E.length-1:=by omega
    simp[h2,he]
   rw[hl];simp -dsimp[hpos,fw64 (n:=(E.length:Int)-1) (by omega) (by omega),hie,qad,b1]
end
def qvi(v:V)(b s:Bool):Bool:=match v with
 | .bool c=>cond (c == b) s true
 | .tup []=>true
 | _=>false
@[simp]theorem qvm{c b s:Bool}:qvi (.bool c) b s=cond (c == b) s true:=(rfl)
@[simp]theorem qvl{b s:Bool}:qvi (.tup []) b s=true:=(rfl)
@[simp]theorem qvn{d:Nat}{g:Nat × Bool}{o:RdO}{h:Heap}{tm:Tm}:qgg (some ⟨some d,some g,.r o⟩) (some h) tm=qvi ((gK g.1).run tm) g.2 (qpi ((qbc o).run tm h) ((gK d).run tm)):=(rfl)
section
variable {d:Bool}{mk:Nat}{h:Heap}
theorem quZ(a:Int):WF PR d mk (.fn 208 [] []) [.int .i64 a] h λr=>r=⟨.bool false,h⟩:=by
 refine WF.go f208 b208 [.tm 2] rfl rfl rfl rfl rfl rfl ?_;unfold b208;simp -dsimp
theorem qu3(a b:Int):WF PR d mk (.fn 227 [] []) [.int .i64 a,.int .i64 b] h λq=>q=⟨.int .i64 (if a<b then -1 else if b<a then 1 else 0),h⟩:=by
 refine qBt f227 b227 [.tm 4] rfl rfl rfl rfl rfl rfl ?_;unfold b227;simp -dsimp;refine WFS.by (quZ a) ?_
 intro v h' e;cases e;simp -dsimp;refine WFS.by (quZ b) ?_
 intro v h' e;cases e;simp -dsimp
 by_cases c1:a<b
 ·simp -dsimp[c1]
 by_cases c2:b<a
 ·simp -dsimp[c1,c2]
 simp -dsimp[c1,c2]
theorem qux{l:List Int}(h:l≠[]):cmpI [] l = -1/\cmpI l []=1:=by
 cases l with
 | nil=>exact absurd rfl h
 | cons a l=>simp[cmpI,ltI]
theorem qu4{a b:Int}{l m:List Int}:cmpI (a::l) (b::m)=if a<b then -1 else if b<a then 1 else cmpI l m:=by
 unfold cmpI;simp only[ltI]
 by_cases c1:a<b
 ·simp[c1]
 by_cases c2:b<a
 ·simp[c1,c2]; omega
 have:a=b:=by omega
 subst this;simp
theorem quM(s t:Sl Int)(hs:s.l.length<1000000000)(ht:t.l.length<1000000000):WF PR d mk (.fn 391 [] []) [s.enc qaM,t.enc qaM] h λq=>q=⟨.int .i64 (cmpI s.l t.l),h⟩:=by
 refine qBt f391 b391 [.tm 4] rfl rfl rfl rfl rfl rfl ?_;unfold b391;simp -dsimp;refine qaf (λk st=>∃i:Nat,i+k=s.l.length/\i<=t.l.length/\cmpI s.l t.l=cmpI (s.l.drop i) (t.l.drop i)/\(gK 11).run st.tm=.int .i64 i/\st.h=h/\st.defs=[]) s.l.length ⟨0,by omega,by omega,rfl,by simp,rfl,rfl⟩ ?_;rintro k ⟨tm,h',defs,round⟩ ⟨i,hi,hit,hx,h11,rfl,rfl⟩ hK;have t0:=hK 0 rfl;have t1:=hK 1 rfl;have t9:=hK 9 rfl;have t10:=hK 10 rfl;simp at t0 t1 t9 t10 h11;clear hK;simp -dsimp[t10,h11];rw[qaa];refine⟨λhc=>?_,λhc=>?_⟩
 ·have c1:i<s.l.length:=by simpa using hc
  have ha:=qe6 (s:=s) (k:=.i64) (n:=(i:Int)) (by omega) (by omega);have hd:=qbu c1;simp only[Int.toNat_natCast]at ha
  by_cases c2:i<t.l.length
  rotate_left
  ·simp -dsimp[t9,t1,h11,ha,qaM,show(t.l.length:Int)<=i by omega];rw[hx,List.drop_eq_nil_of_le (by omega:t.l.length<=i),(qux (by rw[hd]; simp)).2]
  have hb:=qe6 (s:=t) (k:=.i64) (n:=(i:Int)) (by omega) (by omega);simp only[Int.toNat_natCast]at hb;have hd2:=qbu c2;simp -dsimp[t9,t1,h11,ha,hb,qaM,show ¬(t.l.length:Int)<=i by omega];refine WFS.by (qu3 (lat s.l i) (lat t.l i)) ?_
  intro v h' e;cases e;rw[hd,hd2,qu4]at hx
  by_cases d1:lat s.l i<lat t.l i
  ·simp -dsimp[d1];rw[hx,Jab d1]
  by_cases d2:lat t.l i<lat s.l i
  ·simp -dsimp[d1,d2];rw[hx,Jaa d1,Jab d2]
  rw[Jaa d1,Jaa d2]at hx;simp -dsimp[d1,d2,h11,fw64 (n:=(i:Int)+1) (by omega) (by omega)];exact qah.intro (k-1) (by omega) ⟨i+1,by omega,by omega,hx,by simp,rfl,rfl⟩
 ·have c1:i=s.l.length:=by simp at hc; omega
  subst c1;rw[List.drop_length]at hx
  by_cases c2:s.l.length<t.l.length
  ·simp -dsimp[t0,t1,c2];rw[hx,(qux (by intro e; have:=congrArg List.length e; simp at this; omega)).1]
  ·simp -dsimp[t0,t1,c2];rw[hx,List.drop_eq_nil_of_le (by omega)];rfl
theorem quK(l:List Int):∀q∈qab l,q.length=1/\ones q=true:=λq hq=>by
 obtain⟨z,_,rfl⟩:=Jak.1 hq;exact⟨rfl,rfl⟩
theorem quE(g:Gr){v:V}{t:List Nd}{m:Nat}(hN:NdB h ⟨v,t,m⟩)(hm:m<=h.n)(hl:t.length<1000000):WF PR d mk (.fn 392 [] []) [.agg g.cells,v] h λq=>q=⟨(slOf (qum g t)).enc qaM,h⟩:=by
 refine qBt f392 b392 [.tm 4] rfl rfl rfl rfl rfl rfl ?_;unfold b392;have hlt:∀H,lenV .sl v H=some (.int .i64 t.length):=λH=>hN.len;have hkeep:∀H,(∀i,i<h.n->H.get i=h.get i)->NdB H ⟨v,t,m⟩:=λH hk=>hN.keep λi hi=>hk i (by simp only at hi; omega);simp -dsimp[Gr.cells,hlt];refine qaf (λk st=>∃(i:Nat) (u:V),i+k=t.length/\(gK 10).run st.tm=.int .i64 i/\(gK 5).run st.tm=u/\Own st.h (h.n+1) u 1 (qab (qum g (t.take i)))/\h.n+1<=st.h.n/\st.h.get h.n=some (.rows [[g.p.enc Pd.cells,g.keys.enc qac]])/\(∀j,j<h.n->st.h.get j=h.get j)/\st.defs=[]) t.length
  ⟨0,.nils,by omega,by simp,by simp,.inl ⟨rfl,rfl⟩,by simp,by simp,λj hj=>by simp only; rw[qBq,Jaa (by omega)],rfl⟩ ?_
 rintro k ⟨tm,H,defs,round⟩ ⟨i,u,hi,h10,h5,hO,hn,hg,hk,rfl⟩ hK;have t1:=hK 2 rfl;have t8:=hK 8 rfl;have t9:=hK 9 rfl;simp at t1 t8 t9 h10 h5;simp only at hO hn hg hk;clear hK;simp -dsimp[t9,h10];rw[qaa];refine⟨λhc=>?_,λhc=>?_⟩
 ·have c1:i<t.length:=by simpa using hc
  obtain⟨y,hy⟩:∃y,lat t i=y:=⟨_,rfl⟩;obtain⟨p,e1,e2,-⟩:=(hkeep H hk).at (k:=(i:Int)) (by omega) (by simp only; omega);simp only[Int.toNat_natCast]at e1 e2;rw[hy]at e2;have m1:h.n<=H.n:=by omega
  obtain⟨H2,hH2⟩:∃H2,(H.push (.rows [[.int .i64 0,.int .i64 0,.int .i64 0,.int .i64 0]])).set H.n (.rows [[.int .i64 y.1,.int .i64 y.2.1,.int .i64 y.2.2.1,.int .i64 y.2.2.2]])=H2:=⟨_,rfl⟩;have k2:∀j,j<H.n->H2.get j=H.get j:=λj hj=>by rw[<-hH2,qBp,Jaa (by omega),qBq,Jaa (by omega)]
  have n2:H2.n=H.n+1:=by rw[<-hH2]; simp
  have g2:H2.get H.n=some (.rows [[.int .i64 y.1,.int .i64 y.2.1,.int .i64 y.2.2.1,.int .i64 y.2.2.2]]):=by rw[<-hH2,qBp,Jab rfl]
  have g20:H2.get h.n=some (.rows [[g.p.enc Pd.cells,g.keys.enc qac]]):=by rw[k2 _ (by omega),hg]
  have hO2:Own H2 (h.n+1) u 1 (qab (qum g (t.take i))):=hO.ext k2 (by omega);have htk:qum g (t.take (i+1))=qum g (t.take i)++numN g y:=by rw[Jap,qaz c1,hy]; simp[qum]
  have hnl:=quA (g:=g) (t.take i);have htl:(t.take i).length<=t.length:=by rw[List.length_take]; omega
  simp -dsimp[-qar,-qnc];rw[qar];simp -dsimp[-qar,-qnc,t8,h10,e1,e2,qui,m1];rw[hH2,qar];simp -dsimp[-qar,-qnc,h5,g2];rw[qaE (xs:=qab [y.2.1]) (by simp; rfl)];obtain⟨u3,H3,a1,a2,a3,a4,a5⟩:=qaC (mk:=h.n) (bytes:=8) (xs:=qab [y.2.1]) hO2 (by omega) (quK _) (by simp; omega) (by omega) (by omega);have hs2:∀j,j<h.n+1->slId u≠some j:=λj hj=>hO2.slId hj;have hBH:slId u≠some H.n:=by
   rcases hO with ⟨rfl,_⟩|⟨id,rfl,_,_,q,_⟩
   ·simp[slId]
   ·simp[slId]; omega
  have g3:H3.get H.n=some (.rows [[.int .i64 y.1,.int .i64 y.2.1,.int .i64 y.2.2.1,.int .i64 y.2.2.2]]):=by rw[a4 _ (by omega) hBH,g2]
  have g30:H3.get h.n=some (.rows [[g.p.enc Pd.cells,g.keys.enc qac]]):=by rw[a4 _ (by omega) (hs2 _ (by omega)),g20]
  have k3:∀j,j<h.n->H3.get j=h.get j:=λj hj=>by rw[a4 _ (by omega) (hs2 _ (by omega)),k2 _ (by omega),hk j hj]
  have hO3:Own H3 (h.n+1) u3 1 (qab (qum g (t.take i)++[y.2.1])):=by simpa[qab]using a2
  simp -dsimp[-qar,-qnc];refine OpS.intro a1 ?_;simp -dsimp[-qar,-qnc];rw[qnc];have hno:∀{b:Bool},outN g y=b->b=false->qum g (t.take (i+1))=qum g (t.take i)++[y.2.1]:=λho hb=>by rw[htk,numN,ho,hb]; rfl
  by_cases d1:0<=y.1
  rotate_left
  ·simp -dsimp[g3,d1,h10,fw64 (n:=(i:Int)+1) (by omega) (by omega)];refine qah.intro (k-1) (by omega) ⟨i+1,u3,by omega,by simp,by simp,?_,by simp only; omega,g30,k3,rfl⟩;rw[hno (b:=false) (by simp[outN,d1]) rfl]; exact hO3
  by_cases d2:y.1<g.p.l.length
  rotate_left
  ·simp -dsimp[g3,g30,t1,d1,d2,h10,fw64 (n:=(i:Int)+1) (by omega) (by omega)];refine qah.intro (k-1) (by omega) ⟨i+1,u3,by omega,by simp,by simp,?_,by simp only; omega,g30,k3,rfl⟩;rw[hno (b:=false) (by simp[outN,d2]) rfl]; exact hO3
  by_cases d3:y.2.1=(lat g.p.l y.1.toNat).a.l.length
  rotate_left
  ·simp -dsimp[g3,g30,t1,d1,d2,d3,Pd.cells,h10,fw64 (n:=(i:Int)+1) (by omega) (by omega)];refine qah.intro (k-1) (by omega) ⟨i+1,u3,by omega,by simp,by simp,?_,by simp only; omega,g30,k3,rfl⟩;rw[hno (b:=false) (by simp[outN,d3]) rfl]; exact hO3
  have ho:outN g y=true:=by simp[outN,d1,d2,d3]
  have htk2:qum g (t.take (i+1))=qum g (t.take i)++[y.2.1]++[y.2.2.2]:=by rw[htk,numN,ho]; simp
  obtain⟨u4,H4,b1,b2,b3,b4,b5⟩:=qaC (mk:=h.n) (bytes:=8) (xs:=qab [y.2.2.2]) hO3 (by omega) (quK _) (by simp; omega) (by omega) (by omega);have hs3:∀j,j<h.n+1->slId u3≠some j:=λj hj=>hO3.slId hj;simp -dsimp[g3,g30,t1,d1,d2,<-d3,Pd.cells];rw[qaE (xs:=qab [y.2.2.2]) (by simp; rfl)];simp -dsimp;refine OpS.intro b1 ?_;simp -dsimp[h10,fw64 (n:=(i:Int)+1) (by omega) (by omega)];refine qah.intro (k-1) (by omega) ⟨i+1,u4,by omega,by simp,by simp,?_,by simp only; omega,?_,λj hj=>?_,rfl⟩
  ·rw[htk2]; simpa[qab]using b2
  ·rw[b4 _ (by omega) (hs3 _ (by omega)),g30]
  ·rw[b4 _ (by omega) (hs3 _ (by omega)),k3 j hj]
 ·have c1:i=t.length:=by simp at hc; omega
  subst c1;rw[List.take_length]at hO;simp -dsimp[h5];exact qhL hO (by omega)
theorem qu2(g:Gr)(hg:g.Small){va vb:V}{a b:List Nd}{ma mb:Nat}(hA:NdB h ⟨va,a,ma⟩)(hma:ma<=h.n)(hal:a.length<1000000)(hB:NdB h ⟨vb,b,mb⟩)(hmb:mb<=h.n)(hbl:b.length<1000000) :
  WF PR d mk (.fn 385 [] []) [.agg g.cells,va,vb] h λq=>q=⟨.bool (quw g a b),h⟩:=by
 refine qBt f385 b385 [.tm 6] rfl rfl rfl rfl rfl rfl ?_;unfold b385;have e2:[Sl.enc Pd.cells g.p,Sl.enc qac g.keys]=g.cells:=rfl;obtain⟨H,hH⟩:∃H,h.push (.rows [[g.p.enc Pd.cells,g.keys.enc qac]])=H:=⟨_,rfl⟩;have g0:H.get h.n=some (.rows [[g.p.enc Pd.cells,g.keys.enc qac]]):=by rw[<-hH]; simp
 have gn:H.n=h.n+1:=by rw[<-hH]; simp
 have gk:∀i,i<h.n->H.get i=h.get i:=λi hi=>by rw[<-hH]; simp[show ¬i=h.n by omega]
 have hA2:NdB H ⟨va,a,ma⟩:=hA.keep λi hi=>gk i (by simp only at hi; omega);have hB2:NdB H ⟨vb,b,mb⟩:=hB.keep λi hi=>gk i (by simp only at hi; omega);simp -dsimp[Gr.cells,-qnc];rw[hH,qnc];simp -dsimp[g0];rw[e2];refine WFS.by (qfV g hg) ?_
 intro v h' e;cases e;cases hm:mayB g with
 | false =>
  simp -dsimp[g0];simp[quw,hm]
 | true =>
 simp -dsimp[g0];rw[e2];refine WFS.by (quE g hA2 (by omega) hal) ?_
 intro v h' e;cases e;simp -dsimp[g0];rw[e2];refine WFS.by (quE g hB2 (by omega) hbl) ?_
 intro v h' e;cases e;have n1:=quA (g:=g) a;have n2:=quA (g:=g) b;simp -dsimp;refine WFS.by (quM (slOf (qum g a)) (slOf (qum g b)) (by rw[quV]; omega) (by rw[quV]; omega)) ?_
 intro v h' e;cases e;simp -dsimp[g0];rw[e2];simp -dsimp[qvk];simp[quw,hm]
end
end Go.Abs

