/- What the program's functions come to, by the evaluator's rules; the intermediate code. -/
import Derived.Test.YtmjegbapnhmnhaaGreatDoorAc3
set_option linter.unusedSimpArgs false
set_option linter.unusedVariables false
namespace Go.Abs
open Go Pr
set_option maxRecDepth 10000
theorem qAB {g g':Gr}(h:qtQ g g') {w:List UInt8}{l:List Sy}{x y:Int}(hd:DerL g' w l x y):DerL g w l x y:=by
 induction hd with
 | nil=>exact .nil
 | term hk hm _ ih=>exact .term hk hm ih
 | non hk hn ha _ _ ih1 ih2=>exact .non hk hn (by rw [<-h.a]; exact ha) ih1 ih2
theorem qzR (g:Gr):qtQ g (qz2 g):=qtj (qAI _)
theorem qAp {x:Ev}(hx:x.Ok):(qz2 x.g).Fine/\∀p∈(qz2 x.g).p.l,∀a∈p.a.l,∀s∈a.l,s.r.l.length<1500000:=by
 have hbl:∀p∈(qz2 x.g).p.l,∃q∈x.g.p.l,p=qs5 q:=λp hp=>by
  have hp':p∈x.g.p.l.map qs5:=by rw [<-qAI (x.g.p.l.map qs5)]; exact hp
  obtain⟨q,hq,rfl⟩:=List.mem_map.1 hp';exact⟨q,hq,rfl⟩
 have hg:=hx.g;refine⟨⟨⟨by show (slP (x.g.p.l.map qs5)).l.length<_; rw [qAI,List.length_map]; exact hg.p,λp hp=>?_,λp hp=>?_,λp hp=>?_,λp hp=>?_⟩,λp hp=>?_⟩,λp hp=>?_⟩
 ·obtain⟨q,hq,rfl⟩:=hbl p hp; exact hg.a q hq
 ·obtain⟨q,hq,rfl⟩:=hbl p hp; exact hg.s q hq
 ·obtain⟨q,hq,rfl⟩:=hbl p hp; exact hg.r q hq
 ·obtain⟨q,hq,rfl⟩:=hbl p hp; simp [qs5,Sl.l]
 ·obtain⟨q,hq,rfl⟩:=hbl p hp; exact hg.fr q hq
 ·obtain⟨q,hq,rfl⟩:=hbl p hp; exact hx.r q hq
theorem qAh (x:Ev) (n k r:Int):(ofE x n k r).2.length<=201:=by
 by_cases c:mayE x=true/\0<=n/\n<x.g.p.l.length/\0<=k/\k<=x.w.l.length
 ·rw [qqO c.1 c.2.1 c.2.2.1 c.2.2.2.1 c.2.2.2.2];exact qly c.1 c.2.1 c.2.2.1 c.2.2.2.1 c.2.2.2.2
 ·rw [show ofE x n k r=([],[]) from if_neg c]; simp
section
variable {d:Bool}{mk:Nat}{h:Heap}
end
def qBa (g:Gr) (w:List UInt8) (p:Int × Int):Prop:=(qcP g).2=0/\w.length<=200/\Spot g w p
def SpotV (g:Gr) (w:List UInt8) (V:List (Int × Int)):Prop:=∀p,p∈V↔qBa g w p
open Classical in
noncomputable def qA1 (g:Gr) (w:List UInt8) (k:Int):List Int:=((List.range g.p.l.length).filter λn:Nat=>decide (qBa g w ((n:Int),k))).map λn:Nat=>(n:Int)
theorem qBk {g:Gr}(hg:g.Fine) (hr:∀p∈g.p.l,∀a∈p.a.l,∀s∈a.l,s.r.l.length<1500000) {w:Wd}{mk:Nat}{h:Heap}(hB:WB h w) (hm:w.m<=h.n) (hw:w.l.length<1000000000) (hmk:mk<=h.n) :
  WF PR false mk (.fn 13 [] []) [.agg g.cells,w.v] h λr=>∃K E W f,r.v=.ptr K 0 0/\r.h.get K=some (.rows [[g.p.enc Pd.cells,g.keys.enc qac,w.v,.map E,.map W,.int .i64 f]])/\qzy g w.l f/\h.n<=r.h.n/\K<r.h.n/\W<r.h.n/\(∀i,i<h.n->r.h.get i=h.get i)/\∃V,WOk W V r.h/\SpotV g w.l V:=by
 refine WF.go f13 b13 [.tm 4] rfl rfl rfl rfl rfl rfl ?_;unfold b13;have hgc:[Sl.enc Pd.cells g.p,Sl.enc qac g.keys]=g.cells:=rfl;obtain⟨hcv,hone⟩:=hB.cells;have hlw:∀H,lenV .sl w.v H=some (.int .i64 w.l.length):=λH=>hB.len;simp -dsimp [Gr.cells,-qar];rw [qar];simp -dsimp [Gr.cells,hcv,hone,-qar];rw [qar];simp -dsimp [Gr.cells,hcv,hone,-qar];refine qgr (λst=>(∀i,i<h.n->st.h.get i=h.get i)/\st.h.n=h.n+4/\st.h.get h.n=some (.rows [g.cells])/\LS g w (h.n+3) (h.n+1) (h.n+2) 0 [] st.h/\(gK 1).run st.tm=w.v/\(gK 2).run st.tm=.ptr h.n 0 0/\(gK 5).run st.tm=.ptr (h.n+3) 0 0/\st.defs=[]) ?_ ?_
 ·refine⟨λi hi=>by simp only [Heap.get_push,Heap.n_push]; rw [if_neg (by omega),if_neg (by omega),if_neg (by omega),if_neg (by omega)],by simp,by simp; rfl,⟨⟨by simp,⟨[],0,[],by simp,rfl,by simp [qaS]⟩,by simp,by simp,by simp,by omega,by omega,by omega,hB.keep λi hi=>?_,by omega,by omega,by omega⟩,[],0,[],by simp,rfl,by simp [qaS]⟩,by simp,by simp,by simp,rfl⟩;simp only [Heap.get_push,Heap.n_push];rw [if_neg (by omega),if_neg (by omega),if_neg (by omega),if_neg (by omega)]
 rintro⟨tm,H,defs,round⟩ ⟨hkp,hn,g1,hL,t1,t2,t5,rfl⟩;simp only at hkp hn g1 hL t1 t2 t5;simp -dsimp [t2,g1,Gr.cells];rw [hgc];refine WFS.by (qqB g hg) ?_
 intro v h1 e;cases e;simp -dsimp;rw [Gd_t];refine⟨λhc=>?_,λhc=>?_⟩
 ·simp at hc;simp -dsimp [t1,hc,hlw];rw [qaa];refine⟨λhd=>?_,λhd=>?_⟩
  ·simp at hd;have hd':w.l.length<=200:=by omega
   obtain⟨c1,c2⟩:=qc8 hc;have hG:GrW g w:=⟨c1,c2,hd',hr⟩;simp -dsimp [t5];refine WFS.by (qz6 hG _ [] (0,0) 0 H _ _ _ mk (Nat.lt_succ_self _) .root hL (by omega) (by omega) (by omega)) ?_
   rintro v H2 ⟨f,U,hL2,hA,h0,hF⟩;simp only at hL2;simp -dsimp [t5];refine⟨_,_,f,hL2.l.k,.inl ⟨hc,hd',qzT hA h0⟩,by have:=hF.1; simp only at this; omega,hL2.l.lk,hL2.l.lw,λi hi=>by have:=hF.2 i (by omega) (by omega) (by omega) (by omega); simp only at this; rw [this,hkp i hi],U,hL2.w,λp=>⟨λhp=>⟨hc,hd',(hA.done p hp (by simp)).2⟩,λhp=>?_⟩⟩;have hsp:=hp.2.2;induction hsp with
   | root=>exact h0
   | step h1 hs ih=>exact (hA.done _ (ih ⟨hc,hd',h1⟩) (by simp)).1.2 _ hs
  ·simp at hd;simp -dsimp [t5];exact⟨_,_,0,hL.l.k,.inr ⟨λh=>by omega,rfl⟩,by omega,hL.l.lk,hL.l.lw,hkp,[],hL.w,λp=>⟨λhp=>by simp at hp,λhp=>by have:=hp.2.1; omega⟩⟩
 ·simp at hc;simp -dsimp [t5,hc];exact⟨_,_,0,hL.l.k,.inr ⟨λh=>hc h.1,rfl⟩,by omega,hL.l.lk,hL.l.lw,hkp,[],hL.w,λp=>⟨λhp=>by simp at hp,λhp=>absurd hp.1 hc⟩⟩
theorem qBm {g:Gr}(hg:g.Fine) (hr:∀p∈g.p.l,∀a∈p.a.l,∀s∈a.l,s.r.l.length<1500000) {w:Wd}{d:Bool}{mk:Nat}{h:Heap}(hB:WB h w) (hm:w.m<=h.n) (hw:w.l.length<1000000000) (k:Int) :
  WF PR d mk (.fn 9 [] []) [.agg g.cells,w.v,.int .i64 k] h λr=>r=⟨(slOf (qA1 g w.l k)).enc qaM,h⟩:=by
 refine WF.po f9 b9 [.tm 6] rfl rfl rfl rfl rfl rfl ?_;unfold b9;have hgc:[Sl.enc Pd.cells g.p,Sl.enc qac g.keys]=g.cells:=rfl;simp -dsimp [Gr.cells];rw [hgc];refine WFS.by (qBk hg hr (h:=h.push (.rows [g.cells])) (hB.keep λi hi=>by rw [Heap.get_push,if_neg (by omega)]) (by simp; omega) hw (by simp)) ?_
 rintro v H ⟨K,E,W,f,rfl,hK,hP,hn,hKl,hWl,hkp,U,⟨es,c,S,w1,w2,w3⟩,hV⟩;simp only at hK hn hKl hWl hkp w1;simp only [Heap.n_push] at hn hkp;have g1:H.get h.n=some (.rows [[g.p.enc Pd.cells,g.keys.enc qac]]):=by rw [hkp h.n (by omega),Heap.get_push,if_pos rfl]; rfl
 have hlen:∀H,lenV .sl (g.p.enc Pd.cells) H=some (.int .i64 g.p.l.length):=λH=>by simp
 have hgp:=hg.p;simp -dsimp [g1,hlen];obtain⟨Q,hQ⟩:∃Q:Nat->Bool,Q=λn:Nat=>(open Classical in decide (qBa g w.l ((n:Int),k))):=⟨_,rfl⟩;have hsl:∀i:Nat,qA1 g w.l k=((List.range g.p.l.length).filter Q).map λn:Nat=>(n:Int):=λ_=>by rw [hQ]; rfl
 refine qaf (λm st=>∃(i:Nat) (v:V),i+m=g.p.l.length/\(gK 16).run st.tm=.int .i64 i/\(gK 8).run st.tm=v/\st.h.get K=some (.rows [[g.p.enc Pd.cells,g.keys.enc qac,w.v,.map E,.map W,.int .i64 f]])/\st.h.get W=some (.map es c)/\Own st.h H.n v 1 (qab (((List.range i).filter Q).map λn:Nat=>(n:Int)))/\H.n<=st.h.n/\st.defs=[]) g.p.l.length
  ⟨0,.nils,by omega,by simp,by simp,hK,w1,.inl ⟨rfl,by simp [qab]⟩,Nat.le_refl _,rfl⟩ ?_
 rintro m ⟨tm,H1,defs,round⟩ ⟨i,v,hi,t16,t8,hK1,hW1,hO,hn1,rfl⟩ hK';have u2:=hK' 2 rfl;have u7:=hK' 7 rfl;have u15:=hK' 15 rfl;simp at u2 u7 u15 t16 t8;simp only at hK1 hW1 hO hn1;clear hK';simp -dsimp [t16,u15];rw [qaa];refine⟨λhc=>?_,λhc=>?_⟩
 ·have d1:i<g.p.l.length:=by simpa using hc
  have hlook:=qiC (kn:=.agg [.int,.int]) (zero:=.bool false) qzH qzS hW1 w2 ((i:Int),k);rw [w3] at hlook;have hkk:qzC ((i:Int),k)=.agg [.int .i64 i,.int .i64 k]:=rfl;rw [hkk] at hlook;have hr1:((List.range (i+1)).filter Q).map (λn:Nat=>(n:Int))=((List.range i).filter Q).map (λn:Nat=>(n:Int))++if Q i=true then [(i:Int)] else []:=by
   rw [List.range_succ,List.filter_append,List.map_append];congr 1;rw [List.filter_cons];split<;>simp
  have f3:fw .i64 ((i:Int)+1)=((i+1:Nat):Int):=by rw [fw64 (by omega) (by omega)]; rfl
  have hQi:Q i=true↔((i:Int),k)∈U:=by rw [hQ,hV]; simp
  by_cases hm2:((i:Int),k)∈U
  ·have hq:=hQi.2 hm2;rw [if_pos hq] at hr1;rw [if_pos hm2] at hlook;obtain⟨v3,H3,a1,a2,a3,a4,a5⟩:=qaC (mk:=h.n) (bytes:=8) (xs:=qab [(i:Int)]) hO (by omega) (λq hq=>by simp only [qab,List.map_cons,List.map_nil,List.mem_singleton] at hq; subst hq; exact⟨rfl,rfl⟩) (by
    have:=List.length_filter_le Q (List.range i);simp [qab] at this ⊢; omega) (by omega) hn1
   have hs3:∀j,j<H.n->slId v≠some j:=λj hj=>hO.slId hj;simp -dsimp [t16,u7,u2,hK1,qcT,hlook,qAn];rw [qaE (xs:=qab [(i:Int)]) (by simp [qal,qab])];simp -dsimp [t8];refine OpS.intro a1 ?_;simp -dsimp [t16,f3];refine qah.intro (m-1) (by omega) ⟨i+1,v3,by omega,by simp,by simp,by simp only; rw [a4 K (by omega) (hs3 _ hKl),hK1],by simp only; rw [a4 W (by omega) (hs3 _ hWl),hW1],?_,by simp only; omega,rfl⟩;rw [hr1];simpa [qab] using a2
  ·have hq:¬Q i=true:=λh=>hm2 (hQi.1 h);rw [if_neg hq,List.append_nil] at hr1;rw [if_neg hm2] at hlook;simp -dsimp [t16,u7,u2,hK1,qcT,hlook,f3];exact qah.intro (m-1) (by omega) ⟨i+1,v,by omega,by simp,by simpa using t8,hK1,hW1,by rw [hr1]; exact hO,hn1,rfl⟩
 ·have d1:i=g.p.l.length:=by simp at hc; omega
  subst d1;simp -dsimp [t8];rw [hsl 0];exact qhL hO (by omega)
theorem qBb {g:Gr}{w:List UInt8}{k n:Int}(h:n∈qA1 g w k):qBa g w (n,k):=by
 simp only [qA1,List.mem_map,List.mem_filter,decide_eq_true_eq] at h;obtain⟨m,⟨_,h2⟩,rfl⟩:=h;exact h2
theorem qBf {g:Gr}{w:List UInt8}{k:Int}{n:Nat}(hn:n<g.p.l.length) (h:qBa g w ((n:Int),k)):(n:Int)∈qA1 g w k:=by
 simp only [qA1,List.mem_map,List.mem_filter,decide_eq_true_eq];exact⟨n,⟨List.mem_range.2 hn,h⟩,rfl⟩
theorem qBc {g:Gr}{w:List UInt8}{k:Int}:(qA1 g w k).length<=g.p.l.length:=by
 simp only [qA1,List.length_map];refine Nat.le_trans (List.length_filter_le _ _) (by simp)
theorem farSpots_ok (hA:Awake 5) (x:Ev) (hx:x.Ok) (_hkl:x.g.keys.l.length<1000000000) (s:Sl UInt8) (hs:x.w=⟨s.enc qak,s.l,0⟩) (k:Int) :
  WF PR false 0 (.fn 309 [] []) [.agg x.cells,.int .i64 k] ⟨0,.e⟩ λr=>r.v=.bool true:=by
 refine WF.go f309 b309 [.tm 4] rfl rfl rfl rfl rfl rfl ?_;unfold b309;have hB0:∀H,WB H x.w:=λH=>.inl ⟨s,by rw [hs],by rw [hs]⟩;have hlw:∀H,lenV .sl x.w.v H=some (.int .i64 x.w.l.length):=λH=>(hB0 H).len;have hxc:[x.g.p.enc Pd.cells,x.g.keys.enc qac,x.w.v,.int .i64 x.tab,.bool x.heal]=x.cells:=rfl;have hgc:[x.g.p.enc Pd.cells,x.g.keys.enc qac]=x.g.cells:=rfl;have hm0:x.w.m=0:=by rw [hs]
 have hv:x.w.v=s.enc qak:=by rw [hs]
 have hwl:x.w.l=s.l:=by rw [hs]
 have hwc:=(hB0 ⟨0,.e⟩).cells;simp -dsimp [-qar];rw [qar];simp -dsimp [Ev.cells,-qar];rw [hxc];obtain⟨h1,hh1⟩:∃h1,(Heap.push ⟨0,.e⟩ (Obj.rows [x.cells]):Heap)=h1:=⟨_,rfl⟩;have g1:h1.get 0=some (.rows [[x.g.p.enc Pd.cells,x.g.keys.enc qac,x.w.v,.int .i64 x.tab,.bool x.heal]]):=by rw [<-hh1]; simp; rfl
 have n1:h1.n=1:=by rw [<-hh1]; simp
 rw [qar];simp -dsimp [-qar];refine WFS.by (hA _ _ _ (Nat.zero_le _)) ?_
 intro v h' e;cases e;rw [hh1];simp -dsimp [-qar];rw [qar];simp -dsimp [g1,-qar];rw [hxc];refine WFS.by (qe5 x hx.few (hB0 _)) ?_
 rintro v h' ⟨e0,b,e1,hb⟩;simp only at e0 e1;subst e0 e1;cases b with
 | false=>simp -dsimp
 | true =>
 obtain⟨hp16,hw16⟩:=hb rfl;simp -dsimp [g1];rw [hgc];refine WFS.by (qBm hx.g hx.r (hB0 _) (by omega) hx.w k) ?_
 intro v h' e;cases e;simp -dsimp [g1];rw [hgc];refine WFS.by (qAq hx.g hx.r (hB0 _) (by omega) hx.w) ?_
 intro v h' e;cases e;have hP:=qAg hx.g hx.r (w:=x.w.l) hx.w;have hPi:(qcP x.g).2=0->qzz x.g x.w.l (qzM x.g x.w.l):=λhck=>by
  rcases hP with ⟨_,_,h⟩|⟨h,_⟩
  ·exact h
  ·exact absurd ⟨hck,by omega⟩ h
 obtain⟨dd,hdd⟩:∃dd,qzM x.g x.w.l=dd:=⟨_,rfl⟩;rw [hdd] at hPi ⊢;obtain⟨L,hL⟩:∃L,qA1 x.g x.w.l k=L:=⟨_,rfl⟩;have hLl:L.length<=16:=by rw [<-hL]; exact Nat.le_trans qBc (by omega)
 have hlen:∀H,lenV .sl ((slOf L).enc qaM) H=some (.int .i64 L.length):=λH=>by simp
 rw [hL];simp -dsimp [hlen]
 by_cases cL:L=[]
 ·simp -dsimp [cL]
  by_cases ck:k=0
  ·subst ck;have hy0:[x.g.p.enc Pd.cells,x.g.keys.enc qac,x.w.v,V.int .i64 1,V.bool false]=(⟨x.g,x.w,1,false⟩:Ev).cells:=rfl;simp -dsimp [g1,qbW,Gr.cells,hwc];rw [hy0];refine WFS.by (qbJ (⟨x.g,x.w,1,false⟩:Ev) hx.g (hB0 _)) ?_
   intro v h' e;cases e;have hno:mayE (⟨x.g,x.w,1,false⟩:Ev)=false:=by
    cases hm:mayE (⟨x.g,x.w,1,false⟩:Ev) with
    | false=>rfl
    | true =>
     exfalso;simp only [mayE,Bool.and_eq_true,decide_eq_true_eq] at hm;have hck:(qcP x.g).2=0:=by simpa using hm.1
     have hb:=qz5 (qc8 hck).1 (Spot.root (g:=x.g) (w:=x.w.l));have:((0:Nat):Int)∈L:=by
      rw [<-hL];exact qBf (by have:=hb.2.1; simpa using this) ⟨hck,by omega,Spot.root⟩
     rw [cL] at this; cases this
   simp -dsimp [hno]
  ·simp -dsimp [ck]
 simp -dsimp [cL,g1];rw [hgc];refine OneS.by (One.of (h':=h') rfl (qAM x.g hx.g.p)) ?_
 have hb:(qz2 x.g).cells=[(slP (x.g.p.l.map qs5)).enc Pd.cells,.nils]:=rfl;have hyc:[(slP (x.g.p.l.map qs5)).enc Pd.cells,V.nils,x.w.v,V.int .i64 1,V.bool false]=(⟨qz2 x.g,x.w,1,false⟩:Ev).cells:=rfl;simp -dsimp [g1,qbW,hb,hwc,n1];have p1:(h'.push (.rows [[V.nils,V.nils,V.nils,V.int IntKind.i64 0,V.bool false]])).get 0=some (.rows [[x.g.p.enc Pd.cells,x.g.keys.enc qac,x.w.v,.int .i64 x.tab,.bool x.heal]]):=by
  rw [Heap.get_push,if_neg (by omega),g1]
 refine⟨⟨qA6 rfl rfl (v:=.agg x.g.cells) ?_ ?_,qBj rfl rfl ?_,qA6 rfl rfl (v:=x.w.v) ?_ ?_⟩,?_⟩
 ·simp -dsimp [p1]; rfl
 ·simp -dsimp
 ·simp -dsimp [<-hb];exact One.of rfl (qAM x.g hx.g.p)
 ·simp -dsimp [p1]
 ·simp -dsimp
 obtain⟨H2,hH2⟩:∃H2,(h'.push (.rows [[V.nils,V.nils,V.nils,V.int IntKind.i64 0,V.bool false]])).set 1 (Obj.rows [[Sl.enc Pd.cells (slP (List.map qs5 x.g.p.l)),V.nils,x.w.v,V.int IntKind.i64 1,V.bool false]])=H2:=⟨_,rfl⟩;have G1:H2.get 1=some (.rows [[Sl.enc Pd.cells (slP (List.map qs5 x.g.p.l)),V.nils,x.w.v,V.int IntKind.i64 1,V.bool false]]):=by rw [<-hH2,Heap.get_set,if_pos rfl]
 rw [hH2];obtain⟨y,hy⟩:∃y:Ev,(⟨qz2 x.g,x.w,1,false⟩:Ev)=y:=⟨_,rfl⟩;rw [hy] at hyc;obtain⟨hF,hR⟩:=qAp hx;have hyg:y.g=qz2 x.g:=by rw [<-hy]
 have hyw:y.w=x.w:=by rw [<-hy]
 have hyh:y.heal=false:=by rw [<-hy]
 have hS:EvS y:=⟨by rw [hyg]; exact hF.toSmall,by rw [hyg]; show (0:Nat)<1000000000; decide,by rw [hyw]; omega⟩;have hiaI:∀{i:Nat},i<L.length->qaw 1 ((slOf L).enc qaM) (.int .i64 i)=some (.ptrR (qaM (lat L i)) 0):=λ{i} hi=>by
  have:=qap (f:=qaM) (s:=slOf L) (esz:=1) (k:=.i64) (n:=(i:Int)) (by omega) (by simp; omega) (λ_=>rfl);rw [this]; simp
 have hia:∀E:List En,E.length<=201->E≠[]->qaw 2 ((slE E).enc qad) (.int .i64 (fw .i64 ((E.length:Int)-1)))=some (.ptrR (qad (lat E (E.length-1))) 0):=λE h1 h2=>by
  have hp:=List.length_pos_iff.2 h2;rw [fw64 (by omega) (by omega)];have:=qap (f:=qad) (s:=slE E) (esz:=2) (k:=.i64) (n:=(E.length:Int)-1) (by omega) (by rw [qjd]; omega) (λ_=>rfl);rw [this,qjd,show ((E.length:Int)-1).toNat=E.length-1 by omega]
 have hlenE:∀(E:List En) H,lenV .sl ((slE E).enc qad) H=some (.int .i64 E.length):=λE H=>by simp
 have hspot:∀n∈L,qBa x.g x.w.l (n,k):=λn hn=>qBb (by rw [hL]; exact hn);have hend:∀n∈L,∀e∈(ofE y n k (-1)).2,e.1<=dd:=λn hn e he=>by
  obtain⟨h1,h2,h3⟩:=hspot n hn;have h4:=(qAi hyh he).1;rw [hyg,hyw] at h4;obtain⟨a,ha,hd⟩:=h4;exact qBn (qc8 h1).1 (hPi h1) h3 ⟨a,by rw [<-(qzR x.g).a]; exact ha,qAB (qzR x.g) hd⟩
 have hat:k<=dd:=by
  obtain⟨n,hn⟩:=List.exists_mem_of_ne_nil L cL;obtain⟨h1,h2,h3⟩:=hspot n hn;exact qA5 (qc8 h1).1 (hPi h1) h3
 refine qaf (λm st=>∃i:Nat,i+m=L.length/\(gK 10).run st.tm=.int .i64 i/\st.h=H2/\st.defs=[]) L.length ⟨0,by omega,by simp,rfl,rfl⟩ ?_;rintro m ⟨tm,h2,defs,round⟩ ⟨i,hi,h10,rfl,rfl⟩ hK;have t1:=hK 1 rfl;have t7:=hK 7 rfl;have t8:=hK 8 rfl;have t9:=hK 9 rfl;simp at t1 t7 t8 t9 h10;clear hK;simp -dsimp [h10,t7,hlen];rw [qaa];refine⟨λhc=>?_,λhc=>?_⟩
 ·have c1:i<L.length:=by simpa using hc
  have hia1:=hiaI c1;have hmem:lat L i∈L:=qai c1;obtain⟨n,hn⟩:∃n,lat L i=n:=⟨_,rfl⟩;rw [hn] at hia1 hmem;simp -dsimp [t1,t7,t9,h10,G1,hia1,qaM];rw [hyc];refine WFS.by (qec y hS (by rw [hyg]; exact hF) (by rw [hyg]; exact hR) (by rw [hyw]; exact hB0 _) (by rw [hyw]; omega) n k (-1)) ?_
  intro v h' e;cases e;have hE:=qAh y n k (-1);have hle:=hend n hmem;obtain⟨E,hEq⟩:∃E,(ofE y n k (-1)).2=E:=⟨_,rfl⟩;rw [hEq] at hE hle ⊢;have hf1:=fw64 (n:=(i:Int)+1) (by omega) (by omega)
  by_cases cE:E=[]
  ·simp -dsimp [hlenE,cE,h10,hf1];exact qah.intro (m-1) (by omega) ⟨i+1,by omega,by simp,rfl,rfl⟩
  ·have hlast:=hle (lat E (E.length-1)) (qai (by have:=List.length_pos_iff.2 cE; omega));have hnd:¬dd<(lat E (E.length-1)).1:=by omega
   simp -dsimp [hlenE,List.length_pos_iff.2 cE,hia E hE cE,qad,t8,hnd,h10,hf1];exact qah.intro (m-1) (by omega) ⟨i+1,by omega,by simp,rfl,rfl⟩
 ·simp -dsimp [t1,t8,hat]
end Go.Abs

