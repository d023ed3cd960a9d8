/- The law's first call, run by the kernel. -/
import Derived.Test.YtgebecbidfdhlaaGreatDoorAwg1
set_option linter.unusedSimpArgs false
set_option linter.unusedVariables false
namespace Go.Abs
open Go Pr
set_option maxRecDepth 100000
def cBC2 (o p:Obj):Heap:=⟨2,.n (some o) (.n (some p) .e .e) .e⟩
def XsH (N i:Nat) (H h:Heap):Prop:=h.n=3∧∃rs,h.get 2=some (.rows rs)∧rs.length=N∧(∀j,j<i→rs[j]?=some [.int .u8 120])∧(∀j,i≤j→j<N→rs[j]?=some [.int .u8 0])∧h.get 0=H.get 0∧h.get 1=H.get 1
theorem qyg {d:Bool}{mk:Nat}{h:Heap}(n:Int):WF PR d mk (.fn 423 [] []) [.int .i64 n] h λq=>q=⟨.int .i64 (if 0<n then 0 else 1),h⟩:=by
 refine WF.go f423 b423 [.tm 2] rfl rfl rfl rfl rfl rfl ?_;unfold b423
 by_cases c:0<n
 ·simp -dsimp [c]
 ·simp -dsimp [c]
theorem leastGreedy_ok (n:Int):WF PR false 0 (.fn 422 [] []) [.int .i64 n] ⟨0,.e⟩ λr=>r.v=.bool true:=by
 refine WF.go f422 b422 [.tm 2] rfl rfl rfl rfl rfl rfl ?_;unfold b422;simp -dsimp [-qar];rw [qar];simp -dsimp [-qar];rw [qar];simp -dsimp [-qar];refine WFS.by (qyf _) ?_
 intro v h' e;cases e;simp -dsimp [-qar];rw [qar];simp -dsimp [-qar];refine WFS.by (WF.ran qda runGg) ?_
 intro v h' e;cases e;have lg:gVg.length=2:=rfl;have og:ones gVg=true:=rfl;have tg:List.take 2 gVg=gVg:=rfl;have pg:qbW [.nils,.nils] 0 gVg=gVg:=rfl;have lh:gVh.length=2:=rfl;have oh:ones gVh=true:=rfl;have th:List.take 2 gVh=gVh:=rfl;have ph:qbW [.nils,.nils] 0 gVh=gVh:=rfl;simp -dsimp [lg,og,-qar];rw [pg,qar];have hH1:(((⟨0,.e⟩:Heap).push (.rows [[.nils,.nils]])).set 0 (.rows [gVg]))=cBC1 (.rows [gVg]):=rfl;rw [hH1];simp -dsimp [-qar];refine WFS.by (WF.lower qda (WF.ran qda (congrFun runGh _)) (Nat.zero_le _)) ?_
 intro v h' e;cases e;have hb1:(cBC1 (.rows [gVg])).n=1:=rfl;simp -dsimp [lh,oh,hb1,-qar];rw [ph,qar];have hH2:(((cBC1 (.rows [gVg])).push (.rows [[.nils,.nils]])).set 1 (.rows [gVh]))=cBC2 (.rows [gVg]) (.rows [gVh]):=rfl;rw [hH2];obtain⟨H,hH⟩:∃H,cBC2 (.rows [gVg]) (.rows [gVh])=H:=⟨_,rfl⟩;have gn:H.n=2:=by rw [←hH]; rfl
 have g0:H.get 0=some (.rows [gVg]):=by rw [←hH]; rfl
 have g1:H.get 1=some (.rows [gVh]):=by rw [←hH]; rfl
 rw [hH]
 by_cases c1:n<0
 ·simp -dsimp [c1]
 by_cases c2:12<n
 ·simp -dsimp [c1,c2]
 obtain⟨N,hN⟩:∃N:Nat,n=N:=⟨n.toNat,by omega⟩;subst hN;simp -dsimp [c1,c2,qgi (n:=N) (by omega),gn];have hn1:¬(0:Nat)=2:=by decide
 have hn2:¬(1:Nat)=2:=by decide
 refine qvg (λo st=>o=.normal∧XsH N N H st.h∧st.defs=[]∧(gK 0).run st.tm=.int .i64 N∧(gK 10).run st.tm=.sl 2 0 N 1 true∧(gK 4).run st.tm=.ptr 0 0 0∧(gK 7).run st.tm=.ptr 1 0 0∧(gK 6).run st.tm=.int .i64 0∧(gK 9).run st.tm=.int .i64 0) ?_ ?_
 ·refine qaf (λk st=>∃i:Nat,i+k=N∧(gK 11).run st.tm=.int .i64 i∧XsH N i H st.h∧st.defs=[]) N
   ⟨0,by omega,by simp,⟨by simp [gn],List.replicate N [.int .u8 0],by simp [gn],by simp,λj hj=>by omega,λj _ hj=>by rw [List.getElem?_replicate,if_pos hj],by simp [gn],by simp [gn]⟩,rfl⟩ ?_
  rintro k ⟨tm,h,defs,round⟩ ⟨i,hi,t11,⟨en,rs,e2,el,eb,ea,e0,e1⟩,rfl⟩ hK;have t0:=hK 0 rfl;have t10:=hK 10 rfl;have t4:=hK 4 rfl;have t7:=hK 7 rfl;have t6:=hK 6 rfl;have t9:=hK 9 rfl;simp at t0 t10 t11 t4 t7 t6 t9;simp only at en e2 e0 e1;clear hK;simp -dsimp [t0,t11];rw [qaa];refine⟨λhc=>?_,λhc=>?_⟩
  ·have d1:i<N:=by simpa using hc
   have hg:=ea i (Nat.le_refl _) d1;simp -dsimp [t10,t11,qam (e:=1) (id:=2) (b:=0) (n:=N) (f:=true) (k:=.i64) (show (0:Int)≤i by omega) (show (i:Int)<(N:Nat) by omega),e2,hg,qbW,fw64 (n:=(i:Int)+1) (by omega) (by omega)];refine qah.intro (k-1) (by omega) ⟨i+1,by omega,by simp,⟨by simp [en],rs.set i [.int .u8 120],by simp,by simp [el],λj hj=>?_,λj h1 h2=>?_,by simp [e0],by simp [e1]⟩,rfl⟩
   ·rw [List.getElem?_set];split
    ·rename_i e; subst e; rw [if_pos (by omega)]
    ·exact eb j (by omega)
   ·rw [List.getElem?_set,if_neg (by omega)];exact ea j (by omega) h2
  ·have d1:i=N:=by simp at hc; omega
   subst d1;simp -dsimp;exact⟨⟨en,rs,e2,el,eb,ea,e0,e1⟩,t0,t10,t4,t7,t6,t9⟩
 ·rintro o' ⟨tm,h,defs,round⟩ ⟨rfl,⟨en,rs,e2,el,eb,_,e0,e1⟩,rfl,t0,t10,t4,t7,t6,t9⟩;simp only at en e2 e0 e1 t0 t10 t4 t7 t6 t9;have hrs:rs=(List.replicate N (120:UInt8)).map qak:=by
   refine List.ext_getElem? λj=>?_
   by_cases hj:j<N
   ·rw [eb j hj,List.getElem?_map,List.getElem?_replicate,if_pos hj]; rfl
   ·rw [List.getElem?_eq_none (by omega),List.getElem?_eq_none (by simp; omega)]
  have hBW:∀g,WB h (xEv g 2 N).w:=λg=>.inr ⟨2,0,true,rs,by rw [xLen]; rfl,e2,by rw [xLen]; omega,by rw [xLen,List.drop_zero,List.take_of_length_le (by omega),hrs]; rfl,Nat.lt_succ_self _⟩;have hm:∀g,(xEv g 2 N).w.m≤h.n:=λg=>by rw [en]; exact Nat.le_refl 3
  have px0:qbW [.nils,.nils,.nils,.int .i64 0,.bool false] 0 gVg=gVg++[V.nils,V.int .i64 0,V.bool false]:=rfl;have px1:(gVg++[V.nils,V.int .i64 0,V.bool false]).length=5:=rfl;have px2:(((gVg++[V.nils,V.int .i64 0,V.bool false]).set 2 (.sl 2 0 N 1 true)).set 3 (.int .i64 8))=(xEv gGg 2 N).cells:=rfl;have py0:qbW [.nils,.nils,.nils,.int .i64 0,.bool false] 0 gVh=gVh++[V.nils,V.int .i64 0,V.bool false]:=rfl;have py1:(gVh++[V.nils,V.int .i64 0,V.bool false]).length=5:=rfl;have py2:(((gVh++[V.nils,V.int .i64 0,V.bool false]).set 2 (.sl 2 0 N 1 true)).set 3 (.int .i64 8))=(xEv gGh 2 N).cells:=rfl;have hMG:=xMay (g:=gGg) (id:=2) gMayN rfl rfl (N:=N) (by omega);have hMH:=xMay (g:=gGh) (id:=2) kMayN rfl rfl (N:=N) (by omega);have hbG:∀p∈gGg.p.l,bitB p.marks 8=false:=by decide
  have hbH:∀p∈gGh.p.l,bitB p.marks 8=false:=by decide
  have hN12:N≤12:=by omega
  have hrG:=(List.all_eq_true.1 (congrFun greedG 2)) N (List.mem_range.2 (by omega));have hrH:=(List.all_eq_true.1 (congrFun greedH 2)) N (List.mem_range.2 (by omega));simp only [qyj,Bool.and_eq_true,decide_eq_true_eq] at hrG hrH;obtain⟨rg1,rg2,rg3⟩:=hrG;obtain⟨rh1,rh2,rh3⟩:=hrH;have hAG:=λmk=>qwT (d:=false) (mk:=mk) (q:=-1) (xEvS (id:=2) (N:=N) qym (show (0:Nat)<1000000000 by decide) hN12) qym gRg (hBW gGg) (hm gGg) hMG (xRef (N:=N) (id:=2) hbG (-1)) (qyc hMG hN12 hbG (by decide)) (n:=0) (k:=0) (Int.le_refl 0) (show (0:Int)<(gGg.p.l.length:Nat) by decide) (Int.le_refl 0) (by rw [xLen]; omega) (qye hMG hbG rfl rg1);have hAH:=λmk=>qwT (d:=false) (mk:=mk) (q:=-1) (xEvS (id:=2) (N:=N) qyl (show (0:Nat)<1000000000 by decide) hN12) qyl kRg (hBW gGh) (hm gGh) hMH (xRef (N:=N) (id:=2) hbH (-1)) (qyc hMH hN12 hbH (by decide)) (n:=0) (k:=0) (Int.le_refl 0) (show (0:Int)<(gGh.p.l.length:Nat) by decide) (Int.le_refl 0) (by rw [xLen]; omega) (qye hMH hbH rfl rh1);simp only [qyd hMG hbG rfl] at hAG;simp only [qyd hMH hbH rfl] at hAH;have hN3:fw .i64 ((N:Int)+3)=((N+3:Nat):Int):=by rw [fw64 (by omega) (by omega)]; rfl
  have hxG:gVg++[V.sl 2 0 N 1 true,V.int .i64 8,V.bool false]=(xEv gGg 2 N).cells:=rfl;have hxH:gVh++[V.sl 2 0 N 1 true,V.int .i64 8,V.bool false]=(xEv gGh 2 N).cells:=rfl;simp -dsimp [t0,t6,t9,t10,t4,t7,e0,g0,e1,g1,tg,th,lg,lh,px0,px1];rw [hxG];refine WFS.by (hAG _) ?_
  rintro v h' ⟨f1,s1,hs1,f2⟩;simp only at f1 f2;subst f1 f2;simp -dsimp [t0,t6,t9,t10,t4,t7,e0,g0,e1,g1,tg,th,lg,lh,py0,py1];rw [hxH];refine WFS.by (hAH _) ?_
  rintro v h' ⟨f1,s2,hs2,f2⟩;simp only at f1 f2;subst f1 f2;have hl1:∀H,lenV .sl (s1.enc qui) H=some (.int .i64 ((N+3:Nat):Int)):=λH=>by simp [hs1,rg2]
  have hl2:∀H,lenV .sl (s2.enc qui) H=some (.int .i64 ((N+3:Nat):Int)):=λH=>by simp [hs2,rh2]
  have ha1:qaw 4 (s1.enc qui) (.int .i64 1)=some (.ptrR (qui (1,if 0<N then 0 else 1,0,N)) 0):=by
   rw [qap (f:=qui) (s:=s1) (esz:=4) (k:=.i64) (n:=1) (by omega) (by rw [hs1,rg2]; omega) (λ_=>rfl),hs1,show (1:Int).toNat=1 from rfl,rg3]
  have ha2:qaw 4 (s2.enc qui) (.int .i64 1)=some (.ptrR (qui (1,0,0,0)) 0):=by
   rw [qap (f:=qui) (s:=s2) (esz:=4) (k:=.i64) (n:=1) (by omega) (by rw [hs2,rh2]; omega) (λ_=>rfl),hs2,show (1:Int).toNat=1 from rfl,rh3]
  have l0:∀y:Nd,(qui y).length=4:=λ_=>rfl;have tk:∀y:Nd,List.take 4 (qui y)=qui y:=λ_=>rfl;have q1:∀a:Int,eqv (.struct [.int,.int,.int,.int]) (.agg (qui (1,a,0,N))) (.agg [.int .i64 1,.int .i64 a,.int .i64 0,.int .i64 N])=some true:=λa=>by
   have:=eqNd (1,a,0,N) (1,a,0,N);rw [decide_eq_true rfl] at this;exact this
  have q2:eqv (.struct [.int,.int,.int,.int]) (.agg (qui (1,0,0,0))) (.agg [.int .i64 1,.int .i64 0,.int .i64 0,.int .i64 0])=some true:=eqNd (1,0,0,0) (1,0,0,0);obtain⟨a,ha⟩:∃a:Int,(if 0<N then 0 else 1)=a:=⟨_,rfl⟩;have hz:∀d mk h,WF PR d mk (.fn 423 [] []) [.int .i64 N] h λq=>q=⟨.int .i64 a,h⟩:=λd mk h=>by
   have h1:=qyg (d:=d) (mk:=mk) (h:=h) (N:Int);rw [show (if 0<(N:Int) then (0:Int) else 1)=a by rw [←ha]; split<;>split<;>omega] at h1;exact h1
  rw [ha] at ha1;simp -dsimp [t0,t6,t9,hl1,hl2,hN3,ha1,l0,tk];refine WFS.by (hz _ _ _) ?_
  intro v h5 e;cases e;simp -dsimp [ha1,ha2,l0,tk,q1,q2,eqoV]
end Go.Abs

