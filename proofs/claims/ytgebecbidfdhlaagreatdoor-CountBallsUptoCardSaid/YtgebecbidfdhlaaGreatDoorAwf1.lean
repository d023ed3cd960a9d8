/- The law's first call, run by the kernel. -/
import Derived.Test.YtgebecbidfdhlaaGreatDoorAwe1
set_option linter.unusedSimpArgs false
set_option linter.unusedVariables false
namespace Go.Abs
open Go Pr
set_option maxRecDepth 100000
def cBC2 (o p:Obj):Heap:=⟨2,.n (some o) (.n (some p) .e .e) .e⟩
def XsH (N i:Nat) (H h:Heap):Prop:=h.n=3∧∃rs,h.get 2=some (.rows rs)∧rs.length=N∧(∀j,j<i→rs[j]?=some [.int .u8 120])∧(∀j,i≤j→j<N→rs[j]?=some [.int .u8 0])∧h.get 0=H.get 0∧h.get 1=H.get 1
theorem countBalls_ok (n:Int):WF PR false 0 (.fn 420 [] []) [.int .i64 n] ⟨0,.e⟩ λr=>r.v=.bool true:=by
 refine WF.go f420 b420 [.tm 2] rfl rfl rfl rfl rfl rfl ?_;unfold b420;simp -dsimp [-qar];rw [qar];simp -dsimp [-qar];rw [qar];simp -dsimp [-qar];refine WFS.by (awakeCount0 _) ?_
 intro v h' e;cases e;simp -dsimp [-qar];rw [qar];simp -dsimp [-qar];obtain⟨o⟩:Nonempty Obj:=⟨.dfr⟩;refine WFS.by (WF.ran qda (congrFun qxx o)) ?_
 intro v h' e;cases e;have lg:gVC1.length=2:=rfl;have og:ones gVC1=true:=rfl;have tg:List.take 2 gVC1=gVC1:=rfl;have pg:qbW [.nils,.nils] 0 gVC1=gVC1:=rfl;have lh:hVB.length=2:=rfl;have oh:ones hVB=true:=rfl;have th:List.take 2 hVB=hVB:=rfl;have ph:qbW [.nils,.nils] 0 hVB=hVB:=rfl;have hb0:(cBC0 o).n=0:=rfl;simp -dsimp [lg,og,hb0,-qar];rw [pg,qar];have hH1:(((cBC0 o).push (.rows [[.nils,.nils]])).set 0 (.rows [gVC1]))=cBC1 (.rows [gVC1]):=rfl;rw [hH1];simp -dsimp [-qar];refine WFS.by (WF.lower qda (WF.ran qda (congrFun runHB _)) (Nat.zero_le _)) ?_
 intro v h' e;cases e;have hb1:(cBC1 (.rows [gVC1])).n=1:=rfl;simp -dsimp [lh,oh,hb1,-qar];rw [ph,qar];have hH2:(((cBC1 (.rows [gVC1])).push (.rows [[.nils,.nils]])).set 1 (.rows [hVB]))=cBC2 (.rows [gVC1]) (.rows [hVB]):=rfl;rw [hH2];obtain⟨H,hH⟩:∃H,cBC2 (.rows [gVC1]) (.rows [hVB])=H:=⟨_,rfl⟩;have gn:H.n=2:=by rw [←hH]; rfl
 have g0:H.get 0=some (.rows [gVC1]):=by rw [←hH]; rfl
 have g1:H.get 1=some (.rows [hVB]):=by rw [←hH]; rfl
 rw [hH]
 by_cases c1:n<0
 ·simp -dsimp [c1]
 by_cases c2:12<n
 ·simp -dsimp [c1,c2]
 obtain⟨N,hN⟩:∃N:Nat,n=N:=⟨n.toNat,by omega⟩;subst hN;simp -dsimp [c1,c2,qgi (n:=N) (by omega),gn];have hn1:¬(0:Nat)=2:=by decide
 have hn2:¬(1:Nat)=2:=by decide
 refine qvg (λo st=>o=.normal∧XsH N N H st.h∧st.defs=[]∧(gK 0).run st.tm=.int .i64 N∧(gK 10).run st.tm=.sl 2 0 N 1 true∧(gK 4).run st.tm=.ptr 0 0 0∧(gK 7).run st.tm=.ptr 1 0 0∧(gK 6).run st.tm=.int .i64 0∧(gK 9).run st.tm=.int .i64 0) ?_ ?_
 ·refine qaf (λk st=>∃i:Nat,i+k=N∧(gK 11).run st.tm=.int .i64 i∧XsH N i H st.h∧st.defs=[]) N
   ⟨0,by omega,by simp,⟨by simp [gn],List.replicate N [.int .u8 0],by simp [gn],by simp,λj hj=>by omega,λj _ hj=>by rw [List.getElem?_replicate,if_pos hj],by simp [gn],by simp [gn]⟩,rfl⟩ ?_
  rintro k ⟨tm,h,defs,round⟩ ⟨i,hi,t11,⟨en,rs,e2,el,eb,ea,e0,e1⟩,rfl⟩ hK;have t0:=hK 0 rfl;have t10:=hK 10 rfl;have t4:=hK 4 rfl;have t7:=hK 7 rfl;have t6:=hK 6 rfl;have t9:=hK 9 rfl;simp at t0 t10 t11 t4 t7 t6 t9;simp only at en e2 e0 e1;clear hK;simp -dsimp [t0,t11];rw [qaa];refine⟨λhc=>?_,λhc=>?_⟩
  ·have d1:i<N:=by simpa using hc
   have hg:=ea i (Nat.le_refl _) d1;simp -dsimp [t10,t11,qam (e:=1) (id:=2) (b:=0) (n:=N) (f:=true) (k:=.i64) (show (0:Int)≤i by omega) (show (i:Int)<(N:Nat) by omega),e2,hg,qbW,fw64 (n:=(i:Int)+1) (by omega) (by omega)];refine qah.intro (k-1) (by omega) ⟨i+1,by omega,by simp,⟨by simp [en],rs.set i [.int .u8 120],by simp,by simp [el],λj hj=>?_,λj h1 h2=>?_,by simp [e0],by simp [e1]⟩,rfl⟩
   ·rw [List.getElem?_set];split
    ·rename_i e; subst e; rw [if_pos (by omega)]
    ·exact eb j (by omega)
   ·rw [List.getElem?_set,if_neg (by omega)];exact ea j (by omega) h2
  ·have d1:i=N:=by simp at hc; omega
   subst d1;simp -dsimp;exact⟨⟨en,rs,e2,el,eb,ea,e0,e1⟩,t0,t10,t4,t7,t6,t9⟩
 ·rintro o' ⟨tm,h,defs,round⟩ ⟨rfl,⟨en,rs,e2,el,eb,_,e0,e1⟩,rfl,t0,t10,t4,t7,t6,t9⟩;simp only at en e2 e0 e1 t0 t10 t4 t7 t6 t9;have hrs:rs=(List.replicate N (120:UInt8)).map qak:=by
   refine List.ext_getElem? λj=>?_
   by_cases hj:j<N
   ·rw [eb j hj,List.getElem?_map,List.getElem?_replicate,if_pos hj]; rfl
   ·rw [List.getElem?_eq_none (by omega),List.getElem?_eq_none (by simp; omega)]
  have hBW:∀g,WB h (xEv g 2 N).w:=λg=>.inr ⟨2,0,true,rs,by rw [xLen]; rfl,e2,by rw [xLen]; omega,by rw [xLen,List.drop_zero,List.take_of_length_le (by omega),hrs]; rfl,Nat.lt_succ_self _⟩;have hm:∀g,(xEv g 2 N).w.m≤h.n:=λg=>by rw [en]; exact Nat.le_refl 3
  have px0:qbW [.nils,.nils,.nils,.int .i64 0,.bool false] 0 gVC1=gVC1++[V.nils,V.int .i64 0,V.bool false]:=rfl;have px1:(gVC1++[V.nils,V.int .i64 0,V.bool false]).length=5:=rfl;have px2:(((gVC1++[V.nils,V.int .i64 0,V.bool false]).set 2 (.sl 2 0 N 1 true)).set 3 (.int .i64 8))=(xEv cGr 2 N).cells:=rfl;have py0:qbW [.nils,.nils,.nils,.int .i64 0,.bool false] 0 hVB=hVB++[V.nils,V.int .i64 0,V.bool false]:=rfl;have py1:(hVB++[V.nils,V.int .i64 0,V.bool false]).length=5:=rfl;have py2:(((hVB++[V.nils,V.int .i64 0,V.bool false]).set 2 (.sl 2 0 N 1 true)).set 3 (.int .i64 8))=(xEv hGr 2 N).cells:=rfl;have hMG:=xMay (g:=cGr) (id:=2) qv1 rfl rfl (N:=N) (by omega);have hMH:=xMay (g:=hGr) (id:=2) hMayN rfl rfl (N:=N) (by omega);have hcG:qvt (xEv cGr 2 N).calm 0 0 (xEv cGr 2 N).w.l.length (-1)=(if N=0 then 1 else 2:Nat):=by
   have h1:=qxm (id:=2) ballsG (show N≤12 by omega);rw [(show ∀N:Nat,N≤12→[1,2,2,2,2,2,2,2,2,2,2,2,2][N]?=some (if N=0 then 1 else 2) by decide) N (by omega)] at h1;rw [Option.some.inj h1];exact qxi hMG (show ∀p∈cGr.p.l,bitB p.marks 8=false by decide) (show 0<cGr.p.l.length by decide)
  have hcH:qvt (xEv hGr 2 N).calm 0 0 (xEv hGr 2 N).w.l.length (-1)=(1:Nat):=by
   have h1:=qxm (id:=2) ballsH (show N≤12 by omega);rw [(show ∀N:Nat,N≤12→[1,1,1,1,1,1,1,1,1,1,1,1,1][N]?=some 1 by decide) N (by omega)] at h1;rw [Option.some.inj h1];exact qxi hMH (show ∀p∈hGr.p.l,bitB p.marks 8=false by decide) (show 0<hGr.p.l.length by decide)
  have hxG:gVC1++[V.sl 2 0 N 1 true,V.int .i64 8,V.bool false]=(xEv cGr 2 N).cells:=rfl;have hxH:hVB++[V.sl 2 0 N 1 true,V.int .i64 8,V.bool false]=(xEv hGr 2 N).cells:=rfl;have hAG:=λmk=>qwa (d:=false) (mk:=mk) (xEvS (id:=2) (N:=N) qvS (show (0:Nat)<1000000000 by decide) (by omega)) qvS cRg (hBW cGr) (hm cGr);have hAH:=λmk=>qwa (d:=false) (mk:=mk) (xEvS (id:=2) (N:=N) qxz (show (0:Nat)<1000000000 by decide) (by omega)) qxz hRg (hBW hGr) (hm hGr);simp -dsimp [t0]
  by_cases cN:N=0
  ·subst cN;simp -dsimp [t6,t9,t10,t4,t7,e0,g0,e1,g1,tg,th,lg,lh,px0,px1];rw [hxG];refine WFS.by (hAG _) ?_
   intro v h' e;rw [hcG] at e;cases e;simp -dsimp [t6,t9,t10,t4,t7,e0,g0,e1,g1,tg,th,lg,lh,py0,py1];rw [hxH];refine WFS.by (hAH _) ?_
   intro v h' e;rw [hcH] at e;cases e;simp -dsimp
  ·rw [if_neg cN] at hcG;simp -dsimp [cN,t6,t9,t10,t4,t7,e0,g0,e1,g1,tg,th,lg,lh,px0,px1];rw [hxG];refine WFS.by (hAG _) ?_
   intro v h' e;rw [hcG] at e;cases e;simp -dsimp [t6,t9,t10,t4,t7,e0,g0,e1,g1,tg,th,lg,lh,py0,py1];rw [hxH];refine WFS.by (hAH _) ?_
   intro v h' e;rw [hcH] at e;cases e;simp -dsimp
end Go.Abs

