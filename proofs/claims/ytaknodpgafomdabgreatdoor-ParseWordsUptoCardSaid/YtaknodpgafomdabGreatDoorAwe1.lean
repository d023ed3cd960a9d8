/- The law's first call, run by the kernel. -/
import Derived.Test.YtaknodpgafomdabGreatDoorAwd1
set_option linter.unusedSimpArgs false
set_option linter.unusedVariables false
namespace Go.Abs
open Go Pr
set_option maxRecDepth 100000
set_option linter.unusedSimpArgs false
def qDO(n:Int):List UInt8:=if n=0 then [105,102]else if n=1 then [105]else if n=2 then [105,102,102]else if n=3 then [100,111]else if n=4 then [120]else if n=5 then [100,111,100,111]else [105,100]
def qDM:List Int->List UInt8
 | []=>[]
 | n::l=>qDO n++qDL (l.map qDO)
theorem qDS:∀(a b:List (List UInt8)),qDL (a++b)=qDL a++qDL b
 | [],b=>rfl
 | w::a,b=>by
  have:=qDS a b;simp only[List.cons_append,qDL,this,List.append_assoc]
theorem qEa{l:List Int}(n:Int)(h:l≠[]):qDM (l++[n])=qDM l++([32]++qDO n):=by
 cases l with
 | nil=>exact absurd rfl h
 | cons a l =>
  simp only[List.cons_append,qDM,List.map_append,qDS,List.map_cons,List.map_nil,qDL,List.append_nil,List.append_assoc];rfl
theorem qDV(n:Int):(qDO n).length<=4:=by
 unfold qDO
 repeat' split
 all_goals decide
theorem qD9:∀l:List Int,(qDL (l.map qDO)).length<=5 * l.length
 | []=>by simp[qDL]
 | n::l=>by
  have:=qD9 l;have:=qDV n;simp only[List.map_cons,qDL,List.length_cons,Jao]; omega
theorem qD8(l:List Int):(qDM l).length<=5 * l.length:=by
 cases l with
 | nil=>simp[qDM]
 | cons n l =>
  have:=qD9 l;have:=qDV n;simp only[qDM,Jao,List.length_cons]; omega
theorem qEc{n:Int}:IsW (qDO n):=by
 unfold IsW qDO
 repeat' split
 all_goals exact⟨by decide,by decide⟩
theorem qEr{n:Int}(n0:0<=n)(n1:n<7):keyB (qDO n)=(decide (n=0)||decide (n=3)):=by
 have:n=0\/n=1\/n=2\/n=3\/n=4\/n=5\/n=6:=by omega
 rcases this with rfl|rfl|rfl|rfl|rfl|rfl|rfl<;>decide
def qDQ(n:Int):Bool:=decide (n≠0)&&decide (n≠3)
theorem qEd{l:List Int}(h:∀n∈l,0<=n/\n<7):(l.map qDO).all (λw=>!keyB w)=l.all qDQ:=by
 induction l with
 | nil=>rfl
 | cons n l I =>
  rw[List.map_cons,List.all_cons,List.all_cons,I λm hm=>h m (by simp[hm])];congr 1;have:=h n (by simp);rw[qEr this.1 this.2];unfold qDQ
  by_cases a:n=0<;>by_cases b:n=3<;>simp[a,b]
def wdA(n:Int):Nat:=if n=0 then 4 else if n=1 then 2 else 1
theorem qEs{v:V}{mm:Nat}{l:List UInt8}(hm:mayE (wdE v mm l)=true)(I:l.length<=200):∀n k:Int,0<=n->n<(wdE v mm l).g.p.l.length->0<=k->k<=(wdE v mm l).w.l.length->∀e∈(qaL (wdE v mm l) n k (-1)).2,(lstN (wdE v mm l) n k e.1 (-1) e.2).length<1000000:=λn k n0 n1 k0 k1 =>
 qw1 (qbq hm) (show l.length<1000000 by omega) (λn k a b c d=>qEu n k (-1) a b c d) (A:=wdA) (B:=3)
  (show ∀i:Nat,i<wdG.p.l.length->1<=wdA i/\∀a∈(lat wdG.p.l i).a.l,1+sumA wdA a.l<=wdA i+3 * cntT a.l by decide)
  (λi _=>by
   have:wdA i<=4:=by unfold wdA; split; omega; split<;>omega
   show wdA i+3 * l.length<1000000;omega) n0 n1 k0 k1
theorem qEj{v:V}{mm:Nat}{l:List UInt8}(hm:mayE (wdE v mm l)=true){n:Int}{ns:List Int}(J:l=qDM (n::ns))(hn:∀m∈n::ns,0<=m/\m<7):qvt (wdE v mm l) 0 0 l.length (-1)=if(n::ns).all qDQ=true then 1 else 0:=by
 have h1:=qEt hm (w:=qDO n) (ws:=ns.map qDO) (by rw[J]; rfl) (λu I=>by
  rcases Jag.1 I with rfl|I
  ·exact qEc
  ·obtain⟨m,_,rfl⟩:=Jak.1 I; exact qEc) (-1)
 have h2:=qEd hn;rw[List.map_cons]at h2;rw[h2]at h1;unfold qvt;rw[Jab ⟨hm,Int.le_refl 0,show(0:Int)<(wdG.p.l.length:Nat) by decide,Int.le_refl 0,show(0:Int)<=(l.length:Nat) by omega⟩,h1];split<;>rfl
def qEx:List (List V):=[[.str [105,102]],[.str [105]],[.str [105,102,102]],[.str [100,111]],[.str [120]],[.str [100,111,100,111]],[.str [105,100]]]
theorem parseWords_ok(l:Sl Int)(hl:l.l.length<1000000000):WF PR false 0 (.fn 426 [] []) [l.enc qaM] ⟨0,.e⟩ λr=>r.v=.bool true:=by
 refine WF.go f426 b426 [.tm 2] rfl rfl rfl rfl rfl rfl ?_;unfold b426;simp -dsimp[-qar];rw[qar];simp -dsimp[-qar];rw[qar];simp -dsimp[-qar];refine WFS.by (qD6 _) ?_
 intro v h' e;cases e;simp -dsimp[-qar];rw[qar];simp -dsimp[-qar];refine WFS.by (qD3 qda runWd) ?_
 intro v h' e;cases e;have n0:(⟨0,.e⟩:Heap).n=0:=rfl;have lg:wdC.length=2:=rfl;have og:ones wdC=true:=rfl;have tg:List.take 2 wdC=wdC:=rfl;have pg:qbW [.nils,.nils] 0 wdC=wdC:=rfl;simp -dsimp[n0,lg,og,pg,-qar];obtain⟨H,hH⟩:∃H,(((⟨0,.e⟩:Heap).push (.rows [[.nils,.nils]])).set 0 (.rows [wdC]))=H:=⟨_,rfl⟩;have gn:H.n=1:=by rw[<-hH]; rfl
 have g0:H.get 0=some (.rows [wdC]):=by rw[<-hH]; rfl
 rw[hH,qar];simp -dsimp[-qar];have U:∀H,lenV .sl (l.enc qaM) H=some (.int .i64 l.l.length):=λH=>by simp
 by_cases c1:l.l.length<1
 ·have z1:(l.l.length:Int)<1:=by omega
  simp -dsimp[U,c1,z1]
 by_cases c5:5<l.l.length
 ·have z1:¬(l.l.length:Int)<1:=by omega
  have z4:(5:Int)<l.l.length:=by omega
  simp -dsimp[U,c1,z1,c5,z4]
 have z1:¬(l.l.length:Int)<1:=by omega
 have z4:¬(5:Int)<l.l.length:=by omega
 simp -dsimp[U,c1,z1,c5,z4];refine qaf (λk st=>∃i:Nat,i+k=l.l.length/\(gK 10).run st.tm=.int .i64 i/\(∀n∈l.l.take i,0<=n/\n<7)/\(gK 8).run st.tm=.str (qDM (l.l.take i))/\(gK 9).run st.tm=.bool ((l.l.take i).all qDQ)/\st.h=H/\st.defs=[]) l.l.length
  ⟨0,by omega,by simp,by simp,by simp[qDM],by simp,rfl,rfl⟩ ?_
 rintro k ⟨tm,h1,defs,round⟩ ⟨i,hi,J,hn,t8,t9,rfl,rfl⟩ hK;have t0:=hK 0 rfl;have t3:=hK 3 rfl;have t4:=hK 4 rfl;have t6:=hK 6 rfl;have t7:=hK 7 rfl;simp at t0 t3 t4 t6 t7 t8 t9 J;clear hK;simp only at gn g0;simp -dsimp[t0,J,U]
 by_cases c:i<l.l.length
 ·obtain⟨n,za⟩:∃n,lat l.l i=n:=⟨_,rfl⟩;have z0:qaw 1 (l.enc qaM) (.int .i64 i)=some (.ptrR [.int .i64 n] 0):=by
   have:=qap (f:=qaM) (s:=l) (esz:=1) (k:=.i64) (n:=(i:Int)) (by omega) (by omega) (λ_=>rfl);rw[this]; simp[qaM,za]
  have hf:fw .i64 ((i:Int)+1)=(i:Int)+1:=fw64 (by omega) (by omega);have z6:l.l.take (i+1)=l.l.take i++[n]:=by rw[Jap,qaz c,za]; rfl
  by_cases d0:n<0
  ·simp -dsimp[c,t0,J,z0,d0]
  by_cases d7:7<=n
  ·simp -dsimp[c,t0,t7,J,z0,d0,d7]
  have hw:qaw 1 (.slR qEx true) (.int .i64 n)=some (.ptrR [.str (qDO n)] 0):=by
   have:n=0\/n=1\/n=2\/n=3\/n=4\/n=5\/n=6:=by omega
   rcases this with rfl|rfl|rfl|rfl|rfl|rfl|rfl<;>rfl
  unfold qEx at hw;have z2:∀a b:List UInt8,a.length+b.length<4294967296->(binK .add).run (.str a) (.str b)=some (.str (a++b)):=λa b h=>by
   simp[binK,addV,h]
  have zg:=qD8 (l.l.take i);have zr:(l.l.take i).length<=5:=by rw[List.length_take]; omega
  have zt:=qDV n;have zl:∀m∈l.l.take (i+1),0<=m/\m<7:=λm hm=>by
   rw[z6]at hm;rcases Jaj.1 hm with hm|hm
   ·exact hn m hm
   ·rw[Jah]at hm; subst hm; omega
  have zi:(l.l.take (i+1)).all qDQ=((l.l.take i).all qDQ&&qDQ n):=by rw[z6,List.all_append]; simp
  have zn:qDM (l.l.take (i+1))=if 0<i then(qDM (l.l.take i)++[32])++qDO n else qDO n:=by
   rw[z6]
   by_cases z:0<i
   ·rw[Jab z,qEa n (by intro e; have:=congrArg List.length e; rw[List.length_take,List.length_nil]at this; omega),List.append_assoc]
   ·rw[Jaa z,show i=0 by omega,List.take_zero]; simp[qDM,qDL]
  have I:∀tm',(gK 10).run tm'=.int .i64 ((i:Int)+1)->(gK 8).run tm'=.str (if 0<i then(qDM (l.l.take i)++[32])++qDO n else qDO n)->(gK 9).run tm'=.bool ((l.l.take i).all qDQ&&qDQ n) ->
    ∃i':Nat,i'+(k-1)=l.l.length/\(gK 10).run tm'=.int .i64 i'/\(∀n∈l.l.take i',0<=n/\n<7)/\(gK 8).run tm'=.str (qDM (l.l.take i'))/\(gK 9).run tm'=.bool ((l.l.take i').all qDQ):=λtm' q1 q2 q3 =>
   ⟨i+1,by omega,by rw[q1]; rfl,zl,by rw[zn]; exact q2,by rw[zi]; exact q3⟩
  obtain⟨S,hS⟩:∃S,qDM (l.l.take i)=S:=⟨_,rfl⟩;obtain⟨F,zd⟩:∃F,(l.l.take i).all qDQ=F:=⟨_,rfl⟩;rw[hS]at t8 I zg;have a1:=z2 S [32] (by rw[show [(32:UInt8)].length=1 from rfl]; omega);have a2:=z2 (S++[32]) (qDO n) (by rw[Jao,show [(32:UInt8)].length=1 from rfl]; omega);have a3:=z2 [] (qDO n) (by rw[List.length_nil]; omega);rw[List.nil_append]at a3;rw[zd]at t9 I;have ze:¬0<i->S=[]:=λz=>by rw[<-hS,show i=0 by omega]; rfl
  have z3:∀st:St,(∃i':Nat,i'+(k-1)=l.l.length/\(gK 10).run st.tm=.int .i64 i'/\(∀n∈l.l.take i',0<=n/\n<7)/\(gK 8).run st.tm=.str (qDM (l.l.take i'))/\(gK 9).run st.tm=.bool ((l.l.take i').all qDQ))->st.h=h1->st.defs=[]->∃i:Nat,i+(k-1)=l.l.length/\(gK 10).run st.tm=.int .i64 i/\(∀n∈l.l.take i,0<=n/\n<7)/\(gK 8).run st.tm=.str (qDM (l.l.take i))/\(gK 9).run st.tm=.bool ((l.l.take i).all qDQ)/\st.h=h1/\st.defs=[]:=by
   rintro st ⟨j,q1,q2,q3,q4,q5⟩ q6 q7;exact⟨j,q1,q2,q3,q4,q5,q6,q7⟩
  have zh:qDQ n=(decide (n≠0)&&decide (n≠3)):=rfl;rw[zh]at I;have zb:(n=0)=True/\(n=3)=False\/(n=0)=False/\(n=3)=True\/(n=0)=False/\(n=3)=False:=by
   by_cases e0:n=0
   ·exact .inl ⟨eq_true e0,eq_false (by omega)⟩
   ·by_cases e3:n=3
    ·exact .inr (.inl ⟨eq_false e0,eq_true e3⟩)
    ·exact .inr (.inr ⟨eq_false e0,eq_false e3⟩)
  by_cases z:0<i
  ·rw[Jab z]at I;cases F with
   | false =>
    simp -dsimp[c,t0,t7,t8,t9,J,z0,d0,d7,z,a1,a2,hw,hf];exact qah.intro (k-1) (by omega) (z3 _ (I _ (by simp) (by simp) (by simp)) rfl rfl)
   | true =>
    rcases zb with ⟨w0,w3⟩|⟨w0,w3⟩|⟨w0,w3⟩;all_goals
     simp -dsimp[c,t0,t7,t8,t9,J,z0,d0,d7,z,a1,a2,hw,hf,w0,w3];exact qah.intro (k-1) (by omega) (z3 _ (I _ (by simp) (by simp) (by simp[w0,w3])) rfl rfl)
  ·have zf:=ze z;subst zf;rw[Jaa z]at I;cases F with
   | false =>
    simp -dsimp[c,t0,t7,t8,t9,J,z0,d0,d7,z,a3,hw,hf];exact qah.intro (k-1) (by omega) (z3 _ (I _ (by simp) (by simp) (by simp)) rfl rfl)
   | true =>
    rcases zb with ⟨w0,w3⟩|⟨w0,w3⟩|⟨w0,w3⟩;all_goals
     simp -dsimp[c,t0,t7,t8,t9,J,z0,d0,d7,z,a3,hw,hf,w0,w3];exact qah.intro (k-1) (by omega) (z3 _ (I _ (by simp) (by simp) (by simp[w0,w3])) rfl rfl)
 ·have zj:i=l.l.length:=by omega
  subst zj;rw[List.take_of_length_le (Jac _)]at hn t8 t9;have zo:List.take 2 wdC=wdC:=rfl;have zc:qbW [.nils,.nils,.nils,.int .i64 0,.bool false] 0 wdC=wdC++[V.nils,V.int .i64 0,V.bool false]:=rfl;simp -dsimp[c,t4,t8,g0,gn,lg,zo,zc];have hT:=qD8 l.l;have zm:∀tm':Tm,(gK 84).run tm'=.str (qDM l.l)->(qbK (AO.s2b true (Opd.t 84))).run tm'=some (.val ((Sl.of (qDM l.l)).enc qak)):=λtm' h=>by
   simp[qbK,h,Sl.enc];rfl
  refine OpS.intro (zm _ (by simp)) ?_;obtain⟨T,z7⟩:∃T,qDM l.l=T:=⟨_,rfl⟩;rw[z7]at hT ⊢;have zp:(wdC++[V.nils,V.int .i64 0,V.bool false]).length=5:=rfl;have zq:wdC++[(Sl.of T).enc qak,V.int .i64 8,V.bool false]=(wdE ((Sl.of T).enc qak) 0 T).cells:=rfl;have hM:=wdMayE ((Sl.of T).enc qak) 0 (l:=T) (by omega);have hx:EvS (wdE ((Sl.of T).enc qak) 0 T):=⟨qEk.toSmall,show(2:Nat)<1000000000 by decide,show T.length<1000000 by omega⟩;have hW:∀H,WB H (wdE ((Sl.of T).enc qak) 0 T).w:=λH=>.inl ⟨.of T,rfl,rfl⟩;simp -dsimp[lg,zc,zp];rw[zq];refine WFS.by (qD4 hx qEk wdRg (hW _) (Nat.zero_le _) hM (λn k a b c d=>qEu n k (-1) a b c d) (qEs hM (by omega)) rfl ?_) ?_
  ·have h1:(T.length+1) * (T.length+2)<=26 * 27:=Nat.mul_le_mul (by omega) (by omega);have h2:wdG.p.l.length * ((T.length+1) * (T.length+2))<=4 * (26 * 27):=Nat.mul_le_mul (by decide) h1;show((wdG.p.l.length * ((T.length+1) * (T.length+2)):Nat):Int)<=1099511627776;omega
  rintro v h' ⟨e,s,n,e2⟩;simp only at e e2;subst e e2;have zk:l.l≠[]:=by
   intro e;rw[e]at c1;simp at c1
  obtain⟨a,as,z5⟩:=List.exists_cons_of_ne_nil zk;have z8:=qEj hM (n:=a) (ns:=as) (by rw[<-z7,z5]) (by rw[<-z5]; exact hn);rw[<-z5]at z8;have z9:qvt (wdE ((Sl.of T).enc qak) 0 T) 0 0 (wdE ((Sl.of T).enc qak) 0 T).w.l.length (-1)=if l.l.all qDQ=true then 1 else 0:=z8;rw[z9];cases hF:l.l.all qDQ with
  | true =>
   rw[hF]at t9;simp -dsimp[t3,t6,t9,gn]
  | false =>
   rw[hF]at t9;simp -dsimp[t3,t6,t9,gn]
end Go.Abs


