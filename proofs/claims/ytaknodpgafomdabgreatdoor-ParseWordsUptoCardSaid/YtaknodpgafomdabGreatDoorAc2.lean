/- What the program's functions come to, by the evaluator's rules; the intermediate code. -/
import Derived.Test.YtaknodpgafomdabGreatDoorAc1
set_option linter.unusedSimpArgs false
set_option linter.unusedVariables false
namespace Go.Abs
open Go Pr
set_option maxRecDepth 10000
def OwnJ(h:Heap)(mk:Nat)(v:V)(esz:Nat)(rows:List (List V)):Prop :=
  (v=.nils/\rows=[])\/∃id L,v=.sl id 0 rows.length esz false/\h.get id=some (.rows (rows++L))/\mk<=id/\id<h.n
theorem qkr {h : Heap} {mk m0 esz bytes : Nat} {v : V} {rows xs : List (List V)} (hO : OwnJ h m0 v esz rows) (h0 : mk ≤ m0) (hx : ∀ x ∈ xs, x.length = esz ∧ ones x = true) (hn : rows.length + xs.length < 4294967296) (hb : bytes < 1024) (hm : m0 ≤ h.n) :
    ∃v' h',qaj mk h esz bytes v xs=some ⟨v',h'⟩/\OwnJ h' m0 v' esz (rows++xs)/\h.n<=h'.n/\(∀j,j<m0->h'.get j=h.get j):=by
  cases xs with
  | nil =>
    refine⟨v,h,?_,by simpa using hO,Jac _,λ_ _=>rfl⟩;rcases hO with ⟨rfl,_⟩|⟨id,L,rfl,_⟩<;>rfl
  | cons x xs =>
    have h1:=qe0 λy hy=>(hx y hy).2;have h2:=(hx x (by simp)).1;have hn':rows.length+(xs.length+1)<4294967296:=by simpa using hn
    rcases hO with ⟨rfl,rfl⟩|⟨id,L,rfl,hid,hmi,hlt⟩
    · refine⟨.sl h.n 0 (x::xs).length esz false,h.push (.rows (x::xs)),?_,.inr ⟨h.n,[],by simp,by simp,hm,by simp⟩,by simp,λj hj=>by simp; omega⟩
      simp at hn;simp[qaj,qal,qaI,hb,h2,h1,hn]
    · refine⟨.sl h.n 0 (rows.length+(x::xs).length) esz false,(h.kill id).push (.rows (rows++x::xs)),?_,.inr ⟨h.n,[],by simp,by simp,hm,by simp⟩,by simp,λj hj=>by rw[qBq,qBG,Jaa (by omega),qBr,Jaa (by omega)]⟩
      have hmi':mk<=id:=by omega
      have hr:qal h (.sl id 0 rows.length esz false)=some rows:=by simp[qal,hid]
      simp[qaj,qaI,hr,hb,h2,h1,hmi',hn']
theorem OwnJ.ext{h h':Heap}{mk esz:Nat}{v:V}{rows:List (List V)}(hO:OwnJ h mk v esz rows)(hk:∀j,mk<=j->j<h.n->h'.get j=h.get j)(hn:h.n<=h'.n):OwnJ h' mk v esz rows:=by
  rcases hO with h1|⟨id,L,h1,h2,h3,h4⟩
  · exact .inl h1
  · exact .inr ⟨id,L,h1,by rw[hk id h3 h4,h2],h3,by omega⟩
@[simp] theorem P_cap_nil {x : Opd} {tm : Tm} : (qas (.cap x)).run tm = (match x.ev tm with
    | .nils=>some (.int .i64 0)
    | .sl _ _ n _ f=>cond f (some (.int .i64 (.ofNat n))) none
    | .slR r f=>cond f (some (.int .i64 (.ofNat r.length))) none
    | _=>none):=(rfl)
def qlY(zero:List V)(bytes:Nat)(s:V)(n:Int)(h:Heap):Option VH:=match n with
  | .ofNat m=>cond (Nat.blt 0 m&&qaI m bytes)
    (match s with
    | .nils=>some ⟨.sl h.n 0 m zero.length false,h.push (.rows (List.replicate m zero))⟩
    | _=>none) none
  | _=>none
@[simp]theorem W_appendZ{zero:List V}{bytes mk:Nat}{s n:Opd}{tm:Tm}{h:Heap}:(qay (.appendZ zero bytes s n)).run mk tm h=(match n.ev tm with|.int _ m=>qlY zero bytes (s.ev tm) m h|_=>none):=by
  simp only[qay];cases n.ev tm with
  | int k m=>cases m<;>rfl
  | _=>rfl
theorem qk0{zero:List V}{bytes m:Nat}{h:Heap}(h0:0<m)(h1:m<4294967296)(hb:bytes<1024):qlY zero bytes .nils (m:Int) h=some ⟨.sl h.n 0 m zero.length false,h.push (.rows (List.replicate m zero))⟩:=by
  show cond (Nat.blt 0 m&&qaI m bytes) _ none=_;simp[qaI,h0,h1,hb]
@[simp] theorem qrg {e : Nat} {k : KCut} {tm : Tm} : qaT e k tm .nils = (match k.run 0 true tm with
    | some _=>some .nils
    | none=>none):=(rfl)
def qe8(zero:List V)(esz bytes:Nat):IC :=
  (.seq (.ops [i 4 (.p (.mov (.c .nils)))])
  (.seq (.seq (.ops [i 5 (.p (.mov (.t 1))),i 6 (.p (.bin .lss (.t 5) (.c (.int .i64 0))))])
    (.cond (.t 6)
     (.ops [i 7 (.p (.mki 1 (.c (.str [99,97,110,110,111,116,32,98,101,32,110,101,103,97,116,105,118,101])))),n (.bad)])
     .skip))
   (.seq (.seq (.ops [i 8 (.p (.mov (.t 1))),i 9 (.p (.mov (.t 0))),i 10 (.p (.cap (.t 9))),i 11 (.p (.mov (.t 0))),i 12 (.r (.len .sl (.t 11))),i 13 (.p (.bin .sub (.t 10) (.t 12))),i 14 (.p (.bin .sub (.t 8) (.t 13))),i 1 (.p (.mov (.t 14)))])
     (.seq (.ops [i 15 (.p (.mov (.t 1))),i 16 (.p (.bin .gtr (.t 15) (.c (.int .i64 0))))])
      (.cond (.t 16)
       (.ops [i 17 (.p (.mov (.t 0))),i 18 (.p (.mov (.t 0))),i 19 (.p (.cap (.t 18))),i 20 (.p (.slice esz (.t 17) none (some (.t 19)) none)),i 21 (.p (.mov (.t 1))),i 22 (.w (.appendZ zero bytes (.t 20) (.t 21))),i 23 (.p (.mov (.t 0))),i 24 (.r (.len .sl (.t 23))),i 25 (.p (.slice esz (.t 22) none (some (.t 24)) none)),i 0 (.p (.mov (.t 25)))])
       .skip)))
    (.seq (.ops [i 26 (.p (.mov (.t 0))),i 4 (.p (.mov (.t 26)))])
     .ret))))
def qmO(zero:List V)(esz bytes:Nat):IFn:=⟨false,27,[.tm 4],qe8 zero esz bytes⟩
theorem qr3 {f esz bytes k : Nat} {zero : List V} {d : Bool} {mk : Nat} {h : Heap} (hF : PR.fn f = some (qmO zero esz bytes)) (hp : PR.prim f = none) (hz : zero.length = esz) (hb : bytes < 1024) (hk : k < 4294967296) (hm : mk ≤ h.n) :
    WF PR d mk (.fn f [] []) [.nils,.int .i64 k] h λr=>OwnJ r.h h.n r.v esz []/\h.n<=r.h.n/\∀j,j<h.n->r.h.get j=h.get j:=by
  refine WF.fn hp hF rfl (Nat.le_of_ble_eq_true rfl) ?_;refine qef (qe8 zero esz bytes) [.tm 4] rfl rfl ?_;unfold qe8;have e1:¬((k:Int)<0):=by omega
  have e2:fw .i64 (0-0)=0:=rfl;have e3:fw .i64 ((k:Int)-0)=k:=by rw[fw64 (by omega) (by omega)]; omega
  have e4:fw .i64 (k:Int)=k:=fw64 (by omega) (by omega);have e5:fw .i64 0=0:=rfl;simp -dsimp[e1,e2,e3,e4,e5];rw[qaa];refine⟨λhc=>?_,λhc=>?_⟩
  · simp at hc
    have b0:bnd 0 0=some 0:=rfl;have b1:bnd 0 k=some 0:=qaY (n:=0) (by omega) (by omega);simp -dsimp[b0,b1,qdl,qk0 hc hk hb,hz];refine⟨.inr ⟨h.n,List.replicate k zero,by simp,by simp,Jac _,by simp⟩,λj hj=>?_⟩;intro e; omega
  · simp -dsimp
    exact .inl ⟨rfl,rfl⟩
def qc7(esz bytes f:Nat):IC :=
  (.seq (.ops [i 2 (.p (.mov (.c .nils)))])
  (.seq (.ops [i 3 (.p (.mov (.c (.int .i64 0))))])
   (.seq (.seq (.ops [i 9 (.p (.mov (.t 0))),i 10 (.r (.len .sl (.t 9))),i 11 (.p (.mov (.c (.int .i64 0))))])
     (.block 0
      (.loop
       (.seq (.ops [i 12 (.p (.bin .lss (.t 11) (.t 10)))])
        (.seq (.cond (.t 12)
          .skip
          (.exit 0))
         (.seq (.block 1
           (.seq (.ops [i 13 (.p (.iaddr 1 (.t 9) (.t 11))),i 14 (.r (.load none (.t 13))),i 5 (.p (.mov (.t 14)))])
            (.seq (.ops [i 15 (.p (.mov (.t 3))),i 16 (.p (.mov (.t 5))),i 17 (.r (.len .sl (.t 16))),i 18 (.p (.bin .add (.t 15) (.t 17))),i 3 (.p (.mov (.t 18)))])
             (.seq (.ops [i 19 (.p (.mov (.t 3))),i 20 (.p (.bin .lss (.t 19) (.c (.int .i64 0))))])
              (.cond (.t 20)
               (.ops [i 21 (.p (.mki 1 (.c (.str [108,101,110,32,111,117,116,32,111,102,32,114,97,110,103,101])))),n (.bad)])
               .skip)))))
          (.ops [i 22 (.p (.bin .add (.t 11) (.c (.int .i64 1)))),i 11 (.p (.mov (.t 22)))])))))))
    (.seq (.ops [i 23 (.p (.mov (.t 3))),i 24 (.call (.dir f) [(.c .nils),(.t 23)] false),i 6 (.p (.mov (.t 24)))])
     (.seq (.seq (.ops [i 25 (.p (.mov (.t 0))),i 26 (.r (.len .sl (.t 25))),i 27 (.p (.mov (.c (.int .i64 0))))])
       (.block 2
        (.loop
         (.seq (.ops [i 28 (.p (.bin .lss (.t 27) (.t 26)))])
          (.seq (.cond (.t 28)
            .skip
            (.exit 2))
           (.seq (.block 3
             (.seq (.ops [i 29 (.p (.iaddr 1 (.t 25) (.t 27))),i 30 (.r (.load none (.t 29))),i 8 (.p (.mov (.t 30)))])
              (.ops [i 31 (.p (.mov (.t 6))),i 32 (.p (.mov (.t 8))),i 33 (.w (.append esz bytes (.t 31) (.t 32))),i 6 (.p (.mov (.t 33)))])))
            (.ops [i 34 (.p (.bin .add (.t 27) (.c (.int .i64 1)))),i 27 (.p (.mov (.t 34)))])))))))
      (.seq (.ops [i 35 (.p (.mov (.t 6))),i 2 (.p (.mov (.t 35)))])
       .ret))))))
def qkP(pure:Bool)(esz bytes f:Nat):IFn:=⟨pure,36,[.tm 2],qc7 esz bytes f⟩
theorem shapes:Pr.b135=qc7 3 40 164/\Pr.b164=qe8 [.int .i64 0,.nils,.int .i64 0] 3 40/\Pr.b193=qc7 2 16 218/\Pr.b218=qe8 [.int .i64 0,.int .i64 0] 2 16:=⟨rfl,rfl,rfl,rfl⟩
def qbt{α : Type} [Inhabited α] (ls:List (Sl α)):Nat->List α
  | 0=>[]
  | i+1=>qbt ls i++(lat ls i).l
theorem qhi {α : Type} [Inhabited α] {enc : α → List V} {f esz bytes : Nat} {zero : List V} {d : Bool} {mk : Nat} {h : Heap} {v : V} {ls : List (Sl α)} {Q : VH → Prop} (hF : PR.fn f = some (qmO zero esz bytes)) (hp : PR.prim f = none) (hz : zero.length = esz) (hb : bytes < 1024) (hm : mk ≤ h.n)
    (henc:∀a,(enc a).length=esz/\ones (enc a)=true) (hlen:∀h,lenV .sl v h=some (.int .i64 ls.length)) (hget:∀i:Int,0<=i->i<ls.length->∃p,qaw 1 v (.int .i64 i)=some p/\∀h,qcp none p h=some ((lat ls i.toNat).enc enc))
    (hsm:ls.length<1000000) (hsum:∀i,i<=ls.length->(qbt ls i).length<1000000000)
    (hQ:∀v' h',OwnJ h' h.n v' esz ((qbt ls ls.length).map enc)->h.n<=h'.n->(∀j,j<h.n->h'.get j=h.get j)->Q ⟨v',h'⟩) :
    wbody PR d mk (qkP true esz bytes f) [v] h Q:=by
  refine qef (qc7 esz bytes f) [.tm 2] rfl rfl ?_;unfold qc7;simp -dsimp[hlen];refine qaf (λk st=>∃i:Int,0<=i/\(k:Int)=ls.length-i/\(gK 11).run st.tm=.int .i64 i/\(gK 3).run st.tm=.int .i64 (qbt ls i.toNat).length/\st.h=h/\st.defs=[]) ls.length ⟨0,by omega,by omega,by simp,by simp[qbt],rfl,rfl⟩ ?_;rintro k ⟨tm,h1,defs,round⟩ ⟨i,hi,hk,h11,h3,rfl,rfl⟩ hK;have h0:=hK 0 rfl;have h9:=hK 9 rfl;have h10:=hK 10 rfl;simp at h0 h9 h10 h11 h3;clear hK;simp -dsimp[h10,h11];rw[qaa];refine⟨λhc=>?_,λhc=>?_⟩
  · simp at hc
    obtain⟨p,p1,p2⟩:=hget i hi hc;have hs:=hsum (i.toNat+1) (by omega);rw[qbt,Jao]at hs;have e3:¬(((qbt ls i.toNat).length:Int)+((lat ls i.toNat).l.length:Int)<0):=by omega
    have e1':fw .i64 (((qbt ls i.toNat).length:Int)+(lat ls i.toNat).l.length)=((qbt ls i.toNat).length:Int)+(lat ls i.toNat).l.length:=fw64 (by omega) (by omega);simp -dsimp[h9,h11,h3,p1,p2,e1',e3,fw64 (n:=i+1) (by omega) (by omega)];refine qah.intro (k-1) (by omega) ⟨i+1,by omega,by omega,by simp,?_,rfl,rfl⟩;rw[show(i+1).toNat=i.toNat+1 by omega,qbt]; simp
  · simp at hc
    have hc':decide (i<(ls.length:Int))=false:=by simpa using hc
    have hi2:qbt ls i.toNat=qbt ls ls.length:=by
      by_cases e:i.toNat=ls.length
      · rw[e]
      · have:(k:Int)<0:=by omega
        omega
    simp -dsimp[hc',h3];refine WFS.by (qr3 hF hp hz hb (by have:=hsum ls.length (Jac _); rw[hi2]; omega) hm) ?_
    rintro v2 h2 ⟨hO,hn2,hk2⟩;simp -dsimp[h0,hlen];refine qaf (λk st=>∃i:Int,0<=i/\(k:Int)=ls.length-i/\(gK 27).run st.tm=.int .i64 i/\OwnJ st.h h1.n ((gK 6).run st.tm) esz ((qbt ls i.toNat).map enc)/\h1.n<=st.h.n/\(∀j,j<h1.n->st.h.get j=h1.get j)/\st.defs=[]) ls.length ⟨0,by omega,by omega,by simp,by simpa[qbt]using hO,hn2,hk2,rfl⟩ ?_;rintro k3 ⟨tm3,h4,defs,round⟩ ⟨j,hj,hk3,h27,hO3,hn3,hkk3,rfl⟩ hK;have h25:=hK 25 rfl;have h26:=hK 26 rfl;simp at h25 h26 h27 hO3 hn3 hkk3;clear hK;simp -dsimp[h26,h27];rw[qaa];refine⟨λhd=>?_,λhd=>?_⟩
    · simp at hd
      obtain⟨p,p1,p2⟩:=hget j hj hd;have hs:=hsum (j.toNat+1) (by omega);rw[qbt,Jao]at hs;simp -dsimp[h25,h27,p1,p2];refine qBC ?_;rw[qaE (xs:=(lat ls j.toNat).l.map enc) (by simp)];obtain⟨v',h5,w1,w2,w3,w4⟩:=qkr (mk:=mk) (bytes:=bytes) (xs:=(lat ls j.toNat).l.map enc) hO3 hm (λx hx=>by obtain⟨a,_,rfl⟩:=Jak.1 hx; exact henc a) (by simp; omega) hb hn3;simp only[ev_t,qgb,Nat.reduceEqDiff,if_false,if_true];refine⟨_,w1,?_⟩;simp -dsimp[h27,fw64 (n:=j+1) (by omega) (by omega)];refine qah.intro (k3-1) (by omega) ⟨j+1,by omega,by omega,by simp,?_,by simp; omega,λq hq=>by rw[w4 q hq,hkk3 q hq],rfl⟩;rw[show(j+1).toNat=j.toNat+1 by omega,qbt]; simpa using w2
    · simp at hd
      have hd':decide (j<(ls.length:Int))=false:=by simpa using hd
      have hj2:j.toNat=ls.length:=by
        by_cases e:j.toNat=ls.length
        · exact e
        · omega
      rw[hj2]at hO3;simp -dsimp[hd'];exact hQ _ _ (by simpa using hO3) hn3 hkk3
def rgOk(l:List Rg)(i:Nat):Bool :=
 !(decide ((lat l i).lo<0)||decide ((lat l i).hi<(lat l i).lo)||decide (1114111<(lat l i).hi)||(decide (0<i)&&decide ((lat l i).lo-1<=(lat l (i-1)).hi)))
def qeg(l:List Rg):Nat->Bool
 | 0=>true
 | i+1=>qeg l i&&rgOk l i
def qji(l:List Rg):Bool:=qeg l l.length
theorem qjh{l:List Rg}{i:Nat}(h:qeg l i=false):∀{j:Nat},i<=j->qeg l j=false:=by
 intro j hj;induction j with
 | zero=>rw[Nat.le_zero.1 hj]at h; exact h
 | succ j ih =>
  by_cases e:i=j+1
  ·rw[e]at h; exact h
  ·simp[qeg,ih (by omega)]
theorem qnM(s:Sl Rg)(hs:s.l.length<1000000000){d:Bool}{mk:Nat}{h:Heap}:WF PR d mk (.fn 58 [] []) [s.enc Rg.cells] h λr=>r=⟨.bool (qji s.l),h⟩:=by
 refine qBt f58 b58 [.tm 2] rfl rfl rfl rfl rfl rfl ?_;unfold b58;simp -dsimp;refine qaf (λk st=>∃(i:Int),0<=i/\(k:Int)=s.l.length-i/\qeg s.l i.toNat=true/\(gK 7).run st.tm=.int .i64 i/\h.n<=st.h.n/\st.defs=[]) s.l.length ⟨0,by simp[qeg]⟩ ?_;rintro k ⟨tm,h',defs,round⟩ ⟨i,hi,hk,hx,h7,hn,rfl⟩ hK;have h0:=hK 0 rfl;have h5:=hK 5 rfl;have h6:=hK 6 rfl;simp at h0 h5 h6 h7 hn;clear hK;simp -dsimp[h6,h7];rw[qaa];refine⟨λhl=>?_,λhl=>?_⟩
 ·simp at hl;have hbad:rgOk s.l i.toNat=false->qji s.l=false:=λe=>qjh (i:=i.toNat+1) (by simp[qeg,e]) (by omega);have hgood:rgOk s.l i.toNat=true->qeg s.l (i+1).toNat=true:=λe=>by
   rw[show(i+1).toNat=i.toNat+1 by omega]; simp[qeg,e,hx]
  have hf:fw .i64 (i+1)=i+1:=fw64 (by omega) (by omega);simp -dsimp[h0,h5,h6,h7,hl,hi,hn,Rg.cells];rw[Gd_f];refine⟨λhb1=>?_,λhb1=>?_⟩
  ·simp -dsimp[hb1];rw[Gd_f];refine⟨λhb2=>?_,λhb2=>?_⟩
   ·simp -dsimp[hb2];rw[Gd_f];refine⟨λhb3=>?_,λhb3=>?_⟩
    ·simp -dsimp[hb3];rw[Gd_t];refine⟨λhb4=>?_,λhb4=>?_⟩
     ·simp -dsimp[hb4];simp at hb1 hb2 hb3 hb4;simp -dsimp[h0,fw64 (n:=(lat s.l i.toNat).lo-1) (by omega) (by omega),fw64 (n:=i-1) (by omega) (by omega),qe7 (k:=.i64) (n:=i-1) (s:=s) (by omega) (by omega),Rg.cells];rw[qaa];refine⟨λhb5=>?_,λhb5=>?_⟩
      ·have:=hbad (by cases hk:rgOk s.l i.toNat with|false=>rfl|true=>simp[rgOk]at hk hb5; omega);simp -dsimp[this]
      ·simp -dsimp[h7,hf];simp at hb5;exact qah.intro (k-1) (by omega) ⟨i+1,by omega,by omega,hgood (by simp[rgOk]; omega),by simp; omega⟩
     ·simp -dsimp[hb4,h7,hf];simp at hb1 hb2 hb3 hb4;exact qah.intro (k-1) (by omega) ⟨i+1,by omega,by omega,hgood (by simp[rgOk]; omega),by simp; omega⟩
    ·have:=hbad (by cases hk:rgOk s.l i.toNat with|false=>rfl|true=>simp[rgOk]at hk hb3; omega);simp -dsimp[hb3,this]
   ·have:=hbad (by cases hk:rgOk s.l i.toNat with|false=>rfl|true=>simp[rgOk]at hk hb2; omega);simp -dsimp[hb2,this]
  ·have:=hbad (by cases hk:rgOk s.l i.toNat with|false=>rfl|true=>simp[rgOk]at hk hb1; omega);simp -dsimp[hb1,this]
 ·simp at hl;have hl':decide (i<(s.l.length:Int))=false:=by simpa using hl
  have:qji s.l=true:=by
   cases hm:qji s.l with
   | true=>rfl
   | false=>rw[qjh hm (j:=i.toNat) (by omega)]at hx; exact hx
  simp -dsimp[hl',this]
theorem qph(s:Sy)(r:Rg){d:Bool}{mk id:Nat}{h:Heap}(hid:h.get id=some (.rows [s.cells]))(hlt:id<h.n):WF PR d mk (.fn 90 [] [.ptr id 0 0]) [.agg r.cells] h λv=>v=⟨.bool (decide (s.kind=0)&&decide (255<r.hi)),h⟩:=by
 refine qBt f90 b90 [.tm 3] rfl rfl rfl rfl rfl rfl ?_;unfold b90;have e:¬id=h.n:=by omega
 simp -dsimp[hid,e,Sy.cells,Rg.cells];rw[Gd_t];refine⟨λhb1=>?_,λhb1=>?_⟩
 ·simp -dsimp[hb1]
 ·simp -dsimp[hb1]
def setB(s:Sy):Bool:=decide (s.n=0) && !(s.r.l.any λr=>decide (s.kind=0)&&decide (255<r.hi))&&qji s.r.l
theorem qqJ(s:Sy)(hs:s.r.l.length<1000000000){d:Bool}{mk:Nat}{h:Heap}:WF PR d mk (.fn 55 [] []) [.agg s.cells] h λv=>v=⟨.bool (setB s),h⟩:=by
 refine qBt f55 b55 [.tm 2] rfl rfl rfl rfl rfl rfl ?_;unfold b55;simp -dsimp[Sy.cells];refine WFS.by (qf5 (f:=130) (g:=89) (esz:=2) (ld:=some 2) (arg:=λr=>.agg r.cells) (p:=λr=>decide (s.kind=0)&&decide (255<r.hi)) rfl rfl rfl rfl (λ_=>rfl) (λ_=>rfl) hs λr _=>qph s r (by simp[Sy.cells]) (by simp)) ?_
 intro v h' e;cases e;simp -dsimp;rw[Gd_t];refine⟨λhb1=>?_,λhb1=>?_⟩
 ·simp -dsimp[hb1];rw[Gd_t];refine⟨λhb2=>?_,λhb2=>?_⟩
  ·simp -dsimp[hb2];refine WFS.by (qnM s.r hs) ?_
   intro v h' e;cases e;have:setB s=qji s.r.l:=by simp only[setB,hb1,hb2]; rfl
   simp -dsimp[this]
  ·have:setB s=false:=by simp only[setB,hb1,hb2]; rfl
   simp -dsimp[hb2,this]
 ·have:setB s=false:=by simp only[setB,hb1]; rfl
  simp -dsimp[hb1,this]
def badB(many:Int)(s:Sy):Bool :=
 if s.kind=0\/s.kind=1 then !setB s else if s.kind=2 then decide (s.n<0)||decide (many<=s.n)||decide (0<s.r.l.length)else true
theorem bad_ok(s:Sy)(many:Int)(hs:s.r.l.length<1000000000){d:Bool}{mk id:Nat}{h:Heap}(hid:h.get id=some (.rows [[.int .i64 many]]))(hlt:id<h.n):WF PR d mk (.fn 54 [] [.ptr id 0 0]) [.agg s.cells] h λv=>v=⟨.bool (badB many s),h⟩:=by
 refine qBt f54 b54 [.tm 3] rfl rfl rfl rfl rfl rfl ?_;unfold b54;have e:¬id=h.n:=by omega
 simp -dsimp[hid,e,Sy.cells];have key:(s.kind=0\/s.kind=1)->badB many s = !setB s:=λe=>by simp[badB,e]
 rw[qaa];refine⟨λhb1=>?_,λhb1=>?_⟩
 ·simp -dsimp[hb1];have hb1':s.kind=0:=by simpa using hb1
  refine WFS.by (qqJ s hs) ?_
  intro v h' e;cases e;simp -dsimp[key (.inl hb1')]
 ·simp -dsimp[hb1];have hb1':¬s.kind=0:=by simpa using hb1
  rw[qaa];refine⟨λhb2=>?_,λhb2=>?_⟩
  ·simp -dsimp[hb2];have hb2':s.kind=1:=by simpa using hb2
   refine WFS.by (qqJ s hs) ?_
   intro v h' e;cases e;simp -dsimp[key (.inr hb2')]
  ·simp -dsimp[hb2];have hb2':¬s.kind=1:=by simpa using hb2
   rw[qaa];refine⟨λhb3=>?_,λhb3=>?_⟩
   ·simp -dsimp[hb3];have hb3':s.kind=2:=by simpa using hb3
    have key:badB many s=(decide (s.n<0)||decide (many<=s.n)||decide (0<s.r.l.length)):=by simp[badB,hb3']
    rw[Gd_f];refine⟨λhb4=>?_,λhb4=>?_⟩
    ·simp -dsimp[hb4,hid,e];rw[Gd_f];refine⟨λhb5=>?_,λhb5=>?_⟩
     ·simp -dsimp[hb5];rw[key,hb4,hb5]; simp
     ·simp -dsimp[hb5];rw[key,hb5]; simp
    ·simp -dsimp[hb4];rw[key,hb4]; simp
   ·simp -dsimp[hb3];have hb3':¬s.kind=2:=by simpa using hb3
    simp[badB,hb1',hb2',hb3']
def oddB(many:Int)(a:Sl Sy):Bool:=decide (40<(a.l.length:Int))||a.l.any (badB many)
theorem odd_ok(a:Sl Sy)(many:Int)(hs:a.l.length<1000000000)(hs2:∀s∈a.l,s.r.l.length<1000000000){d:Bool}{mk id id2:Nat}{h:Heap}(hid:h.get id=some (.rows [[.fn 54 [] [.ptr id2 0 0]]]))(hid2:h.get id2=some (.rows [[.int .i64 many]]))(hlt:id<h.n)(hlt2:id2<h.n) :
  WF PR d mk (.fn 56 [] [.ptr id 0 0]) [a.enc Sy.cells] h λv=>v=⟨.bool (oddB many a),h⟩:=by
 refine qBt f56 b56 [.tm 3] rfl rfl rfl rfl rfl rfl ?_;unfold b56;simp -dsimp;rw[Gd_f];refine⟨λhb1=>?_,λhb1=>?_⟩
 ·simp -dsimp[hb1,hid];refine WFS.by (qf5 (f:=91) (g:=57) (esz:=3) (ld:=some 3) (arg:=λs=>.agg s.cells) (p:=badB many) rfl rfl rfl rfl (λ_=>rfl) (λ_=>rfl) hs λs hm=>bad_ok s many (hs2 s hm) hid2 hlt2) ?_
  intro v h' e;cases e;simp -dsimp[oddB];simp at hb1; intro h; omega
 ·simp -dsimp[hb1];simp only[oddB,hb1]; rfl
structure Gr.Small (g:Gr):Prop where
 p:g.p.l.length<1000000000
 a:∀p∈g.p.l,p.a.l.length<1000000000
 s:∀p∈g.p.l,∀a∈p.a.l,a.l.length<1000000000
 r:∀p∈g.p.l,∀a∈p.a.l,∀s∈a.l,s.r.l.length<1000000000
 no:∀p∈g.p.l,p.no.l.length<1000000000
def qcj(many:Int)(p:Pd):Bool :=
 !(decide ((p.a.l.length:Int)=0)||decide (8<(p.a.l.length:Int))||decide (p.marks<0)||decide (63<p.marks) || !qji p.no.l||p.a.l.any (oddB many))
def mayB(g:Gr):Bool:=g.p.l.all (qcj g.p.l.length)&&decide (0<(g.p.l.length:Int))&&decide ((g.p.l.length:Int)<=60)
theorem qfV(g:Gr)(hg:g.Small){d:Bool}{mk:Nat}{h:Heap}:WF PR d mk (.fn 32 [] []) [.agg g.cells] h λv=>v=⟨.bool (mayB g),h⟩:=by
 have hgp:=hg.p;refine qBt f32 b32 [.tm 2] rfl rfl rfl rfl rfl rfl ?_;unfold b32;simp -dsimp[Gr.cells];refine qaf (λk st=>∃(i:Int),0<=i/\(k:Int)=g.p.l.length-i/\(g.p.l.drop i.toNat).all (qcj g.p.l.length)=g.p.l.all (qcj g.p.l.length)/\(gK 16).run st.tm=.int .i64 i /\
  h.n+3<=st.h.n/\st.h.get h.n=some (.rows [[g.p.enc Pd.cells,g.keys.enc qac]])/\st.h.get (h.n+1)=some (.rows [[.int .i64 g.p.l.length]])/\st.h.get (h.n+2)=some (.rows [[.fn 54 [] [.ptr (h.n+1) 0 0]]])/\st.defs=[]) g.p.l.length ⟨0,by simp⟩ ?_
 rintro k ⟨tm,h',defs,round⟩ ⟨i,hi,hk,hx,h16,hn,e0,e1,e2,rfl⟩ hK;have h1:=hK 1 rfl;have h3:=hK 3 rfl;have h5:=hK 5 rfl;have h14:=hK 14 rfl;have h15:=hK 15 rfl;simp at h1 h3 h5 h14 h15 h16 hn e0 e1 e2;clear hK;simp -dsimp[h15,h16];rw[qaa];refine⟨λhl=>?_,λhl=>?_⟩
 ·simp at hl;have hm:=qai (l:=g.p.l) (i:=i.toNat) (by omega);rw[qbu (by omega)]at hx;have hn1:=hg.a _ hm;have hn2:=hg.s _ hm;have hn3:=hg.r _ hm;have hn4:=hg.no _ hm;obtain⟨p,hp⟩:∃p,lat g.p.l i.toNat=p:=⟨_,rfl⟩;rw[hp]at hx hn1 hn2 hn3 hn4;have hf:fw .i64 (i+1)=i+1:=fw64 (by omega) (by omega);have hbad:qcj g.p.l.length p=false->mayB g=false:=λe=>by
   simp only[List.all_cons,e,Bool.false_and]at hx; simp[mayB,<-hx]
  have hgood:qcj g.p.l.length p=true->(g.p.l.drop (i+1).toNat).all (qcj g.p.l.length)=g.p.l.all (qcj g.p.l.length):=λe=>by
   rw[show(i+1).toNat=i.toNat+1 by omega,<-hx]; simp[e]
  have hle:h.n<=h'.n:=by omega
  have q0:¬h.n=h'.n:=by omega
  have q1:¬h.n+1=h'.n:=by omega
  have q2:¬h.n+2=h'.n:=by omega
  have hN:h.n+3<=h'.n+1:=by omega
  simp -dsimp[h1,h3,h5,h14,h15,h16,hl,hi,hp,Pd.cells,hle];rw[Gd_f];refine⟨λhb1=>?_,λhb1=>?_⟩
  ·simp -dsimp[hb1];rw[Gd_f];refine⟨λhb2=>?_,λhb2=>?_⟩
   ·simp -dsimp[hb2];rw[Gd_f];refine⟨λhb3=>?_,λhb3=>?_⟩
    ·simp -dsimp[hb3];rw[Gd_f];refine⟨λhb4=>?_,λhb4=>?_⟩
     ·simp -dsimp[hb4];refine WFS.by (qnM p.no hn4) ?_
      intro v h'' e;cases e;simp -dsimp;rw[Gd_f];refine⟨λhb5=>?_,λhb5=>?_⟩
      ·simp -dsimp[hb5,h5];refine WFS.by (qf5 (f:=92) (g:=59) (esz:=1) (ld:=none) (arg:=λs=>s.enc Sy.cells) (p:=oddB g.p.l.length) rfl rfl rfl rfl (λ_=>rfl) (λ_=>rfl) hn1 λa hm=>odd_ok (id2:=h.n+1) a _ (hn2 a hm) (hn3 a hm) (by simp[e2,q2]) (by simp[e1,q1]) (by simp; omega) (by simp; omega)) ?_
       intro v h'' e;cases e;simp -dsimp;rw[qaa];refine⟨λhb6=>?_,λhb6=>?_⟩
       ·have:=hbad (by simp only[qcj,hb6]; simp);simp -dsimp[this]
       ·simp -dsimp[h16,hf];simp at hb1 hb2 hb3 hb4 hb5;have hb1':=List.length_pos_iff.2 hb1;exact qah.intro (k-1) (by omega) ⟨i+1,by omega,by omega,hgood (by simp only[qcj,hb6,hb5]; simp[hb1]; omega),by simp,by simp; omega,by simp[e0,q0],by simp[e1,q1],by simp[e2,q2],rfl⟩
      ·have:=hbad (by simp only[qcj]; simp at hb5; simp[hb5]);simp -dsimp[hb5,this]
     ·have:=hbad (by simp only[qcj,hb4]; simp);simp -dsimp[hb4,this]
    ·have:=hbad (by simp only[qcj,hb3]; simp);simp -dsimp[hb3,this]
   ·have:=hbad (by simp only[qcj,hb2]; simp);simp -dsimp[hb2,this]
  ·have hb1':p.a.l=[]:=by simpa using hb1
   have:=hbad (by simp[qcj,hb1']);simp -dsimp[hb1,this]
 ·simp at hl;have hl':decide (i<(g.p.l.length:Int))=false:=by simpa using hl
  rw[List.drop_eq_nil_of_le (by omega)]at hx;simp -dsimp[hl',h3,e1];rw[Gd_t];refine⟨λhb1=>?_,λhb1=>?_⟩
  ·simp -dsimp[hb1,h3,e1];simp at hb1; simp[mayB,<-hx]; omega
  ·simp -dsimp[hb1];simp at hb1; simp[mayB,<-hx,hb1]
variable {AP:Prog}{mk:Nat}{d:Bool}
section
variable {κ β : Type}{kf : κ->V}{vf : β->V}
def qaS [DecidableEq κ] (k : κ):List (κ × β)->Option β
 | []=>none
 | e::l=>if k=e.1 then some e.2 else qaS k l
def aSet [DecidableEq κ] (k : κ)(v : β):List (κ × β)->List (κ × β)
 | []=>[(k,v)]
 | e::l=>if k=e.1 then(e.1,v)::l else e::aSet k v l
def aDel [DecidableEq κ] (k : κ):List (κ × β)->List (κ × β)
 | []=>[]
 | e::l=>if k=e.1 then l else e::aDel k l
theorem ql1 [DecidableEq κ] {k j : κ}{v : β}:∀{l:List (κ × β)},j∈(aSet k v l).map (·.1)->j=k\/j∈l.map (·.1)
 | [],h=>by simp[aSet]at h; exact .inl h
 | e::l,h=>by
  simp only[aSet]at h;split at h
  ·exact .inr (by simpa using h)
  ·simp only[List.map_cons,Jag]at h ⊢;rcases h with h|h
   ·exact .inr (.inl h)
   ·rcases ql1 h with h|h
    ·exact .inl h
    ·exact .inr (.inr h)
theorem qhO [DecidableEq κ] {k : κ}{v : β}:∀{l:List (κ × β)},(l.map (·.1)).Nodup->((aSet k v l).map (·.1)).Nodup
 | [],_=>by simp[aSet]
 | e::l,h=>by
  simp only[aSet];split
  ·exact h
  ·rename_i hne;simp only[List.map_cons,List.nodup_cons]at h ⊢;refine⟨λhm=>?_,qhO h.2⟩;rcases ql1 hm with hm|hm
   ·exact hne hm.symm
   ·exact h.1 hm
theorem qhs [DecidableEq κ] (k j : κ)(v : β):∀l:List (κ × β),qaS j (aSet k v l)=if j=k then some v else qaS j l
 | []=>by simp[aSet,qaS]
 | e::l=>by
  simp only[aSet]
  by_cases h:k=e.1
  ·subst h
   by_cases h2:j=e.1<;>simp[qaS,h2]
  ·simp only[h,if_false,qaS];rw[qhs k j v l]
   by_cases h2:j=e.1
   ·subst h2; simp; intro h3; exact absurd h3.symm h
   ·simp[h2]
def MapR(kf : κ->V)(vf : β->V)(es:List (Nat × V × V))(S:List (κ × β)):Prop:=es.map (λe=>e.2)=S.map λe=>(kf e.1,vf e.2)
theorem qrQ [DecidableEq κ] {es:List (Nat × V × V)}{k : κ}{v : β}{l:List (κ × β)}(h:MapR kf vf es (aSet k v l)):es≠[]:=by
 rintro rfl;have:=congrArg List.length h;cases l<;>simp[aSet]at this
 split at this<;>simp at this
theorem MapR.nil:MapR kf vf [] []:=rfl
theorem MapR.cons_inv{e:Nat × V × V}{es:List (Nat × V × V)}{S:List (κ × β)}(h:MapR kf vf (e::es) S):∃x S',S=x::S'/\e.2=(kf x.1,vf x.2)/\MapR kf vf es S':=by
 cases S with
 | nil=>simp[MapR]at h
 | cons x S=>simp only[MapR,List.map_cons,List.cons.injEq]at h; exact⟨x,S,rfl,h.1,h.2⟩
theorem MapR.nil_inv{S:List (κ × β)}(h:MapR kf vf [] S):S=[]:=by
 cases S with
 | nil=>rfl
 | cons x S=>simp[MapR]at h
theorem qfa [DecidableEq κ] (hk:∀a b,qcV (kf a) (kf b)=some (decide (a=b)))(k : κ):∀(es:List (Nat × V × V)) (S:List (κ × β)) (i:Nat),MapR kf vf es S ->
  (qaS k S=none/\qcz (kf k) es i=some none/\(∀c v,MapR kf vf (es++[(c,kf k,vf v)]) (aSet k v S))/\aDel k S=S) \/
  ∃j v,qaS k S=some v/\qcz (kf k) es i=some (some (i+j,vf v))/\(∀v',MapR kf vf (es.modify j λe=>(e.1,kf k,vf v')) (aSet k v' S))/\MapR kf vf (es.eraseIdx j) (aDel k S)
 | [],S,i,h=>by
  cases h.nil_inv;exact .inl ⟨rfl,rfl,λc v=>rfl,rfl⟩
 | e::es,S,i,h=>by
  obtain⟨x,S,rfl,h1,h2⟩:=h.cons_inv;obtain⟨b,k',v⟩:=e;simp only[Prod.mk.injEq]at h1;obtain⟨rfl,rfl⟩:=h1;simp only[qcz,hk]
  by_cases hx:k=x.1
  ·subst hx;refine .inr ⟨0,x.2,by simp[qaS],by simp,λv'=>?_,?_⟩
   ·simp[aSet,MapR]at h2 ⊢; exact h2
   ·simpa[aDel]using h2
  ·rcases qfa hk k es S (i+1) h2 with ⟨g1,g2,g3,g4⟩|⟨j,v,g1,g2,g3,g4⟩
   ·refine .inl ⟨by simp[qaS,hx,g1],by simp[hx,g2],λc v=>?_,by simp[aDel,hx,g4]⟩;have:=g3 c v;simp only[MapR,aSet,hx,if_false,List.cons_append,List.map_cons]at this ⊢;rw[this]
   ·refine .inr ⟨j+1,v,by simp[qaS,hx,g1],by simp[hx,g2]; omega,λv'=>?_,?_⟩
    ·have:=g3 v';simp only[MapR,aSet,hx,if_false,List.modify_succ_cons,List.map_cons]at this ⊢;rw[this]
    ·simp only[MapR,aDel,hx,if_false,List.eraseIdx_cons_succ,List.map_cons]at g4 ⊢;rw[g4]
variable {h:Heap}{M c:Nat}{es:List (Nat × V × V)}{S:List (κ × β)}{kn:KK}{zero:V}
theorem qiC [DecidableEq κ] (hk:∀a b,qcV (kf a) (kf b)=some (decide (a=b)))(hkn:∀a,qbX kn (kf a)=true)(hM:h.get M=some (.map es c))(hS:MapR kf vf es S)(k : κ) :
  qmG kn zero false (.map M) (kf k) h=some (match qaS k S with|some v=>vf v|none=>zero):=by
 simp only[qmG,hkn,cond,hM];rcases qfa hk k es S 0 hS with ⟨g1,g2,_,_⟩|⟨j,v,g1,g2,_,_⟩
 ·simp[g1,g2]
 ·simp[g1,g2]
theorem qlz [DecidableEq κ] (hk:∀a b,qcV (kf a) (kf b)=some (decide (a=b)))(hkn:∀a,qbX kn (kf a)=true)(hM:h.get M=some (.map es c))(hS:MapR kf vf es S)(k : κ) :
  qmG kn zero true (.map M) (kf k) h=some (match qaS k S with|some v=>.tup [vf v,.bool true]|none=>.tup [zero,.bool false]):=by
 simp only[qmG,hkn,cond,hM];rcases qfa hk k es S 0 hS with ⟨g1,g2,_,_⟩|⟨j,v,g1,g2,_,_⟩
 ·simp[g1,g2]
 ·simp[g1,g2]
def qmD(mk:Nat)(kn:KK)(m k v:V)(h:Heap):Option VH:=match m with
 | .map i=>(match h.get i with
  | some (.map es clock) =>
   cond (Nat.ble mk i&&qbX kn k)
    (match qcz k es 0 with
    | some (some r)=>some ⟨.any,h.set i (.map (es.modify r.1 λe=>(e.1,k,v)) clock)⟩
    | some none=>some ⟨.any,h.set i (.map (es++[(clock,k,v)]) (clock+1))⟩
    | none=>none) none
  | _=>none)
 | _=>none
@[simp]theorem W_mupd{m k v:Opd}{tm:Tm}{h:Heap}:(qay (.mupd kn m k v)).run mk tm h=qmD mk kn (m.ev tm) (k.ev tm) (v.ev tm) h:=(rfl)
theorem qgM [DecidableEq κ] (hk:∀a b,qcV (kf a) (kf b)=some (decide (a=b)))(hkn:∀a,qbX kn (kf a)=true)(hM:h.get M=some (.map es c))(hS:MapR kf vf es S)(hmk:mk<=M)(k : κ)(v : β) :
  ∃es' c',qmD mk kn (.map M) (kf k) (vf v) h=some ⟨.any,h.set M (.map es' c')⟩/\MapR kf vf es' (aSet k v S):=by
 simp only[qmD,hkn,cond,hM,Jat ▸ hmk,Bool.and_true];rcases qfa hk k es S 0 hS with ⟨g1,g2,g3,_⟩|⟨j,v0,g1,g2,g3,_⟩
 ·rw[g2]; simp only[qa3,hmk,decide_true]; exact⟨_,_,rfl,g3 _ _⟩
 ·rw[g2]; simp only[qa3,hmk,decide_true]; exact⟨_,_,rfl,by simpa using g3 v⟩
def delV(mk:Nat)(kn:KK)(m k:V)(h:Heap):Option VH:=match m with
 | .map i=>(match h.get i with
  | some (.map es clock) =>
   cond (Nat.ble mk i&&qbX kn k)
    (match qcz k es 0 with
    | some (some r)=>some ⟨.any,h.set i (.map (es.eraseIdx r.1) clock)⟩
    | some none=>some ⟨.any,h⟩
    | none=>none) none
  | _=>none)
 | _=>none
@[simp]theorem W_del{m k:Opd}{tm:Tm}{h:Heap}:(qay (.del kn m k)).run mk tm h=delV mk kn (m.ev tm) (k.ev tm) h:=(rfl)
end
@[simp]theorem qrS{h:Heap}{i:Nat}:lenV .map (.map i) h=(match h.get i with|some (.map es _)=>some (.int .i64 es.length)|_=>none):=(rfl)
theorem qqS(a b:Int):qcV (.int .i64 a) (.int .i64 b)=some (decide (a=b)):=by simp[qcV,eq1]
theorem intOk(a:Int):qbX (.one .int) (.int .i64 a)=true:=rfl
def qli(l:Nat)(Q:VH->Prop)(_:Ps Q)(s:OS):Prop :=
 s.s.defs=[]/\∃x pend tm ps asg body,s.s.h.get l=some (.loop x pend tm ps asg body)/\match s.o with
  | .normal=>Q ⟨.bool true,s.s.h.set l (.loop .ready none tm ps asg body)⟩
  | .ret=>Q ⟨.bool false,s.s.h.set l (.loop .done (some .ret) tm ps asg body)⟩
  | .exit i=>Q ⟨.bool false,s.s.h.set l (.loop .done (some (.exit i)) tm ps asg body)⟩
def yldQ(AP:Prog)(d:Bool)(mk l:Nat)(body:IC)(Q:VH->Prop)(_:Ps (body,Q))(r:OS):Prop :=
 r.o=.normal/\r.s.defs=[]/\∃pend tm ps asg body',r.s.h.get l=some (.loop .ready pend tm ps asg body') /\
  wk AP d mk body [] ⟨r.s.tm,r.s.h.set l (.loop .busy pend tm ps asg body'),[],true⟩ (qli l Q ⟨⟩) ⟨⟩
theorem WF.yld{l:Nat}{s0:LoopState}{pend:Option IC}{tm:Tm}{ps:List Nat}{asg body:IC}{args:List V}{h:Heap}{Q:VH->Prop}(hl:h.get l=some (.loop s0 pend tm ps asg body))(hmk:mk<=l)(hlen:args.length=ps.length)
  (h1:wk AP d mk asg [] ⟨qdr tm ps args,h,[],true⟩ (yldQ AP d mk l body Q ⟨⟩) ⟨⟩):WF AP d mk (.yld l) args h Q:=by
 have key : W d (fun n => ND.bind ((qaR asg).run (env AP mk n) ⟨qdr tm ps args, h, [], true⟩) fun r =>
    match r.o,r.s.defs,r.s.h.get l with
    | .normal,[],some (.loop .ready pend tm' ps' asg' body') =>
     ND.bind ((qaR body).run (env AP mk n) ⟨r.s.tm,r.s.h.set l (.loop .busy pend tm' ps' asg' body'),[],true⟩) λs =>
      (match s.s.defs with
      | []=>(match s.o with
       | .normal=>endRound l none s.s.h
       | .ret=>endRound l (some .ret) s.s.h
       | .exit i=>endRound l (some (.exit i)) s.s.h)
      | _=>none)
    | _,_,_=>none) Q:=by
  refine W.bind ((qb2 (c:=asg) h1).mono ?_);rintro⟨o,⟨tm1,h2,defs,rd⟩⟩ ⟨e1,e2,pend,tm',ps',asg',body',e3,hw⟩;simp only at e1 e2 e3 hw ⊢;subst e1 e2;simp only[e3];refine W.bind ((qb2 hw).mono ?_);rintro⟨o,⟨tm2,h3,defs,rd⟩⟩ ⟨e4,x,pend2,tm3,ps3,asg3,body3,e5,hq⟩;simp only at e4 e5 hq ⊢;subst e4;cases o with
  | normal =>
   have hq':Q ⟨.bool true,h3.set l (.loop .ready none tm3 ps3 asg3 body3)⟩:=hq;exact(W.one hq').eq λn=>by show endRound l none h3=_; simp only[endRound,e5]; rfl
  | ret =>
   have hq':Q ⟨.bool false,h3.set l (.loop .done (some .ret) tm3 ps3 asg3 body3)⟩:=hq;exact(W.one hq').eq λn=>by show endRound l (some .ret) h3=_; simp only[endRound,e5]; rfl
  | exit i =>
   have hq':Q ⟨.bool false,h3.set l (.loop .done (some (.exit i)) tm3 ps3 asg3 body3)⟩:=hq;exact(W.one hq').eq λn=>by show endRound l (some (.exit i)) h3=_; simp only[endRound,e5]; rfl
 obtain⟨k,N,h0,g1,g2,g3⟩:=key;refine⟨k,N+1,h0,g1,λn hn=>?_,g3⟩;obtain⟨m,rfl⟩:∃m,n=m+1:=⟨n-1,by omega⟩;simp only[evCall,qb6,hl,hmk,hlen,qa3,qkY,decide_true,Bool.and_true,cond];exact g2 m (by omega)
theorem qpz{fv:V}{ps:List Nat}{asg body:IC}{st:St}{Q:OS->Prop}(hr:st.round=false)
  (h1:WF AP d mk fv [.yld (st.h.n+1)] ((st.h.push .dfr).push (.loop .ready none st.tm ps asg body)) λr =>
   ∃s pend tm ps asg body,r.h.get (st.h.n+1)=some (.loop s pend tm ps asg body)/\s≠.busy /\
    ((pend=none/\Q ⟨.normal,⟨st.tm,r.h.set (st.h.n+1) (.loop .exhausted pend tm ps asg body),.mark st.h.n::st.defs,st.round⟩⟩) \/
    (pend=some .ret/\Q ⟨.ret,⟨st.tm,r.h.set (st.h.n+1) (.loop .exhausted pend tm ps asg body),.mark st.h.n::st.defs,st.round⟩⟩) \/
    ∃i,pend=some (.exit i)/\Q ⟨.exit i,⟨st.tm,r.h.set (st.h.n+1) (.loop .exhausted pend tm ps asg body),.mark st.h.n::st.defs,st.round⟩⟩)) :
  W d (λn=>qcA (env AP mk n) fv ps asg body st) Q:=by
 have key:W d (λn=>ND.bind (evCall AP n mk fv [.yld (st.h.n+1)] ((st.h.push .dfr).push (.loop .ready none st.tm ps asg body))) λr =>
  match r.h.get (st.h.n+1)with
  | some (.loop s pend tm ps asg body) =>
   (match s with
   | .busy=>none
   | _ =>
    let st':St:=⟨st.tm,r.h.set (st.h.n+1) (.loop .exhausted pend tm ps asg body),.mark st.h.n::st.defs,st.round⟩
    match pend with
    | none=>some [⟨.normal,st'⟩]
    | some .ret=>some [⟨.ret,st'⟩]
    | some (.exit i)=>some [⟨.exit i,st'⟩]
    | _=>none)
  | _=>none) Q:=by
  refine W.bind (W.mono h1 ?_);rintro⟨v,h'⟩ ⟨s,pend,tm,ps,asg,body,e1,e2,h⟩;simp only at e1 h ⊢;rcases h with ⟨rfl,hq⟩|⟨rfl,hq⟩|⟨i,rfl,hq⟩
  ·exact(W.one hq).eq λn=>by simp only[e1]
  ·exact(W.one hq).eq λn=>by simp only[e1]
  ·exact(W.one hq).eq λn=>by simp only[e1]
 refine key.eq λn=>?_;simp only[qcA,hr,cond];rfl
theorem qik{f:Opd}{ps:List Nat}{asg body:IC}{fs:List Fr}{st:St}{Q:OS->Prop}(hr:st.round=false)
  (h1:WF AP d mk (f.ev st.tm) [.yld (st.h.n+1)] ((st.h.push .dfr).push (.loop .ready none st.tm ps asg body)) λr =>
   ∃s pend tm ps asg body,r.h.get (st.h.n+1)=some (.loop s pend tm ps asg body)/\s≠.busy /\
    ((pend=none/\nx AP d mk fs .normal ⟨st.tm,r.h.set (st.h.n+1) (.loop .exhausted pend tm ps asg body),.mark st.h.n::st.defs,st.round⟩ Q ⟨⟩) \/
    (pend=some .ret/\nx AP d mk fs .ret ⟨st.tm,r.h.set (st.h.n+1) (.loop .exhausted pend tm ps asg body),.mark st.h.n::st.defs,st.round⟩ Q ⟨⟩) \/
    ∃i,pend=some (.exit i)/\nx AP d mk fs (.exit i) ⟨st.tm,r.h.set (st.h.n+1) (.loop .exhausted pend tm ps asg body),.mark st.h.n::st.defs,st.round⟩ Q ⟨⟩)) :
  wk AP d mk (.rangeF f ps asg body) fs st Q ⟨⟩:=qpz hr h1
theorem WF.join{AP:Prog}{d:Bool}{mk f:Nat}{first cap args:List V}{h:Heap}{Q:VH->Prop}(h1:WF AP d mk (.fn f [] []) (first++args++cap) h Q):WF AP d mk (.fn f first cap) args h Q:=by
 refine W.eq h1 λn=>?_;cases n with
 | zero=>rfl
 | succ n=>simp only[evCall,List.nil_append,List.append_nil]
def intV(n:Int):V:=.int .i64 n
def qsr(b:Bool):V:=.bool b
theorem qcc(a b:Int):qcV (intV a) (intV b)=some (decide (a=b)):=qqS a b
theorem qdO(a:Int):qbX (.one .int) (intV a)=true:=rfl
def isB(S:List (Int × Bool))(k:Int):Bool:=(qaS k S).getD false
def qfO(h:Heap)(M:Nat)(S:List (Int × Bool)):Prop:=∃es c,h.get M=some (.map es c)/\MapR intV qsr es S
theorem qd9{h:Heap}{M:Nat}{S:List (Int × Bool)}(hM:qfO h M S)(k:Int):qmG (.one .int) (.bool false) false (.map M) (.int .i64 k) h=some (.bool (isB S k)):=by
 obtain⟨es,c,h1,h2⟩:=hM;have:=qiC (zero:=.bool false) qcc qdO h1 h2 k;simp only[intV]at this;rw[this];unfold isB;cases qaS k S<;>rfl
theorem qe9{h:Heap}{M mk:Nat}{S:List (Int × Bool)}(hM:qfO h M S)(hmk:mk<=M)(k:Int)(b:Bool):∃es' c',qmD mk (.one .int) (.map M) (.int .i64 k) (.bool b) h=some ⟨.any,h.set M (.map es' c')⟩/\MapR intV qsr es' (aSet k b S):=by
 obtain⟨es,c,h1,h2⟩:=hM;exact qgM qcc qdO h1 h2 hmk k b
def notN(N:Int->Bool)(s:Sy):Bool:=decide (s.kind≠2) || !N s.n
def qeY(N:Int->Bool)(l:List Sy):Bool:=!l.any (notN N)
def qpO(S:List (Int × Bool))(s:Sy):Bool:=notN (isB S) s
def qeZ(S:List (Int × Bool))(l:List Sy):Bool:=qeY (isB S) l
structure NI (g:Gr) (F M:Nat) (S:List (Int × Bool)) (h:Heap):Prop where
 f:h.get F=some (.rows [[g.p.enc Pd.cells,g.keys.enc qac,.map M]])
 m:qfO h M S
 lf:F<h.n
 lm:M<h.n
section
variable {g:Gr}{F M B mk:Nat}{S:List (Int × Bool)}{h:Heap}{d:Bool}
theorem NI.push(hN:NI g F M S h)(o:Obj):NI g F M S (h.push o):=by
 obtain⟨h1,⟨es,c,h2,h3⟩,h4,h5⟩:=hN;exact⟨by rw[qBq,Jaa (by omega),h1],⟨es,c,by rw[qBq,Jaa (by omega),h2],h3⟩,by simp; omega,by simp; omega⟩
theorem NI.set(hN:NI g F M S h){i:Nat}(o:Obj)(h1:i≠F)(h2:i≠M):NI g F M S (h.set i o):=by
 obtain⟨k1,⟨es,c,k2,k3⟩,k4,k5⟩:=hN;exact⟨by rw[qBp,Jaa (Ne.symm h1),k1],⟨es,c,by rw[qBp,Jaa (Ne.symm h2),k2],k3⟩,k4,k5⟩
theorem qpF(hN:NI g F M S h)(hB:h.get B=some (.rows [[.ptr F 0 0]]))(hlt:B<h.n)(s:Sy):WF PR d mk (.fn 202 [] [.ptr B 0 0]) [.agg s.cells] h λv=>v=⟨.bool (qpO S s),h⟩:=by
 refine qBt f202 b202 [.tm 3] rfl rfl rfl rfl rfl rfl ?_;unfold b202;have e1:¬B=h.n:=by omega
 have e2:¬F=h.n:=by have:=hN.lf; omega
 have e3:=qd9 (hN.push (.rows [s.cells])).m s.n;have e4:=hN.f;simp only[Sy.cells]at e3;simp -dsimp[Sy.cells,hB,e1,e2,e4];rw[Gd_f];refine⟨λhb=>?_,λhb=>?_⟩
 ·simp -dsimp[hb,hB,e1,e2,e4,qcT,e3];simp at hb;simp[qpO,notN,hb]
 ·simp -dsimp[hb];simp at hb;simp[qpO,notN,hb]
theorem qnX(hN:NI g F M S h)(l:Sl Sy)(hl:l.l.length<1000000000):WF PR d mk (.fn 163 [] []) [.ptr F 0 0,l.enc Sy.cells] h λv=>v=⟨.bool (qeZ S l.l),h⟩:=by
 refine qBt f163 b163 [.tm 4] rfl rfl rfl rfl rfl rfl ?_;unfold b163;simp -dsimp;refine WFS.by (qf5 (f:=91) (g:=57) (esz:=3) (ld:=some 3) (arg:=λs=>.agg s.cells) (p:=qpO S) rfl rfl rfl rfl (λ_=>rfl) (λ_=>rfl) hl λs hm=>qpF (B:=h.n) (hN.push _) (by simp) (by simp) s) ?_
 intro v h' e;cases e;simp -dsimp[qeZ,qeY];rfl
end
def left(S:List (Int × Bool)):Nat->Nat
 | 0=>0
 | n+1=>left S n+if isB S n then 0 else 1
theorem qcs(S:List (Int × Bool))(k j:Int)(b:Bool):isB (aSet k b S) j=if j=k then b else isB S j:=by
 unfold isB; rw[qhs]; split<;>rfl
theorem qoe(S:List (Int × Bool))(k:Int):∀n,left (aSet k true S) n<=left S n
 | 0=>Jac _
 | n+1=>by
  have:=qoe S k n;simp only[left,qcs]
  by_cases h:(n:Int)=k
  ·simp[h]; split<;>omega
  ·simp only[h,if_false]; omega
theorem qkA(S:List (Int × Bool))(k:Int)(h0:0<=k)(hk:isB S k=false):∀n:Nat,k<n->left (aSet k true S) n<left S n
 | 0,h=>by omega
 | n+1,h=>by
  simp only[left,qcs]
  by_cases e:(n:Int)=k
  ·have:=qoe S k n;rw[e,hk]; simp; omega
  ·have:=qkA S k h0 hk n (by omega);simp only[e,if_false]; omega
def canB(g:Gr)(S:List (Int × Bool))(n:Nat):Bool:=(lat g.p.l n).a.l.any λa=>qeZ S a.l
structure NB (g:Gr) (F M B:Nat) (h0:Heap):Prop where
 f:h0.get F=some (.rows [[g.p.enc Pd.cells,g.keys.enc qac,.map M]])
 b:h0.get B=some (.rows [[.ptr F 0 0]])
 lf:F<h0.n
 lm:M<h0.n
 lb:B<h0.n
 fm:F≠M
 bm:B≠M
structure NJ (M:Nat) (h0:Heap) (S:List (Int × Bool)) (h:Heap):Prop where
 keep:∀i,i<h0.n->i≠M->h.get i=h0.get i
 n:h0.n<=h.n
 m:qfO h M S
section
variable {g:Gr}{F M B l mk:Nat}{S:List (Int × Bool)}{h h0:Heap}{d:Bool}
theorem NJ.push(hN:NJ M h0 S h)(hm:M<h0.n)(o:Obj):NJ M h0 S (h.push o):=by
 obtain⟨h1,h2,es,c,h3,h4⟩:=hN;exact⟨λi hi hM=>by rw[qBq,Jaa (by omega),h1 i hi hM],by simp; omega,es,c,by rw[qBq,Jaa (by omega),h3],h4⟩
theorem NJ.set(hN:NJ M h0 S h)(hm:M<h0.n){i:Nat}(o:Obj)(hi:h0.n<=i):NJ M h0 S (h.set i o):=by
 obtain⟨h1,h2,es,c,h3,h4⟩:=hN;exact⟨λj hj hM=>by rw[qBp,Jaa (by omega),h1 j hj hM],by simp; omega,es,c,by rw[qBp,Jaa (by omega),h3],h4⟩
theorem NB.bx(hB:NB g F M B h0)(hN:NJ M h0 S h):h.get B=some (.rows [[.ptr F 0 0]]):=(hN.keep B hB.lb hB.bm).trans hB.b
theorem NB.fx(hB:NB g F M B h0)(hN:NJ M h0 S h):h.get F=some (.rows [[g.p.enc Pd.cells,g.keys.enc qac,.map M]]):=(hN.keep F hB.lf hB.fm).trans hB.f
theorem NB.ni(hB:NB g F M B h0)(hN:NJ M h0 S h):NI g F M S h:=⟨hB.fx hN,hN.m,Nat.lt_of_lt_of_le hB.lf hN.n,Nat.lt_of_lt_of_le hB.lm hN.n⟩
def qcQ(g:Gr)(S:List (Int × Bool))(n:Nat):Prop:=∀k,k<n->canB g S k=true->isB S k=true
theorem qp8(hg:g.Small)(R:List (Int × Bool)->Prop)(hR:∀S (n:Nat),R S->n<g.p.l.length->canB g S n=true->R (aSet n true S))
  (hy:∀S h (n:Nat),NJ M h0 S h->n<g.p.l.length->mk<=h.n->WF PR false mk (.yld l) [.int .i64 n] h λr=>r.v=.bool true/\NJ M h0 (aSet n true S) r.h/\mk<=r.h.n)
  (hB:NB g F M B h0) (hN:NJ M h0 S h) (hr0:R S) (hmk:mk<=h.n) :
  WF PR false mk (.fn 221 [] [.ptr B 0 0]) [.yld l] h λr=>∃S,NJ M h0 S r.h/\R S/\qcQ g S g.p.l.length/\mk<=r.h.n:=by
 have hgp:=hg.p;refine WF.go f221 b221 [] rfl rfl rfl rfl rfl rfl ?_;unfold b221;simp -dsimp;refine qaf (λk st=>∃S more,NJ M h0 S st.h/\R S/\mk<=st.h.n/\(gK 3).run st.tm=.bool more/\st.defs=[]/\k=2 * left S g.p.l.length+(if more then 1 else 0)/\(more=false->qcQ g S g.p.l.length)) (2 * left S g.p.l.length+1) ⟨S,true,hN,hr0,hmk,by simp⟩ ?_;rintro k ⟨tm,h',defs,round⟩ ⟨S,more,hN,hR0,hmk,h3,rfl,hk,hcl⟩ hK;have k0:=hK 0 rfl;have h1:=hK 1 rfl;simp at k0 h1 h3 hN hmk;clear hK;simp -dsimp[h3];rw[qaa];refine⟨λhb=>?_,λhb=>?_⟩
 ·subst hb;have e1:=hB.bx hN;have e2:=hB.fx hN;simp -dsimp[h1,e1,qcT,e2];refine qaf (λj st=>∃S' more',∃i:Int,0<=i/\(j:Int)=g.p.l.length-i/\NJ M h0 S' st.h/\R S'/\mk<=st.h.n/\(gK 3).run st.tm=.bool more'/\(gK 13).run st.tm=.int .i64 i/\st.defs=[] /\
   (more'=true->left S' g.p.l.length<left S g.p.l.length)/\(more'=false->S'=S/\qcQ g S i.toNat)) g.p.l.length ⟨S,false,0,by simp,by simp,hN,hR0,hmk,by simp,by simp,rfl,by simp,by simp[qcQ]⟩ ?_
  rintro j ⟨tm2,h2,defs,round⟩ ⟨S',more',i,hi,hj,hN',hR',hmk',h3',h13,rfl,hm1,hm2⟩ hK;have h0':=hK 0 rfl;have h1':=hK 1 rfl;have h11:=hK 11 rfl;have h12:=hK 12 rfl;simp[k0,h1]at h0' h1' h11 h12 h3' h13 hN' hmk';clear hK;simp -dsimp[h12,h13];rw[qaa];refine⟨λhl=>?_,λhl=>?_⟩
  ·simp at hl;have hlt:i.toNat<g.p.l.length:=by omega
   have hii:((i.toNat:Nat):Int)=i:=by omega
   have hmem:=qai hlt;have hn1:=hg.a _ hmem;have hn2:=hg.s _ hmem;obtain⟨p,hp⟩:∃p,lat g.p.l i.toNat=p:=⟨_,rfl⟩;rw[hp]at hn1 hn2;have hf:fw .i64 (i+1)=i+1:=fw64 (by omega) (by omega);have e1:=hB.bx hN';have e2:=hB.fx hN';have q1:¬B=h2.n:=by have:=hB.lb; have:=hN'.n; omega
   have q2:¬F=h2.n:=by have:=hB.lf; have:=hN'.n; omega
   have hNN:=(hN'.push hB.lm (.rows [[.nils,.int .i64 0,.nils]])).set hB.lm (i:=h2.n) (.rows [p.cells]) hN'.n;have e3:=qd9 hNN.m i;simp only[Pd.cells]at e3 hNN;simp -dsimp[h0',h1',h11,h12,h13,hl,hi,hp,Pd.cells,hmk',e1,e2,q1,q2,qcT,e3];have hcan:canB g S' i.toNat=p.a.l.any λa=>qeZ S' a.l:=by rw[canB,hp]
   have hstay:(canB g S' i.toNat=true->isB S' i=true)->∀(more':Bool),(more'=true->left S' g.p.l.length<left S g.p.l.length)->(more'=false->S'=S/\qcQ g S i.toNat)->(more'=false->S'=S/\qcQ g S (i+1).toNat):=λhc more' _ h2 e=>by
    obtain⟨rfl,h3⟩:=h2 e;refine⟨rfl,λk hk hk2=>?_⟩
    by_cases e2:k=i.toNat
    ·subst e2; rw[hii]; exact hc hk2
    ·exact h3 k (by omega) hk2
   rw[Gd_f];refine⟨λhb1=>?_,λhb1=>?_⟩
   ·simp -dsimp[hb1,h1',e1,q1];refine WFS.by (qf5 (f:=92) (g:=59) (esz:=1) (ld:=none) (arg:=λa=>a.enc Sy.cells) (p:=λa:Sl Sy=>qeZ S' a.l) rfl rfl rfl rfl (λ_=>rfl) (λ_=>rfl) hn1 λa hm=>WF.join (by simpa using qnX (hB.ni hNN) a (hn2 a hm))) ?_
    intro v h'' e;cases e;simp -dsimp[<-hcan];rw[qaa];refine⟨λhb2=>?_,λhb2=>?_⟩
    ·simp at hb2;simp -dsimp[h13,hf];exact qah.intro (j-1) (by omega) ⟨S',more',i+1,by omega,by omega,hNN,hR',by simp; omega,by simp[h3'],by simp,rfl,hm1,hstay (by simp[hb2]) more' hm1 hm2⟩
    ·simp at hb2;simp -dsimp[h0'];have:=hy S' _ i.toNat hNN hlt (by simp; omega);rw[hii]at this;refine WFS.by this ?_
     rintro v h3 ⟨rfl,hN3,hmk3⟩;simp -dsimp[h13,hf];have hleft:=qkA S' i hi hb1 g.p.l.length hl;have hR3:=hR S' i.toNat hR' hlt hb2;rw[hii]at hR3;refine qah.intro (j-1) (by omega) ⟨aSet i true S',true,i+1,by omega,by omega,hN3,hR3,hmk3,by simp,by simp,rfl,λ_=>?_,by simp⟩;cases more' with
     | true=>have:=hm1 rfl; omega
     | false=>rw[(hm2 rfl).1]at hleft ⊢; exact hleft
   ·simp -dsimp[hb1,h13,hf];exact qah.intro (j-1) (by omega) ⟨S',more',i+1,by omega,by omega,hNN,hR',by simp; omega,by simp[h3'],by simp,rfl,hm1,hstay (λ_=>hb1) more' hm1 hm2⟩
  ·simp at hl;have hl':decide (i<(g.p.l.length:Int))=false:=by simpa using hl
   simp -dsimp[hl'];refine qah.intro (2 * left S' g.p.l.length+(if more' then 1 else 0)) ?_ ⟨S',more',hN',hR',hmk',by simp[h3'],rfl,rfl,λe=>?_⟩
   ·cases more' with
    | true=>have:=hm1 rfl; simp at hk ⊢; omega
    | false=>rw[(hm2 rfl).1]; simp at hk ⊢; omega
   ·obtain⟨rfl,h4⟩:=hm2 e;intro k hk; exact h4 k (by omega)
 ·subst hb;simp -dsimp;exact⟨S,hN,hR0,hcl rfl,hmk⟩
theorem qkI{v:V}(hv:v.cells=[v]):WF PR d mk (.fn 201 [] []) [v] h λr=>r=⟨.fn 221 [] [.ptr h.n 0 0],h.push (.rows [[v]])⟩:=by
 refine WF.go f201 b201 [.tm 2] rfl rfl rfl rfl rfl rfl ?_;unfold b201;simp -dsimp[hv]
def Exact(g:Gr)(S:List (Int × Bool)):Prop:=qcQ g S g.p.l.length/\∀T:List (Int × Bool),qcQ g T g.p.l.length->∀k,isB S k=true->isB T k=true
theorem qmw{T:List (Int × Bool)}(hh:∀k,isB S k=true->isB T k=true)(l:List Sy)(h1:qeZ S l=true):qeZ T l=true:=by
 simp only[qeZ,qeY,notN,Bool.not_eq_true',List.any_eq_false,Bool.or_eq_true,not_or,Jai,Decidable.not_not,Bool.not_eq_true,Bool.not_eq_false']at h1 ⊢;intro s hs;obtain⟨a,b⟩:=h1 s hs;exact⟨a,by rw[hh _ (by simpa using b)]; simp⟩
theorem qn4(hg:g.Small)(hm:mk<=h.n):WF PR false mk (.fn 162 [] []) [.agg g.cells] h λr=>(∃F M S,r.v=.ptr F 0 0/\NI g F M S r.h/\Exact g S)/\h.n<=r.h.n/\∀i,i<h.n->r.h.get i=h.get i:=by
 refine qDT hm ?_;refine WF.go f162 b162 [.tm 2] rfl rfl rfl rfl rfl rfl ?_;unfold b162;simp -dsimp[Gr.cells];refine WFS.by (qkI (by simp)) ?_
 intro v h' e;cases e;simp -dsimp;refine qgr (λst=>st.h.n=h.n+5/\(gK 3).run st.tm=.ptr (h.n+3) 0 0/\(gK 10).run st.tm=.fn 221 [] [.ptr (h.n+4) 0 0]/\st.h.get (h.n+1)=some (.map [] 0)/\st.h.get (h.n+2)=some (.rows [[g.p.enc Pd.cells,g.keys.enc qac,.map (h.n+1)]]) /\
  st.h.get (h.n+3)=some (.rows [[.ptr (h.n+2) 0 0]])/\st.h.get (h.n+4)=some (.rows [[.ptr (h.n+2) 0 0]])/\st.defs=[]/\st.round=false) (by simp) ?_
 rintro⟨tm,h1,defs,round⟩ ⟨hn,h3,h10,e1,e2,e3,e4,rfl,rfl⟩;simp only at hn h3 h10 e1 e2 e3 e4;refine qik rfl ?_;simp only[ev_t,h10];obtain⟨body,hbody⟩:∃b:IC,b=(IC.block 1 (IC.ops [i 12 (IOp.r (RdO.load none (Opd.t 3))),i 13 (IOp.p (PO.nilc (Opd.t 12))),i 14 (IOp.p (PO.faddr 2 (Opd.t 13))),i 15 (IOp.r (RdO.load none (Opd.t 14))),i 16 (IOp.p (PO.mov (Opd.t 4))),n (IOp.w (WO.mupd (KK.one SK.int) (Opd.t 15) (Opd.t 16) (Opd.c (V.bool true))))])):=⟨_,rfl⟩;rw[<-hbody];obtain⟨h0,eh0⟩:∃h0:Heap,h0=(h1.push Obj.dfr).push (Obj.loop LoopState.ready none tm [11] (IC.ops [i 4 (IOp.p (PO.mov (Opd.t 11)))]) body):=⟨_,rfl⟩;rw[<-eh0];have hn0:h0.n=h.n+7:=by rw[eh0]; simp[hn]
 have g1:h0.get (h.n+1)=some (.map [] 0):=by rw[eh0]; simp[hn,e1]
 have g2:h0.get (h.n+2)=some (.rows [[g.p.enc Pd.cells,g.keys.enc qac,.map (h.n+1)]]):=by rw[eh0]; simp[hn,e2]
 have g3:h0.get (h.n+3)=some (.rows [[.ptr (h.n+2) 0 0]]):=by rw[eh0]; simp[hn,e3]
 have g4:h0.get (h.n+4)=some (.rows [[.ptr (h.n+2) 0 0]]):=by rw[eh0]; simp[hn,e4]
 have g5:h0.get (h.n+5)=some .dfr:=by rw[eh0]; simp[hn]
 have g6:h0.get (h1.n+1)=some (Obj.loop LoopState.ready none tm [11] (IC.ops [i 4 (IOp.p (PO.mov (Opd.t 11)))]) body):=by rw[eh0]; simp[hn]
 have hB:NB g (h.n+2) (h.n+1) (h.n+4) h0:=⟨g2,g4,by omega,by omega,by omega,by omega,by omega⟩;refine W.mono (qp8 (F:=h.n+2) (M:=h.n+1) (S:=[]) (h0:=h0) hg (λS=>∀T:List (Int × Bool),qcQ g T g.p.l.length->∀k,isB S k=true->isB T k=true) ?_ ?_ hB ⟨λ_ _ _=>rfl,Jac _,[],0,g1,rfl⟩ (by simp[isB,qaS]) (by omega)) ?_
 ·intro S m hS hm hc T hT k hk;rw[qcs]at hk
  by_cases e:k=(m:Int)
  ·subst e;refine hT m hm ?_;simp only[canB,List.any_eq_true]at hc ⊢;obtain⟨a,ha,hc⟩:=hc;exact⟨a,ha,qmw (hS T hT) _ hc⟩
  ·simp only[e,if_false]at hk;exact hS T hT k hk
 ·intro S h2 m hN hlt hmk;have hl:h2.get (h1.n+1)=some (Obj.loop LoopState.ready none tm [11] (IC.ops [i 4 (IOp.p (PO.mov (Opd.t 11)))]) body):=(hN.keep _ (by omega) (by omega)).trans g6;have b3:h2.get (h.n+3)=some (.rows [[.ptr (h.n+2) 0 0]]):=(hN.keep _ (by omega) (by omega)).trans g3;have b2:h2.get (h.n+2)=some (.rows [[g.p.enc Pd.cells,g.keys.enc qac,.map (h.n+1)]]):=(hN.keep _ (by omega) (by omega)).trans g2;refine WF.yld hl (by omega) rfl ?_;simp -dsimp;refine⟨rfl,rfl,none,tm,_,_,_,hl,?_⟩;have q1:¬h.n+3=h1.n+1:=by omega
  have q2:¬h.n+2=h1.n+1:=by omega
  have q3:¬h.n+1=h1.n+1:=by omega
  rw[hbody];simp -dsimp[h3,b3,b2,q1,q2,qcT];obtain⟨es,c,m1,m2⟩:=hN.m;have hfl:qfO (h2.set (h1.n+1) (Obj.loop LoopState.busy none tm [11] (IC.ops [i 4 (IOp.p (PO.mov (Opd.t 11)))]) (IC.block 1 (IC.ops [i 12 (IOp.r (RdO.load none (Opd.t 3))),i 13 (IOp.p (PO.nilc (Opd.t 12))),i 14 (IOp.p (PO.faddr 2 (Opd.t 13))),i 15 (IOp.r (RdO.load none (Opd.t 14))),i 16 (IOp.p (PO.mov (Opd.t 4))),n (IOp.w (WO.mupd (KK.one SK.int) (Opd.t 15) (Opd.t 16) (Opd.c (V.bool true))))])))) (h.n+1) S:=⟨es,c,by rw[qBp,Jaa q3,m1],m2⟩;obtain⟨es',c',k1,k2⟩:=qe9 hfl (mk:=h.n) (by omega) m true;refine OpS.intro k1 ?_;simp -dsimp;refine⟨rfl,_,none,tm,_,_,body,by rw[qBp,Jaa (by omega),qBp,Jab rfl,hbody],?_⟩;refine⟨rfl,⟨λi hi hM=>?_,?_,es',c',?_,k2⟩,?_⟩
  ·rw[qBp]
   by_cases e:i=h1.n+1
   ·rw[Jab e,e,g6]
   ·rw[Jaa e,qBp,Jaa hM,qBp,Jaa e,hN.keep i hi hM]
  ·exact hN.n
  ·rw[qBp,Jaa (by omega),qBp,Jab rfl]
  ·exact hmk
 ·rintro⟨v,h2⟩ ⟨S,hN,hR,hC,hmk⟩;simp only at hN hmk ⊢;have hl:h2.get (h1.n+1)=some (Obj.loop LoopState.ready none tm [11] (IC.ops [i 4 (IOp.p (PO.mov (Opd.t 11)))]) body):=(hN.keep _ (by omega) (by omega)).trans g6;have b3:h2.get (h.n+3)=some (.rows [[.ptr (h.n+2) 0 0]]):=(hN.keep _ (by omega) (by omega)).trans g3;have b5:h2.get (h.n+5)=some .dfr:=(hN.keep _ (by omega) (by omega)).trans g5;refine⟨_,_,_,_,_,_,hl,by simp,.inl ⟨rfl,?_⟩⟩;have q1:¬h.n+3=h1.n+1:=by omega
  have q2:¬h.n+5=h1.n+1:=by omega
  simp -dsimp[h3,b3,q1,hn,b5];obtain⟨es,c,m1,m2⟩:=hN.m;have b2:=hB.fx hN;exact⟨_,S,⟨by rw[qBr,Jaa (by omega),qBp,Jaa (by omega)]; exact b2,⟨es,c,by rw[qBr,Jaa (by omega),qBp,Jaa (by omega)]; exact m1,m2⟩,by have:=hN.n; simp; omega,by have:=hN.n; simp; omega⟩,hC,hR⟩
end
structure SyOk (many:Nat) (s:Sy):Prop where
 kind:s.kind=0\/s.kind=1\/s.kind=2
 set:s.kind≠2->setB s=true
 non:s.kind=2->0<=s.n/\s.n<many/\s.r.l=[]
structure GrOk (g:Gr):Prop where
 p0:0<g.p.l.length
 p:g.p.l.length<=60
 a0:∀p∈g.p.l,0<p.a.l.length
 a:∀p∈g.p.l,p.a.l.length<=8
 marks:∀p∈g.p.l,0<=p.marks/\p.marks<=63
 s:∀p∈g.p.l,∀a∈p.a.l,a.l.length<=40
 sy:∀p∈g.p.l,∀a∈p.a.l,∀s∈a.l,SyOk g.p.l.length s
 no:∀p∈g.p.l,qji p.no.l=true
theorem qsv{many:Nat}{s:Sy}(h:badB many s=false):SyOk many s:=by
 unfold badB at h;split at h
 ·rename_i hk;refine⟨by omega,λ_=>by simpa using h,λe=>by omega⟩
 ·rename_i hk;split at h
  ·rename_i hk2;simp at h;exact⟨by omega,λe=>absurd hk2 e,λ_=>⟨h.1.1,h.1.2,h.2⟩⟩
  ·cases h
theorem qaF{g:Gr}(h:mayB g=true):GrOk g:=by
 simp only[mayB,Jad,List.all_eq_true,Jai]at h;obtain⟨⟨h1,h2⟩,h3⟩:=h;have key:∀p∈g.p.l,((0<p.a.l.length/\p.a.l.length<=8)/\0<=p.marks/\p.marks<=63)/\qji p.no.l=true/\∀a∈p.a.l,a.l.length<=40/\∀s∈a.l,SyOk g.p.l.length s:=by
  intro p hp;have:=h1 p hp;simp only[qcj,Bool.not_eq_true',Bool.or_eq_false_iff,Jaq,Bool.not_eq_false',List.any_eq_false]at this;obtain⟨⟨⟨⟨⟨k1,k2⟩,k3⟩,k4⟩,k5⟩,k6⟩:=this;refine⟨⟨⟨by omega,by omega⟩,by omega,by omega⟩,by simpa using k5,λa ha=>?_⟩;have:=k6 a ha;simp only[oddB,Bool.or_eq_true,not_or,Jai,List.any_eq_true,not_exists,not_and,Bool.not_eq_true]at this;exact⟨by omega,λs hs=>qsv (this.2 s hs)⟩
 exact⟨by omega,by omega,λp hp=>(key p hp).1.1.1,λp hp=>(key p hp).1.1.2,λp hp=>(key p hp).1.2,λp hp a ha=>((key p hp).2.2 a ha).1,λp hp a ha=>((key p hp).2.2 a ha).2,λp hp=>(key p hp).2.1⟩
def qa6(N:Int->Bool)(l:List Sy):Nat->List Int
 | 0=>[]
 | i+1=>qa6 N l i++(if decide ((lat l i).kind=2)&&qeY N (l.take i)then [(lat l i).n]else [])
def qaQ(N:Int->Bool)(as:List (Sl Sy)):Nat->List Int
 | 0=>[]
 | i+1=>qaQ N as i++qa6 N (lat as i).l (lat as i).l.length
def qfD(N:Int->Bool)(g:Gr)(n:Nat):List Int:=qaQ N (lat g.p.l n).a.l (lat g.p.l n).a.l.length
theorem qet(N:Int->Bool)(l:List Sy):∀i,(qa6 N l i).length<=i
 | 0=>by simp[qa6]
 | i+1=>by have:=qet N l i; simp only[qa6]; split<;>simp<;>omega
theorem qdM(N:Int->Bool)(as:List (Sl Sy))(h:∀a∈as,a.l.length<=40):∀i,i<=as.length->(qaQ N as i).length<=40 * i
 | 0,_=>by simp[qaQ]
 | i+1,hi=>by
  have h1:=qdM N as h i (by omega);have h2:=qet N (lat as i).l (lat as i).l.length;have h3:=h _ (qai (l:=as) (i:=i) (by omega));simp only[qaQ,Jao]; omega
open Classical in
noncomputable def nulB (g:Gr) (k:Int):Bool:=decide (∀T:List (Int × Bool),qcQ g T g.p.l.length->isB T k=true)
theorem qoG{g:Gr}{S:List (Int × Bool)}(h:Exact g S):isB S=nulB g:=by
 funext k;rw[Bool.eq_iff_iff];simp only[nulB,Jai];exact⟨λhk T hT=>h.2 T hT k hk,λhk=>hk S h.1⟩
noncomputable def qaq (g:Gr) (n:Int):List Int:=if mayB g=true/\0<=n/\n<g.p.l.length then dd (qa8 (qfD (nulB g) g n.toNat))else []
theorem NI.keep{g:Gr}{F M:Nat}{S:List (Int × Bool)}{h h':Heap}(hN:NI g F M S h)(hk:∀i,i<h.n->h'.get i=h.get i)(hn:h.n<=h'.n):NI g F M S h':=by
 obtain⟨h1,⟨es,c,h2,h3⟩,h4,h5⟩:=hN;exact⟨by rw[hk _ h4,h1],⟨es,c,by rw[hk _ h5,h2],h3⟩,by omega,by omega⟩
theorem qlB(g:Gr)(hg:g.Small)(m:Int){d:Bool}{mk:Nat}{h:Heap}:WF PR d mk (.fn 133 [] []) [.agg g.cells,.int .i64 m] h λr=>r=⟨(slOf (qaq g m)).enc qaM,h⟩:=by
 refine qBt f133 b133 [.tm 4] rfl rfl rfl rfl rfl rfl ?_;unfold b133;simp -dsimp[Gr.cells];refine WFS.by (qfV g hg) ?_
 intro v h' e;cases e;simp -dsimp;have hbad:¬(mayB g=true/\0<=m/\m<g.p.l.length)->slOf (qaq g m)=.nil:=λe=>by simp[qaq,e,slOf]
 rw[Gd_f];refine⟨λhb1=>?_,λhb1=>?_⟩
 ·simp -dsimp[hb1];rw[Gd_f];refine⟨λhb2=>?_,λhb2=>?_⟩
  ·simp -dsimp[hb2];rw[qaa];refine⟨λhb3=>?_,λhb3=>?_⟩
   ·simp at hb3;have:=hbad (by omega);simp -dsimp[hb3,this,Sl.enc]
   ·simp -dsimp[hb3];refine WFS.by (qn4 (h:=h.push (.rows [[g.p.enc Pd.cells,g.keys.enc qac]])) hg (by simp)) ?_
    rintro v H1 ⟨⟨F,M,S,rfl,hN,hE⟩,hn1,hk1⟩;simp at hb1 hb2 hb3 hn1;have hB:=hk1 h.n (by simp);simp at hB;have hok:=qaF hb1;have hnul:=qoG hE;simp -dsimp[hB,hb2,hb3];have hmem:=qai (l:=g.p.l) (i:=m.toNat) (by omega);have o1:=hok.a _ hmem;have o2:=hok.s _ hmem;have o3:=hg.s _ hmem;have hl:qaq g m=dd (qa8 (qaQ (nulB g) (lat g.p.l m.toNat).a.l (lat g.p.l m.toNat).a.l.length)):=by
     rw[qaq,Jab ⟨hb1,hb2,hb3⟩]; rfl
    obtain⟨p,hp⟩:∃p,lat g.p.l m.toNat=p:=⟨_,rfl⟩;rw[hp]at o1 o2 o3 hl;have o4:=qdM (nulB g) p.a.l o2;rw[hp];simp -dsimp[Pd.cells];refine qaf (λk st=>∃i:Int,0<=i/\(k:Int)=p.a.l.length-i/\(gK 34).run st.tm=.int .i64 i/\H1.n<=st.h.n/\(∀j,j<H1.n->st.h.get j=H1.get j)/\Own st.h H1.n ((gK 6).run st.tm) 1 (qab (qaQ (nulB g) p.a.l i.toNat))/\st.defs=[]) p.a.l.length ⟨0,by simp[qaQ,Own,qab]⟩ ?_;rintro k ⟨tm,h2,defs,round⟩ ⟨i,hi,hk,h34,hn2,hk2,hO,rfl⟩ hK;have h5:=hK 5 rfl;have h32:=hK 32 rfl;have h33:=hK 33 rfl;simp at h5 h32 h33 h34 hn2 hk2 hO;clear hK;simp -dsimp[h33,h34];rw[qaa];refine⟨λhc=>?_,λhc=>?_⟩
    ·simp at hc;have hm1:=qai (l:=p.a.l) (i:=i.toNat) (by omega);have p1:=o2 _ hm1;have p2:=o3 _ hm1;have p3:=o4 i.toNat (by omega);obtain⟨a,ha⟩:∃a,lat p.a.l i.toNat=a:=⟨_,rfl⟩;rw[ha]at p1 p2;have hall:qaQ (nulB g) p.a.l (i.toNat+1)=qaQ (nulB g) p.a.l i.toNat++qa6 (nulB g) a.l a.l.length:=by rw[qaQ,ha]
     simp -dsimp[h32,h34,hi,hc,ha,qaK];refine qaf (λk st=>∃j:Int,0<=j/\(k:Int)=a.l.length-j/\(gK 40).run st.tm=.int .i64 j/\H1.n<=st.h.n/\(∀j,j<H1.n->st.h.get j=H1.get j)/\Own st.h H1.n ((gK 6).run st.tm) 1 (qab (qaQ (nulB g) p.a.l i.toNat++qa6 (nulB g) a.l j.toNat))/\st.defs=[]) a.l.length ⟨0,by simpa[qa6,hn2]using ⟨hk2,hO⟩⟩ ?_;rintro k3 ⟨tm3,h3,defs,round⟩ ⟨j,hj,hk3,h40,hn3,hkk3,hO3,rfl⟩ hK;have h5':=hK 5 rfl;have h8:=hK 8 rfl;have h34':=hK 34 rfl;have h38:=hK 38 rfl;have h39:=hK 39 rfl;simp[h5,h34]at h5' h8 h34' h38 h39 h40 hn3 hkk3 hO3;clear hK;simp -dsimp[h39,h40];rw[qaa];refine⟨λhc2=>?_,λhc2=>?_⟩
     ·simp at hc2;have hjl:j.toNat<a.l.length:=by omega
      have p4:=qet (nulB g) a.l j.toNat;obtain⟨s,hs⟩:∃s,lat a.l j.toNat=s:=⟨_,rfl⟩;have hup:qa6 (nulB g) a.l (j.toNat+1)=qa6 (nulB g) a.l j.toNat++(if decide (s.kind=2)&&qeY (nulB g) (a.l.take j.toNat)then [s.n]else []):=by rw[qa6,hs]
      have hmk:h.n<=h3.n:=by omega
      have fj:fw .i64 (j+1)=j+1:=fw64 (by omega) (by omega);simp -dsimp[h5',h8,h38,h40,hj,hc2,hs,Sy.cells,hmk];obtain⟨H3,eH3⟩:∃H3,(h3.push (Obj.rows [[V.int IntKind.i64 0,V.nils,V.int IntKind.i64 0]])).set h3.n (Obj.rows [[V.int IntKind.i64 s.kind,Sl.enc Rg.cells s.r,V.int IntKind.i64 s.n]])=H3:=⟨_,rfl⟩;have x1:H3.n=h3.n+1:=by rw[<-eH3]; simp
      have x2:∀q,q<h3.n->H3.get q=h3.get q:=λq hq=>by rw[<-eH3,qBp,Jaa (by omega),qBq,Jaa (by omega)]
      have x3:H3.get h3.n=some (.rows [[V.int IntKind.i64 s.kind,Sl.enc Rg.cells s.r,V.int IntKind.i64 s.n]]):=by rw[<-eH3]; simp
      have x4:∀q,q<H1.n->H3.get q=H1.get q:=λq hq=>by rw[x2 q (by omega),hkk3 q hq]
      have x5:Own H3 H1.n ((gK 6).run tm3) 1 (qab (qaQ (nulB g) p.a.l i.toNat++qa6 (nulB g) a.l j.toNat)):=hO3.ext x2 (by omega);rw[eH3];have hj2:(j+1).toNat=j.toNat+1:=by omega
      rw[Gd_t];refine⟨λhs2=>?_,λhs2=>?_⟩
      ·have hcut:qaT 3 (cutK none (some (Opd.t 51)) none) ((sK 51).run (V.int IntKind.i64 j) ((sK 50).run (Sl.enc Sy.cells a) ((sK 49).run (V.ptr F 0 0) ((sK 48).run (V.bool true) ((sK 47).run (V.bool true) ((sK 46).run (V.int IntKind.i64 s.kind) ((sK 45).run (V.ptr h3.n 0 0) ((sK 9).run (V.int IntKind.i64 j) ((sK 10).run (V.ptr h3.n 0 0) ((sK 44).run (V.agg [V.int IntKind.i64 s.kind,Sl.enc Rg.cells s.r,V.int IntKind.i64 s.n]) ((sK 43).run (V.ptrR [V.int IntKind.i64 s.kind,Sl.enc Rg.cells s.r,V.int IntKind.i64 s.n] 0) ((sK 42).run (V.int IntKind.i64 j) ((sK 41).run (V.bool true) tm3))))))))))))) (a.enc Sy.cells)=some ((a.cut 0 j.toNat).enc Sy.cells) :=
        qdD (λ_=>rfl) λfl=>by simp[qaY (n:=j) (top:=a.l.length) hj (by omega),qdl]
       simp -dsimp[hs2,h5',h8,hcut];refine WFS.by (qnX (hN.keep (h':=H3) x4 (by simp; omega)) (a.cut 0 j.toNat) (by simp; omega)) ?_
       intro v h' e;cases e;have hon:qeZ S (a.cut 0 j.toNat).l=qeY (nulB g) (a.l.take j.toNat):=by rw[qeZ,hnul]; simp
       rw[hon];simp -dsimp;rw[qaa];refine⟨λho=>?_,λho=>?_⟩
       ·simp -dsimp[x3];refine qBC ?_;rw[qaE (xs:=[[.int .i64 s.n]]) (by simp)];obtain⟨v',h4,w1,w2,w3,w4,w5⟩:=qaC (mk:=h.n) (bytes:=8) x5 (by omega) (xs:=[[.int .i64 s.n]]) (by simp) (by simp; omega) (by omega) (by omega);simp only[ev_t,qgb,Nat.reduceEqDiff,if_false,if_true];refine⟨_,w1,?_⟩;simp -dsimp[h40,fj];refine qah.intro (k3-1) (by omega) ⟨j+1,by omega,by omega,by simp,by simp; omega,λq hq=>by rw[w4 q (by omega) (x5.slId hq),x4 q hq],?_,rfl⟩;rw[hj2,hup,hs2,ho,<-List.append_assoc];simpa[qab]using w2
       ·simp -dsimp[h40,fj];refine qah.intro (k3-1) (by omega) ⟨j+1,by omega,by omega,by simp,by simp; omega,x4,?_,rfl⟩;rw[hj2,hup,ho];simpa using x5
      ·simp -dsimp[hs2,h40,fj];refine qah.intro (k3-1) (by omega) ⟨j+1,by omega,by omega,by simp,by simp; omega,x4,?_,rfl⟩;rw[hj2,hup,hs2];simpa using x5
     ·simp at hc2;have hc2':decide (j<(a.l.length:Int))=false:=by simpa using hc2
      have hj2:j.toNat=a.l.length:=by omega
      rw[hj2,<-hall]at hO3;simp -dsimp[hc2',h34',fw64 (n:=i+1) (by omega) (by omega)];exact qah.intro (k-1) (by omega) ⟨i+1,by omega,by omega,by simp,hn3,hkk3,by rw[show(i+1).toNat=i.toNat+1 by omega]; simpa using hO3,rfl⟩
    ·simp at hc;have hc':decide (i<(p.a.l.length:Int))=false:=by simpa using hc
     have hi2:i.toNat=p.a.l.length:=by omega
     have p3:=o4 p.a.l.length (Jac _);rw[hi2]at hO;simp -dsimp[hc'];refine WFS.by (qre hO (by omega) (by omega)) ?_
     rintro v h3 ⟨rfl,hO2,hn3,hk3⟩;simp -dsimp;refine WFS.by (qqg hO2 (by omega) (by simp; omega)) ?_
     rintro v h4 ⟨_,_,hfr,_⟩;simp -dsimp;rw[hl];exact hfr h.n (by omega)
  ·simp at hb2;have:=hbad (by omega);simp -dsimp[hb2,this,Sl.enc]
 ·simp at hb1;have:=hbad (by simp[hb1]);simp -dsimp[hb1,this,Sl.enc]
def Fifo(h:Heap)(m0:Nat)(v:V)(l:List Int):Prop :=
 v=.slR (qab l) true\/∃id L1 L2,v=.sl id L1.length l.length 1 false/\h.get id=some (.rows (qab (L1++l++L2)))/\m0<=id/\id<h.n
theorem Fifo.ext{h h':Heap}{m0:Nat}{v:V}{l:List Int}(hO:Fifo h m0 v l)(hk:∀j,m0<=j->j<h.n->h'.get j=h.get j)(hn:h.n<=h'.n):Fifo h' m0 v l:=by
 rcases hO with h1|⟨id,L1,L2,h1,h2,h3,h4⟩
 ·exact .inl h1
 ·exact .inr ⟨id,L1,L2,h1,by rw[hk id h3 h4,h2],h3,by omega⟩
theorem Fifo.len{h:Heap}{m0:Nat}{v:V}{l:List Int}(hO:Fifo h m0 v l):lenV .sl v h=some (.int .i64 l.length):=by
 rcases hO with rfl|⟨id,L1,L2,rfl,_⟩<;>simp
theorem Fifo.head{h:Heap}{m0:Nat}{v:V}{x:Int}{l:List Int}(hO:Fifo h m0 v (x::l)):∃p,qaw 1 v (.int .i64 0)=some p/\qcp none p h=some (.int .i64 x):=by
 rcases hO with rfl|⟨id,L1,L2,rfl,h2,_⟩
 ·exact⟨.ptrR [.int .i64 x] 0,by simp[qaw,qey,qab,nthR],by simp⟩
 ·refine⟨.ptr id L1.length 0,by simp[qaw,qey (k:=.i64) (n:=0) (len:=l.length+1) (by omega) (by omega)],?_⟩;have hlt:L1.length<(L1++x::l++L2).length:=by simp; omega
  rw[qdL,h2,qcq,qav hlt,lat_eq hlt];simp
theorem Fifo.tail{h:Heap}{m0:Nat}{v:V}{x:Int}{l:List Int}{tm:Tm}(hO:Fifo h m0 v (x::l)):∃v',qaT 1 (cutK (some (.c (.int .i64 1))) none none) tm v=some v'/\Fifo h m0 v' l:=by
 rcases hO with rfl|⟨id,L1,L2,rfl,h2,h3,h4⟩
 ·have hb:bnd 1 (l.length+1)=some 1:=qaY (n:=1) (by omega) (by omega);refine⟨.slR (qab l) true,?_,.inl rfl⟩;simp[qaT,qa9,qab,qdl,hb];rw[List.take_of_length_le (by simp)]
 ·refine⟨.sl id (L1++[x]).length l.length 1 false,?_,.inr ⟨id,L1++[x],L2,rfl,by simpa using h2,h3,h4⟩⟩;have hb:bnd 1 (l.length+1)=some 1:=qaY (n:=1) (by omega) (by omega);simp[qdl,hb]
theorem Fifo.push{h:Heap}{mk m0:Nat}{v:V}{l:List Int}(x:Int)(hO:Fifo h m0 v l)(h0:mk<=m0)(hm:m0<=h.n)(hl:l.length<1000000000) :
  ∃v' h',qaj mk h 1 8 v [[.int .i64 x]]=some ⟨v',h'⟩/\Fifo h' m0 v' (l++[x])/\h.n<=h'.n/\∀j,j<m0->h'.get j=h.get j:=by
 have hl':l.length+1<4294967296:=by omega
 rcases hO with rfl|⟨id,L1,L2,rfl,h2,h3,h4⟩
 ·refine⟨.sl h.n 0 (l.length+1) 1 false,h.push (.rows (qab l++[[.int .i64 x]])),?_,.inr ⟨h.n,[],[],by simp,by simp[qab],hm,by simp⟩,by simp,λj hj=>by simp; omega⟩;have hr:qa9 1 (qab l)=true:=by cases l<;>simp[qa9,qab]
  simp[qaj,qaI,qdH,hl',hr]
 ·refine⟨.sl h.n 0 (l.length+1) 1 false,(h.kill id).push (.rows (qab l++[[.int .i64 x]])),?_,.inr ⟨h.n,[],[],by simp,by simp[qab],hm,by simp⟩,by simp,λj hj=>by rw[qBq,qBG,Jaa (by omega),qBr,Jaa (by omega)]⟩;have hmi:mk<=id:=by omega
  have hr:((qab (L1++l++L2)).drop L1.length).take l.length=qab l:=by simp[qab]
  have hle:L1.length+l.length<=(qab (L1++l++L2)).length:=by simp
  have hrow:qal h (.sl id L1.length l.length 1 false)=some (qab l):=by
   simp only[qal,h2,qa3,hle,decide_true,cond,hr]
  simp[qaj,qaI,qdH,hl',hrow,hmi]
theorem qlq(x y:Int):∀l,y∈insI x l↔y=x\/y∈l
 | []=>by simp[insI]
 | z::l=>by
  simp only[insI];cases leB x z
  ·simp[qlq x y l]; constructor<;>(rintro (h|h|h)<;>simp[h])
  ·simp
theorem qc2(y:Int):∀l,y∈qa8 l↔y∈l
 | []=>by simp[qa8]
 | x::l=>by simp[qa8,qlq,qc2 y l]
theorem qlr{l:List Int}{y:Int}:∀{i:Nat},i<=l.length->(y∈ddUp l i↔y∈l.take i)
 | 0,_=>by simp[ddUp]
 | i+1,hi=>by
  have ih:=qlr (l:=l) (y:=y) (i:=i) (by omega);have hlt:i<l.length:=by omega
  rw[Jap,qaz hlt,ddUp]
  by_cases e:i=0\/lat l i≠lat l (i-1)
  ·rw[Jab e]; simp[ih]
  ·rw[Jaa e,ih];simp only[not_or,Decidable.not_not]at e;obtain⟨e1,e2⟩:=e;have hm:lat l i∈l.take i:=by
    rw[e2,lat_eq (by omega)];exact List.mem_take_iff_getElem.2 ⟨i-1,by omega,rfl⟩
   simp;rintro rfl; exact hm
theorem qjw{l:List Int}{y:Int}:y∈dd l↔y∈l:=by rw[dd,qlr (Jac _),List.take_length]
theorem qgT{N:Int->Bool}{l:List Sy}{y:Int}:∀{i:Nat},i<=l.length->(y∈qa6 N l i↔∃j,j<i/\(lat l j).kind=2/\qeY N (l.take j)=true/\(lat l j).n=y)
 | 0,_=>by simp[qa6]
 | i+1,hi=>by
  have ih:=qgT (N:=N) (l:=l) (y:=y) (i:=i) (by omega);rw[qa6,Jaj,ih];constructor
  ·rintro (⟨j,h1,h2⟩|h)
   ·exact⟨j,by omega,h2⟩
   ·split at h
    ·rename_i hc;simp only[Jad,Jai]at hc;simp at h;exact⟨i,by omega,hc.1,hc.2,h.symm⟩
    ·simp at h
  ·rintro⟨j,h1,h2,h3,h4⟩
   by_cases e:j=i
   ·subst e; right; simp[h2,h3,h4]
   ·left; exact⟨j,by omega,h2,h3,h4⟩
theorem qfZ{N:Int->Bool}{as:List (Sl Sy)}{y:Int}:∀{i:Nat},i<=as.length->(y∈qaQ N as i↔∃k,k<i/\∃j,j<(lat as k).l.length/\(lat (lat as k).l j).kind=2/\qeY N ((lat as k).l.take j)=true/\(lat (lat as k).l j).n=y)
 | 0,_=>by simp[qaQ]
 | i+1,hi=>by
  have ih:=qfZ (N:=N) (as:=as) (y:=y) (i:=i) (by omega);rw[qaQ,Jaj,ih,qgT (Jac _)];constructor
  ·rintro (⟨k,h1,h2⟩|h)
   ·exact⟨k,by omega,h2⟩
   ·exact⟨i,by omega,h⟩
  ·rintro⟨k,h1,h2⟩
   by_cases e:k=i
   ·subst e; exact .inr h2
   ·exact .inl ⟨k,by omega,h2⟩
theorem qmH{g:Gr}{m y:Int}:y∈qaq g m↔mayB g=true/\0<=m/\m<g.p.l.length/\∃k,k<(lat g.p.l m.toNat).a.l.length/\∃j,j<(lat (lat g.p.l m.toNat).a.l k).l.length/\(lat (lat (lat g.p.l m.toNat).a.l k).l j).kind=2/\qeY (nulB g) ((lat (lat g.p.l m.toNat).a.l k).l.take j)=true/\(lat (lat (lat g.p.l m.toNat).a.l k).l j).n=y:=by
 unfold qaq;split
 ·rename_i h;rw[qjw,qc2,qfD,qfZ (Jac _)];simp[h]
 ·rename_i h;simp only[List.not_mem_nil,false_iff];rintro⟨h1,h2,h3,_⟩;exact h ⟨h1,h2,h3⟩
theorem qfY{g:Gr}{m y:Int}(h:y∈qaq g m):0<=y/\y<g.p.l.length:=by
 obtain⟨h1,h2,h3,k,hk,j,hj,h4,h5,rfl⟩:=qmH.1 h;have hp:=qai (l:=g.p.l) (i:=m.toNat) (by omega);have:=((qaF h1).sy _ hp _ (qai hk) _ (qai hj)).non h4;exact⟨this.1,this.2.1⟩
theorem qd7(g:Gr)(m:Int):(qaq g m).length<=320:=by
 unfold qaq;split
 ·rename_i h;have hok:=qaF h.1;have hp:=qai (l:=g.p.l) (i:=m.toNat) (by omega);have h1:=qdM (nulB g) (lat g.p.l m.toNat).a.l (hok.s _ hp) _ (Jac _);have h2:=hok.a _ hp;have h3:=qkL (qa8 (qfD (nulB g) g m.toNat)) (qa8 (qfD (nulB g) g m.toNat)).length;rw[qcZ]at h3;unfold dd;rw[qcZ];unfold qfD at h3 ⊢;omega
 ·simp
inductive qdZ (g:Gr) (a:Int):Int->Prop
 | one {b:Int}(h:b∈qaq g a):qdZ g a b
 | more {b c:Int}(h:qdZ g a b) (h':c∈qaq g b):qdZ g a c
open Classical in
noncomputable def qcO (g:Gr) (a b:Int):Bool:=decide (qdZ g a b)
def qao(l:List Bool):List (List V):=l.map λb=>[.bool b]
@[simp]theorem qqZ{l:List Bool}:(qao l).length=l.length:=by simp[qao]
theorem qbv{l:List Bool}{r:Nat}(h:r<l.length):(qao l)[r]?=some [.bool (lat l r)]:=by
 simp[qao,qaz h]
theorem qdW{l:List Bool}{r:Nat}{v:Bool}:(qao l).set r [.bool v]=qao (l.set r v):=by simp[qao,List.map_set]
theorem qcK{α : Type} [Inhabited α] {l:List α}{r j:Nat}{v : α}(h:j<l.length):lat (l.set r v) j=if j=r then v else lat l j:=by
 rw[lat_eq (by simpa using h),lat_eq h,List.getElem_set]
 by_cases e:j=r
 ·subst e; simp
 ·simp[e,Ne.symm e]
@[simp]theorem eqv_bool{a b:Bool}:eqv .bool (.bool a) (.bool b)=some (a == b):=(rfl)
theorem qlK{d:Bool}{mk:Nat}{h:Heap}{v:V}{l:List Bool}{b:Bool}(hlen:lenV .sl v h=some (.int .i64 l.length))(hget:∀i:Int,0<=i->i<l.length->∃p,qaw 1 v (.int .i64 i)=some p/\qcp none p h=some (.bool (lat l i.toNat)))(hsm:l.length<1000000) :
  WF PR d mk (.fn 96 [] []) [v,.bool b] h λr=>r=⟨.int .i64 (idxP (λx=>b == x) l 0),h⟩:=by
 refine qBt f96 b96 [.tm 4] rfl rfl rfl rfl rfl rfl ?_;unfold b96;simp -dsimp[hlen];refine qaf (λk st=>∃(i:Int),0<=i/\(k:Int)=l.length-i/\idxP (λx=>b == x) (l.drop i.toNat) i=idxP (λx=>b == x) l 0/\(gK 8).run st.tm=.int .i64 i/\st.h=h/\st.defs=[]) l.length ⟨0,by simp⟩ ?_;rintro k ⟨tm,h',defs,round⟩ ⟨i,hi,hk,hx,h8,rfl,rfl⟩ hK;have h0:=hK 0 rfl;have h1:=hK 1 rfl;have h7:=hK 7 rfl;simp at h0 h1 h7 h8;clear hK;simp -dsimp[h7,h8];rw[qaa];refine⟨λhl=>?_,λhl=>?_⟩
 ·simp at hl;obtain⟨p,p1,p2⟩:=hget i hi hl;rw[qbu (by omega)]at hx;simp only[idxP]at hx;simp -dsimp[h0,h1,h8,p1,p2];rw[qaa];refine⟨λhb=>?_,λhb=>?_⟩
  ·have hb':(b == lat l i.toNat)=true:=by simpa using hb
   rw[Jab hb']at hx;simp -dsimp[hx]
  ·have hb':(b == lat l i.toNat)=false:=by simpa using hb
   rw[Jaa (by simp[hb'])]at hx;simp -dsimp[h8,fw64 (n:=i+1) (by omega) (by omega)];exact qah.intro (k-1) (by omega) ⟨i+1,by omega,by omega,by rw[show(i+1).toNat=i.toNat+1 by omega]; exact hx,by simp⟩
 ·simp at hl;rw[List.drop_eq_nil_of_le (by omega)]at hx;simp[idxP]at hx;have hl':decide (i<(l.length:Int))=false:=by simpa using hl
  simp -dsimp[hl',<-hx]
def qnq(g:Gr)(n:Nat):List Sy:=qbt (lat g.p.l n).a.l (lat g.p.l n).a.l.length
theorem qjZ{α : Type} [Inhabited α] {ls:List (Sl α)}{x : α}:∀{i:Nat},i<=ls.length->x∈qbt ls i->∃a∈ls,x∈a.l
 | 0,_,h=>by simp[qbt]at h
 | i+1,hi,h=>by
  rw[qbt,Jaj]at h;rcases h with h|h
  ·exact qjZ (i:=i) (by omega) h
  ·exact⟨_,qai (by omega),h⟩
theorem qhl{α : Type} [Inhabited α] {ls:List (Sl α)}{m:Nat}(h:∀a∈ls,a.l.length<=m):∀i,i<=ls.length->(qbt ls i).length<=m * i
 | 0,_=>by simp[qbt]
 | i+1,hi=>by
  have h1:=qhl h i (by omega);have h2:=h _ (qai (l:=ls) (i:=i) (by omega));rw[qbt,Jao,Nat.mul_add]; omega
theorem qk8{AP:Prog}{d:Bool}{mk:Nat}{F G:IFn}{args:List V}{h:Heap}{Q:VH->Prop}(h1:F.body=G.body)(h2:F.res=G.res):wbody AP d mk F args h Q=wbody AP d mk G args h Q:=by
 unfold wbody; rw[h1,h2]
theorem fn164:PR.fn 164=some (qmO [.int .i64 0,.nils,.int .i64 0] 3 40):=(rfl:PR.fn 164=some f164).trans (congrArg some (by unfold f164 qmO; rw[shapes.2.1]))
theorem fn218:PR.fn 218=some (qmO [.int .i64 0,.int .i64 0] 2 16):=(rfl:PR.fn 218=some f218).trans (congrArg some (by unfold f218 qmO; rw[shapes.2.2.2]))
theorem qkN{s:Sl (Sl Sy)}(hs:s.l.length<=8)(hs2:∀a∈s.l,a.l.length<=40){d:Bool}{mk:Nat}{h:Heap}(hm:mk<=h.n) :
  WF PR d mk (.fn 135 [] []) [s.enc qaK] h λr=>OwnJ r.h h.n r.v 3 ((qbt s.l s.l.length).map Sy.cells)/\h.n<=r.h.n/\∀j,j<h.n->r.h.get j=h.get j:=by
 refine WF.fn (F:=f135) rfl rfl rfl (Nat.le_of_ble_eq_true rfl) ?_;rw[qk8 (F:=f135) (G:=qkP true 3 40 164) shapes.1 rfl];refine qhi (enc:=Sy.cells) (ls:=s.l) (zero:=[.int .i64 0,.nils,.int .i64 0]) fn164 rfl rfl (by omega) hm (λa=>⟨rfl,by simp[Sy.cells]⟩) (λh=>by simp) (λi h0 h1=>⟨_,qoq h0 h1,λh=>by simp[qaK]⟩) (by omega) (λi hi=>?_) (λv' h' h1 h2 h3=>⟨h1,h2,h3⟩);have:=qhl hs2 i hi;have:40 * i<=40 * 8:=Nat.mul_le_mul_left _ (by omega);omega
def qhv(g:Gr)(n:Int):List Int:=(qnq g n.toNat).filterMap λs=>if s.kind=2 then some s.n else none
inductive Rch (g:Gr) (a:Int):Int->Prop
 | one {b:Int}(h:b∈qhv g a):Rch g a b
 | more {b c:Int}(h:Rch g a b) (h':c∈qhv g b):Rch g a c
open Classical in
noncomputable def rchB (g:Gr) (a b:Int):Bool:=decide (Rch g a b)
noncomputable def qaB (g:Gr) (a:Int):List Bool:=(List.range g.p.l.length).map λ(k:Nat)=>rchB g a k
theorem qiT{k j:Int}:∀{S:List (Int × Bool)},(S.map (·.1)).Nodup->isB (aDel k S) j=if j=k then false else isB S j
 | [],_=>by simp[aDel,isB,qaS]
 | e::S,h=>by
  simp only[List.map_cons,List.nodup_cons]at h;have ih:=qiT (k:=k) (j:=j) h.2
  by_cases c:k=e.1
  ·subst c;simp only[aDel,if_true]
   by_cases c2:j=e.1
   ·subst c2;simp only[if_true];have key:∀(S:List (Int × Bool)),e.1 ∉ S.map (·.1)->isB S e.1=false:=by
     intro S;induction S with
     | nil=>intro _; rfl
     | cons x S ih=>intro hx; simp at hx; simp only[isB,qaS,Jaa hx.1]; exact ih (by simpa using hx.2)
    exact key S h.1
   ·simp[c2,isB,qaS]
  ·simp only[aDel,Jaa c]
   by_cases c2:j=e.1
   ·have:¬j=k:=λe2=>c (by rw[<-e2,c2]);rw[Jaa this];simp[isB,qaS,c2]
   ·have e3:isB (e::aDel k S) j=isB (aDel k S) j:=by simp[isB,qaS,c2]
    have e4:isB (e::S) j=isB S j:=by simp[isB,qaS,c2]
    rw[e3,e4,ih]
theorem qkd{k:Int}:∀{S:List (Int × Bool)},((aDel k S).map (·.1))=(S.map (·.1)).erase k
 | []=>rfl
 | e::S=>by
  simp only[aDel]
  by_cases c:k=e.1
  ·subst c; simp
  ·rw[Jaa c,List.map_cons,List.map_cons,qkd,List.erase_cons_tail (by simpa using λe2=>c e2.symm)]
theorem qkb{k:Int}{v:Bool}:∀{S:List (Int × Bool)},((aSet k v S).map (·.1))=if k∈S.map (·.1)then S.map (·.1)else S.map (·.1)++[k]
 | []=>rfl
 | e::S=>by
  simp only[aSet]
  by_cases c:k=e.1
  ·subst c; simp
  ·rw[Jaa c,List.map_cons,qkb]
   by_cases c2:k∈S.map (·.1)
   ·simp[c2]
   ·simp only[Jaa c2,List.map_cons,Jag,c,c2,or_self,if_false,List.cons_append]
theorem qqh(g:Gr)(hg:g.Small)(a b:Int)(hlen:g.p.l.length<=60){d:Bool}{mk:Nat}{h:Heap}:WF PR d mk (.fn 94 [] []) [.agg g.cells,.int .i64 a,.int .i64 b] h λr=>r=⟨.bool (qcO g a b),h⟩:=by
 refine qBt f94 b94 [.tm 6] rfl rfl rfl rfl rfl rfl ?_;unfold b94;simp -dsimp[Gr.cells];refine qaf (λk st=>∃(S:List (Int × Bool)) (l:List Int),k=l.length+2 * left S g.p.l.length/\k<=200/\h.n+2<=st.h.n/\st.h.get h.n=some (.rows [[g.p.enc Pd.cells,g.keys.enc qac]])/\qfO st.h (h.n+1) S/\Fifo st.h (h.n+2) ((gK 8).run st.tm) l /\
  (∀k,isB S k=true->qdZ g a k/\k≠b)/\(∀k∈l,k=a\/isB S k=true)/\(∀k,(k=a\/isB S k=true)->k∈l\/∀c∈qaq g k,isB S c=true)/\st.defs=[]) (1+2 * left [] g.p.l.length) ⟨[],[a],by simp,?_,by simp,by simp,⟨[],0,by simp,rfl⟩,.inl (by simp[qab]),by simp[isB,qaS],by simp,?_,rfl⟩ ?_
 ·have:∀n,left [] n<=n:=by
   intro n;induction n with
   | zero=>simp[left]
   | succ n ih=>simp[left,isB,qaS]; omega
  have:=this g.p.l.length;omega
 ·intro k hk; simp[isB,qaS]at hk; simp[hk]
 rintro k ⟨tm,h',defs,round⟩ ⟨S,l,hk,hll,hn,hbox,hF,hQ,s1,s2,s3,rfl⟩ hK;have h2:=hK 2 rfl;have h3:=hK 3 rfl;have h7:=hK 7 rfl;simp at h2 h3 h7 hn hbox hF hQ;clear hK;simp -dsimp[hQ.len];rw[qaa];refine⟨λhb=>?_,λhb=>?_⟩
 ·simp at hb;cases l with
  | nil=>simp at hb
  | cons x l =>
   obtain⟨p,p1,p2⟩:=hQ.head;simp -dsimp[p1,p2];refine qBC ?_;obtain⟨v',q1,q2⟩:=hQ.tail (tm:=(sK 21).run ((gK 8).run tm) ((sK 9).run (.int .i64 x) ((sK 20).run (.int .i64 x) ((sK 19).run p ((sK 18).run ((gK 8).run tm) ((sK 17).run (.bool true) ((sK 16).run (.int .i64 (↑l.length+1)) ((sK 15).run ((gK 8).run tm) tm))))))));refine⟨v',q1,?_⟩;simp -dsimp[h3,hbox];refine WFS.by (qlB g hg x) ?_
   intro v h1 e;cases e;simp -dsimp;simp at hk;have hlen3:=qd7 g x;refine qaf (λk2 st=>∃(j:Int) (S':List (Int × Bool)) (l':List Int),0<=j/\(k2:Int)=(qaq g x).length-j/\l'.length+2 * left S' g.p.l.length<=l.length+2 * left S g.p.l.length/\h.n+2<=st.h.n/\st.h.get h.n=some (.rows [[g.p.enc Pd.cells,g.keys.enc qac]])/\qfO st.h (h.n+1) S'/\Fifo st.h (h.n+2) ((gK 8).run st.tm) l' /\
    (gK 27).run st.tm=.int .i64 j/\(∀k,isB S' k=true->qdZ g a k/\k≠b)/\(∀k∈l',k=a\/isB S' k=true)/\(∀k,(k=a\/isB S' k=true)->k∈l'\/k=x\/∀c∈qaq g k,isB S' c=true)/\(∀c∈(qaq g x).take j.toNat,isB S' c=true)/\st.defs=[]) (qaq g x).length
    ⟨0,S,l,by omega,by omega,Jac _,hn,hbox,hF,by simpa using q2,by simp,s1,λk hk=>s2 k (by simp[hk]),λk hk=>?_,by simp,rfl⟩ ?_
   ·rcases s3 k hk with h|h
    ·rcases Jag.1 h with h|h
     ·exact .inr (.inl h)
     ·exact .inl h
    ·exact .inr (.inr h)
   rintro k2 ⟨tm2,h4,defs,round⟩ ⟨j,S',l',hj,hk2,hle,hn',hbox',hF',hQ',h27,s1',s2',s3',s5,rfl⟩ hK;have h2':=hK 2 rfl;have h7':=hK 7 rfl;have h25:=hK 25 rfl;have h26:=hK 26 rfl;simp[h2,h7]at h2' h7' h25 h26 hn' hbox' hF' hQ' h27;clear hK;simp -dsimp[h26,h27];rw[qaa];have hx:x=a\/qdZ g a x:=by
    rcases s2 x (by simp)with h|h
    ·exact .inl h
    ·exact .inr (s1 x h).1
   refine⟨λhc=>?_,λhc=>?_⟩
   ·simp at hc;have hlt:j.toNat<(qaq g x).length:=by omega
    have hj':j<((slOf (qaq g x)).l.length:Int):=by simpa using hc
    obtain⟨c,hcc⟩:∃c,lat (qaq g x) j.toNat=c:=⟨_,rfl⟩;have hcm:c∈qaq g x:=hcc ▸ qai hlt;have hca:qdZ g a c:=by
     rcases hx with rfl|h
     ·exact .one hcm
     ·exact .more h hcm
    have htk:(qaq g x).take (j+1).toNat=(qaq g x).take j.toNat++[c]:=by rw[show(j+1).toNat=j.toNat+1 by omega,Jap,qaz hlt,hcc]; rfl
    have fj:fw .i64 (j+1)=j+1:=fw64 (by omega) (by omega);simp -dsimp[h25,h27,qe6 hj hj',qaM,hcc,h2'];rw[qaa];refine⟨λhd=>?_,λhd=>?_⟩
    ·simp at hd;subst hd;have:qcO g a c=true:=by simp[qcO,hca]
     simp -dsimp[this]
    ·simp at hd;simp -dsimp[h7',qd9 hF' c];rw[qaa];refine⟨λhe=>?_,λhe=>?_⟩
     ·simp at he;simp -dsimp[h7'];refine qBC ?_;obtain⟨es',c',m1,m2⟩:=qe9 hF' (mk:=h.n) (by omega) c true;refine⟨_,m1,?_⟩;simp -dsimp[h27];refine qBC ?_;rw[qaE (xs:=[[.int .i64 c]]) (by simp)];have hrange:=qfY hcm;have hlf:=qkA S' c hrange.1 he g.p.l.length hrange.2;obtain⟨v2,h5,w1,w2,w3,w4⟩:=(hQ'.ext (h':=h4.set (h.n+1) (.map es' c')) (λq hq1 hq2=>by rw[qBp,Jaa (by omega)]) (by simp)).push (mk:=h.n) c (by omega) (by simp; omega) (by omega);simp only[ev_t,qgb,Nat.reduceEqDiff,if_false,if_true];refine⟨_,w1,?_⟩;simp -dsimp[h27,fj];refine qah.intro (k2-1) (by omega) ⟨j+1,aSet c true S',l'++[c],by omega,by omega,by simp; omega,by simp at w3; simp; omega,?_,⟨es',c',?_,m2⟩,by simpa using w2,by simp,?_,?_,?_,?_,rfl⟩
      ·simp; rw[w4 _ (by omega),qBp,Jaa (by omega),hbox']
      ·simp; rw[w4 _ (by omega),qBp,Jab rfl]
      ·intro k hk; rw[qcs]at hk
       by_cases e:k=c
       ·subst e; exact⟨hca,hd⟩
       ·simp only[e,if_false]at hk; exact s1' k hk
      ·intro k hk; rw[qcs];rcases Jaj.1 hk with hk|hk
       ·rcases s2' k hk with h|h
        ·exact .inl h
        ·right; split<;>simp[h]
       ·simp at hk; right; simp[hk]
      ·intro k hk
       by_cases e:k=c
       ·left; simp[e]
       ·rw[qcs]at hk; simp only[e,if_false]at hk;rcases s3' k hk with h|h|h
        ·left; simp[h]
        ·exact .inr (.inl h)
        ·refine .inr (.inr λq hq=>?_);rw[qcs]; split
         ·rfl
         ·exact h q hq
      ·intro q hq; rw[htk]at hq; rw[qcs];rcases Jaj.1 hq with hq|hq
       ·split
        ·rfl
        ·exact s5 q hq
       ·simp at hq; simp[hq]
     ·simp at he;simp -dsimp[h27,fj];refine qah.intro (k2-1) (by omega) ⟨j+1,S',l',by omega,by omega,hle,hn',hbox',hF',by simpa using hQ',by simp,s1',s2',s3',?_,rfl⟩;intro q hq; rw[htk]at hq;rcases Jaj.1 hq with hq|hq
      ·exact s5 q hq
      ·simp at hq; rw[hq]; exact he
   ·simp at hc;have hc':decide (j<((qaq g x).length:Int))=false:=by simpa using hc
    simp -dsimp[hc'];refine qah.intro (l'.length+2 * left S' g.p.l.length) (by omega) ⟨S',l',rfl,by omega,hn',hbox',hF',by simpa using hQ',s1',s2',λk hk=>?_,rfl⟩;rcases s3' k hk with h|rfl|h
    ·exact .inl h
    ·refine .inr λc hc2=>s5 c ?_;rw[List.take_of_length_le (by omega)]; exact hc2
    ·exact .inr h
 ·simp at hb;subst hb;simp -dsimp;have:qcO g a b=false:=by
   simp only[qcO,Jaq];have key:∀c,qdZ g a c->isB S c=true:=by
    intro c hc;induction hc with
    | one h=>exact(s3 a (.inl rfl)).resolve_left (by simp) _ h
    | more _ h' ih=>exact(s3 _ (.inr ih)).resolve_left (by simp) _ h'
   intro hc;exact(s1 b (key b hc)).2 rfl
  simp[this]
structure qbU (h:Heap) (m0 Q:Nat) (l:List Int):Prop where
 q:m0<=Q
 lq:Q<h.n
 v:∃v,h.get Q=some (.rows [[v]])/\((v=.nils/\l=[])\/∃id L,v=.sl id 0 l.length 1 false/\h.get id=some (.rows (qab (l++L)))/\m0<=id/\id<h.n/\id≠Q)
def pid(h:Heap)(Q:Nat):Option Nat:=match h.get Q with
 | some (.rows [[.sl id _ _ _ _]])=>some id
 | _=>none
structure PF (Q:Nat) (h h':Heap):Prop where
 n:h.n<=h'.n
 keep:∀j,j<h.n->j≠Q->pid h Q≠some j->h'.get j=h.get j
 id:∀j,pid h' Q=some j->h.n<=j\/pid h Q=some j
theorem PF.refl{Q:Nat}{h:Heap}:PF Q h h:=⟨Jac _,λ_ _ _ _=>rfl,λ_ h=>.inr h⟩
theorem PF.trans{Q:Nat}{h h' h'':Heap}(a:PF Q h h')(b:PF Q h' h''):PF Q h h'':=by
 refine⟨Jaf a.n b.n,λj h1 h2 h3=>?_,λj hj=>?_⟩
 ·rw[b.keep j (by have:=a.n; omega) h2 (λe=>(a.id j e).elim (λh=>by omega) h3),a.keep j h1 h2 h3]
 ·rcases b.id j hj with h1|h1
  ·exact .inl (by have:=a.n; omega)
  ·exact a.id j h1
@[simp]theorem meth_len:PR.meth 2 "Len" = some 160:=by decide
@[simp]theorem meth_less:PR.meth 2 "Less" = some 258:=by decide
@[simp]theorem meth_swap:PR.meth 2 "Swap" = some 261:=by decide
@[simp]theorem meth_push:PR.meth 2 "Push" = some 260:=by decide
@[simp]theorem meth_pop:PR.meth 2 "Pop" = some 259:=by decide
theorem qev{l L:List Int}{i:Nat}(h:i<l.length):lat (l++L) i=lat l i:=by
 rw[lat_eq (by simp; omega),lat_eq h,List.getElem_append_left h]
@[simp]theorem nilcV_ptr{i r o:Nat}:qcT (.ptr i r o)=some (.ptr i r o):=rfl
section
variable {d:Bool}{m0 Q:Nat}{h:Heap}{l:List Int}
theorem qfv(hP:qbU h m0 Q l):WF PR d m0 (.fn 160 [] []) [.ptr Q 0 0] h λr=>r=⟨.int .i64 l.length,h⟩:=by
 refine WF.go f160 b160 [.tm 2] rfl rfl rfl rfl rfl rfl ?_;unfold b160;obtain⟨_,_,v,h1,h2⟩:=hP;simp -dsimp[h1];rcases h2 with ⟨rfl,rfl⟩|⟨id,L,rfl,h3,h4,h5,h6⟩
 ·simp -dsimp
 ·simp -dsimp
theorem qcl(hP:qbU h m0 Q l){i k:Int}(hi:0<=i)(hi':i<l.length)(hk:0<=k)(hk':k<l.length):WF PR d m0 (.fn 258 [] []) [.ptr Q 0 0,.int .i64 i,.int .i64 k] h λr=>r=⟨.bool (decide (lat l i.toNat<lat l k.toNat)),h⟩:=by
 refine WF.go f258 b258 [.tm 6] rfl rfl rfl rfl rfl rfl ?_;unfold b258;obtain⟨_,_,v,h1,h2⟩:=hP;rcases h2 with ⟨rfl,rfl⟩|⟨id,L,rfl,h3,h4,h5,h6⟩
 ·simp at hi'; omega
 ·simp -dsimp[h1,qam (e:=1) (id:=id) (b:=0) (n:=l.length) (f:=false) (k:=.i64) hi hi',qam (e:=1) (id:=id) (b:=0) (n:=l.length) (f:=false) (k:=.i64) hk hk',h3,qav (l:=l++L) (r:=i.toNat) (by simp; omega),qav (l:=l++L) (r:=k.toNat) (by simp; omega),qev (l:=l) (L:=L) (i:=i.toNat) (by omega),qev (l:=l) (L:=L) (i:=k.toNat) (by omega)]
theorem qck(hP:qbU h m0 Q l){i k:Int}(hi:0<=i)(hi':i<l.length)(hk:0<=k)(hk':k<l.length):WF PR d m0 (.fn 261 [] []) [.ptr Q 0 0,.int .i64 i,.int .i64 k] h λr=>qbU r.h m0 Q ((l.set i.toNat (lat l k.toNat)).set k.toNat (lat l i.toNat))/\PF Q h r.h:=by
 refine WF.go f261 b261 [] rfl rfl rfl rfl rfl rfl ?_;unfold b261;obtain⟨p1,p2,v,h1,h2⟩:=hP;rcases h2 with ⟨rfl,rfl⟩|⟨id,L,rfl,h3,h4,h5,h6⟩
 ·simp at hi'; omega
 ·simp -dsimp[h1,qam (e:=1) (id:=id) (b:=0) (n:=l.length) (f:=false) (k:=.i64) hi hi',qam (e:=1) (id:=id) (b:=0) (n:=l.length) (f:=false) (k:=.i64) hk hk',h3,qav (l:=l++L) (r:=i.toNat) (by simp; omega),qav (l:=l++L) (r:=k.toNat) (by simp; omega),qev (l:=l) (L:=L) (i:=i.toNat) (by omega),qev (l:=l) (L:=L) (i:=k.toNat) (by omega),h4];rw[qcu];simp -dsimp[qav (l:=(l++L).set i.toNat (lat l k.toNat)) (r:=k.toNat) (by simp; omega),h4];rw[qcu];have hpid:pid h Q=some id:=by simp[pid,h1]
  refine⟨⟨p1,by simpa using p2,.sl id 0 l.length 1 false,by simp[Ne.symm h6,h1],.inr ⟨id,L,by simp,?_,h4,by simpa using h5,h6⟩⟩,⟨by simp,λj g1 g2 g3=>?_,λj g1=>.inr (by simpa[pid,Ne.symm h6]using g1)⟩⟩
  case refine_2=>rw[hpid]at g3; have:j≠id:=λe=>g3 (by rw[e]); simp[this]
  rw[qBp,Jab rfl,List.set_append_left _ _ (by omega),List.set_append_left _ _ (by simp; omega)]
theorem qdC{i k:Nat}(hi:i<l.length)(hk:k<l.length):((l.set i (lat l k)).set k (lat l i)).Perm l:=by
 rw[List.perm_iff_count];intro a;rw[List.count_set (by simpa using hk),List.count_set hi,List.getElem_set,lat_eq hi,lat_eq hk];have c1:∀(j:Nat) (hj:j<l.length),l[j]=a->0<l.count a:=λj hj e=>List.count_pos_iff.2 (e ▸ List.getElem_mem hj)
 by_cases e:i=k
 ·subst e;simp
  by_cases e2:l[i]=a
  ·have:=c1 i hi e2; simp[e2]; omega
  ·simp[e2]
 ·simp only[e,if_false,beq_iff_eq]
  by_cases e2:l[i]=a
  ·have h2:=c1 i hi e2
   by_cases e3:l[k]=a
   ·simp[e2,e3]; omega
   ·simp[e2,e3]; omega
  ·by_cases e3:l[k]=a
   ·have h3:=c1 k hk e3;simp[e2,e3]
   ·simp[e2,e3]
theorem qko(hP:qbU h m0 Q l)(hl:l.length<1000000000)(x:Int):WF PR d m0 (.fn 260 [] []) [.ptr Q 0 0,.iface 3 (.int .i64 x)] h λr=>qbU r.h m0 Q (l++[x])/\PF Q h r.h:=by
 refine WF.go f260 b260 [] rfl rfl rfl rfl rfl rfl ?_;unfold b260;obtain⟨p1,p2,v,h1,h2⟩:=hP;simp -dsimp[h1];refine qBC ?_;rw[qaE (xs:=[[.int .i64 x]]) (by simp)];simp only[ev_t,qgb,Nat.reduceEqDiff,if_false,if_true];rcases h2 with ⟨rfl,rfl⟩|⟨id,L,rfl,h3,h4,h5,h6⟩
 ·refine⟨⟨.sl h.n 0 1 1 false,h.push (.rows [[.int .i64 x]])⟩,by simp[qaj,qal,qaI,qdH],?_⟩;have e:¬Q=h.n:=by omega
  simp -dsimp[h1,e,p1];refine⟨⟨p1,by simp; omega,.sl h.n 0 1 1 false,by simp,.inr ⟨h.n,[],by simp,?_,by omega,by simp,λe'=>e e'.symm⟩⟩,⟨by simp,λj g1 g2 g3=>?_,λj g1=>.inl ?_⟩⟩
  ·simp[Ne.symm e,qab]
  ·rw[qBp,Jaa g2,qBq,Jaa (by omega)]
  ·simp[pid]at g1; omega
 ·have hr:((qab (l++L)).drop 0).take l.length=qab l:=by simp[qab]
  refine⟨⟨.sl h.n 0 (l.length+1) 1 false,(h.kill id).push (.rows (qab l++[[.int .i64 x]]))⟩,?_,?_⟩
  ·have:l.length+1<4294967296:=by omega
   simp[qaj,qal,qaI,qdH,h3,h4,this];simp[qab]
  ·have e:¬Q=h.n:=by omega
   simp -dsimp[h1,e,p1,Ne.symm h6];have hpid:pid h Q=some id:=by simp[pid,h1]
   refine⟨⟨p1,by simp; omega,.sl h.n 0 (l.length+1) 1 false,by simp,.inr ⟨h.n,[],by simp,?_,by omega,by simp,λe'=>e e'.symm⟩⟩,⟨by simp,λj g1 g2 g3=>?_,λj g1=>.inl ?_⟩⟩
   ·simp[Ne.symm e,qab]
   ·rw[hpid]at g3;have:j≠id:=λe=>g3 (by rw[e]);rw[qBp,Jaa g2,qBq,qBG,Jaa (by omega),qBr,Jaa this]
   ·simp[pid]at g1; omega
theorem qmu{n:Nat}(hP:qbU h m0 Q l)(hn:l.length=n+1)(hl:l.length<1000000000):WF PR d m0 (.fn 259 [] []) [.ptr Q 0 0] h λr=>r.v=.iface 3 (.int .i64 (lat l n))/\qbU r.h m0 Q (l.take n)/\PF Q h r.h:=by
 refine WF.go f259 b259 [.tm 2] rfl rfl rfl rfl rfl rfl ?_;unfold b259;obtain⟨p1,p2,v,h1,h2⟩:=hP;rcases h2 with ⟨rfl,e⟩|⟨id,L,rfl,h3,h4,h5,h6⟩
 ·rw[e]at hn; simp at hn
 ·obtain⟨K,hK⟩:∃K,l++L=K:=⟨_,rfl⟩;have hKl:n<K.length:=by rw[<-hK]; simp; omega
  have hlat:lat K n=lat l n:=by rw[<-hK]; exact qev (by omega)
  rw[hK]at h3;obtain⟨N,hN⟩:∃N:Int,N=n:=⟨_,rfl⟩;have e3:fw .i64 ((l.length:Int)-1)=N:=by rw[fw64 (by omega) (by omega)]; omega
  have hN0:0<=N:=by omega
  have hN1:N<(l.length:Int):=by omega
  have hN2:N.toNat=n:=by omega
  have hn2:n<=l.length:=by omega
  simp -dsimp[h1,e3,qam (e:=1) (id:=id) (b:=0) (f:=false) (k:=.i64) hN0 hN1,hN2,h3,qav hKl,hlat,qaY hN0 (show N<=((l.length:Nat):Int) by omega),qdl,p1];have e4:(l.take n).length=n:=by simp; omega
  have hpid:pid h Q=some id:=by simp[pid,h1]
  refine⟨⟨p1,by simpa using p2,.sl id 0 n 1 false,by simp,.inr ⟨id,K.drop n,by rw[e4],?_,h4,by simpa using h5,h6⟩⟩,⟨by simp,λj g1 g2 g3=>by rw[qBp,Jaa g2],λj g1=>.inr (by simp[pid]at g1; rw[hpid,g1])⟩⟩;have:l.take n=K.take n:=by rw[<-hK,List.take_append_of_le_length (by omega)]
  rw[qBp,Jaa h6,this,List.take_append_drop,h3]
theorem up_ok(hP:qbU h m0 Q l)(hl:l.length<1000000000){j:Int}(hj:0<=j)(hj':j<l.length):WF PR d m0 (.fn 219 [] []) [.iface 2 (.ptr Q 0 0),.int .i64 j] h λr=>∃l',qbU r.h m0 Q l'/\l'.Perm l/\PF Q h r.h:=by
 refine WF.go f219 b219 [] rfl rfl rfl rfl rfl rfl ?_;unfold b219;simp -dsimp;refine qaf (λk st=>∃(i:Int) (M:List Int),0<=i/\i<l.length/\(k:Int)=i/\qbU st.h m0 Q M/\M.Perm l/\PF Q h st.h/\(gK 0).run st.tm=.iface 2 (.ptr Q 0 0)/\(gK 1).run st.tm=.int .i64 i/\st.defs=[]) j.toNat ⟨j,l,hj,hj',by omega,hP,List.Perm.refl _,PF.refl,by simp⟩ ?_;rintro k ⟨tm,h',defs,round⟩ ⟨i,M,hi,hi',hk,hM,hp,hpf,h0,h1,rfl⟩ hK;simp at h0 h1 hM hpf;clear hK;have hMl:=hp.length_eq;obtain⟨q,hq⟩:∃q:Int,q=(i-1).tdiv 2:=⟨_,rfl⟩;have hq12:0<=q/\q<=i:=by
  by_cases e:i=0
  ·subst e; rw[hq]; decide
  ·rw[hq,Int.tdiv_eq_ediv_of_nonneg (by omega)]; omega
 obtain⟨hq1,hq2⟩:=hq12;simp -dsimp[h0,h1,qsu,fw64 (n:=i-1) (by omega) (by omega),<-hq,fw64 (n:=q) (by omega) (by omega)];rw[Gd_f];refine⟨λhb=>?_,λhb=>?_⟩
 ·simp -dsimp[hb,h0,h1];refine WFS.by (qcl hM hi (by omega) hq1 (by omega)) ?_
  intro v h'' e;cases e;simp -dsimp;rw[qaa];refine⟨λhc=>?_,λhc=>?_⟩
  ·simp -dsimp;exact⟨M,hM,hp,hpf⟩
  ·simp -dsimp[h0,h1];refine WFS.by (qck hM hq1 (by omega) hi (by omega)) ?_
   rintro v h'' ⟨hP2,hpf2⟩;simp at hb;simp -dsimp;refine qah.intro q.toNat (by omega) ⟨q,_,hq1,by omega,by omega,hP2,(qdC (by omega) (by omega)).trans hp,hpf.trans hpf2,by simp[h0],by simp,rfl⟩
 ·simp -dsimp[hb];exact⟨M,hM,hp,hpf⟩
theorem qsl(hP:qbU h m0 Q l)(hl:l.length<1000000000){n:Int}(hn:0<=n)(hn':n<=l.length):WF PR d m0 (.fn 220 [] []) [.iface 2 (.ptr Q 0 0),.int .i64 0,.int .i64 n] h λr=>∃l',qbU r.h m0 Q l'/\l'.Perm l/\PF Q h r.h:=by
 refine WF.go f220 b220 [.tm 6] rfl rfl rfl rfl rfl rfl ?_;unfold b220;simp -dsimp;refine qaf (λk st=>∃(i:Int) (M:List Int),0<=i/\(k:Int)=n-i+1/\i<=n/\qbU st.h m0 Q M/\M.Perm l/\PF Q h st.h/\(gK 7).run st.tm=.int .i64 i/\st.defs=[]) (n.toNat+1) ⟨0,l,by omega,by omega,hn,hP,List.Perm.refl _,PF.refl,by simp⟩ ?_;rintro k ⟨tm,h',defs,round⟩ ⟨i,M,hi,hk,hin,hM,hp,hpf,h7,rfl⟩ hK;have h0:=hK 0 rfl;have h1:=hK 1 rfl;have h2:=hK 2 rfl;simp at h0 h1 h2 h7 hM hpf;clear hK;have hMl:=hp.length_eq;have f1:fw .i64 (2 * i)=2 * i:=fw64 (by omega) (by omega);have f2:fw .i64 (2 * i+1)=2 * i+1:=fw64 (by omega) (by omega);have f3:fw .i64 (2 * i+1+1)=2 * i+1+1:=fw64 (by omega) (by omega);simp -dsimp[h0,h1,h2,h7,f1,f2];rw[Gd_f];refine⟨λhb=>?_,λhb=>?_⟩
 ·have hb2:¬2 * i+1<0:=by omega
  simp -dsimp[hb,hb2,f3,h2];simp at hb;rw[Gd_t];refine⟨λhc=>?_,λhc=>?_⟩
  ·simp -dsimp[hc,h0];simp at hc;refine WFS.by (qcl hM (i:=2 * i+1+1) (k:=2 * i+1) (by omega) (by omega) (by omega) (by omega)) ?_
   intro v h'' e;cases e;simp -dsimp;rw[qaa];refine⟨λhy=>?_,λhy=>?_⟩
   ·simp -dsimp[h0,h7];refine WFS.by (qcl hM (i:=2 * i+1+1) (k:=i) (by omega) (by omega) hi (by omega)) ?_
    intro v h'' e;cases e;simp -dsimp;rw[qaa];refine⟨λhx=>?_,λhx=>?_⟩
    ·simp -dsimp[h7,h1];exact⟨M,hM,hp,hpf⟩
    ·simp -dsimp[h0,h7,h1];refine WFS.by (qck hM (i:=i) (k:=2 * i+1+1) hi (by omega) (by omega) (by omega)) ?_
     rintro v h'' ⟨hP2,hpf2⟩;simp -dsimp;refine qah.intro (n-(2 * i+1+1)+1).toNat (by omega) ⟨2 * i+1+1,_,by omega,by omega,by omega,hP2,(qdC (by omega) (by omega)).trans hp,hpf.trans hpf2,by simp,rfl⟩
   ·simp -dsimp[h0,h7];refine WFS.by (qcl hM (i:=2 * i+1) (k:=i) (by omega) (by omega) hi (by omega)) ?_
    intro v h'' e;cases e;simp -dsimp;rw[qaa];refine⟨λhx=>?_,λhx=>?_⟩
    ·simp -dsimp[h7,h1];exact⟨M,hM,hp,hpf⟩
    ·simp -dsimp[h0,h7,h1];refine WFS.by (qck hM (i:=i) (k:=2 * i+1) hi (by omega) (by omega) (by omega)) ?_
     rintro v h'' ⟨hP2,hpf2⟩;simp -dsimp;refine qah.intro (n-(2 * i+1)+1).toNat (by omega) ⟨2 * i+1,_,by omega,by omega,by omega,hP2,(qdC (by omega) (by omega)).trans hp,hpf.trans hpf2,by simp,rfl⟩
  ·simp -dsimp[hc,h0,h7];refine WFS.by (qcl hM (i:=2 * i+1) (k:=i) (by omega) (by omega) hi (by omega)) ?_
   intro v h'' e;cases e;simp -dsimp;rw[qaa];refine⟨λhx=>?_,λhx=>?_⟩
   ·simp -dsimp[h7,h1];exact⟨M,hM,hp,hpf⟩
   ·simp -dsimp[h0,h7,h1];refine WFS.by (qck hM (i:=i) (k:=2 * i+1) hi (by omega) (by omega) (by omega)) ?_
    rintro v h'' ⟨hP2,hpf2⟩;simp -dsimp;refine qah.intro (n-(2 * i+1)+1).toNat (by omega) ⟨2 * i+1,_,by omega,by omega,by omega,hP2,(qdC (by omega) (by omega)).trans hp,hpf.trans hpf2,by simp,rfl⟩
 ·simp -dsimp[hb,h7,h1];exact⟨M,hM,hp,hpf⟩
theorem qkF(hP:qbU h m0 Q l)(hl:l.length<100000000)(x:Int):WF PR d m0 (.fn 199 [] []) [.iface 2 (.ptr Q 0 0),.iface 3 (.int .i64 x)] h λr=>r.v=.tup []/\∃l',qbU r.h m0 Q l'/\l'.Perm (l++[x])/\PF Q h r.h:=by
 refine WF.go f199 b199 [] rfl rfl rfl rfl rfl rfl ?_;unfold b199;simp -dsimp;refine WFS.by (qko hP (by omega) x) ?_
 rintro v h1 ⟨hP1,hpf1⟩;simp -dsimp;refine WFS.by (qfv hP1) ?_
 intro v h2 e;cases e;have e1:fw .i64 (((l.length:Int)+1)-1)=l.length:=by rw[fw64 (by omega) (by omega)]; omega
 have e2:fw .i64 (l.length:Int)=l.length:=fw64 (by omega) (by omega);simp -dsimp[e1,e2];refine WFS.by (up_ok hP1 (by simp; omega) (j:=l.length) (by omega) (by simp; omega)) ?_
 rintro v h3 ⟨l',hP3,hp,hpf3⟩;simp -dsimp;exact⟨l',hP3,hp,hpf1.trans hpf3⟩
theorem put_ok(hP:qbU h m0 Q l)(hl:l.length<100000000)(x:Int):WF PR d m0 (.fn 159 [] []) [.ptr Q 0 0,.int .i64 x] h λr=>r.v=.tup []/\∃l',qbU r.h m0 Q l'/\l'.Perm (l++[x])/\PF Q h r.h:=by
 refine WF.go f159 b159 [] rfl rfl rfl rfl rfl rfl ?_;unfold b159;simp -dsimp;refine WFS.by (qkF hP hl x) ?_
 rintro v h3 ⟨rfl,l',hP3,hp,hpf3⟩;simp -dsimp;exact⟨l',hP3,hp,hpf3⟩
theorem qmN(hP:qbU h m0 Q l)(hl:l.length<100000000)(hne:l≠[]):WF PR d m0 (.fn 200 [] []) [.iface 2 (.ptr Q 0 0)] h λr=>∃x l',r.v=.iface 3 (.int .i64 x)/\qbU r.h m0 Q l'/\(x::l').Perm l/\PF Q h r.h:=by
 refine WF.go f200 b200 [.tm 2] rfl rfl rfl rfl rfl rfl ?_;unfold b200;have hpos:=List.length_pos_iff.2 hne;simp -dsimp;refine WFS.by (qfv hP) ?_
 intro v h2 e;cases e;obtain⟨n,hn⟩:∃n:Nat,l.length=n+1:=⟨l.length-1,by omega⟩;have e1:fw .i64 ((l.length:Int)-1)=n:=by rw[fw64 (by omega) (by omega)]; omega
 simp -dsimp[e1];refine WFS.by (qck hP (i:=0) (k:=n) (by omega) (by omega) (by omega) (by omega)) ?_
 rintro v h2 ⟨hP2,hpf2⟩;simp -dsimp;refine WFS.by (qsl hP2 (by simp; omega) (n:=n) (by omega) (by simp; omega)) ?_
 rintro v h3 ⟨M,hP3,hp,hpf3⟩;have hMl:=hp.length_eq;have hp2:=hp.trans (qdC (l:=l) (i:=(0:Int).toNat) (k:=(n:Int).toNat) (by simp; omega) (by simp; omega));simp at hMl;simp -dsimp;refine WFS.by (qmu hP3 (n:=n) (by omega) (by omega)) ?_
 rintro v h4 ⟨rfl,hP4,hpf4⟩;simp -dsimp;refine⟨M.take n,hP4,?_,(hpf2.trans hpf3).trans hpf4⟩;have e3:M.take n++[lat M n]=M:=by
  have h5:M.take (n+1)=M:=by rw[<-hn,<-hMl,List.take_length]
  rw[Jap,qaz (by omega)]at h5;exact h5
 refine(List.perm_append_comm (l₁:=[lat M n]) (l₂:=M.take n)).trans ?_;rw[e3]; exact hp2
theorem qra(hP:qbU h m0 Q l)(hl:l.length<100000000)(hne:l≠[]):WF PR d m0 (.fn 161 [] []) [.ptr Q 0 0] h λr=>∃x l',r.v=.int .i64 x/\qbU r.h m0 Q l'/\(x::l').Perm l/\PF Q h r.h:=by
 refine WF.go f161 b161 [.tm 2] rfl rfl rfl rfl rfl rfl ?_;unfold b161;simp -dsimp;refine WFS.by (qmN hP hl hne) ?_
 rintro v h4 ⟨x,l',rfl,hP4,hp,hpf⟩;simp -dsimp;exact⟨l',hP4,hp,hpf⟩
end
def mksV(zero:List V)(bytes:Nat)(a b:V):Option Made:=match a with
 | .int _ a=>(match b with
  | .int _ b=>(match a,b with
   | .ofNat a,.ofNat b=>cond (Nat.ble a b&&qaI b bytes) (some (.obj (.rows (List.replicate a zero)) λi=>.sl i 0 a zero.length (Nat.beq a b))) none
   | _,_=>none)
  | _=>none)
 | _=>none
@[simp]theorem A_mks{zero:List V}{bytes:Nat}{l c:Opd}{tm:Tm}:(qbK (.mks zero bytes l c)).run tm=mksV zero bytes (l.ev tm) (c.ev tm):=(rfl)
theorem qgi{zero:List V}{bytes n:Nat}(hn:n<4294967296)(hb:bytes<1024):mksV zero bytes (.int .i64 n) (.int .i64 n)=some (.obj (.rows (List.replicate n zero)) λi=>.sl i 0 n zero.length true):=by
 show cond (Nat.ble n n&&qaI n bytes) _ none=_;simp[qaI,hn,hb]
theorem Own.cells{h:Heap}{mk esz:Nat}{v:V}{rows:List (List V)}(hO:Own h mk v esz rows):v.cells=[v]/\v.one=true:=by
 rcases hO with ⟨rfl,_⟩|⟨id,rfl,_⟩<;>exact⟨rfl,rfl⟩
structure ql4 (h:Heap) (m0:Nat) (vs:List V) (rt:List (List Int)):Prop where
 len:vs.length=rt.length
 own:∀i,i<vs.length->Own h m0 (lat vs i) 1 (qab (lat rt i))
 dist:∀i j id,i<vs.length->j<vs.length->slId (lat vs i)=some id->slId (lat vs j)=some id->i=j
structure RkR (h:Heap) (K W R m0:Nat) (wt:List Int) (rt:List (List Int)):Prop where
 k:h.get K=some (.rows [[.sl W 0 wt.length 1 true,.sl R 0 rt.length 1 true]])
 w:h.get W=some (.rows (qab wt))
 r:∃vs:List V,h.get R=some (.rows (vs.map λv=>[v]))/\ql4 h m0 vs rt
 lk:K<m0
 lw:W<m0
 lr:R<m0
 kw:K≠W
 kr:K≠R
 wr:W≠R
 n:m0<=h.n
theorem qd8{α : Type} [Inhabited α] {l:List α}{r j:Nat}{v : α}(h:j<l.length):lat (l.set r v) j=if j=r then v else lat l j:=by
 rw[lat_eq (by simpa using h),lat_eq h,List.getElem_set]
 by_cases e:j=r
 ·subst e; simp
 ·simp[e,Ne.symm e]
theorem qmq{h h':Heap}{m0 i:Nat}{vs:List V}{rt:List (List Int)}{v':V}{l':List Int}(hR:ql4 h m0 vs rt)(hi:i<vs.length)(hO:Own h' m0 v' 1 (qab l'))(hn:h.n<=h'.n)(hk:∀j,j<h.n->slId (lat vs i)≠some j->h'.get j=h.get j)(hid:∀j,slId v'=some j->h.n<=j\/slId (lat vs i)=some j):ql4 h' m0 (vs.set i v') (rt.set i l'):=by
 obtain⟨h1,h2,h3⟩:=hR;have hlt:∀j,j<vs.length->∀id,slId (lat vs j)=some id->id<h.n:=by
  intro j hj id e;rcases h2 j hj with ⟨e1,_⟩|⟨id',e1,_,_,h4,_⟩
  ·rw[e1]at e; simp[slId]at e
  ·rw[e1]at e; simp[slId]at e; omega
 refine⟨by simpa using h1,λj hj=>?_,λa b id ha hb ea eb=>?_⟩
 ·simp at hj;rw[qd8 hj,qd8 (by omega)]
  by_cases e:j=i
  ·simp only[e,if_true]; exact hO
  ·simp only[e,if_false];rcases h2 j hj with h4|⟨id,e1,e2,e3,e4,e5⟩
   ·exact .inl h4
   ·refine .inr ⟨id,e1,?_,e3,by omega,e5⟩;rw[hk id e4 (λe6=>e (h3 j i id hj hi (by rw[e1]; rfl) e6)),e2]
 ·simp at ha hb;rw[qd8 ha]at ea;rw[qd8 hb]at eb
  by_cases c1:a=i<;>by_cases c2:b=i
  ·omega
  ·simp only[c1,if_true]at ea; simp only[c2,if_false]at eb;rcases hid id ea with h4|h4
   ·have:=hlt b hb id eb; omega
   ·exact absurd (h3 i b id hi hb h4 eb) (λe=>c2 e.symm)
  ·simp only[c1,if_false]at ea; simp only[c2,if_true]at eb;rcases hid id eb with h4|h4
   ·have:=hlt a ha id ea; omega
   ·exact absurd (h3 a i id ha hi ea h4) c1
  ·simp only[c1,if_false]at ea; simp only[c2,if_false]at eb;exact h3 a b id ha hb ea eb
noncomputable def rc (g:Gr) (n j:Nat) (k:Int) (m:Int):Nat:=if 0<=m/\m<n then(qaq g m).count k else if m=n then((qaq g n).take j).count k else 0
structure RtP (g:Gr) (n j:Nat) (rt:List (List Int)):Prop where
 len:rt.length=g.p.l.length
 room:∀k,k<g.p.l.length->(lat rt k).length<=320 * n+j
 count:∀k,k<g.p.l.length->∀m:Int,(lat rt k).count m=rc g n j k m
structure WtP (g:Gr) (n:Nat) (wt:List Int):Prop where
 len:wt.length=g.p.l.length
 val:∀k,k<n->lat wt k=(qaq g k).length
theorem qeu{α : Type} [Inhabited α] {n i:Nat}{a : α}(h:i<n):lat (List.replicate n a) i=a:=by
 rw[lat_eq (by simpa using h)]; simp
theorem RtP.zero(g:Gr):RtP g 0 0 (List.replicate g.p.l.length []):=by
 refine⟨by simp,λk hk=>by simp[qeu hk],λk hk m=>?_⟩;rw[qeu hk];simp[rc];omega
theorem RtP.step{g:Gr}{n j:Nat}{rt:List (List Int)}{c:Nat}(h:RtP g n j rt)(hc:c<g.p.l.length)(hj:j<(qaq g n).length)(e:lat (qaq g n) j=c):RtP g n (j+1) (rt.set c (lat rt c++[(n:Int)])):=by
 obtain⟨h1,h2,h3⟩:=h;refine⟨by simpa using h1,λk hk=>?_,λk hk m=>?_⟩
 ·rw[qd8 (by omega)];have:=h2 c hc;have:=h2 k hk;split
  ·simp; omega
  ·omega
 ·rw[qd8 (by omega)];have a1:=h3 c hc m;have a2:=h3 k hk m;unfold rc at *;rw[Jap,qaz hj,e]
  by_cases c1:k=c
  ·subst c1;rw[Jab rfl,List.count_append,a1]
   by_cases b1:0<=m/\m<n
   ·have:¬m=(n:Int):=by omega
    simp[b1,List.count_cons,Ne.symm this]
   ·by_cases b2:m=n
    ·subst b2; simp[List.count_append]
    ·simp[b1,b2,List.count_cons,Ne.symm b2]
  ·rw[Jaa c1,a2];have:¬(c:Int)=(k:Int):=by omega
   by_cases b1:0<=m/\m<n
   ·simp[b1]
   ·by_cases b2:m=n
    ·subst b2; simp[List.count_append,List.count_cons,this]
    ·simp[b1,b2]
theorem RtP.next{g:Gr}{n:Nat}{rt:List (List Int)}(h:RtP g n (qaq g n).length rt):RtP g (n+1) 0 rt:=by
 obtain⟨h1,h2,h3⟩:=h;refine⟨h1,λk hk=>?_,λk hk m=>?_⟩
 ·have:=h2 k hk; have:=qd7 g n; omega
 ·rw[h3 k hk m];unfold rc
  by_cases b1:0<=m/\m<n
  ·rw[Jab b1,Jab (by omega)]
  ·rw[Jaa b1]
   by_cases b2:m=n
   ·subst b2; rw[Jab rfl,Jab (by omega),List.take_length]
   ·rw[Jaa b2,Jaa (by omega)]; split<;>simp
theorem qnQ(g:Gr)(hg:g.Small)(hm:mayB g=true){mk:Nat}{h:Heap}(hmk:mk<=h.n):WF PR false mk (.fn 131 [] []) [.agg g.cells] h λr=>(∃K W R wt rt m0,r.v=.ptr K 0 0/\RkR r.h K W R m0 wt rt/\WtP g g.p.l.length wt/\RtP g g.p.l.length 0 rt/\h.n<=K/\h.n<=W/\h.n<=R)/\h.n<=r.h.n/\∀i,i<h.n->r.h.get i=h.get i:=by
 have hok:=qaF hm;have hp60:=hok.p;refine qDT hmk ?_;refine WF.go f131 b131 [.tm 2] rfl rfl rfl rfl rfl rfl ?_;unfold b131;simp -dsimp[Gr.cells,qgi (n:=g.p.l.length) (by omega)];refine qaf (λk st=>∃(i:Int) (wt:List Int) (rt:List (List Int)),0<=i/\(k:Int)=g.p.l.length-i/\(gK 21).run st.tm=.int .i64 i/\st.h.get h.n=some (.rows [[g.p.enc Pd.cells,g.keys.enc qac]])/\WtP g i.toNat wt/\RtP g i.toNat 0 rt/\RkR st.h (h.n+3) (h.n+1) (h.n+2) (h.n+4) wt rt/\st.defs=[]) g.p.l.length
  ⟨0,List.replicate g.p.l.length 0,List.replicate g.p.l.length [],by omega,by omega,by simp,by simp,⟨by simp,by simp⟩,RtP.zero g,⟨by simp,by simp[qab],⟨List.replicate g.p.l.length .nils,by simp,⟨by simp,λi hi=>.inl ⟨by simp at hi; rw[qeu hi],by simp at hi; rw[qeu hi]; rfl⟩,λi j id hi hj e=>by simp at hi; rw[qeu hi]at e; simp[slId]at e⟩⟩,by omega,by omega,by omega,by omega,by omega,by omega,by simp⟩,rfl⟩ ?_
 rintro k ⟨tm,h1,defs,round⟩ ⟨i,wt,rt,hi,hk,h21,hbox,hW,hR,hRk,rfl⟩ hK;have h1':=hK 1 rfl;have h3:=hK 3 rfl;have h20:=hK 20 rfl;simp at h1' h3 h20 h21 hbox hRk;clear hK;simp -dsimp[h20,h21];rw[qaa];refine⟨λhc=>?_,λhc=>?_⟩
 ·simp at hc;have hkk:=hRk.k;have hww:=hRk.w;rw[hW.len,hR.len]at hkk;simp -dsimp[h1',h3,h21,hbox];refine WFS.by (qlB g hg i) ?_
  intro v h2 e;cases e;have hlen3:=qd7 g i;simp -dsimp[h1',h3,h21,hkk,qam (e:=1) (id:=h.n+1) (b:=0) (n:=g.p.l.length) (f:=true) (k:=.i64) hi hc,hww,qav (l:=wt) (r:=i.toNat) (by rw[hW.len]; omega)];rw[qcu];have hii:((i.toNat:Nat):Int)=i:=by omega
  have hW':WtP g (i.toNat+1) (wt.set i.toNat ((qaq g i).length:Int)):=by
   refine⟨by simp[hW.len],λq hq=>?_⟩;have:=hW.len;rw[qfE (by omega)]
   by_cases e:q=i.toNat
   ·subst e; rw[Jab rfl,hii]
   ·rw[Jaa e]; exact hW.val q (by omega)
  have hRk':RkR (h1.set (h.n+1) (.rows (qab (wt.set i.toNat ((qaq g i).length:Int))))) (h.n+3) (h.n+1) (h.n+2) (h.n+4) (wt.set i.toNat ((qaq g i).length:Int)) rt:=by
   obtain⟨r1,r2,⟨vs,r3,r4⟩,r5,r6,r7,r8,r9,r10,r11⟩:=hRk;refine⟨by rw[qBp,Jaa (by omega),r1]; simp,by simp,⟨vs,by rw[qBp,Jaa (by omega),r3],r4.len,λq hq=>?_,r4.dist⟩,r5,r6,r7,r8,r9,r10,by simpa using r11⟩;rcases r4.own q hq with h5|⟨id,e1,e2,e3,e4,e5⟩
   ·exact .inl h5
   ·exact .inr ⟨id,e1,by rw[qBp,Jaa (by omega),e2],e3,by simpa using e4,e5⟩
  obtain⟨wt',hwt⟩:∃wt',wt.set i.toNat ((qaq g i).length:Int)=wt':=⟨_,rfl⟩;rw[hwt]at hW' hRk' ⊢;refine qaf (λk2 st=>∃(j:Int) (rt:List (List Int)),0<=j/\(k2:Int)=(qaq g i).length-j/\(gK 37).run st.tm=.int .i64 j/\st.h.get h.n=some (.rows [[g.p.enc Pd.cells,g.keys.enc qac]])/\RtP g i.toNat j.toNat rt/\RkR st.h (h.n+3) (h.n+1) (h.n+2) (h.n+4) wt' rt/\st.defs=[]) (qaq g i).length
   ⟨0,rt,by omega,by omega,by simp,by simp[hbox],hR,hRk',rfl⟩ ?_
  rintro k2 ⟨tm2,h4,defs,round⟩ ⟨j,rt2,hj,hk2,h37,hbox2,hR2,hRk2,rfl⟩ hK;have h3':=hK 3 rfl;have h4':=hK 4 rfl;have h21':=hK 21 rfl;have h35:=hK 35 rfl;have h36:=hK 36 rfl;simp[h3,h21]at h3' h4' h21' h35 h36 h37 hbox2 hRk2;clear hK;simp -dsimp[h36,h37];rw[qaa];refine⟨λhc2=>?_,λhc2=>?_⟩
  ·simp at hc2;have hlt:j.toNat<(qaq g i).length:=by omega
   have hj':j<((slOf (qaq g i)).l.length:Int):=by simpa using hc2
   obtain⟨c,hcc⟩:∃c,lat (qaq g i) j.toNat=c:=⟨_,rfl⟩;have hcm:c∈qaq g i:=hcc ▸ qai hlt;have hrange:=qfY hcm;have hkk2:=hRk2.k;have hww2:=hRk2.w;rw[hR2.len]at hkk2;obtain⟨vs,r3,r4⟩:=hRk2.r;have hvl:vs.length=g.p.l.length:=by rw[r4.len,hR2.len]
   have hcl:c.toNat<vs.length:=by omega
   have hget:(vs.map λv=>[v])[c.toNat]?=some [lat vs c.toNat]:=by simp[qaz hcl]
   have fj:fw .i64 (j+1)=j+1:=fw64 (by omega) (by omega);have hi':((i.toNat:Nat):Int)=i:=by omega
   have hroom:=hR2.room c.toNat (by omega);simp -dsimp[h35,h37,qe6 hj hj',qaM,hcc,h3',hkk2,qam (e:=1) (id:=h.n+2) (b:=0) (n:=g.p.l.length) (f:=true) (k:=.i64) hrange.1 hrange.2,r3,hget,h4'];refine qBC ?_;rw[qaE (xs:=[[.int .i64 i]]) (by simp)];obtain⟨v',h5,w1,w2,w3,w4,w5⟩:=qaC (mk:=h.n) (bytes:=8) (xs:=[[.int .i64 i]]) (r4.own c.toNat hcl) (by omega) (by simp) (by simp; omega) (by omega) hRk2.n;simp only[ev_t,qgb,Nat.reduceEqDiff,if_false,if_true];refine⟨_,w1,?_⟩;have x1:∀q,q<h.n+4->h5.get q=h4.get q:=λq hq=>w4 q (by have:=hRk2.n; omega) ((r4.own c.toNat hcl).slId hq);have x2:h5.get (h.n+2)=some (.rows (vs.map λv=>[v])):=by rw[x1 _ (by omega),r3]
   have x3:h5.get (h.n+3)=some (.rows [[V.sl (h.n+1) 0 wt'.length 1 true,V.sl (h.n+2) 0 g.p.l.length 1 true]]):=by rw[x1 _ (by omega),hkk2]
   obtain⟨y1,y2⟩:=w2.cells;have y3:h.n<=h.n+2:=by omega
   simp -dsimp[qam (e:=1) (id:=h.n+2) (b:=0) (n:=g.p.l.length) (f:=true) (k:=.i64) hrange.1 hrange.2,y1,y2,x2,x3,hget,h37,fj];have hcn:((c.toNat:Nat):Int)=c:=by omega
   have hR3:=hR2.step (c:=c.toNat) (by omega) (by rw[hii]; exact hlt) (by rw[hii,hcc,hcn]);have hj2:(j+1).toNat=j.toNat+1:=by omega
   refine qah.intro (k2-1) (by omega) ⟨j+1,rt2.set c.toNat (lat rt2 c.toNat++[(i.toNat:Int)]),by omega,by omega,by simp,?_,by rw[hj2]; exact hR3,⟨?_,?_,⟨vs.set c.toNat v',?_,?_⟩,by omega,by omega,by omega,by omega,by omega,by omega,?_⟩,rfl⟩
   ·rw[qBp,Jaa (by omega),x1 _ (by omega),hbox2]
   ·rw[qBp,Jaa (by omega),x3,hR3.len]
   ·rw[qBp,Jaa (by omega),x1 _ (by omega),hww2]
   ·rw[qBp,Jab rfl]; simp[List.map_set]
   ·have w2':Own (h5.set (h.n+2) (Obj.rows ((vs.map λv=>[v]).set c.toNat [v']))) (h.n+4) v' 1 (qab (lat rt2 c.toNat++[(i.toNat:Int)])):=by
     have w2'':Own h5 (h.n+4) v' 1 (qab (lat rt2 c.toNat++[(i.toNat:Int)])):=by rw[hii]; simpa[qab]using w2
     rcases w2'' with h6|⟨id,e1,e2,e3,e4,e5⟩
     ·exact .inl h6
     ·exact .inr ⟨id,e1,by rw[qBp,Jaa (by omega),e2],e3,by simpa using e4,e5⟩
    have r4':ql4 (h4.set (h.n+2) (Obj.rows ((vs.map λv=>[v]).set c.toNat [v']))) (h.n+4) vs rt2:=by
     refine⟨r4.len,λq hq=>?_,r4.dist⟩;rcases r4.own q hq with h6|⟨id,e1,e2,e3,e4,e5⟩
     ·exact .inl h6
     ·exact .inr ⟨id,e1,by rw[qBp,Jaa (by omega),e2],e3,by simpa using e4,e5⟩
    refine qmq r4' hcl w2' (by simpa using w3) (λq hq hs=>?_) (λq hq=>?_)
    ·rw[qBp,qBp]
     by_cases e:q=h.n+2
     ·simp[e]
     ·simp only[e,if_false]; exact w4 q (by simpa using hq) hs
    ·simpa using w5 q hq
   ·have:=hRk2.n; simp; omega
  ·simp at hc2;have hc2':decide (j<((qaq g i).length:Int))=false:=by simpa using hc2
   have hjl:j.toNat=(qaq g i).length:=by omega
   simp -dsimp[hc2',h21',fw64 (n:=i+1) (by omega) (by omega)];rw[hjl]at hR2;have hi2:(i+1).toNat=i.toNat+1:=by omega
   refine qah.intro (k-1) (by omega) ⟨i+1,wt',rt2,by omega,by omega,by simp,hbox2,by rw[hi2]; exact hW',by rw[hi2]; exact RtP.next (by rw[hii]; exact hR2),hRk2,rfl⟩
 ·simp at hc;have hc':decide (i<(g.p.l.length:Int))=false:=by simpa using hc
  have hi2:i.toNat=g.p.l.length:=by have:=hW.len; omega
  rw[hi2]at hW hR;simp -dsimp[hc',h3];exact⟨h.n+1,h.n+2,wt,rt,⟨_,hRk⟩,hW,hR,by omega,by omega⟩
theorem del_ok{h:Heap}{M mk:Nat}{S:List (Int × Bool)}(hM:qfO h M S)(hmk:mk<=M)(k:Int):∃h',delV mk (.one .int) (.map M) (.int .i64 k) h=some ⟨.any,h'⟩/\h'.n=h.n/\(∀j,j≠M->h'.get j=h.get j)/\qfO h' M (aDel k S):=by
 obtain⟨es,c,h1,h2⟩:=hM;simp only[delV,h1,qa3,hmk,decide_true,Bool.true_and];rcases qfa qcc k es S 0 h2 with ⟨g1,g2,_,g4⟩|⟨j,v,g1,g2,_,g4⟩
 ·simp only[intV]at g2;rw[g2];exact⟨h,rfl,rfl,λ_ _=>rfl,es,c,h1,by rw[g4]; exact h2⟩
 ·simp only[intV]at g2;rw[g2];exact⟨h.set M (.map (es.eraseIdx (0+j)) c),rfl,rfl,λq hq=>by rw[qBp,Jaa hq],_,_,by rw[qBp,Jab rfl],by simpa using g4⟩
theorem qoB{h:Heap}{M:Nat}{S:List (Int × Bool)}(hM:qfO h M S):lenV .map (.map M) h=some (.int .i64 S.length):=by
 obtain⟨es,c,h1,h2⟩:=hM;have:es.length=S.length:=by simpa[MapR]using congrArg List.length h2
 simp[h1,this]
theorem ql2{k:Int}{v:Bool}:∀{S:List (Int × Bool)},(aSet k v S).length<=S.length+1
 | []=>by simp[aSet]
 | e::S=>by simp only[aSet]; split<;>simp<;>exact ql2
theorem ql3{k:Int}:∀{S:List (Int × Bool)},isB S k=true->(aDel k S).length+1=S.length
 | [],h=>by simp[isB,qaS]at h
 | e::S,h=>by
  simp only[aDel]
  by_cases c:k=e.1
  ·simp[c]
  ·rw[Jaa c];have:isB S k=true:=by simpa[isB,qaS,c]using h
   simpa using ql3 this
theorem qls{k:Int}{v:Bool}{e:Int × Bool}:∀{S:List (Int × Bool)},e∈aSet k v S->e.2=v\/e∈S
 | [],h=>by simp[aSet]at h; subst h; exact .inl rfl
 | x::S,h=>by
  simp only[aSet]at h;split at h
  ·rcases Jag.1 h with rfl|h
   ·exact .inl rfl
   ·exact .inr (List.mem_cons_of_mem _ h)
  ·rcases Jag.1 h with rfl|h
   ·exact .inr (by simp)
   ·exact(qls h).imp id (List.mem_cons_of_mem _)
theorem qlt{k:Int}{e:Int × Bool}:∀{S:List (Int × Bool)},e∈aDel k S->e∈S
 | [],h=>by simp[aDel]at h
 | x::S,h=>by
  simp only[aDel]at h;split at h
  ·exact List.mem_cons_of_mem _ h
  ·rcases Jag.1 h with rfl|h
   ·simp
   ·exact List.mem_cons_of_mem _ (qlt h)
structure FB (g:Gr) (h0:Heap) (G O A T M:Nat):Prop where
 gb:h0.get G=some (.rows [[g.p.enc Pd.cells,g.keys.enc qac]])
 o:h0.get O=some (.rows [[.sl A 0 g.p.l.length 1 true]])
 t:h0.get T=some (.rows [[.map M]])
 lg:G<h0.n
 lo:O<h0.n
 la:A<h0.n
 lt:T<h0.n
 lm:M<h0.n
 ga:G≠A
 gm:G≠M
 oa:O≠A
 om:O≠M
 ta:T≠A
 tm:T≠M
 am:A≠M
structure FR (h0:Heap) (A M:Nat) (S:List (Int × Bool)) (ob:List Bool) (h:Heap):Prop where
 keep:∀i,i<h0.n->i≠A->i≠M->h.get i=h0.get i
 n:h0.n<=h.n
 m:qfO h M S
 a:h.get A=some (.rows (qao ob))
structure FI (g:Gr) (a:Int) (S:List (Int × Bool)) (ob:List Bool) (m:Int):Prop where
 len:ob.length=g.p.l.length
 nd:(S.map (·.1)).Nodup
 tv:∀e∈S,e.2=true
 i2:∀k,isB S k=true->0<=k/\k<g.p.l.length/\(k=a\/lat ob k.toNat=true)
 i3:∀k:Int,0<=k->k<g.p.l.length->lat ob k.toNat=true->Rch g a k
 i4:∀k:Int,0<=k->k<g.p.l.length->(k=a\/lat ob k.toNat=true)->isB S k=true\/k=m\/∀c∈qhv g k,lat ob c.toNat=true
theorem qcY{g:Gr}(hm:mayB g=true){n c:Int}(h0:0<=n)(h1:n<g.p.l.length)(hc:c∈qhv g n):0<=c/\c<g.p.l.length:=by
 have hok:=qaF hm;simp only[qhv,List.mem_filterMap]at hc;obtain⟨s,hs,e⟩:=hc;split at e
 ·rename_i hk;cases e;have hp:=qai (l:=g.p.l) (i:=n.toNat) (by omega);obtain⟨al,ha,hs⟩:=qjZ (Jac _) hs;have:=(hok.sy _ hp _ ha _ hs).non hk;exact⟨this.1,this.2.1⟩
 ·cases e
theorem FI.flag{g:Gr}{a m c:Int}{S:List (Int × Bool)}{ob:List Bool}(h:FI g a S ob m)(hc0:0<=c)(hc1:c<g.p.l.length)(hr:Rch g a c):FI g a (aSet c true S) (ob.set c.toNat true) m:=by
 obtain⟨h1,h2,htv,h3,h4,h5⟩:=h;have hmono:∀k:Int,0<=k->k<g.p.l.length->lat ob k.toNat=true->lat (ob.set c.toNat true) k.toNat=true:=λk k0 k1 e=>by
  rw[qcK (by omega)]; split
  ·rfl
  ·exact e
 refine⟨by simpa using h1,?_,λe he=>(qls he).elim id (htv e),λk hk=>?_,λk k0 k1 hk=>?_,λk k0 k1 hk=>?_⟩
 ·rw[qkb];split
  ·exact h2
  ·rename_i hn;exact List.nodup_append.2 ⟨h2,by simp,λx hx y hy e=>hn (by simp at hy; rw[<-hy,<-e]; exact hx)⟩
 ·rw[qcs]at hk
  by_cases e:k=c
  ·subst e; exact⟨hc0,hc1,.inr (by rw[qcK (by omega),Jab rfl])⟩
  ·rw[Jaa e]at hk;obtain⟨a1,a2,a3⟩:=h3 k hk;exact⟨a1,a2,a3.imp id (hmono k a1 a2)⟩
 ·rw[qcK (by omega)]at hk
  by_cases e:k.toNat=c.toNat
  ·have:k=c:=by omega
   rw[this]; exact hr
  ·rw[Jaa e]at hk; exact h4 k k0 k1 hk
 ·by_cases e:k=c
  ·left; rw[qcs,Jab e]
  ·have hk':k=a\/lat ob k.toNat=true:=by
    rcases hk with hk|hk
    ·exact .inl hk
    ·rw[qcK (by omega),Jaa (by omega)]at hk; exact .inr hk
   rcases h5 k k0 k1 hk' with h6|h6|h6
   ·left; rw[qcs,Jaa e]; exact h6
   ·exact .inr (.inl h6)
   ·refine .inr (.inr λq hq=>?_);have:=h6 q hq
    by_cases hq2:q.toNat<ob.length
    ·rw[qcK hq2]; split
     ·rfl
     ·exact this
    ·have e1:lat ob q.toNat=default:=by unfold lat; rw[List.getElem!_eq_getElem?_getD,List.getElem?_eq_none (by omega)]; rfl
     rw[e1]at this; cases this
theorem qhz{ob:List Bool}{c:Nat}(hc:c<ob.length)(h:lat ob c=false):(ob.set c true).count false+1=ob.count false:=by
 rw[List.count_set hc];have h1:ob[c]=false:=by rw[<-lat_eq hc]; exact h
 have h2:0<ob.count false:=List.count_pos_iff.2 (h1 ▸ List.getElem_mem hc);simp[h1]; omega
theorem qjn{α : Type} [Inhabited α] {enc : α->List V}{h h':Heap}{m esz:Nat}{v:V}{l:List α}(hO:OwnJ h m v esz (l.map enc))(hk:∀j,m<=j->j<h.n->h'.get j=h.get j):lenV .sl v h'=some (.int .i64 l.length)/\∀j:Int,0<=j->j<l.length->∃p,qaw esz v (.int .i64 j)=some p/\∀n,qcp n p h'=qca (enc (lat l j.toNat)) 0 n:=by
 rcases hO with ⟨rfl,e⟩|⟨id,L,rfl,e2,e3,e4⟩
 ·have:l=[]:=by simpa using e
  subst this;exact⟨by simp,λj h0 h1=>by simp at h1; omega⟩
 ·refine⟨by simp,λj h0 h1=>⟨.ptr id (0+j.toNat) 0,qam h0 (by simpa using h1),λn=>?_⟩⟩;have:(l.map enc++L)[j.toNat]?=some (enc (lat l j.toNat)):=by
   rw[List.getElem?_append_left (by simp; omega),List.getElem?_map,qaz (by omega)]; rfl
  rw[qdL,hk id e3 e4,e2,qcq,Nat.zero_add,this];rfl
theorem FR.push{h0 h:Heap}{A M:Nat}{S:List (Int × Bool)}{ob:List Bool}(hR:FR h0 A M S ob h)(ha:A<h0.n)(hm:M<h0.n)(o:Obj):FR h0 A M S ob (h.push o):=by
 obtain⟨h1,h2,⟨es,c,h3,h4⟩,h5⟩:=hR;exact⟨λi hi ha hm=>by rw[qBq,Jaa (by omega),h1 i hi ha hm],by simp; omega,⟨es,c,by rw[qBq,Jaa (by omega),h3],h4⟩,by rw[qBq,Jaa (by omega),h5]⟩
theorem FR.set{h0 h:Heap}{A M i:Nat}{S:List (Int × Bool)}{ob:List Bool}(hR:FR h0 A M S ob h)(ha:A<h0.n)(hm:M<h0.n)(o:Obj)(hi:h0.n<=i):FR h0 A M S ob (h.set i o):=by
 obtain⟨h1,h2,⟨es,c,h3,h4⟩,h5⟩:=hR;exact⟨λq hq ha hm=>by rw[qBp,Jaa (by omega),h1 q hq ha hm],by simp; omega,⟨es,c,by rw[qBp,Jaa (by omega),h3],h4⟩,by rw[qBp,Jaa (by omega),h5]⟩
theorem qpT(g:Gr)(hm:mayB g=true){h0 h:Heap}{G O A T M mk:Nat}{S:List (Int × Bool)}{ob:List Bool}{a x:Int}(hB:FB g h0 G O A T M)(hR:FR h0 A M S ob h)(hI:FI g a S ob (-1))(hmA:mk<=A)(hmM:mk<=M)(hx:isB S x=true) :
  WF PR false mk (.fn 134 [] [.ptr T 0 0,.ptr G 0 0,.ptr O 0 0]) [.int .i64 x] h λr=>∃S' ob',FR h0 A M S' ob' r.h/\FI g a S' ob' (-1)/\S'.length+2 * ob'.count false+1<=S.length+2 * ob.count false:=by
 have hok:=qaF hm;have hp60:=hok.p;obtain⟨hx0,hx1,hxa⟩:=hI.i2 x hx;refine WF.go f134 b134 [] rfl rfl rfl rfl rfl rfl ?_;unfold b134;have t1:h.get T=some (.rows [[.map M]]):=by rw[hR.keep T hB.lt hB.ta hB.tm,hB.t]
 simp -dsimp[t1];refine qBC ?_;obtain⟨h1,w1,w2,w3,w4⟩:=del_ok hR.m hmM x;refine⟨_,w1,?_⟩;have hR1:FR h0 A M (aDel x S) ob h1:=⟨λi hi ha hm=>by rw[w3 i hm,hR.keep i hi ha hm],by rw[w2]; exact hR.n,w4,by rw[w3 A hB.am,hR.a]⟩;have hlen:=ql3 hx;have hI1:FI g a (aDel x S) ob x:=by
  obtain⟨a1,a2,atv,a3,a4,a5⟩:=hI;refine⟨a1,by rw[qkd]; exact a2.erase _,λe he=>atv e (qlt he),λk hk=>?_,a4,λk k0 k1 hk=>?_⟩
  ·rw[qiT a2]at hk;split at hk
   ·cases hk
   ·exact a3 k hk
  ·rcases a5 k k0 k1 hk with h5|h5|h5
   ·by_cases e:k=x
    ·exact .inr (.inl e)
    ·left; rw[qiT a2,Jaa e]; exact h5
   ·omega
   ·exact .inr (.inr h5)
 have g1:h1.get G=some (.rows [[g.p.enc Pd.cells,g.keys.enc qac]]):=by rw[hR1.keep G hB.lg hB.ga hB.gm,hB.gb]
 have hpm:=qai (l:=g.p.l) (i:=x.toNat) (by omega);have o1:=hok.a _ hpm;have o2:=hok.s _ hpm;have hx1':x<((g.p.l.length:Nat):Int):=hx1;simp -dsimp[g1,hx0,hx1',Pd.cells];have hmh:mk<=h1.n:=by have:=hR1.n; have:=hB.la; omega
 refine WFS.by (qkN o1 o2 hmh) ?_
 rintro v2 h2 ⟨hO,hn2,hk2⟩;have hR2:FR h0 A M (aDel x S) ob h2:=by
  have hn:=hR1.n;obtain⟨b1,b2,⟨es,c,b3,b4⟩,b5⟩:=hR1;have hla:=hB.la;have hlm:=hB.lm;exact⟨λi hi ha hm=>by rw[hk2 i (by omega),b1 i hi ha hm],by simp only at hn2; omega,⟨es,c,by rw[hk2 M (by omega),b3],b4⟩,by rw[hk2 A (by omega),b5]⟩
 obtain⟨L,hL⟩:∃L,qbt (lat g.p.l x.toNat).a.l (lat g.p.l x.toNat).a.l.length=L:=⟨_,rfl⟩;have hLs:qnq g x.toNat=L:=hL;rw[hL]at hO;have hLlen:L.length<=320:=by
  have:=qhl o2 _ (Jac _);rw[hL]at this;have:40 * (lat g.p.l x.toNat).a.l.length<=40 * 8:=Nat.mul_le_mul_left _ o1;omega
 have hrd2:=qjn (h':=h2) hO (λ_ _ _=>rfl);simp -dsimp[hrd2.1];have hlA:=hB.la;have hlM:=hB.lm;have hn1:=hR1.n;simp only at hn2;refine qaf (λk st=>∃(j:Int) (S':List (Int × Bool)) (ob':List Bool),0<=j/\(k:Int)=L.length-j/\(gK 17).run st.tm=.int .i64 j/\FR h0 A M S' ob' st.h/\FI g a S' ob' x/\S'.length+2 * ob'.count false<=(aDel x S).length+2 * ob.count false/\(∀s∈L.take j.toNat,s.kind=2->lat ob' s.n.toNat=true)/\h2.n<=st.h.n/\(∀q,h1.n<=q->q<h2.n->st.h.get q=h2.get q)/\st.defs=[]) L.length
  ⟨0,aDel x S,ob,by omega,by omega,by simp,hR2,hI1,Jac _,by simp,Jac _,λ_ _ _=>rfl,rfl⟩ ?_
 rintro k ⟨tm,h3,defs,round⟩ ⟨j,S',ob',hj,hk,h17,hR3,hI3,hmu,hpart,hn3,hk3,rfl⟩ hK;have q1:=hK 1 rfl;have q3:=hK 3 rfl;have q15:=hK 15 rfl;have q16:=hK 16 rfl;simp at q1 q3 q15 q16 h17 hR3 hn3 hk3;clear hK;simp -dsimp[q16,h17];rw[qaa];refine⟨λhc=>?_,λhc=>?_⟩
 ·simp at hc;have hjl:j.toNat<L.length:=by omega
  obtain⟨p,p1,p2⟩:=(qjn (h':=h3) hO (λq hq1 hq2=>hk3 q hq1 hq2)).2 j hj hc;simp only at p1;obtain⟨s,hs⟩:∃s,lat L j.toNat=s:=⟨_,rfl⟩;have hsm:s∈L:=hs ▸ qai hjl;rw[hs]at p2;have htk:L.take (j+1).toNat=L.take j.toNat++[s]:=by rw[show(j+1).toNat=j.toNat+1 by omega,Jap,qaz hjl,hs]; rfl
  have fj:fw .i64 (j+1)=j+1:=fw64 (by omega) (by omega);have hmk3:mk<=h3.n:=by omega
  simp -dsimp[q15,h17,p1,p2,Sy.cells,hmk3];obtain⟨H3,eH3⟩:∃H3,(h3.push (Obj.rows [[V.int IntKind.i64 0,V.nils,V.int IntKind.i64 0]])).set h3.n (Obj.rows [[V.int IntKind.i64 s.kind,Sl.enc Rg.cells s.r,V.int IntKind.i64 s.n]])=H3:=⟨_,rfl⟩;have hn0:=hR3.n;have hR4:FR h0 A M S' ob' H3:=by rw[<-eH3]; exact(hR3.push hlA hlM _).set hlA hlM _ hn0
  have x1:H3.n=h3.n+1:=by rw[<-eH3]; simp
  have x2:∀q,h1.n<=q->q<h2.n->H3.get q=h2.get q:=λq hq1 hq2=>by rw[<-eH3,qBp,Jaa (by omega),qBq,Jaa (by omega),hk3 q hq1 hq2]
  have x3:H3.get h3.n=some (.rows [[V.int IntKind.i64 s.kind,Sl.enc Rg.cells s.r,V.int IntKind.i64 s.n]]):=by rw[<-eH3]; simp
  rw[eH3];rw[Gd_t];refine⟨λhd=>?_,λhd=>?_⟩
  ·have hkind:s.kind=2:=by simpa using hd
   have hcs:s.n∈qhv g x:=by
    simp only[qhv,List.mem_filterMap,hLs];exact⟨s,hsm,by rw[Jab hkind]⟩
   obtain⟨c0,c1⟩:=qcY hm hx0 hx1 hcs;have hrc:Rch g a s.n:=by
    rcases hxa with rfl|h
    ·exact .one hcs
    ·exact .more (hI.i3 x hx0 hx1 h) hcs
   have o3:H3.get O=some (.rows [[.sl A 0 g.p.l.length 1 true]]):=by rw[hR4.keep O hB.lo hB.oa hB.om,hB.o]
   have t3:H3.get T=some (.rows [[.map M]]):=by rw[hR4.keep T hB.lt hB.ta hB.tm,hB.t]
   have a3:=hR4.a;have hcl:s.n.toNat<ob'.length:=by rw[hI3.len]; omega
   have c1':s.n<((g.p.l.length:Nat):Int):=c1;simp -dsimp[hd,q3,o3,x3,qam (e:=1) (id:=A) (b:=0) (n:=g.p.l.length) (f:=true) (k:=.i64) c0 c1',a3,qbv hcl];rw[qaa];refine⟨λhe=>?_,λhe=>?_⟩
   ·simp at he;simp -dsimp[q1,q3,o3,t3,x3,qam (e:=1) (id:=A) (b:=0) (n:=g.p.l.length) (f:=true) (k:=.i64) c0 c1',a3,qbv hcl,hmA];rw[qdW];refine qBC ?_;obtain⟨es,c,m1,m2⟩:=hR4.m;have hfl:qfO (H3.set A (.rows (qao (ob'.set s.n.toNat true)))) M S':=⟨es,c,by rw[qBp,Jaa (Ne.symm hB.am),m1],m2⟩;obtain⟨es',c',k1,k2⟩:=qe9 hfl hmM s.n true;refine⟨_,k1,?_⟩;have hxA:¬h3.n=A:=by omega
    have hxM:¬h3.n=M:=by omega
    simp -dsimp[x3,hxA,hxM,h17,fj,q1,hB.ta,t3];have hI4:=hI3.flag c0 c1 hrc;have hcnt:=qhz hcl he;have hsl:=ql2 (k:=s.n) (v:=true) (S:=S');refine qah.intro (k-1) (by omega) ⟨j+1,aSet s.n true S',ob'.set s.n.toNat true,by omega,by omega,by simp,⟨λi hi ha hm=>?_,?_,⟨es',c',by rw[qBp,Jab rfl],k2⟩,?_⟩,hI4,by omega,λq hq hq2=>?_,?_,λq hq1 hq2=>?_,rfl⟩
    ·rw[qBp,Jaa hm,qBp,Jaa ha,hR4.keep i hi ha hm]
    ·simp; omega
    ·rw[qBp,Jaa hB.am,qBp,Jab rfl]
    ·rw[htk]at hq;rcases Jaj.1 hq with hq|hq
     ·have h9:=hpart q hq hq2
      by_cases hq3:q.n.toNat<ob'.length
      ·rw[qcK hq3]; split
       ·rfl
       ·exact h9
      ·have e1:lat ob' q.n.toNat=default:=by unfold lat; rw[List.getElem!_eq_getElem?_getD,List.getElem?_eq_none (by omega)]; rfl
       rw[e1]at h9; cases h9
     ·simp at hq; subst hq; rw[qcK hcl,Jab rfl]
    ·simp; omega
    ·rw[qBp,Jaa (by omega),qBp,Jaa (by omega),x2 q hq1 hq2]
   ·simp at he;simp -dsimp[h17,fj];refine qah.intro (k-1) (by omega) ⟨j+1,S',ob',by omega,by omega,by simp,hR4,hI3,hmu,λq hq hq2=>?_,by simp; omega,x2,rfl⟩;rw[htk]at hq;rcases Jaj.1 hq with hq|hq
    ·exact hpart q hq hq2
    ·simp at hq; subst hq; exact he
  ·have hkind:¬s.kind=2:=by simpa using hd
   simp -dsimp[hd,h17,fj];refine qah.intro (k-1) (by omega) ⟨j+1,S',ob',by omega,by omega,by simp,hR4,hI3,hmu,λq hq hq2=>?_,by simp; omega,x2,rfl⟩;rw[htk]at hq;rcases Jaj.1 hq with hq|hq
   ·exact hpart q hq hq2
   ·simp at hq; subst hq; exact absurd hq2 hkind
 ·simp at hc;have hc':decide (j<(L.length:Int))=false:=by simpa using hc
  simp -dsimp[hc'];refine⟨S',ob',hR3,?_,by omega⟩;obtain⟨a1,a2,atv,a3,a4,a5⟩:=hI3;refine⟨a1,a2,atv,a3,a4,λk k0 k1 hk=>?_⟩;rcases a5 k k0 k1 hk with h5|rfl|h5
  ·exact .inl h5
  ·refine .inr (.inr λc hc2=>?_);simp only[qhv,List.mem_filterMap,hLs]at hc2;obtain⟨s,hs,e⟩:=hc2;split at e
   ·rename_i hk2;cases e;exact hpart s (by rw[List.take_of_length_le (by omega)]; exact hs) hk2
   ·cases e
  ·exact .inr (.inr h5)
theorem qpx{g:Gr}{a:Int}{ob:List Bool}(h:FI g a [] ob (-1))(hm:mayB g=true)(ha0:0<=a)(ha1:a<g.p.l.length):ob=qaB g a:=by
 obtain⟨h1,_,_,_,h4,h5⟩:=h;have key:∀c,Rch g a c->0<=c/\c<g.p.l.length/\lat ob c.toNat=true:=by
  intro c hc;induction hc with
  | one hs =>
   have hr:=qcY hm ha0 ha1 hs;rcases h5 a ha0 ha1 (.inl rfl)with h|h|h
   ·simp[isB,qaS]at h
   ·omega
   ·exact⟨hr.1,hr.2,h _ hs⟩
  | more _ hs ih =>
   have hr:=qcY hm ih.1 ih.2.1 hs;rcases h5 _ ih.1 ih.2.1 (.inr ih.2.2)with h|h|h
   ·simp[isB,qaS]at h
   ·have:=ih.1; omega
   ·exact⟨hr.1,hr.2,h _ hs⟩
 refine List.ext_getElem (by simp[qaB,h1]) λi hi hi2=>?_;have hl:i<g.p.l.length:=by omega
 simp only[qaB,List.getElem_map,List.getElem_range];rw[Bool.eq_iff_iff];simp only[rchB,Jai];have e1:lat ob ((i:Int)).toNat=ob[i]:=by rw[Int.toNat_natCast,lat_eq hi]
 constructor
 ·intro h;exact h4 i (by omega) (by omega) (by rw[e1]; exact h)
 ·intro h;rw[<-e1]; exact(key i h).2.2
theorem qqx{h:Heap}{M mk:Nat}{S:List (Int × Bool)}{k:Int}{b:Bool}{Q:VH->Prop}(hM:qfO h M S)(hmk:mk<=M)(hq:∀es c,MapR intV qsr es (aSet k b S)->Q ⟨.any,h.set M (.map es c)⟩):OpS (qmD mk (.one .int) (.map M) (.int .i64 k) (.bool b) h) Q ⟨⟩:=by
 obtain⟨es,c,h1,h2⟩:=qe9 hM hmk k b;exact⟨_,h1,hq es c h2⟩
theorem qrW{e:Int × Bool}{S:List (Int × Bool)}:isB (e::S) e.1=e.2:=by simp[isB,qaS]
theorem qox(g:Gr)(hg:g.Small)(a:Int){mk:Nat}{h:Heap}(hmk:mk<=h.n):WF PR false mk (.fn 95 [] []) [.agg g.cells,.int .i64 a] h λr =>
  ((¬(mayB g=true/\0<=a/\a<g.p.l.length)/\r.v=.nils)\/(mayB g=true/\0<=a/\a<g.p.l.length)/\∃A,r.v=.sl A 0 g.p.l.length 1 true/\r.h.get A=some (.rows (qao (qaB g a)))/\h.n<=A/\A<r.h.n)/\h.n<=r.h.n/\∀i,i<h.n->r.h.get i=h.get i:=by
 refine qDT hmk ?_;refine WF.go f95 b95 [.tm 4] rfl rfl rfl rfl rfl rfl ?_;unfold b95;simp -dsimp[Gr.cells];refine WFS.by (qfV g hg) ?_
 intro v h1 e;cases e;simp -dsimp;rw[Gd_f];refine⟨λhb1=>?_,λhb1=>?_⟩
 ·simp -dsimp[hb1];rw[Gd_f];refine⟨λhb2=>?_,λhb2=>?_⟩
  ·simp -dsimp[hb2];rw[qaa];refine⟨λhb3=>?_,λhb3=>?_⟩
   ·simp at hb3;simp -dsimp;intro _ _; omega
   ·simp at hb1 hb2 hb3;have hok:=qaF hb1;have hp60:=hok.p;simp -dsimp[qgi (n:=g.p.l.length) (by omega)];refine qqx (S:=[]) ⟨[],0,by simp,rfl⟩ (by omega) ?_;intro es c hes;simp -dsimp;refine qgr (λst=>FB g st.h h.n (h.n+2) (h.n+1) (h.n+4) (h.n+3)/\FR st.h (h.n+1) (h.n+3) [(a,true)] (List.replicate g.p.l.length false) st.h/\(gK 2).run st.tm=.ptr h.n 0 0/\(gK 5).run st.tm=.ptr (h.n+2) 0 0/\(gK 6).run st.tm=.ptr (h.n+4) 0 0/\(gK 7).run st.tm=.fn 134 [] [.ptr (h.n+4) 0 0,.ptr h.n 0 0,.ptr (h.n+2) 0 0]/\st.defs=[]) ⟨⟨by simp,by simp,by simp,by simp,by simp,by simp,by simp,by simp,by omega,by omega,by omega,by omega,by omega,by omega,by omega⟩,⟨λ_ _ _ _=>rfl,Jac _,⟨es,c,by simp,hes⟩,by simp[qao]⟩,by simp⟩ ?_;rintro⟨tm,h0,defs,round⟩ ⟨hB,hR,k2,k5,k6,k7,rfl⟩;simp only at hB hR k2 k5 k6 k7;have hlen:(List.replicate g.p.l.length false).length=g.p.l.length:=by simp
    refine qaf (λk st=>∃(S:List (Int × Bool)) (ob:List Bool),k=S.length+2 * ob.count false/\FR h0 (h.n+1) (h.n+3) S ob st.h/\FI g a S ob (-1)/\st.defs=[]) _ ⟨[(a,true)],List.replicate g.p.l.length false,rfl,hR,⟨hlen,by simp,by simp,λk hk=>?_,λk k0 k1 hk=>?_,λk k0 k1 hk=>?_⟩,rfl⟩ ?_
    ·by_cases e:k=a
     ·subst e; exact⟨hb2,hb3,.inl rfl⟩
     ·simp[isB,qaS,e]at hk
    ·rw[qeu (by omega)]at hk; cases hk
    ·rcases hk with rfl|hk
     ·left; simp[isB,qaS]
     ·rw[qeu (by omega)]at hk; cases hk
    rintro k ⟨tm2,h1,defs,round⟩ ⟨S,ob,hk,hR1,hI1,rfl⟩ hK;have q2:=hK 2 rfl;have q5:=hK 5 rfl;have q6:=hK 6 rfl;have q7:=hK 7 rfl;simp[k2,k5,k6,k7]at q2 q5 q6 q7 hR1;clear hK;have t1:h1.get (h.n+4)=some (.rows [[.map (h.n+3)]]):=by rw[hR1.keep _ hB.lt hB.ta hB.tm,hB.t]
    have g1:h1.get h.n=some (.rows [[g.p.enc Pd.cells,g.keys.enc qac]]):=by rw[hR1.keep _ hB.lg hB.ga hB.gm,hB.gb]
    have hfl:=qoB hR1.m;simp -dsimp only[qrS]at hfl;simp -dsimp[q6,t1,hfl];rw[qaa];refine⟨λhc=>?_,λhc=>?_⟩
    ·simp at hc;simp -dsimp[q2,g1];refine qaf (λk2 st=>∃(i:Int) (S':List (Int × Bool)) (ob':List Bool),0<=i/\(k2:Int)=g.p.l.length-i/\(gK 37).run st.tm=.int .i64 i/\FR h0 (h.n+1) (h.n+3) S' ob' st.h/\FI g a S' ob' (-1)/\S'.length+2 * ob'.count false<=k/\(S'.length+2 * ob'.count false<k\/((∃q,isB S' q=true)/\∀q,isB S' q=true->i<=q))/\st.defs=[]) g.p.l.length
      ⟨0,S,ob,by omega,by omega,by simp,hR1,hI1,by omega,.inr ⟨?_,λq hq=>(hI1.i2 q hq).1⟩,rfl⟩ ?_
     ·cases hS:S with
      | nil=>rw[hS]at hc; simp at hc
      | cons e S2 =>
       refine⟨e.1,?_⟩;rw[qrW];exact hI1.tv e (by rw[hS]; simp)
     rintro k3 ⟨tm3,h3,defs,round⟩ ⟨i,S',ob',hi,hk3,h37,hR3,hI3,hmu,hor,rfl⟩ hK;have r6:=hK 6 rfl;have r7:=hK 7 rfl;have r36:=hK 36 rfl;simp[q6,q7]at r6 r7 r36 h37 hR3;clear hK;simp -dsimp[r36,h37];rw[qaa];refine⟨λhd=>?_,λhd=>?_⟩
     ·simp at hd;have t3:h3.get (h.n+4)=some (.rows [[.map (h.n+3)]]):=by rw[hR3.keep _ hB.lt hB.ta hB.tm,hB.t]
      have fi:fw .i64 (i+1)=i+1:=fw64 (by omega) (by omega);simp -dsimp[r6,h37,t3,qd9 hR3.m i];rw[qaa];refine⟨λhe=>?_,λhe=>?_⟩
      ·simp -dsimp[r7];refine WFS.by (qpT g hb1 hB hR3 hI3 (by omega) (by omega) he) ?_
       rintro v h4 ⟨S4,ob4,hR4,hI4,hmu4⟩;simp -dsimp[h37,fi];exact qah.intro (k3-1) (by omega) ⟨i+1,S4,ob4,by omega,by omega,by simp,hR4,hI4,by omega,.inl (by omega),rfl⟩
      ·simp -dsimp[h37,fi];refine qah.intro (k3-1) (by omega) ⟨i+1,S',ob',by omega,by omega,by simp,hR3,hI3,hmu,hor.imp id (λ⟨a1,a2⟩=>⟨a1,λq hq=>?_⟩),rfl⟩;have:=a2 q hq
       by_cases e:q=i
       ·subst e; rw[he]at hq; cases hq
       ·omega
     ·simp at hd;have hd':decide (i<(g.p.l.length:Int))=false:=by simpa using hd
      simp -dsimp[hd'];refine qah.intro (S'.length+2 * ob'.count false) ?_ ⟨S',ob',rfl,hR3,hI3,rfl⟩;rcases hor with h5|⟨⟨q,hq⟩,h5⟩
      ·exact h5
      ·have:=h5 q hq;have:=hI3.i2 q hq;omega
    ·simp at hc;have hS:S=[]:=by simpa using hc
     subst hS;have o1:h1.get (h.n+2)=some (.rows [[.sl (h.n+1) 0 g.p.l.length 1 true]]):=by rw[hR1.keep _ hB.lo hB.oa hB.om,hB.o]
     simp -dsimp[q5,o1];have hreach:=qpx hI1 hb1 hb2 hb3;have a1:=hR1.a;rw[hreach]at a1;have:=hR1.n;have:=hB.la;exact⟨⟨hb1,hb2,hb3⟩,a1,by omega⟩
  ·simp at hb2;simp -dsimp[hb2];intro _ _; omega
 ·simp at hb1;simp -dsimp[hb1]
noncomputable def qhx (g:Gr):Int:=if mayB g=true then idxP (λx=>false == x) ((qaB g 0).set 0 true) 0 else -1
@[simp]theorem qmL{id n e:Nat}{f:Bool}(h:0<n):qaw e (.sl id 0 n e f) (.int .i64 0)=some (.ptr id 0 0):=by
 have:=qam (e:=e) (id:=id) (b:=0) (n:=n) (f:=f) (k:=.i64) (i:=0) (by omega) (by omega);simpa using this
theorem qsE(g:Gr)(hg:g.Small){d:Bool}{mk:Nat}{h:Heap}:WF PR d mk (.fn 61 [] []) [.agg g.cells] h λr=>r=⟨.int .i64 (qhx g),h⟩:=by
 refine qBt f61 b61 [.tm 2] rfl rfl rfl rfl rfl rfl ?_;unfold b61;simp -dsimp[Gr.cells];refine WFS.by (qox g hg 0 (h:=h.push (.rows [[g.p.enc Pd.cells,g.keys.enc qac]])) (by simp)) ?_
 rintro v h1 ⟨hc,hn,hk⟩;rcases hc with ⟨hc,rfl⟩|⟨⟨hm,_,h0⟩,A,rfl,hA,hA1,hA2⟩
 ·have:qhx g = -1:=by
   unfold qhx;split
   ·rename_i hm;have:=(qaF hm).p0;exact absurd ⟨hm,by omega,by omega⟩ hc
   ·rfl
  simp -dsimp[this]
 ·simp only at hA hA1 hA2 hn;have hp0:=(qaF hm).p0;have hp60:=(qaF hm).p;have hl:(qaB g 0).length=g.p.l.length:=by simp[qaB]
  have e1:¬g.p.l=[]:=λe=>by rw[e]at hp0; simp at hp0
  have hAm:h.n<=A:=by simp at hA1; omega
  simp -dsimp[e1,hp0,hA,qbv (l:=qaB g 0) (r:=0) (by omega),hAm];rw[qdW];refine WFS.by (qlK (l:=(qaB g 0).set 0 true) (by simp[hl]) (λi i0 i1=>⟨.ptr A (0+i.toNat) 0,qam i0 (by simp[hl]at i1; exact i1),?_⟩) (by simp[hl]; omega)) ?_
  ·rw[qdL,qBp,Jab rfl,qcq,Nat.zero_add,qbv (by omega)];rfl
  ·intro v h2 e;cases e;have:qhx g=idxP (λx=>false == x) ((qaB g 0).set 0 true) 0:=by rw[qhx,Jab hm]
   simp -dsimp[this]
def inR(n:Int)(r:Rg):Bool:=decide (r.lo<=n)&&decide (n<=r.hi)
def hasB(l:List Rg)(n:Int):Bool:=l.any (inR n)
section
variable {d:Bool}{mk:Nat}{h:Heap}
theorem qp5(n:Int)(r:Rg){id:Nat}(hid:h.get id=some (.rows [[.int .i64 n]]))(hlt:id<h.n):WF PR d mk (.fn 210 [] [.ptr id 0 0]) [.agg r.cells] h λv=>v=⟨.bool (inR n r),h⟩:=by
 refine qBt f210 b210 [.tm 3] rfl rfl rfl rfl rfl rfl ?_;unfold b210;have e:¬id=h.n:=by omega
 simp -dsimp[hid,e,Rg.cells];rw[Gd_t];refine⟨λhb1=>?_,λhb1=>?_⟩
 ·simp -dsimp[hb1,hid,e,inR]
 ·simp -dsimp[hb1,inR]
theorem qqU(s:Sl Rg)(hs:s.l.length<1000000000)(n:Int):WF PR d mk (.fn 178 [] []) [s.enc Rg.cells,.int .i64 n] h λv=>v=⟨.bool (hasB s.l n),h⟩:=by
 refine qBt f178 b178 [.tm 4] rfl rfl rfl rfl rfl rfl ?_;unfold b178;simp -dsimp;refine WFS.by (qf5 (f:=223) (g:=209) (esz:=2) (ld:=some 2) (arg:=λr=>.agg r.cells) (p:=inR n) rfl rfl rfl rfl (λ_=>rfl) (λ_=>rfl) hs λr _=>qp5 n r (by simp) (by simp)) ?_
 intro v h' e;cases e;simp -dsimp[hasB]
theorem qq2(s:Sl Rg)(hs:s.l.length<1000000000)(n:Int):WF PR d mk (.fn 144 [] []) [s.enc Rg.cells,.int .i64 n] h λv=>v=⟨.bool (hasB s.l n),h⟩:=by
 refine qBt f144 b144 [.tm 4] rfl rfl rfl rfl rfl rfl ?_;unfold b144;simp -dsimp;refine WFS.by (qqU s hs n) ?_
 intro v h' e;cases e;simp -dsimp
end
@[simp]theorem maxInt_c{k l:IntKind}{n m:Int}{tm:Tm}:qco k tm n [.c (.int l m)]=some (.int k (max n m)):=by
 rw[qkw (m:=m) rfl]; rfl
@[simp]theorem minInt_c{k l:IntKind}{n m:Int}{tm:Tm}:qbS k tm n [.c (.int l m)]=some (.int k (min m n)):=by
 rw[qer (m:=m) rfl]; rfl
def qfM(r:Rg):List Int:=[min 1114112 (max r.lo 0),min 1114111 (max r.hi (-1))+1]
def qaO(l:List Rg):Nat->List Int
 | 0=>[0,1114112]
 | i+1=>qaO l i++qfM (lat l i)
def qaX(l:List Rg):List Int:=dd (qa8 (qaO l l.length))
theorem qfL(l:List Rg):∀i,(qaO l i).length=2+2 * i
 | 0=>rfl
 | i+1=>by simp[qaO,qfL l i,qfM]; omega
theorem qoV{mk:Nat}{h:Heap}{id:Nat}{f:Bool}{l xs:List Int}(hid:h.get id=some (.rows (qab l)))(hm:mk<=id)(hx:xs≠[])(hn:l.length+xs.length<4294967296) :
  ∃h',qaj mk h 1 8 (.sl id 0 l.length 1 f) (qab xs)=some ⟨.sl h.n 0 (l++xs).length 1 false,h'⟩/\h'.get h.n=some (.rows (qab (l++xs)))/\h'.n=h.n+1/\∀j,j<h.n->j≠id->h'.get j=h.get j:=by
 cases xs with
 | nil=>exact absurd rfl hx
 | cons x xs =>
  have h1:qdH (qab (x::xs))=true:=qe0 λy hy=>by
   simp only[qab,Jak]at hy; obtain⟨a,_,rfl⟩:=hy; rfl
  have hr:qal h (.sl id 0 l.length 1 f)=some (qab l):=by simp[qal,hid]; rw[List.take_of_length_le (by simp)]
  have hn':l.length+(xs.length+1)<4294967296:=by simpa using hn
  have e:qab (l++x::xs)=qab l++qab (x::xs):=by simp[qab]
  have h2:qdH ([V.int IntKind.i64 x]::qab xs)=true:=by simpa[qab]using h1
  cases f with
  | true =>
   refine⟨h.push (.rows (qab (l++x::xs))),?_,by simp,by simp,λj hj _=>by rw[qBq,Jaa (by omega)]⟩;simp only[qab,List.map_cons,qaj];rw[hr];simp only[qab]at h2;simp[qaI,hn',h2,qab]
  | false =>
   refine⟨(h.kill id).push (.rows (qab (l++x::xs))),?_,by simp,by simp,λj hj hji=>by rw[qBq,qBG,Jaa (by omega),qBr,Jaa hji]⟩;simp only[qab,List.map_cons,qaj];rw[hr];simp only[qab]at h2;simp[qaI,hn',h2,qab,hm]
structure BordH (h h':Heap) (C id:Nat) (f:Bool) (l:List Int):Prop where
 c:h'.get C=some (.rows [[.sl id 0 l.length 1 f]])
 lc:h.n<=C
 cn:C<h'.n
 li:h.n<=id
 idn:id<h'.n
 ne:id≠C
def BordV(h:Heap)(l:List Rg)(r:VH):Prop:=∃C id f L,r.v=.fn 228 [] [.ptr C 0 0]/\BordH h r.h C id f (qaX l)/\r.h.get id=some (.rows (qab (qaX l++L)))
theorem qm2(s:Sl Rg)(hs:s.l.length<100000000){mk:Nat}{h:Heap}(hmk:mk<=h.n):WF PR false mk (.fn 215 [] []) [s.enc Rg.cells] h λr=>BordV h s.l r/\h.n<=r.h.n/\∀i,i<h.n->r.h.get i=h.get i:=by
 refine qDT hmk ?_;refine WF.go f215 b215 [.tm 2] rfl rfl rfl rfl rfl rfl ?_;unfold b215;simp -dsimp;refine qaf (λk st=>∃(i:Int) (id:Nat) (f:Bool),0<=i/\(k:Int)=s.l.length-i/\(gK 9).run st.tm=.int .i64 i/\BordH h st.h (h.n+1) id f (qaO s.l i.toNat)/\st.h.get id=some (.rows (qab (qaO s.l i.toNat)))/\st.defs=[]) s.l.length
  ⟨0,h.n,true,by omega,by omega,by simp,⟨by simp[qaO],by omega,by simp,by omega,by simp,by omega⟩,by simp[qaO,qab],rfl⟩ ?_
 rintro k ⟨tm,h1,defs,round⟩ ⟨i,id,f,hi,hk,h9,hB,hid,rfl⟩ hK;have h0:=hK 0 rfl;have h3:=hK 3 rfl;have h7:=hK 7 rfl;have h8:=hK 8 rfl;simp at h0 h3 h7 h8 h9 hB hid;clear hK;simp -dsimp[h8,h9];rw[qaa];have hbl:=qfL s.l i.toNat;refine⟨λhc=>?_,λhc=>?_⟩
 ·simp at hc;obtain⟨r,hr⟩:∃r,lat s.l i.toNat=r:=⟨_,rfl⟩;have b1:=hB.c;have b2:=hB.cn;have b3:=hB.idn;have b4:=hB.li;have b5:=hB.ne;have q1:¬h.n+1=h1.n:=by omega
  have q2:h.n<=h1.n:=by omega
  have q3:¬id=h1.n:=by omega
  have q4:¬h.n+1=h1.n+1:=by omega
  have fb:fw .i64 (min 1114111 (max r.hi (-1))+1)=min 1114111 (max r.hi (-1))+1:=fw64 (by omega) (by omega);simp -dsimp[h7,h9,hi,hc,hr,Rg.cells,q2,h3,b1,q1,q4,fb];refine qBC ?_;have q5:¬id=h1.n+1:=by omega
  obtain⟨H,eH⟩:∃H,((h1.push (Obj.rows [[V.int IntKind.i64 0,V.int IntKind.i64 0]])).set h1.n (Obj.rows [[V.int IntKind.i64 r.lo,V.int IntKind.i64 r.hi]])).push (Obj.rows [[V.int IntKind.i64 (min 1114112 (max r.lo 0))],[V.int IntKind.i64 (min 1114111 (max r.hi (-1))+1)]])=H:=⟨_,rfl⟩;have y1:H.get id=some (.rows (qab (qaO s.l i.toNat))):=by rw[<-eH]; simp[q3,q5,hid]
  have y2:H.get (h1.n+1)=some (.rows (qab (qfM r))):=by rw[<-eH]; simp[qab,qfM]
  have y3:H.n=h1.n+2:=by rw[<-eH]; simp
  have y4:H.get (h.n+1)=h1.get (h.n+1):=by rw[<-eH,qBq,Jaa (by simp; omega),qBp,Jaa (by omega),qBq,Jaa (by omega)]
  rw[eH];rw[qaE (xs:=qab (qfM r)) (by simp[qal,y2,qab,qfM])];simp only[ev_t,qgb,Nat.reduceEqDiff,if_false,if_true];obtain⟨h5,w1,w2,w3,w4⟩:=qoV (mk:=h.n) (f:=f) (xs:=qfM r) y1 b4 (by simp[qfM]) (by rw[hbl]; simp[qfM]; omega);refine⟨_,w1,?_⟩;have y5:h5.get (h.n+1)=some (.rows [[.sl id 0 (qaO s.l i.toNat).length 1 f]]):=by rw[w4 _ (by omega) (Ne.symm b5),y4,b1]
  have hbu:qaO s.l (i.toNat+1)=qaO s.l i.toNat++qfM r:=by rw[qaO,hr]
  simp -dsimp[h3,y5,h9,fw64 (n:=i+1) (by omega) (by omega)];have hi2:(i+1).toNat=i.toNat+1:=by omega
  refine qah.intro (k-1) (by omega) ⟨i+1,H.n,false,by omega,by omega,by simp,⟨?_,by omega,by simp; omega,by omega,by simp; omega,by omega⟩,?_,rfl⟩
  ·rw[hi2,hbu,qBp,Jab rfl]; simp
  ·rw[hi2,hbu,qBp,Jaa (by omega),w2]
 ·simp at hc;have hc':decide (i<(s.l.length:Int))=false:=by simpa using hc
  have hi2:i.toNat=s.l.length:=by
   by_cases e:i.toNat=s.l.length
   ·exact e
   ·omega
  rw[hi2]at hB hid hbl;simp -dsimp[hc',h3,hB.c];refine WFS.by (R:=λr=>r=⟨.tup [],h1.set id (.rows (qab (qa8 (qaO s.l s.l.length))))⟩) ?_ ?_
  ·refine WF.prim (p:=qby) rfl ?_;have hlt:(qaO s.l s.l.length).length<4294967296:=by omega
   have hli:=hB.li;have e:qby h.n ([]++[V.sl id 0 (qaO s.l s.l.length).length 1 f,.fn 227 [] []]++[]) h1=some [⟨.tup [],h1.set id (.rows (qab (qa8 (qaO s.l s.l.length))))⟩]:=by
    simp[qby,qed,hid,hli,qex,hlt]
   exact qDI e (by simp) (λ_=>rfl) (by simp)
  ·intro v h2 e;cases e;have hne:=hB.ne;simp -dsimp[h3,hB.c,Ne.symm hne];have hlen:(qaO s.l s.l.length).length=(qa8 (qaO s.l s.l.length)).length:=by simp
   rw[hlen];refine WFS.by (qh5 (id:=id) (l:=qa8 (qaO s.l s.l.length)) (by simp) hB.li (by rw[<-hlen]; omega)) ?_
   rintro v h3' ⟨c1,c2,⟨f',rfl⟩,L,c4⟩;simp only at c1 c2 c4;have y6:h3'.get (h.n+1)=some (.rows [[.sl id 0 (qaO s.l s.l.length).length 1 f]]):=by rw[c2 _ (Ne.symm hne),qBp,Jaa (Ne.symm hne),hB.c]
   simp -dsimp[h3,y6];have:=hB.cn;have:=hB.idn;have:=hB.li;simp at c1;exact⟨h.n+1,id,f',L,rfl,⟨by simp; rfl,by omega,by simp; omega,by omega,by simp; omega,hne⟩,by show(Heap.set _ _ _).get id=_; rw[qBp,Jaa hne]; exact c4⟩
theorem qoQ{mk C id l:Nat}{f:Bool}{B L:List Int}{h:Heap}(J:Nat->Heap->Prop)(hB:1<=B.length)(hBl:B.length<1000000000)(hBr:∀x∈B,0<=x/\x<=1114112)
  (hcell:∀i h,J i h->h.get C=some (.rows [[.sl id 0 B.length 1 f]])/\h.get id=some (.rows (qab (B++L))))
  (hy:∀i h,J i h->i+1<B.length->WF PR true mk (.yld l) [.int .i64 (lat B i),.int .i64 (lat B (i+1)-1)] h λr=>r.v=.bool true/\J (i+1) r.h) (h0:J 0 h) :
  WF PR false mk (.fn 228 [] [.ptr C 0 0]) [.yld l] h λr=>J (B.length-1) r.h:=by
 refine WF.go f228 b228 [] rfl rfl rfl rfl rfl rfl ?_;unfold b228;simp -dsimp;refine qaf (λk st=>∃i:Int,1<=i/\i<=B.length/\(k:Int)=B.length-i/\(gK 3).run st.tm=.int .i64 i/\J (i.toNat-1) st.h/\st.defs=[]) (B.length-1) ⟨1,by omega,by omega,by omega,by simp,by simpa using h0,rfl⟩ ?_;rintro k ⟨tm,h1,defs,round⟩ ⟨i,hi,hi2,hk,h3,hJ,rfl⟩ hK;have q0:=hK 0 rfl;have q1:=hK 1 rfl;simp at q0 q1 h3 hJ;clear hK;obtain⟨c1,c2⟩:=hcell _ _ hJ;simp -dsimp[q1,h3,c1];rw[qaa];refine⟨λhc=>?_,λhc=>?_⟩
 ·simp at hc;have i0:0<=i:=by omega
  have j0:0<=i-1:=by omega
  have j1:i-1<B.length:=by omega
  have l1:i.toNat<(B++L).length:=by simp; omega
  have l2:i.toNat-1<(B++L).length:=by simp; omega
  have e1:lat (B++L) i.toNat=lat B i.toNat:=qev (by omega);have e2:lat (B++L) (i.toNat-1)=lat B (i.toNat-1):=qev (by omega);have m1:=hBr _ (qai (l:=B) (i:=i.toNat) (by omega));simp -dsimp[q0,q1,h3,c1,fw64 (n:=i-1) (by omega) (by omega),qam (e:=1) (id:=id) (b:=0) (n:=B.length) (f:=f) (k:=.i64) j0 j1,qam (e:=1) (id:=id) (b:=0) (n:=B.length) (f:=f) (k:=.i64) i0 hc,c2,qav l1,qav l2,e1,e2,fw64 (n:=lat B i.toNat-1) (by omega) (by omega)];have hyy:=hy _ _ hJ (by omega);rw[show i.toNat-1+1=i.toNat by omega]at hyy;refine WFS.by hyy ?_
  rintro v h2 ⟨rfl,hJ2⟩;simp -dsimp[h3,fw64 (n:=i+1) (by omega) (by omega)];exact qah.intro (k-1) (by omega) ⟨i+1,by omega,by omega,by omega,by simp,by rw[show(i+1).toNat-1=i.toNat by omega]; exact hJ2,rfl⟩
 ·simp at hc;have hc':decide (i<(B.length:Int))=false:=by simpa using hc
  simp -dsimp;have:i.toNat-1=B.length-1:=by omega
  rw[this]at hJ;exact hJ
def qbP(p:Int->Bool)(out:List Rg)(lo hi:Int):List Rg :=
 if p lo=true then(if 0<out.length/\(lat out (out.length-1)).hi=lo-1 then out.set (out.length-1) ⟨(lat out (out.length-1)).lo,hi⟩else out++[⟨lo,hi⟩])else out
def qbZ(p:Int->Bool)(B:List Int):Nat->List Rg
 | 0=>[]
 | i+1=>qbP p (qbZ p B i) (lat B i) (lat B (i+1)-1)
theorem qfw(p:Int->Bool)(B:List Int):∀i,(qbZ p B i).length<=i
 | 0=>by simp[qbZ]
 | i+1=>by
  have:=qfw p B i;simp only[qbZ,qbP];split
  ·split<;>simp<;>omega
  ·omega
def qkp(p:Int->Bool)(l:List Rg):List Rg:=qbZ p (qaX l) ((qaX l).length-1)
def slR(l:List Rg):Sl Rg:=if l.isEmpty then .nil else .of l
@[simp]theorem slR_l(l:List Rg):(slR l).l=l:=by unfold slR; cases l<;>rfl
def qsC(fv:V)(p:Int->Bool)(h:Heap):Prop:=∀d mk h',h.n<=h'.n->(∀i,i<h.n->h'.get i=h.get i)->∀n,WF PR d mk fv [.int .i64 n] h' λr=>r=⟨.bool (p n),h'⟩
theorem qj3{l:List Rg}{x:Int}(h:x∈qaX l):0<=x/\x<=1114112:=by
 rw[qaX,qjw,qc2]at h;have key:∀i,x∈qaO l i->0<=x/\x<=1114112:=by
  intro i;induction i with
  | zero=>simp[qaO]; omega
  | succ i ih =>
   intro h;rw[qaO,Jaj]at h;rcases h with h|h
   ·exact ih h
   ·simp[qfM]at h; omega
 exact key _ h
theorem qj2(l:List Rg):1<=(qaX l).length:=by
 have:(0:Int)∈qaX l:=by
  rw[qaX,qjw,qc2];have key:∀i,(0:Int)∈qaO l i:=by
   intro i;induction i with
   | zero=>simp[qaO]
   | succ i ih=>rw[qaO]; simp[ih]
  exact key _
 exact List.length_pos_of_mem this
theorem qj4(l:List Rg):(qaX l).length<=2+2 * l.length:=by
 have h1:=qkL (qa8 (qaO l l.length)) (qa8 (qaO l l.length)).length;have h2:=qfL l l.length;rw[qcZ]at h1;unfold qaX dd;rw[qcZ]; omega
structure PJ (p:Int->Bool) (B:List Int) (H0:Heap) (O i:Nat) (h:Heap):Prop where
 keep:∀q,q<H0.n->q≠O->h.get q=H0.get q
 n:H0.n<=h.n
 o:∃v,h.get O=some (.rows [[v]])/\Own h H0.n v 2 ((qbZ p B i).map Rg.cells)
theorem Own.len{h:Heap}{m e:Nat}{v:V}{rows:List (List V)}(hO:Own h m v e rows):lenV .sl v h=some (.int .i64 rows.length):=by
 rcases hO with ⟨rfl,rfl⟩|⟨id,rfl,_⟩<;>simp
theorem qcw{mk k:Nat}{h:Heap}:∀l:List Rg,allM (allM (freeze mk h (k+1))) (l.map Rg.cells)=some (l.map Rg.cells)
 | []=>rfl
 | x::l=>by
  have:=qcw (mk:=mk) (k:=k) (h:=h) l;have e:∀y,freeze mk h (k+1) (.int .i64 y)=some (.int .i64 y):=λy=>rfl;simp only[List.map_cons,Rg.cells,allM,e]at this ⊢;rw[this]
theorem qiK{h:Heap}{n m:Nat}{v:V}{l:List Rg}(hO:Own h m v 2 (l.map Rg.cells))(hn:n<=m):freeze n h qat v=some ((slR l).enc Rg.cells):=by
 rcases hO with ⟨rfl,e⟩|⟨id,rfl,h2,h3,_,h5⟩
 ·have:l=[]:=by simpa using e
  subst this; rfl
 ·have hr:qal h (.sl id 0 (l.map Rg.cells).length 2 false)=some (l.map Rg.cells):=by simp[qal,h2]; rw[List.take_of_length_le (by simp)]
  have hni:n<=id:=by omega
  have hne:l≠[]:=λe=>h5 (by simp[e]);rw[qc5,hr];simp only[qcw,qa3,hni,decide_true,cond];cases l with
  | nil=>exact absurd rfl hne
  | cons x l=>rfl
theorem qeJ{AP:Prog}{d:Bool}{mk:Nat}{f:Opd}{ps:List Nat}{asg body:IC}{fs:List Fr}{st:St}{Q:OS->Prop}(hr:st.round=false)
  (h1:∀(H0:Heap) (asg' body':IC),asg'=asg->body'=body->H0.n=st.h.n+2->(∀q,q<st.h.n->H0.get q=st.h.get q)->H0.get st.h.n=some .dfr->H0.get (st.h.n+1)=some (.loop .ready none st.tm ps asg' body') ->
   WF AP d mk (f.ev st.tm) [.yld (st.h.n+1)] H0 λr=>r.h.get (st.h.n+1)=some (.loop .ready none st.tm ps asg' body') /\
    nx AP d mk fs .normal ⟨st.tm,r.h.set (st.h.n+1) (.loop .exhausted none st.tm ps asg' body'),.mark st.h.n::st.defs,st.round⟩ Q ⟨⟩) :
  wk AP d mk (.rangeF f ps asg body) fs st Q ⟨⟩:=by
 refine qik hr ?_;refine W.mono (h1 _ asg body rfl rfl (by simp) (λq hq=>by rw[qBq,Jaa (by simp; omega),qBq,Jaa (by omega)]) (by simp) (by simp)) ?_;rintro r ⟨a,b⟩;exact⟨.ready,none,_,_,_,_,a,by simp,.inl ⟨rfl,b⟩⟩
theorem qC2{AP:Prog}{mk:Nat}{d:Bool}{l:Nat}{s0:LoopState}{pend:Option IC}{tm:Tm}{ps:List Nat}{asg body:IC}{args:List V}{h:Heap}{Q:VH->Prop}(hl:h.get l=some (.loop s0 pend tm ps asg body))(hs:s0=.ready)(hmk:mk<=l)(hlen:args.length=ps.length)
  (h1:∀B asg0 body0,asg0=asg->body0=body->B=h.set l (.loop .busy pend tm ps asg0 body0)->wk AP d mk asg [] ⟨qdr tm ps args,h,[],true⟩ (λr=>r.o=.normal/\r.s.defs=[]/\r.s.h=h /\
   wk AP d mk body [] ⟨r.s.tm,B,[],true⟩ (qli l Q ⟨⟩) ⟨⟩) ⟨⟩):WF AP d mk (.yld l) args h Q:=by
 refine WF.yld hl hmk hlen ?_;refine qcR asg (h1 _ asg body rfl rfl rfl) ?_;rintro⟨o,⟨tm1,h2,defs,rd⟩⟩ ⟨e1,e2,e3,hw⟩;simp only at e1 e2 e3 hw;subst e1 e2 e3 hs;exact⟨rfl,rfl,_,_,_,_,_,hl,hw⟩
theorem qDH{AP:Prog}{mk:Nat}{d:Bool}{l:Nat}{pend:Option IC}{tm:Tm}{ps:List Nat}{asg body asg0 body0:IC}{args:List V}{h:Heap}{Q:VH->Prop}(hl:h.get l=some (.loop .ready pend tm ps asg0 body0))(ea:asg0=asg)(eb:body0=body)(hmk:mk<=l)(hlen:args.length=ps.length)
  (h1:wk AP d mk asg [] ⟨qdr tm ps args,h,[],true⟩ (λr=>r.o=.normal/\r.s.defs=[]/\r.s.h.get l=some (.loop .ready pend tm ps asg0 body0) /\
   wk AP d mk body [] ⟨r.s.tm,r.s.h.set l (.loop .busy pend tm ps asg0 body0),[],true⟩ (qli l Q ⟨⟩) ⟨⟩) ⟨⟩):WF AP d mk (.yld l) args h Q:=by
 subst ea eb;refine WF.yld hl hmk hlen ?_;refine qcR asg0 h1 ?_;rintro⟨o,⟨tm1,h2,defs,rd⟩⟩ ⟨e1,e2,e3,hw⟩;simp only at e1 e2 e3 hw;subst e1 e2;exact⟨rfl,rfl,_,_,_,_,_,e3,hw⟩
theorem qnU(s:Sl Rg)(hs:s.l.length<100000000)(fv:V)(hfv:fv.cells=[fv])(p:Int->Bool){d:Bool}{mk:Nat}{h:Heap}(hp:qsC fv p h):WF PR d mk (.fn 187 [] []) [fv,s.enc Rg.cells] h λr=>r=⟨(slR (qkp p s.l)).enc Rg.cells,h⟩:=by
 refine qBt f187 b187 [.tm 4] rfl rfl rfl rfl rfl rfl ?_;unfold b187;simp -dsimp[hfv];refine WFS.by (qm2 s hs (h:=(h.push (.rows [[fv]])).push (.rows [[.nils]])) (by simp<;>omega)) ?_
 rintro v h1 ⟨⟨C,id,f,L,rfl,hB,hid⟩,hn1,hk1⟩;simp only at hB hid hn1;have b1:h1.get h.n=some (.rows [[fv]]):=by rw[hk1 h.n (by simp<;>omega)]; simp
 have b2:h1.get (h.n+1)=some (.rows [[.nils]]):=by rw[hk1 (h.n+1) (by simp)]; simp
 have b3:∀q,q<h.n->h1.get q=h.get q:=λq hq=>by rw[hk1 q (by simp<;>omega),qBq,Jaa (by simp<;>omega),qBq,Jaa (by omega)]
 simp at hn1;simp -dsimp;refine qgr (λst=>st.h=h1/\(gK 2).run st.tm=.ptr h.n 0 0/\(gK 5).run st.tm=.ptr (h.n+1) 0 0/\(gK 10).run st.tm=.fn 228 [] [.ptr C 0 0]/\st.defs=[]/\st.round=false) (by simp) ?_;rintro⟨tm,h2,defs,round⟩ ⟨rfl,k2,k5,k10,rfl,rfl⟩;simp only at k2 k5 k10 hB hid b1 b2 b3 hn1;refine qeJ rfl ?_;intro H0 asg body hasg hbody z1 z2 z3 z4;simp only[ev_t,k10];simp only at z1 z2 z3 z4;have hC:=hB.c;have lC:=hB.lc;have nC:=hB.cn;have lI:=hB.li;have nI:=hB.idn;simp at lC lI;have hblen:=qj4 s.l;refine W.mono (qoQ (C:=C) (id:=id) (f:=f) (B:=qaX s.l) (L:=L) (λi h'=>PJ p (qaX s.l) H0 (h.n+1) i h') (qj2 s.l) (by omega) (λx hx=>qj3 hx) ?_ ?_ ⟨λ_ _ _=>rfl,Jac _,.nils,by rw[z2 _ (by omega),b2],.inl ⟨rfl,rfl⟩⟩) ?_
 ·intro i h' hJ;exact⟨by rw[hJ.keep C (by omega) (by omega),z2 C (by omega),hC],by rw[hJ.keep id (by omega) (by omega),z2 id (by omega),hid]⟩
 ·intro i h' hJ hi;obtain⟨w1,w2,v,w3,w4⟩:=hJ;have hl:h'.get (h2.n+1)=some (.loop .ready none tm [11,12] asg body):=by rw[w1 _ (by omega) (by omega),z4]
  refine qC2 hl rfl (by omega) rfl ?_;intro B asg0 body0 e1 e2 hB2;have e0:¬h.n=h2.n+1:=by omega
  have e1:¬h.n+1=h2.n+1:=by omega
  have g0:B.get h.n=some (.rows [[fv]]):=by rw[hB2,qBp,Jaa e0,w1 _ (by omega) (by omega),z2 _ (by omega),b1]
  have g1:B.get (h.n+1)=some (.rows [[v]]):=by rw[hB2,qBp,Jaa e1,w3]
  have g2:B.n=h'.n:=by rw[hB2,qBB]
  have g3:B.get (h2.n+1)=some (.loop .busy none tm [11,12] asg0 body0):=by rw[hB2,qBp,Jab rfl]
  have g4:∀q,q≠h2.n+1->B.get q=h'.get q:=λq hq=>by rw[hB2,qBp,Jaa hq]
  have g5:Own B H0.n v 2 ((qbZ p (qaX s.l) i).map Rg.cells):=by
   rcases w4 with q|⟨id,q1,q2,q3,q4,q5⟩
   ·exact .inl q
   ·exact .inr ⟨id,q1,by rw[g4 _ (by omega),q2],q3,by omega,q5⟩
  have hl2:h'.get (h2.n+1)=some (.loop .ready none tm [11,12] asg0 body0):=by rw[hl,‹asg0=asg›,‹body0=body›]
  clear hB2;rw[hasg];simp -dsimp;rw[hbody];simp -dsimp[k2,g0,e0];have hgo:∀(h4:Heap) (v':V),Own h4 H0.n v' 2 ((qbZ p (qaX s.l) (i+1)).map Rg.cells)->h4.get (h.n+1)=some (.rows [[v']])->h4.get (h2.n+1)=some (.loop .busy none tm [11,12] asg0 body0)->h'.n<=h4.n->(∀q,q<H0.n->q≠h.n+1->h4.get q=B.get q) ->
    PJ p (qaX s.l) H0 (h.n+1) (i+1) (h4.set (h2.n+1) (.loop .ready none tm [11,12] asg0 body0)):=by
   intro h4 v' o1 o2 o3 o4 o5;refine⟨λq hq hq2=>?_,by simp; omega,v',by rw[qBp,Jaa e1,o2],?_⟩
   ·rw[qBp];split
    ·rename_i hq3; rw[hq3,<-hl2,w1 _ (by omega) (by omega)]
    ·rename_i hq3; rw[o5 q hq hq2,g4 _ hq3,w1 _ hq hq2]
   ·rcases o1 with q|⟨id,q1,q2,q3,q4,q5⟩
    ·exact .inl q
    ·exact .inr ⟨id,q1,by rw[qBp,Jaa (by omega),q2],q3,by simpa using q4,q5⟩
  refine WFS.by (hp true h.n B (by omega) (λq hq=>by rw[g4 q (by omega),w1 _ (by omega) (by omega),z2 _ (by omega),b3 _ (by omega)]) _) ?_
  intro r h3 e;cases e;simp -dsimp;rw[qaa];obtain⟨out,hout⟩:∃o,qbZ p (qaX s.l) i=o:=⟨_,rfl⟩;obtain⟨lo,hlo⟩:∃o,lat (qaX s.l) i=o:=⟨_,rfl⟩;obtain⟨hi2,hhi⟩:∃o,lat (qaX s.l) (i+1)-1=o:=⟨_,rfl⟩;have hup:qbZ p (qaX s.l) (i+1)=qbP p out lo hi2:=by rw[qbZ,hout,hlo,hhi]
  have hol:out.length<=i:=by rw[<-hout]; exact qfw _ _ _
  have lo1:0<=lo/\lo<=1114112:=by rw[<-hlo]; exact qj3 (qai (by omega))
  rw[hup]at hgo;rw[hout]at g5;simp only[hlo,hhi];have hlen:=g5.len;rw[List.length_map]at hlen;refine⟨λhb=>?_,λhb=>?_⟩
  ·have hb':p lo=false:=by simpa using hb
   simp -dsimp;refine⟨rfl,_,_,_,_,_,_,g3,rfl,hgo B v (by simpa[qbP,hb']using g5) g1 g3 (by omega) λ_ _ _=>rfl⟩
  have hb':p lo=true:=by simpa using hb
  have happ:∀tm2,(gK 5).run tm2=.ptr (h.n+1) 0 0->(gK 6).run tm2=.int .i64 lo->(gK 7).run tm2=.int .i64 hi2->qbP p out lo hi2=out++[⟨lo,hi2⟩] ->
    wk PR true h.n (.ops [Pr.i 37 (IOp.r (RdO.load none (Opd.t 5))),Pr.i 38 (IOp.p (PO.mov (Opd.t 6))),Pr.i 39 (IOp.p (PO.mov (Opd.t 7))),
     Pr.i 40 (IOp.p (PO.build [V.int IntKind.i64 0,V.int IntKind.i64 0] [(0,1,Opd.t 38),(1,1,Opd.t 39)])),
     Pr.i 41 (IOp.a (AO.bslice true [V.int IntKind.i64 0,V.int IntKind.i64 0] 1 [(0,Opd.t 40)]) none),
     Pr.i 42 (IOp.w (WO.append 2 16 (Opd.t 37) (Opd.t 41))),n (IOp.w (WO.store 1 (Opd.t 5) (Opd.t 42)))]) [Fr.block 1] ⟨tm2,B,[],true⟩
     (qli (h2.n+1) (λr=>r.v=V.bool true/\PJ p (qaX s.l) H0 (h.n+1) (i+1) r.h) { }) { }:=by
   intro tm2 t5 t6 t7 hps;simp -dsimp[t5,t6,t7,g1];rw[qaE (xs:=[[.int .i64 lo,.int .i64 hi2]]) (by simp)];simp -dsimp;refine qBC ?_;obtain⟨v',h4,a1,a2,a3,a4,a5⟩:=qaC (mk:=h.n) (bytes:=16) (xs:=[[.int .i64 lo,.int .i64 hi2]]) g5 (by omega) (by simp) (by simp; omega) (by omega) (by omega);refine⟨_,a1,?_⟩;have sv:∀j,j<H0.n->slId v≠some j:=λj hj=>g5.slId hj;have q1:h4.get (h.n+1)=some (.rows [[v]]):=by rw[a4 _ (by omega) (sv _ (by omega)),g1]
   have vc:=a2.cells;have q2:h.n<=h.n+1:=by omega
   simp -dsimp[t5,q1,vc.1,vc.2];refine⟨rfl,.busy,none,tm,[11,12],asg0,body0,?_,rfl,hgo _ v' ?_ ?_ ?_ ?_ ?_⟩
   ·rw[qBp,Jaa (by omega),a4 _ (by omega) (sv _ (by omega)),g3]
   ·rw[hps,List.map_append];rcases a2 with ⟨q,q'⟩|⟨id,q3,q4,q5,q6,q7⟩
    ·exact .inl ⟨q,q'⟩
    ·exact .inr ⟨id,q3,by rw[qBp,Jaa (by omega),q4]; rfl,q5,by simpa using q6,by simp⟩
   ·rw[qBp,Jab rfl]
   ·rw[qBp,Jaa (by omega),a4 _ (by omega) (sv _ (by omega)),g3]
   ·simp; omega
   ·intro q hq hq2;rw[qBp,Jaa hq2,a4 _ (by omega) (sv _ hq)]
  simp -dsimp[k5,g1,e1,hlen,fw64 (n:=(out.length:Int)-1) (by omega) (by omega)];rw[Gd_t];refine⟨λhc=>?_,λhc=>?_⟩
  ·simp at hc;rcases g5 with ⟨q,q'⟩|⟨id2,q3,q4,q5,q6,q7⟩
   ·simp at q'; subst q'; simp at hc
   rw[List.length_map]at q3;have j0:0<=(out.length:Int)-1:=by omega
   have j1:(out.length:Int)-1<(out.length:Nat):=by omega
   have j2:((out.length:Int)-1).toNat=out.length-1:=by omega
   have j3:(out.map Rg.cells)[out.length-1]?=some (lat out (out.length-1)).cells:=by rw[List.getElem?_map,qaz (by omega)]; rfl
   have j4:¬id2=h2.n+1:=by omega
   simp -dsimp[hc,k5,g1,q3,q4,qam (e:=2) (id:=id2) (b:=0) (n:=out.length) (f:=false) (k:=.i64) j0 j1,j2,j3,Rg.cells,fw64 (n:=lo-1) (by omega) (by omega)];rw[qaa];refine⟨λhd=>?_,λhd=>?_⟩
   ·simp at hd;have q8:h.n<=id2:=by omega
    simp -dsimp[k5,e1,g1,q3,q4,qam (e:=2) (id:=id2) (b:=0) (n:=out.length) (f:=false) (k:=.i64) j0 j1,j2,j3,Rg.cells,q8];refine⟨rfl,.busy,none,tm,[11,12],asg0,body0,?_,rfl,hgo _ v ?_ ?_ ?_ ?_ ?_⟩
    ·rw[qBp,Jaa (by omega),g3]
    ·have e5:qbP p out lo hi2=out.set (out.length-1) ⟨(lat out (out.length-1)).lo,hi2⟩:=by
      simp only[qbP,hb',if_true]; rw[Jab ⟨by omega,hd⟩]
     rw[e5,List.map_set];refine .inr ⟨id2,by simpa using q3,by rw[qBp,Jab rfl]; rfl,q5,by simpa using q6,by simpa using q7⟩
    ·rw[qBp,Jaa (by omega),g1]
    ·rw[qBp,Jaa (by omega),g3]
    ·simp; omega
    ·intro q hq hq2;rw[qBp,Jaa (by omega)]
   ·simp at hd;simp -dsimp[-qar];refine happ _ ?_ ?_ ?_ (by simp[qbP,hb',hd])<;>simp[k5]
  ·simp at hc;have hz:out.length=0:=by omega
   have:¬(1:Int)<=(out.length:Int):=by omega
   simp -dsimp[this,-qar];refine happ _ ?_ ?_ ?_ (by simp[qbP,hb',hz])<;>simp[k5]
 ·rintro⟨v,h'⟩ ⟨w1,w2,u,w3,w4⟩;simp only at w1 w2 w3 w4 ⊢;refine⟨by rw[w1 _ (by omega) (by omega),z4],?_⟩;have g5:h'.get h2.n=some .dfr:=by rw[w1 _ (by omega) (by omega),z3]
  have e1:¬h.n+1=h2.n+1:=by omega
  have e2:¬h2.n=h2.n+1:=by omega
  have e3:¬h.n=h2.n:=by omega
  have e4:h.n<=h2.n:=by omega
  have e5:¬h2.n+1=h2.n:=by omega
  simp -dsimp[k5,w3,g5,e3,e4];refine qiK (m:=H0.n) ?_ (by omega);rcases w4 with ⟨q,q'⟩|⟨id2,q3,q4,q5,q6,q7⟩
  ·exact .inl ⟨q,q'⟩
  ·exact .inr ⟨id2,q3,by rw[qBr,Jaa (by omega),qBp,Jaa (by omega),q4]; rfl,q5,by simpa using q6,q7⟩
theorem qDt{AP:Prog}{d:Bool}{mk f:Nat}{a args:List V}{h:Heap}{Q:VH->Prop}(h1:WF AP d mk (.fn f [] []) (a++args) h Q):WF AP d mk (.fn f a []) args h Q:=by
 refine W.eq h1 λn=>?_;cases n with
 | zero=>rfl
 | succ n=>simp[evCall]
theorem qiF(s:Sl Rg)(hs:s.l.length<1000000000)(h:Heap):qsC (.fn 178 [s.enc Rg.cells] []) (hasB s.l) h:=by
 intro d mk h' _ _ n;refine qDt ?_
 exact qqU s hs n
theorem qow{h:Heap}{n m:Nat}{v:V}{l:List Rg}(hO:OwnJ h m v 2 (l.map Rg.cells))(hn:n<=m):∃s:Sl Rg,s.l=l/\freeze n h qat v=some (s.enc Rg.cells):=by
 rcases hO with ⟨rfl,e⟩|⟨id,L,rfl,h2,h3,h4⟩
 ·have:l=[]:=by simpa using e
  subst this; exact⟨.nil,rfl,rfl⟩
 ·have hr:qal h (.sl id 0 (l.map Rg.cells).length 2 false)=some (l.map Rg.cells):=by simp[qal,h2]
  have hni:n<=id:=by omega
  refine⟨.of l,rfl,?_⟩;rw[qc5,hr];simp only[qcw,qa3,hni,decide_true,cond];rfl
theorem qiJ{l:List Rg}{n:Nat}{h:Heap}:freeze n h qat ((slR l).enc Rg.cells)=some ((slR l).enc Rg.cells):=by
 cases l with
 | nil=>rfl
 | cons x l =>
  show(match allM (allM (freeze n h 15)) ((x::l).map Rg.cells)with|some r=>some (V.slR r false)|none=>none)=_;rw[qcw]; rfl
theorem qkO{v:V}{ls:List (Sl Rg)}(hlen:∀h,lenV .sl v h=some (.int .i64 ls.length))(hget:∀i:Int,0<=i->i<ls.length->∃p,qaw 1 v (.int .i64 i)=some p/\∀h,qcp none p h=some ((lat ls i.toNat).enc Rg.cells))
  (hsm:ls.length<1000000) (hsum:∀i,i<=ls.length->(qbt ls i).length<1000000000) {d:Bool}{mk:Nat}{h:Heap} :
  WF PR d mk (.fn 193 [] []) [v] h λr=>∃s:Sl Rg,s.l=qbt ls ls.length/\r=⟨s.enc Rg.cells,h⟩:=by
 have h1:WF PR d mk (.fn 193 [] []) [v] h λr=>r.h=h/\∃s:Sl Rg,s.l=qbt ls ls.length/\r.v=s.enc Rg.cells:=by
  refine qBE (f:=193) (AP:=PR) (F:=f193) (args:=[v]) (first:=[]) (cap:=[]) (Q:=λv=>∃s:Sl Rg,s.l=qbt ls ls.length/\v=s.enc Rg.cells) rfl rfl rfl (Nat.le_of_ble_eq_true rfl) ?_;show wbody PR d h.n f193 [v] h _;rw[qk8 (F:=f193) (G:=qkP true 2 16 218) shapes.2.2.1 rfl];refine qhi (enc:=Rg.cells) (ls:=ls) (zero:=[.int .i64 0,.int .i64 0]) fn218 rfl rfl (by omega) (Jac _) (λa=>⟨rfl,by simp[Rg.cells]⟩) hlen hget hsm hsum ?_;intro v' h' hO _ _;obtain⟨s,e1,e2⟩:=qow hO (Jac _);exact⟨_,e2,s,e1,rfl⟩
 refine W.mono h1 ?_;rintro⟨v',h'⟩ ⟨e1,s,e2,e3⟩;simp only at e1 e3;subst e1 e3;exact⟨s,e2,rfl⟩
theorem qqn{d:Bool}{mk:Nat}{h:Heap}(x y:Bool):WF PR d mk (.fn 211 [] []) [.bool x,.bool y] h λr=>r=⟨.bool (x&&y),h⟩:=by
 refine qBt f211 b211 [.tm 4] rfl rfl rfl rfl rfl rfl ?_;unfold b211;cases x<;>simp -dsimp
theorem qpU{d:Bool}{mk:Nat}{h:Heap}(x y:Bool):WF PR d mk (.fn 155 [] []) [.bool x,.bool y] h λr=>r=⟨.bool (x && !y),h⟩:=by
 refine qBt f155 b155 [.tm 4] rfl rfl rfl rfl rfl rfl ?_;unfold b155;cases x<;>simp -dsimp
def twoL(q:Bool->Bool->Bool)(a b:List Rg):List Rg:=qkp (λn=>q (hasB a n) (hasB b n)) (a++b)
theorem qq7{k:Nat}{q:Bool->Bool->Bool}(hk:∀d mk h x y,WF PR d mk (.fn k [] []) [.bool x,.bool y] h λr=>r=⟨.bool (q x y),h⟩)(a b:Sl Rg)(ha:a.l.length<1000000000)(hb:b.l.length<1000000000){A X Y:Nat}{h:Heap}
  (hA:h.get A=some (.rows [[.fn k [] []]])) (hX:h.get X=some (.rows [[.fn 178 [a.enc Rg.cells] []]])) (hY:h.get Y=some (.rows [[.fn 178 [b.enc Rg.cells] []]])) (lA:A<h.n) (lX:X<h.n) (lY:Y<h.n) :
  qsC (.fn 192 [] [.ptr A 0 0,.ptr X 0 0,.ptr Y 0 0]) (λn=>q (hasB a.l n) (hasB b.l n)) h:=by
 intro d mk h' hn hk2 n;refine qBt f192 b192 [.tm 5] rfl rfl rfl rfl rfl rfl ?_;unfold b192;have gA:h'.get A=some (.rows [[.fn k [] []]]):=by rw[hk2 A lA,hA]
 have gX:h'.get X=some (.rows [[.fn 178 [a.enc Rg.cells] []]]):=by rw[hk2 X lX,hX]
 have gY:h'.get Y=some (.rows [[.fn 178 [b.enc Rg.cells] []]]):=by rw[hk2 Y lY,hY]
 simp -dsimp[gA,gX,gY];refine WFS.by (qiF a ha h' true _ h' (Jac _) (λ_ _=>rfl) n) ?_
 intro v h1 e;cases e;simp -dsimp[gY];refine WFS.by (qiF b hb h' true _ h' (Jac _) (λ_ _=>rfl) n) ?_
 intro v h1 e;cases e;simp -dsimp;refine WFS.by (hk true _ h' _ _) ?_
 intro v h1 e;cases e;simp -dsimp[gA,gX,gY]
theorem qqE{k:Nat}{q:Bool->Bool->Bool}(hk:∀d mk h x y,WF PR d mk (.fn k [] []) [.bool x,.bool y] h λr=>r=⟨.bool (q x y),h⟩)(a b:Sl Rg)(ha:a.l.length<40000000)(hb:b.l.length<40000000){d:Bool}{mk:Nat}{h:Heap} :
  WF PR d mk (.fn 154 [] []) [a.enc Rg.cells,b.enc Rg.cells,.fn k [] []] h λr=>r=⟨(slR (twoL q a.l b.l)).enc Rg.cells,h⟩:=by
 refine qBt f154 b154 [.tm 6] rfl rfl rfl rfl rfl rfl ?_;unfold b154;simp -dsimp;refine WFS.by (qkO (ls:=[a,b]) (λh=>by simp) ?_ (by simp) ?_) ?_
 ·intro i h0 h1;have h2:i=0\/i=1:=by simp at h1; omega
  rcases h2 with rfl|rfl
  ·exact⟨.ptrR [a.enc Rg.cells] 0,rfl,λh=>rfl⟩
  ·exact⟨.ptrR [b.enc Rg.cells] 0,rfl,λh=>rfl⟩
 ·intro i hi;have h2:i=0\/i=1\/i=2:=by simp at hi; omega
  have e0:lat [a,b] 0=a:=rfl;have e1:lat [a,b] 1=b:=rfl;rcases h2 with rfl|rfl|rfl<;>simp[qbt,e0,e1]<;>omega
 rintro v h1 ⟨s,e1,e⟩;cases e;have e2:s.l=a.l++b.l:=by rw[e1]; rfl
 simp -dsimp;refine WFS.by (qnU s (by rw[e2,Jao]; omega) _ rfl _ (qq7 hk a b (by omega) (by omega) (by simp) (by simp) (by simp) (by simp<;>omega) (by simp<;>omega) (by simp))) ?_
 intro v h1 e;cases e;simp -dsimp;rw[e2];exact qiJ
section
variable {d:Bool}{mk:Nat}{h:Heap}
theorem qsH(a b:Sl Rg)(ha:a.l.length<40000000)(hb:b.l.length<40000000):WF PR d mk (.fn 181 [] []) [a.enc Rg.cells,b.enc Rg.cells] h λr=>r=⟨(slR (twoL and a.l b.l)).enc Rg.cells,h⟩:=by
 refine qBt f181 b181 [.tm 4] rfl rfl rfl rfl rfl rfl ?_;unfold b181;simp -dsimp;refine WFS.by (qqE (q:=and) (λd mk h x y=>qqn x y) a b ha hb) ?_
 intro v h1 e;cases e;simp -dsimp;exact qiJ
def qrR(x y:Bool):Bool:=x && !y
theorem qsF(a b:Sl Rg)(ha:a.l.length<40000000)(hb:b.l.length<40000000):WF PR d mk (.fn 122 [] []) [a.enc Rg.cells,b.enc Rg.cells] h λr=>r=⟨(slR (twoL qrR a.l b.l)).enc Rg.cells,h⟩:=by
 refine qBt f122 b122 [.tm 4] rfl rfl rfl rfl rfl rfl ?_;unfold b122;simp -dsimp;refine WFS.by (qqE (q:=qrR) (λd mk h x y=>qpU x y) a b ha hb) ?_
 intro v h1 e;cases e;simp -dsimp;exact qiJ
def qgL(l:List Rg):List Rg:=qkp (hasB l) l
theorem qsD(a:Sl Rg)(ha:a.l.length<40000000):WF PR d mk (.fn 151 [] []) [a.enc Rg.cells] h λr=>r=⟨(slR (qgL a.l)).enc Rg.cells,h⟩:=by
 refine qBt f151 b151 [.tm 2] rfl rfl rfl rfl rfl rfl ?_;unfold b151;simp -dsimp;refine WFS.by (qnU a (by omega) _ rfl _ (qiF a (by omega) h)) ?_
 intro v h1 e;cases e;simp -dsimp;exact qiJ
def qtY(l:List Rg):Bool:=decide (0<(twoL qrR l [⟨55296,57343⟩]).length)
theorem qrf(a:Sl Rg)(ha:a.l.length<40000000):WF PR d mk (.fn 137 [] []) [a.enc Rg.cells] h λr=>r=⟨.bool (qtY a.l),h⟩:=by
 refine qBt f137 b137 [.tm 2] rfl rfl rfl rfl rfl rfl ?_;unfold b137;simp -dsimp;refine WFS.by (qsF a (Sl.full [⟨55296,57343⟩]) ha (by simp)) ?_
 intro v h1 e;cases e;simp -dsimp[qtY]
end
structure Gr.Fine (g:Gr):Prop extends Gr.Small g where
 fr:∀p∈g.p.l,∀a∈p.a.l,∀s∈a.l,s.r.l.length<40000000
def qmb(ob:List Bool)(s:Sy):Bool:=if s.kind=2 then !(lat ob s.n.toNat)else if s.kind=0 then decide (s.r.l=[])else !qtY s.r.l
def qjx(ob:List Bool)(a:Sl Sy):Bool:=!a.l.any (qmb ob)
section
variable {d:Bool}{mk:Nat}{h:Heap}{ob:List Bool}{O B C:Nat}
theorem qpa(hB:h.get B=some (.rows [[.sl O 0 ob.length 1 true]]))(hO:h.get O=some (.rows (qao ob)))(lB:B<h.n)(lO:O<h.n)(s:Sy)(hs:SyOk ob.length s)(hr:s.r.l.length<40000000) :
  WF PR d mk (.fn 136 [] [.ptr B 0 0]) [.agg s.cells] h λr=>r=⟨.bool (qmb ob s),h⟩:=by
 refine qBt f136 b136 [.tm 3] rfl rfl rfl rfl rfl rfl ?_;unfold b136;have e1:¬B=h.n:=by omega
 have e2:¬O=h.n:=by omega
 simp -dsimp[Sy.cells,e1];rw[qaa];refine⟨λhb=>?_,λhb=>?_⟩
 ·simp at hb;have hn:=hs.non hb;have c0:0<=s.n:=hn.1;have c1:s.n<((ob.length:Nat):Int):=hn.2.1;simp -dsimp[hB,e1,e2,qam (e:=1) (id:=O) (b:=0) (n:=ob.length) (f:=true) (k:=.i64) c0 c1,hO,qbv (l:=ob) (r:=s.n.toNat) (by omega),qmb,hb]
 ·simp at hb;simp -dsimp;rw[qaa];refine⟨λhc=>?_,λhc=>?_⟩
  ·simp at hc;simp -dsimp[qmb,hb,hc]
  ·simp at hc;simp -dsimp;refine WFS.by (qrf s.r hr) ?_
   intro v h' e;cases e;simp -dsimp[qmb,hb,hc]
theorem qoa(hC:h.get C=some (.rows [[.fn 136 [] [.ptr B 0 0]]]))(hB:h.get B=some (.rows [[.sl O 0 ob.length 1 true]]))(hO:h.get O=some (.rows (qao ob)))(lC:C<h.n)(lB:B<h.n)(lO:O<h.n)(a:Sl Sy)(ha:a.l.length<1000000000)(hs:∀s∈a.l,SyOk ob.length s/\s.r.l.length<40000000) :
  WF PR d mk (.fn 138 [] [.ptr C 0 0]) [a.enc Sy.cells] h λr=>r=⟨.bool (qjx ob a),h⟩:=by
 refine qBt f138 b138 [.tm 3] rfl rfl rfl rfl rfl rfl ?_;unfold b138;simp -dsimp[hC];refine WFS.by (qf5 (f:=91) (g:=57) (esz:=3) (ld:=some 3) (arg:=λs=>.agg s.cells) (p:=qmb ob) rfl rfl rfl rfl (λ_=>rfl) (λ_=>rfl) ha λs hm=>qpa hB hO lB lO s (hs s hm).1 (hs s hm).2) ?_
 intro v h' e;cases e;simp -dsimp[qjx]
end
def qbj(g:Gr)(ob:List Bool):Nat->List Bool × Bool
 | 0=>(ob,false)
 | i+1=>let r:=qbj g ob i
  if lat r.1 i=false/\(lat g.p.l i).a.l.any (qjx r.1)=true then(r.1.set i true,true)else r
def qfX(g:Gr):Nat->List Bool->List Bool
 | 0,ob=>ob
 | k+1,ob=>let r:=qbj g ob g.p.l.length
  if r.2=true then qfX g k r.1 else r.1
def qe4(g:Gr):Sl Bool:=if mayB g=true then .of (qfX g (g.p.l.length+1) (List.replicate g.p.l.length false))else .nil
theorem qdf(g:Gr)(ob:List Bool):∀i,(qbj g ob i).1.length=ob.length
 | 0=>rfl
 | i+1=>by simp only[qbj]; split<;>simp[qdf g ob i]
theorem count_set{ob:List Bool}{i:Nat}(hi:i<ob.length)(h:lat ob i=false):(ob.set i true).count false+1=ob.count false:=by
 rw[lat_eq hi]at h;rw[List.count_set hi,h];have:0<ob.count false:=List.count_pos_iff.2 (h ▸ List.getElem_mem hi);simp; omega
theorem qe3(g:Gr)(ob:List Bool):∀i,i<=ob.length->(qbj g ob i).1.count false+(if(qbj g ob i).2=true then 1 else 0)<=ob.count false
 | 0,_=>by simp[qbj]
 | i+1,hi=>by
  have ih:=qe3 g ob i (by omega);simp only[qbj];split
  ·rename_i hc;have:=count_set (ob:=(qbj g ob i).1) (i:=i) (by rw[qdf]; omega) hc.1;simp; split at ih<;>omega
  ·exact ih
def qj5(b:Bool):List V:=[.bool b]
theorem qg8{mk k:Nat}{h:Heap}:∀l:List Bool,allM (allM (freeze mk h (k+1))) (qao l)=some (qao l)
 | []=>rfl
 | x::l=>by
  have:=qg8 (mk:=mk) (k:=k) (h:=h) l;simp only[qao,List.map_cons,allM]at this ⊢;rw[this]; rfl
structure MB (g:Gr) (n:Nat) (ob:List Bool) (H:Heap):Prop where
 g0:H.get n=some (.rows [[g.p.enc Pd.cells,g.keys.enc qac]])
 o:H.get (n+1)=some (.rows (qao ob))
 b:H.get (n+2)=some (.rows [[.sl (n+1) 0 g.p.l.length 1 true]])
 c:H.get (n+3)=some (.rows [[.fn 136 [] [.ptr (n+2) 0 0]]])
 n:n+4<=H.n
 len:ob.length=g.p.l.length
theorem MB.push{g:Gr}{n:Nat}{ob:List Bool}{H:Heap}(h:MB g n ob H)(o:Obj):MB g n ob (H.push o):=by
 have:=h.n;refine⟨?_,?_,?_,?_,by simp; omega,h.len⟩<;>rw[qBq,Jaa (by omega)]
 ·exact h.g0
 ·exact h.o
 ·exact h.b
 ·exact h.c
theorem MB.far{g:Gr}{n i:Nat}{ob:List Bool}{H:Heap}(h:MB g n ob H)(o:Obj)(hi:n+4<=i):MB g n ob (H.set i o):=by
 have:=h.n;refine⟨?_,?_,?_,?_,by simpa using h.n,h.len⟩<;>rw[qBp,Jaa (by omega)]
 ·exact h.g0
 ·exact h.o
 ·exact h.b
 ·exact h.c
theorem MB.put{g:Gr}{n:Nat}{ob ob':List Bool}{H:Heap}(h:MB g n ob H)(hl:ob'.length=ob.length):MB g n ob' (H.set (n+1) (.rows (qao ob'))):=by
 have:=h.n;refine⟨?_,?_,?_,?_,by simpa using h.n,by rw[hl,h.len]⟩<;>rw[qBp]
 ·rw[Jaa (by omega)]; exact h.g0
 ·rw[Jab rfl]
 ·rw[Jaa (by omega)]; exact h.b
 ·rw[Jaa (by omega)]; exact h.c
theorem qpS(g:Gr)(hg:g.Fine){d:Bool}{mk:Nat}{h:Heap}:WF PR d mk (.fn 97 [] []) [.agg g.cells] h λr=>r=⟨(qe4 g).enc qj5,h⟩:=by
 refine qBt f97 b97 [.tm 2] rfl rfl rfl rfl rfl rfl ?_;unfold b97;simp -dsimp[Gr.cells];refine WFS.by (qfV g hg.toSmall) ?_
 intro v h1 e;cases e;simp -dsimp;rw[qaa];refine⟨λhb=>?_,λhb=>?_⟩
 ·simp at hb;have:qe4 g=.nil:=by simp[qe4,hb]
  simp -dsimp[this];rfl
 simp at hb;have hok:=qaF hb;have hp60:=hok.p;simp -dsimp[qgi (n:=g.p.l.length) (by omega)];obtain⟨fin,hfin⟩:∃fin,qfX g (g.p.l.length+1) (List.replicate g.p.l.length false)=fin:=⟨_,rfl⟩;have hML:qe4 g=.of fin:=by rw[qe4,Jab hb,hfin]
 refine qaf (λk st=>∃(ob:List Bool) (f:Bool),MB g h.n ob st.h/\(gK 6).run st.tm=.bool f/\(f=true->ob.count false+1<=k/\qfX g k ob=fin)/\(f=false->ob=fin)/\st.defs=[]) (g.p.l.length+1)
  ⟨List.replicate g.p.l.length false,true,⟨by simp,by simp[qao],by simp,by simp,by simp,by simp⟩,by simp,λ_=>⟨by simp,hfin⟩,by simp,rfl⟩ ?_
 rintro k ⟨tm,h1,defs,round⟩ ⟨ob,f,hM,h6,hf1,hf2,rfl⟩ hK;have h1':=hK 1 rfl;have h3':=hK 3 rfl;have h5':=hK 5 rfl;simp at h1' h3' h5' h6 hM hf1 hf2;clear hK;simp -dsimp[h6];rw[qaa];refine⟨λhc=>?_,λhc=>?_⟩
 ·obtain⟨hk,hF⟩:=hf1 hc;simp -dsimp[h1',hM.g0];refine qaf (λk st=>∃i:Int,0<=i/\(k:Int)=g.p.l.length-i/\(gK 22).run st.tm=.int .i64 i/\(gK 6).run st.tm=.bool (qbj g ob i.toNat).2/\MB g h.n (qbj g ob i.toNat).1 st.h/\st.defs=[]) g.p.l.length
   ⟨0,by omega,by omega,by simp,by simp[qbj],by simpa[qbj]using hM,rfl⟩ ?_
  rintro k2 ⟨tm2,h2,defs,round⟩ ⟨i,hi,hk2,h22,h6',hM2,rfl⟩ hK;have t1:=hK 1 rfl;have t3:=hK 3 rfl;have t5:=hK 5 rfl;have t20:=hK 20 rfl;have t21:=hK 21 rfl;simp[h1',h3',h5']at t1 t3 t5 t20 t21 h22 h6' hM2;clear hK;simp -dsimp[h22,t21];rw[qaa];obtain⟨r,hr⟩:∃r,qbj g ob i.toNat=r:=⟨_,rfl⟩;rw[hr]at hM2 h6';refine⟨λhd=>?_,λhd=>?_⟩
  ·simp at hd;have hn:=hM2.n;have hlen:=hM2.len;have n1:¬h.n+2=h2.n:=by omega
   have n2:¬h.n+1=h2.n:=by omega
   have n3:h.n<=h2.n:=by omega
   have hd':i<((g.p.l.length:Nat):Int):=by omega
   have hnext:qbj g ob (i+1).toNat=if lat r.1 i.toNat=false/\(lat g.p.l i.toNat).a.l.any (qjx r.1)=true then(r.1.set i.toNat true,true)else r:=by
    rw[show(i+1).toNat=i.toNat+1 by omega,qbj,hr]
   have hpm:=qai (l:=g.p.l) (i:=i.toNat) (by omega);obtain⟨p,hp⟩:∃p,lat g.p.l i.toNat=p:=⟨_,rfl⟩;rw[hp]at hnext hpm;simp -dsimp[t20,h22,hi,hd',hp,Pd.cells,n3,t3,hM2.b,n1,n2,qam (e:=1) (id:=h.n+1) (b:=0) (n:=g.p.l.length) (f:=true) (k:=.i64) hi hd',hM2.o,qbv (l:=r.1) (r:=i.toNat) (by omega)];rw[Gd_t];have hMp:MB g h.n r.1 ((h2.push (Obj.rows [[V.nils,V.int IntKind.i64 0,V.nils]])).set h2.n (Obj.rows [[Sl.enc qaK p.a,V.int IntKind.i64 p.marks,Sl.enc Rg.cells p.no]])):=(hM2.push _).far _ (by omega);refine⟨λhe=>?_,λhe=>?_⟩
   ·simp at he;simp -dsimp[t5,he]
    refine WFS.by (qf5 (f:=92) (g:=59) (esz:=1) (ld:=none) (arg:=λs=>s.enc Sy.cells) (p:=qjx r.1) rfl rfl rfl rfl (λ_=>rfl) (λ_=>rfl) (hg.a p hpm) λa ha =>
     qoa hMp.c (by rw[hlen]; exact hMp.b) hMp.o (by have:=hMp.n; omega) (by have:=hMp.n; omega) (by have:=hMp.n; omega) a (hg.s p hpm a ha) λs hs=>⟨by rw[hlen]; exact hok.sy p hpm a ha s hs,hg.fr p hpm a ha s hs⟩) ?_
    intro v h' e;cases e;simp -dsimp;rw[qaa];refine⟨λhx=>?_,λhx=>?_⟩
    ·rw[Jab ⟨he,hx⟩]at hnext;have n4:h.n<=h.n+1:=by omega
     simp -dsimp[t3,n1,n2,hM2.b,h22,qam (e:=1) (id:=h.n+1) (b:=0) (n:=g.p.l.length) (f:=true) (k:=.i64) hi hd',hM2.o,qbv (l:=r.1) (r:=i.toNat) (by omega),fw64 (n:=i+1) (by omega) (by omega)];refine qah.intro (k2-1) (by omega) ⟨i+1,by omega,by omega,by simp,by simp[hnext],?_,rfl⟩;rw[hnext,qdW];exact hMp.put (by simp)
    ·rw[Jaa (by rw[hx]; simp)]at hnext;simp -dsimp[h22,fw64 (n:=i+1) (by omega) (by omega)];exact qah.intro (k2-1) (by omega) ⟨i+1,by omega,by omega,by simp,by simp[hnext,h6'],by rw[hnext]; exact hMp,rfl⟩
   ·simp at he;rw[Jaa (by rw[he]; simp)]at hnext;simp -dsimp[h22,he,fw64 (n:=i+1) (by omega) (by omega)];exact qah.intro (k2-1) (by omega) ⟨i+1,by omega,by omega,by simp,by simp[hnext,h6'],by rw[hnext]; exact hMp,rfl⟩
  ·simp at hd;have hi2:i.toNat=g.p.l.length:=by omega
   rw[hi2]at hr;have hcnt:=qe3 g ob g.p.l.length (by rw[hM.len]; exact Jac _);rw[hr]at hcnt;obtain⟨m,rfl⟩:∃m,k=m+1:=⟨k-1,by omega⟩;have hF':(if r.2=true then qfX g m r.1 else r.1)=fin:=by rw[<-hF]; simp only[qfX,hr]
   have hd':decide (i<(g.p.l.length:Int))=false:=by simpa using hd
   simp -dsimp[hd'];refine qah.intro m (by omega) ⟨r.1,r.2,hM2,by simpa using h6',λe=>?_,λe=>?_,rfl⟩
   ·rw[Jab e]at hF' hcnt;exact⟨by omega,hF'⟩
   ·rw[Jaa (by rw[e]; simp)]at hF';exact hF'
 ·have hob:=hf2 hc;simp -dsimp[h3',hM.b];subst hob;rw[qc5];have hr:qal h1 (.sl (h.n+1) 0 g.p.l.length 1 false)=some (qao ob):=by
   simp[qal,hM.o,qao,hM.len]; rw[List.take_of_length_le (by simp[hM.len])]
  have n4:h.n<=h.n+1:=by omega
  rw[hr];simp only[qg8,qa3,n4,decide_true,cond,hML];rfl
def qo9(g:Gr):Int:=idxP (λx=>false == x) (qe4 g).l 0
theorem qhR(g:Gr):∀k ob,(qfX g k ob).length=ob.length
 | 0,_=>rfl
 | k+1,ob=>by
  simp only[qfX];split
  ·rw[qhR g k,qdf]
  ·rw[qdf]
theorem qsA(g:Gr)(hg:g.Fine){d:Bool}{mk:Nat}{h:Heap}:WF PR d mk (.fn 62 [] []) [.agg g.cells] h λr=>r=⟨.int .i64 (qo9 g),h⟩:=by
 refine qBt f62 b62 [.tm 2] rfl rfl rfl rfl rfl rfl ?_;unfold b62;simp -dsimp[Gr.cells];refine WFS.by (qpS g hg) ?_
 intro v h' e;cases e;simp -dsimp;have hl:(qe4 g).l.length<=60:=by
  unfold qe4;split
  ·rename_i hm; have:=(qaF hm).p; simp[qhR]; omega
  ·simp
 refine WFS.by (qlK (l:=(qe4 g).l) (by simp) (λi i0 i1=>⟨_,qap i0 i1 (λ_=>rfl),by simp[qj5]⟩) (by omega)) ?_
 intro v h' e;cases e;simp -dsimp[qo9]
@[simp]theorem qqK{tm:Tm}{h:Heap}{n:Option Nat}{j:Nat}:results tm h [.cell n j]=qcp n ((gK j).run tm) h:=by
 have e:resV tm h (.cell n j)=qcp n ((gK j).run tm) h:=rfl;simp only[results,allM,e];cases qcp n ((gK j).run tm) h<;>rfl
def qlX(w:Int):Int:=if w=0 then 3 else if w=1 then 28 else 32
def qfC(m w:Int):Bool:=decide ¬fw .i64 (BitVec.ofInt IntKind.i64.bits m &&& BitVec.ofInt IntKind.i64.bits (qlX w)).toNat=0
def qeB(p:Pd):Bool:=qfC p.marks 0||decide (0<p.no.l.length)
section
variable {d:Bool}{mk:Nat}{h:Heap}
theorem qqt:WF PR d mk (.fn 140 [] []) [] h λr=>r=⟨.agg [.int .i64 3,.int .i64 28,.int .i64 32],h⟩:=by
 refine qBt f140 b140 [.cell (some 3) 0] rfl rfl rfl rfl rfl rfl ?_;unfold b140;simp -dsimp;rfl
theorem qkG(p:Pd)(w:Int)(hw:w=0\/w=1\/w=2):WF PR d mk (.fn 102 [] []) [.agg p.cells,.int .i64 w] h λr=>r=⟨.bool (qfC p.marks w),h⟩:=by
 refine qBt f102 b102 [.tm 4] rfl rfl rfl rfl rfl rfl ?_;unfold b102;simp -dsimp[Pd.cells];refine WFS.by qqt ?_
 intro v h' e;cases e;rcases hw with rfl|rfl|rfl
 ·have e:qfF 3 1 false (V.agg [V.int IntKind.i64 3,V.int IntKind.i64 28,V.int IntKind.i64 32]) (V.int IntKind.i64 0)=some (.int .i64 3):=rfl;simp -dsimp[qfC,qlX,e]
 ·have e:qfF 3 1 false (V.agg [V.int IntKind.i64 3,V.int IntKind.i64 28,V.int IntKind.i64 32]) (V.int IntKind.i64 1)=some (.int .i64 28):=rfl;simp -dsimp[qfC,qlX,e]
 ·have e:qfF 3 1 false (V.agg [V.int IntKind.i64 3,V.int IntKind.i64 28,V.int IntKind.i64 32]) (V.int IntKind.i64 2)=some (.int .i64 32):=rfl;simp -dsimp[qfC,qlX,e]
theorem qo3(p:Pd):WF PR d mk (.fn 165 [] []) [.agg p.cells] h λr=>r=⟨.bool (qeB p),h⟩:=by
 refine qBt f165 b165 [.tm 2] rfl rfl rfl rfl rfl rfl ?_;unfold b165;simp -dsimp[Pd.cells];refine WFS.by (qkG p 0 (by simp)) ?_
 intro v h' e;cases e;simp -dsimp;rw[Gd_f];refine⟨λhb=>?_,λhb=>?_⟩
 ·simp -dsimp[hb,qeB]
 ·simp -dsimp[hb,qeB]
end
def qhw(g:Gr)(inn:List Bool)(w:Int):Bool:=(List.range inn.length).any λk=>lat inn k&&qfC (lat g.p.l k).marks w
section
variable {d:Bool}{mk:Nat}{h:Heap}
theorem qg7{l:List Bool}{f:Bool}{k:IntKind}{n:Int}(h0:0<=n)(h1:n<l.length):qaw 1 (.slR (qao l) f) (.int k n)=some (.ptrR [.bool (lat l n.toNat)] 0):=by
 have h3:idx (.int k n) l.length=some n.toNat:=qey h0 h1;have h2:n.toNat<l.length:=by omega
 simp only[qao,qaw,List.length_map,h3,qcS,List.getElem?_map,qaz h2];rfl
theorem qld(g:Gr)(inn:List Bool)(hl:inn.length=g.p.l.length)(hs:inn.length<1000000000)(w:Int)(hw:w=0\/w=1\/w=2):WF PR d mk (.fn 100 [] []) [.agg g.cells,.slR (qao inn) false,.int .i64 w] h λr=>r=⟨.bool (qhw g inn w),h⟩:=by
 refine qBt f100 b100 [.tm 6] rfl rfl rfl rfl rfl rfl ?_;unfold b100;have el:∀h,lenV .sl (.slR (qao inn) false) h=some (.int .i64 inn.length):=λh=>by simp[qao]
 simp -dsimp[Gr.cells,el];refine qaf (λk st=>∃i:Int,0<=i/\(k:Int)=inn.length-i/\(gK 11).run st.tm=.int .i64 i/\(∀j:Nat,j<i->(lat inn j&&qfC (lat g.p.l j).marks w)=false)/\st.h=h.push (.rows [[g.p.enc Pd.cells,g.keys.enc qac]])/\st.defs=[]) inn.length
  ⟨0,by omega,by omega,by simp,by intro j hj; omega,rfl,rfl⟩ ?_
 rintro k ⟨tm,h1,defs,round⟩ ⟨i,hi,hk,h11,hall,rfl,rfl⟩ hK;have t2:=hK 2 rfl;have t3:=hK 3 rfl;have t9:=hK 9 rfl;have t10:=hK 10 rfl;simp at t2 t3 t9 t10 h11 hall;clear hK;simp -dsimp[h11,t10];rw[qaa];refine⟨λhc=>?_,λhc=>?_⟩
 ·simp at hc;have hc':i<((inn.length:Nat):Int):=by omega
  have hc2:i<((g.p.l.length:Nat):Int):=by omega
  simp -dsimp[t9,h11,qg7 hi hc'];have hstep:(lat inn i.toNat&&qfC (lat g.p.l i.toNat).marks w)=false->∀j:Nat,j<i+1->(lat inn j&&qfC (lat g.p.l j).marks w)=false:=by
   intro he j hj
   by_cases e:j<i
   ·have:=hall j e;revert this; cases lat inn j<;>simp
   ·have:j=i.toNat:=by omega
    rw[this,he]
  rw[Gd_t];refine⟨λhd=>?_,λhd=>?_⟩
  ·obtain⟨p,hp⟩:∃p,lat g.p.l i.toNat=p:=⟨_,rfl⟩;simp -dsimp[hd,t3,qbg hi hc2,hp,t2];have e1:[Sl.enc qaK p.a,V.int IntKind.i64 p.marks,Sl.enc Rg.cells p.no]=p.cells:=rfl;simp -dsimp[Pd.cells];rw[e1];refine WFS.by (qkG p w hw) ?_
   intro v h' e;cases e;simp -dsimp;rw[qaa];refine⟨λhe=>?_,λhe=>?_⟩
   ·have:qhw g inn w=true:=by
     simp only[qhw,List.any_eq_true,List.mem_range];exact⟨i.toNat,by omega,by rw[hd,hp,he]; rfl⟩
    simp -dsimp[this]
   ·simp -dsimp[h11,fw64 (n:=i+1) (by omega) (by omega)];exact qah.intro (k-1) (by omega) ⟨i+1,by omega,by omega,by simp,hstep (by rw[hp,he]; simp),rfl,rfl⟩
  ·simp -dsimp[hd,h11,fw64 (n:=i+1) (by omega) (by omega)];exact qah.intro (k-1) (by omega) ⟨i+1,by omega,by omega,by simp,hstep (by rw[hd]; simp),rfl,rfl⟩
 ·simp at hc;have hc':decide (i<(inn.length:Int))=false:=by simpa using hc
  have:qhw g inn w=false:=by
   simp only[qhw,List.any_eq_false,List.mem_range];intro j hj;have:=hall j (by omega);revert this; cases lat inn j<;>simp
  simp -dsimp[hc',this]
def qgX(p:Nat->Bool):Nat->Int
 | 0=>-1
 | i+1=>if qgX p i = -1 then(if p i then i else -1)else qgX p i
theorem qgW{p:Nat->Bool}{o:Int}:∀n,(o = -1\/∃j:Nat,o=j/\j<n/\p j=true)->(∀j,j<n->p j=true->o≠-1/\o<=j)->qgX p n=o
 | 0,h1,_=>by
  rcases h1 with h|⟨j,_,h,_⟩
  ·exact h.symm
  ·omega
 | n+1,h1,h2=>by
  simp only[qgX]
  by_cases hn:∃j,j<n/\p j=true
  ·obtain⟨j,hj,hp⟩:=hn;have h3:=h2 j (by omega) hp;have ih:=qgW (o:=o) n (by
    rcases h1 with h|⟨j',e,h,hp'⟩
    ·exact .inl h
    ·exact .inr ⟨j',e,by omega,hp'⟩) λj hj=>h2 j (by omega)
   rw[ih,Jaa h3.1]
  ·have ih:=qgW (p:=p) (o:=-1) n (.inl rfl) λj hj hp=>absurd ⟨j,hj,hp⟩ hn;rw[ih,Jab rfl];rcases h1 with h|⟨j',e,h,hp'⟩
   ·subst h;split
    ·rename_i hp; exact absurd rfl (h2 n (by omega) hp).1
    ·rfl
   ·have:j'=n:=by
     by_cases e2:j'=n
     ·exact e2
     ·exact absurd ⟨j',by omega,hp'⟩ hn
    subst this;rw[Jab hp',e]
end
def flN(g:Gr)(i:Nat):List Nat:=(List.range i).filter λn=>qeB (lat g.p.l n)
noncomputable def wEnt (g:Gr) (x:Nat × Nat):Nat × V × V:=(x.2,.int .i64 x.1,.slR (qao (qaB g x.1)) false)
noncomputable def qbi (g:Gr) (i:Nat):List (Nat × V × V):=(flN g i).zipIdx.map (wEnt g)
theorem qlP(g:Gr)(i:Nat):flN g (i+1)=flN g i++(if qeB (lat g.p.l i)=true then [i]else []):=by
 simp only[flN,List.range_succ,List.filter_append];congr 1;cases h:qeB (lat g.p.l i)<;>simp[h]
theorem qiZ(g:Gr)(i:Nat):qbi g (i+1)=qbi g i++(if qeB (lat g.p.l i)=true then [wEnt g (i,(flN g i).length)]else []):=by
 simp only[qbi,qlP,List.zipIdx_append,List.map_append];congr 1;split<;>simp
theorem qiL{g:Gr}{i n:Nat}:n∈flN g i↔n<i/\qeB (lat g.p.l n)=true:=by simp[flN]
theorem qhY{n:Int}:∀(es:List (Nat × V × V)) (j:Nat),(∀e∈es,∃m:Int,e.2.1=.int .i64 m/\n≠m)->qcz (.int .i64 n) es j=some none
 | [],_,_=>rfl
 | e::es,j,h=>by
  obtain⟨m,h1,h2⟩:=h e (by simp);obtain⟨c,k,v⟩:=e;simp only at h1;subst h1;simp only[qcz,qqS];rw[show decide (n=m)=false by simpa using h2];exact qhY es (j+1) λe he=>h e (by simp[he])
theorem qgs{g:Gr}{i:Nat}{e:Nat × V × V}(h:e∈qbi g i):∃n k,e=wEnt g (n,k)/\n∈flN g i/\k<(flN g i).length:=by
 simp only[qbi,Jak]at h;obtain⟨⟨n,k⟩,h1,rfl⟩:=h;obtain⟨h2,h3⟩:=List.mem_zipIdx' h1;exact⟨n,k,rfl,h3 ▸ List.getElem_mem _,h2⟩
theorem qr4{mk k:Nat}{h:Heap}{l:List Bool}:allM (allM (freeze mk h (k+1))) (qao l)=some (qao l):=qg8 l
theorem qnd(g:Gr)(hg:g.Fine)(hm:mayB g=true){mk:Nat}{h:Heap}(hmk:mk<=h.n):WF PR false mk (.fn 139 [] []) [.agg g.cells] h λr =>
  (∃M,r.v=.map M/\r.h.get M=some (.map (qbi g g.p.l.length) (flN g g.p.l.length).length)/\h.n<=M/\M<r.h.n)/\h.n<=r.h.n/\∀i,i<h.n->r.h.get i=h.get i:=by
 have hok:=qaF hm;have hp60:=hok.p;refine qDT hmk ?_;refine WF.go f139 b139 [.tm 2] rfl rfl rfl rfl rfl rfl ?_;unfold b139;simp -dsimp[Gr.cells];refine qaf (λk st=>∃i:Int,0<=i/\(k:Int)=g.p.l.length-i/\(gK 10).run st.tm=.int .i64 i/\st.h.get h.n=some (.rows [[g.p.enc Pd.cells,g.keys.enc qac]])/\st.h.get (h.n+1)=some (.map (qbi g i.toNat) (flN g i.toNat).length)/\h.n+2<=st.h.n/\st.defs=[]) g.p.l.length
  ⟨0,by omega,by omega,by simp,by simp,by simp[qbi,flN],by simp,rfl⟩ ?_
 rintro k ⟨tm,h1,defs,round⟩ ⟨i,hi,hk,h10,hb,hM,hn,rfl⟩ hK;have t1:=hK 1 rfl;have t3:=hK 3 rfl;have t8:=hK 8 rfl;have t9:=hK 9 rfl;simp at t1 t3 t8 t9 h10 hb hM hn;clear hK;simp -dsimp[h10,t9];rw[qaa];refine⟨λhc=>?_,λhc=>?_⟩
 ·simp at hc;have hc':i<((g.p.l.length:Nat):Int):=by omega
  obtain⟨p,hp⟩:∃p,lat g.p.l i.toNat=p:=⟨_,rfl⟩;have n1:¬h.n=h1.n:=by omega
  have n2:¬h.n+1=h1.n:=by omega
  have n3:h.n<=h1.n:=by omega
  have hi2:(i+1).toNat=i.toNat+1:=by omega
  have hE:=qiZ g i.toNat;have hF:=qlP g i.toNat;simp -dsimp[t8,h10,qbg hi hc',hp,Pd.cells,n3];have e1:[Sl.enc qaK p.a,V.int IntKind.i64 p.marks,Sl.enc Rg.cells p.no]=p.cells:=rfl;rw[e1];refine WFS.by (qo3 p) ?_
  intro v h' e;cases e;simp -dsimp;rw[qaa];refine⟨λhd=>?_,λhd=>?_⟩
  ·rw[hp,Jab hd]at hE hF;have n4:h.n<=h1.n+1:=by omega
   simp -dsimp[t3,t1,n1,hb];have e2:[Sl.enc Pd.cells g.p,Sl.enc qac g.keys]=g.cells:=rfl;rw[e2];refine WFS.by (qox g hg.toSmall i (by simp<;>omega)) ?_
   rintro v h2 ⟨hx,hn2,hk2⟩;rcases hx with ⟨hx,_⟩|⟨_,A,rfl,hA,hA1,hA2⟩
   ·exact absurd ⟨hm,hi,hc'⟩ hx
   simp only at hA hA2 hn2 hA1;have hl:(qaB g i).length=g.p.l.length:=by simp[qaB]
   have hr:qal h2 (.sl A 0 g.p.l.length 1 false)=some (qao (qaB g i)):=by
    simp[qal,hA,hl]; rw[List.take_of_length_le (by simp[hl])]
   simp at hA1 hn2;have n5:h.n<=A:=by omega
   have hfz:frzV h.n ⟨.sl A 0 g.p.l.length 1 true,h2⟩=some ⟨.slR (qao (qaB g i)) false,h2.kill A⟩:=by
    have:=qr4 (mk:=h2.n) (h:=h2) (k:=15) (l:=qaB g i);simp only[frzV,hr,qat,this,qa3,n5,decide_true,cond]
   rw[hfz];have hb2:h2.get h.n=some (.rows [[g.p.enc Pd.cells,g.keys.enc qac]]):=by
    rw[hk2 _ (by simp; omega)]; simp[n1,hb]
   have hM2:(h2.kill A).get (h.n+1)=some (.map (qbi g i.toNat) (flN g i.toNat).length):=by
    rw[qBr,Jaa (by omega),hk2 _ (by simp; omega)]; simp[n2,hM]
   simp -dsimp[t3,h10];have hnone:qcz (.int .i64 i) (qbi g i.toNat) 0=some none:=qhY _ _ λe he=>by
    obtain⟨n,k,rfl,h3,_⟩:=qgs he;have:=(qiL.1 h3).1;exact⟨n,rfl,by omega⟩
   have n6:h.n<=h.n+1:=by omega
   refine OpS.intro (x:=⟨.any,(h2.kill A).set (h.n+1) (.map (qbi g (i.toNat+1)) (flN g (i.toNat+1)).length)⟩) ?_ ?_
   ·simp only[qmD,hM2,hnone,intOk,qa3,n6,decide_true,Bool.and_true,cond,hE,hF,Jao,List.length_singleton,wEnt];rw[show((i.toNat:Nat):Int)=i by omega]
   ·simp -dsimp[h10,fw64 (n:=i+1) (by omega) (by omega)];refine qah.intro (k-1) (by omega) ⟨i+1,by omega,by omega,by simp,?_,?_,?_,rfl⟩
    ·rw[qBp,Jaa (by omega),qBr,Jaa (by omega),hb2]; rfl
    ·rw[qBp,Jab rfl,hi2]
    ·simp; omega
  ·rw[hp,Jaa (by rw[hd]; simp),List.append_nil]at hE hF;simp -dsimp[h10,fw64 (n:=i+1) (by omega) (by omega)];refine qah.intro (k-1) (by omega) ⟨i+1,by omega,by omega,by simp,by simp[n1,hb],by rw[hi2,hE,hF]; simp[n2,hM],by simp; omega,rfl⟩
 ·simp at hc;have hc':decide (i<(g.p.l.length:Int))=false:=by simpa using hc
  simp -dsimp[hc',t3];have:i.toNat=g.p.l.length:=by omega
  rw[this]at hM;exact⟨hM,by omega⟩
def qgY(g:Gr)(q:Nat->Bool):Int:=if mayB g=true then qgX (λn=>qeB (lat g.p.l n)&&q n) g.p.l.length else -1
theorem qhc{α : Type}{p q : α->Bool}:∀{l:List α},(∀x∈l,p x=true->q x=true)->(∃x∈l,q x=true/\p x=false)->(l.filter p).length<(l.filter q).length
 | [],_,h=>by obtain⟨x,h,_⟩:=h; cases h
 | a::l,h1,h2=>by
  have hle:∀{l:List α},(∀x∈l,p x=true->q x=true)->(l.filter p).length<=(l.filter q).length:=by
   intro l;induction l with
   | nil=>intro _; simp
   | cons a l ih =>
    intro h;have ih:=ih λx hx=>h x (by simp[hx]);have ha:=h a (by simp);cases hp:p a with
    | true=>simp[hp,ha hp]; omega
    | false=>cases hq:q a<;>simp[hp,hq]<;>omega
  have h3:=hle (l:=l) λx hx=>h1 x (by simp[hx]);have ha:=h1 a (by simp);obtain⟨x,hx,hq,hp⟩:=h2;rcases Jag.1 hx with rfl|hx
  ·simp[hp,hq]; omega
  ·have ih:=qhc (l:=l) (λx hx=>h1 x (by simp[hx])) ⟨x,hx,hq,hp⟩;cases hp:p a with
   | true=>simp[hp,ha hp]; omega
   | false=>cases hq:q a<;>simp[hp,hq]<;>omega
theorem qcf{α : Type}:∀{es:List (Nat × α)}{e:Nat × α},(es.map (·.1)).Nodup->e∈es->(es.find? λx=>Nat.beq x.1 e.1)=some e
 | [],_,_,h=>by cases h
 | a::es,e,hn,h=>by
  simp only[List.map_cons,List.nodup_cons]at hn;rw[List.find?_cons];rcases Jag.1 h with rfl|h
  ·simp
  ·have:Nat.beq a.1 e.1=false:=by
    cases hb:Nat.beq a.1 e.1 with
    | false=>rfl
    | true=>simp at hb; exact absurd (Jak.2 ⟨e,h,hb.symm⟩) hn.1
   rw[this];exact qcf hn.2 h
theorem qhu(g:Gr)(i:Nat):(qbi g i).map (·.1)=List.range (flN g i).length:=by
 simp only[qbi,List.map_map];have:((λx:Nat × V × V=>x.1) ∘ wEnt g)=Prod.snd:=by funext x; rfl
 rw[this,List.zipIdx_map_snd,List.range_eq_range']
def rngV(v:V)(h:Heap):Option VH:=match v with
 | .map i=>(match h.get i with
  | some (.map _ clock)=>some ⟨.ptr h.n 0 0,h.push (.mapIter i clock [] clock)⟩
  | _=>none)
 | _=>none
@[simp]theorem W_rngM{x:Opd}{mk:Nat}{tm:Tm}{h:Heap}:(qay (.rngM x)).run mk tm h=rngV (x.ev tm) h:=(rfl)
def entV(v:V)(h:Heap):Option V:=match v with
 | .ptr i 0 0=>(match h.get i with
  | some (.mapIter m _ seen last)=>(match h.get m,seen with
   | some (.map es clock),b::_=>cond (Nat.beq clock last) (match es.find? λe=>Nat.beq e.1 b with
    | some e=>some (.tup [e.2.1,e.2.2])
    | none=>none) none
   | _,_=>none)
  | _=>none)
 | _=>none
@[simp]theorem R_entry{x:Opd}{tm:Tm}{h:Heap}:(qbc (.entry x)).run tm h=entV (x.ev tm) h:=(rfl)
theorem qpQ{mk I M c:Nat}{seen:List Nat}{es:List (Nat × V × V)}{h:Heap}(hI:h.get I=some (.mapIter M c seen c))(hM:h.get M=some (.map es c))(hmk:mk<=I)(hc:∀e∈es,e.1<c) :
  qfB mk (.ptr I 0 0) h = (match es.filter fun e => !seen.contains e.1 with
     | []=>some [⟨.tup [.bool false],h⟩]
     | e::left=>some ((e::left).map λe=>⟨.tup [.bool true,e.2.1,e.2.2],h.set I (.mapIter M c (e.1::seen) c)⟩)):=by
 have h1:es.all (λe=>Nat.blt e.1 c)=true:=by
  rw[List.all_eq_true]; intro e he; simpa using hc e he
 simp only[qfB,hI,hM,h1,qa3,hmk,decide_true,qkY,Bool.and_self,cond];cases es.filter λe=>!seen.contains e.1<;>rfl
theorem qlC(g:Gr)(hg:g.Fine)(fv:V)(q:Nat->Bool){d:Bool}{mk:Nat}{h:Heap}
  (hq:∀n,n<g.p.l.length->∀h',h.n<=h'.n->(∀i,i<h.n->h'.get i=h.get i)->mayB g=true->WF PR false h.n fv [.int .i64 n,.slR (qao (qaB g n)) false] h' λr=>r=⟨.bool (q n),h'⟩) :
  WF PR d mk (.fn 98 [] []) [.agg g.cells,fv] h λr=>r=⟨.int .i64 (qgY g q),h⟩:=by
 refine qBt f98 b98 [.tm 4] rfl rfl rfl rfl rfl rfl ?_;unfold b98;simp -dsimp[Gr.cells];refine WFS.by (qfV g hg.toSmall) ?_
 intro v h1 e;cases e;simp -dsimp;rw[qaa];refine⟨λhb=>?_,λhb=>?_⟩
 ·simp at hb;simp -dsimp[qgY,hb]
 simp at hb;have hok:=qaF hb;have hp60:=hok.p;simp -dsimp;have e2:[Sl.enc Pd.cells g.p,Sl.enc qac g.keys]=g.cells:=rfl;rw[e2];refine WFS.by (qnd g hg hb (by simp)) ?_
 rintro v h1 ⟨⟨M,rfl,hM,hM1,hM2⟩,hn1,hk1⟩;simp only at hM hM2 hn1 hM1;simp at hn1 hM1;simp -dsimp[rngV,hM];obtain⟨c,hc⟩:∃c,(flN g g.p.l.length).length=c:=⟨_,rfl⟩;have hclk:(qbi g g.p.l.length).map (·.1)=List.range c:=by rw[qhu,hc]
 rw[hc]at hM;obtain⟨es,hes⟩:∃es,qbi g g.p.l.length=es:=⟨_,rfl⟩;have hent:∀e∈es,∃n:Nat,n<g.p.l.length/\qeB (lat g.p.l n)=true/\e.2.1=.int .i64 n/\e.2.2=.slR (qao (qaB g n)) false:=λe he=>by
  obtain⟨n,k,rfl,h3,_⟩:=qgs (hes ▸ he);exact⟨n,(qiL.1 h3).1,(qiL.1 h3).2,rfl,rfl⟩
 have hfull:∀n:Nat,n<g.p.l.length->qeB (lat g.p.l n)=true->∃e∈es,e.2.1=.int .i64 n:=λn h1 h2=>by
  have:=qiL.2 ⟨h1,h2⟩;rw[List.mem_iff_getElem]at this;obtain⟨k,hk,e⟩:=this;refine⟨wEnt g (n,k),?_,rfl⟩;rw[<-hes,qbi,Jak];exact⟨(n,k),by rw[List.mem_zipIdx_iff_getElem?]; simp[e,hk],rfl⟩
 rw[hes]at hM hclk;have hnd:(es.map (·.1)).Nodup:=by rw[hclk]; exact List.nodup_range
 have hlt:∀e∈es,e.1<c:=λe he=>by
  have:e.1∈es.map (·.1):=Jak.2 ⟨e,he,rfl⟩;rw[hclk]at this; simpa using this
 refine qaf (λk st=>∃(seen:List Nat) (o:Int),(es.filter λe=>!decide (e.1∈seen)).length<=k/\st.h.get h1.n=some (.mapIter M c seen c)/\(∀i,i<h1.n->st.h.get i=h1.get i)/\h1.n+1<=st.h.n/\(gK 5).run st.tm=.int .i64 o /\
   (o = -1\/∃j:Nat,o=j/\j<g.p.l.length/\(qeB (lat g.p.l j)&&q j)=true)/\(∀e∈es,e.1∈seen->∀n:Nat,e.2.1=.int .i64 n->q n=true->o≠-1/\o<=n)/\st.defs=[]) es.length
  ⟨[],-1,by simpa using List.length_filter_le _ _,by simp[hc],by intro i hi; simp; omega,by simp,by simp,.inl rfl,by simp,rfl⟩ ?_
 rintro k ⟨tm,h2,defs,round⟩ ⟨seen,o,hk,hI,hsame,hn2,h5,ho,hmin,rfl⟩ hK;have t1:=hK 1 rfl;have t14:=hK 14 rfl;simp at t1 t14 h5;simp only at hI hsame hn2 hk;clear hK;have hM3:h2.get M=some (.map es c):=by rw[hsame M hM2,hM]
 have hhn:h.n<=h1.n:=by omega
 simp -dsimp[t14,qpQ hI hM3 hhn hlt];split
 ·rename_i hz;have hfin:qgY g q=o:=by
   rw[qgY,Jab hb];refine qgW _ ho λj hj hp=>?_;simp only[Jad]at hp;obtain⟨e,he,e3⟩:=hfull j hj hp.1;refine hmin e he ?_ j e3 hp.2;have:e ∉ es.filter λe=>!decide (e.1∈seen):=by rw[hz]; simp
   simpa[he]using this
  refine OpS.intro rfl ⟨rfl,by simp,?_⟩;intro r hr;simp at hr;subst hr;simp -dsimp[h5,hfin]
 ·rename_i e left hz;refine OpS.intro rfl ⟨rfl,by simp,?_⟩;intro r hr;have hr2:∃e∈es.filter λe=>!decide (e.1∈seen),r=⟨.tup [.bool true,e.2.1,e.2.2],h2.set h1.n (.mapIter M c (e.1::seen) c)⟩:=by
   rw[hz];rcases Jag.1 hr with e1|e1
   ·exact⟨e,by simp,e1⟩
   ·obtain⟨e,he,e1⟩:=Jak.1 e1; exact⟨e,by simp[he],e1.symm⟩
  clear hr;obtain⟨e,he,rfl⟩:=hr2;simp only[List.mem_filter]at he;obtain⟨he,hns⟩:=he;obtain⟨n,hn,hf,e3,e4⟩:=hent e he;have hMI:¬M=h1.n:=by omega
  have hfd:es.find? (λx=>decide (x.1=e.1))=some e:=by simpa using qcf hnd he
  simp -dsimp[t14,entV,hMI,hM3,hfd,e3,e4,h5];have hns':e.1 ∉ seen:=by simpa using hns
  have hless:(es.filter λx=>!decide (x.1∈e.1::seen)).length<k:=by
   refine Nat.lt_of_lt_of_le (qhc (λx _ hx=>?_) ⟨e,he,hns,by simp⟩) hk;simp only[Jag,Bool.not_eq_true',Jaq,not_or]at hx ⊢;exact hx.2
  obtain⟨h3,hh3⟩:∃h3,h2.set h1.n (.mapIter M c (e.1::seen) c)=h3:=⟨_,rfl⟩;have g1:h3.get h1.n=some (.mapIter M c (e.1::seen) c):=by rw[<-hh3,qBp,Jab rfl]
  have g2:∀i,i<h1.n->h3.get i=h1.get i:=λi hi=>by rw[<-hh3,qBp,Jaa (by omega),hsame i hi]
  have g3:h1.n+1<=h3.n:=by rw[<-hh3,qBB]; exact hn2
  rw[hh3];have hcall:WF PR false h.n fv [.int .i64 n,.slR (qao (qaB g n)) false] h3 λr=>r=⟨.bool (q n),h3⟩:=by
   refine hq n hn h3 (by omega) (λi hi=>?_) hb;rw[g2 i (by omega),hk1 i (by simp; omega),qBq,Jaa (by omega)]
  have hskip:(q n=true->o≠-1/\o<=n)->∀e'∈es,e'.1∈e.1::seen->∀m:Nat,e'.2.1=.int .i64 m->q m=true->o≠-1/\o<=m:=by
   intro h4 e' he' hs m e5 hqm;rcases Jag.1 hs with e6|hs
   ·have:e'=e:=by
     have f1:=qcf hnd he;have f2:=qcf hnd he';rw[e6,f1]at f2;exact(Option.some.inj f2).symm
    subst this;rw[e3]at e5;simp at e5;have:m=n:=by omega
    subst this;exact h4 hqm
   ·exact hmin e' he' hs m e5 hqm
  rw[Gd_f];have hyes:q n=true->(o = -1\/(n:Int)<o)->((n:Int) = -1\/∃j:Nat,(n:Int)=j/\j<g.p.l.length/\(qeB (lat g.p.l j)&&q j)=true)/\∀e'∈es,e'.1∈e.1::seen->∀m:Nat,e'.2.1=.int .i64 m->q m=true->(n:Int)≠-1/\(n:Int)<=m:=by
   intro hqn hlt;refine⟨.inr ⟨n,rfl,hn,by rw[hf,hqn]; rfl⟩,λe' he' hs m e5 hqm=>⟨by omega,?_⟩⟩;rcases Jag.1 hs with e6|hs
   ·have:e'=e:=by
     have f1:=qcf hnd he;have f2:=qcf hnd he';rw[e6,f1]at f2;exact(Option.some.inj f2).symm
    subst this;rw[e3]at e5;simp at e5;omega
   ·have:=hmin e' he' hs m e5 hqm;omega
  refine⟨λhx=>?_,λhx=>?_⟩
  ·simp at hx;simp -dsimp[hx,h5];rw[Gd_t];refine⟨λhy=>?_,λhy=>?_⟩
   ·simp at hy;simp -dsimp[t1,hy];refine WFS.by hcall ?_
    intro v h' e;cases e;simp -dsimp;rw[qaa];refine⟨λhz2=>?_,λhz2=>?_⟩
    ·simp -dsimp;obtain⟨y1,y2⟩:=hyes hz2 (.inr hy);exact qah.intro _ hless ⟨e.1::seen,n,Jac _,g1,g2,g3,by simp,y1,y2,rfl⟩
    ·simp -dsimp;exact qah.intro _ hless ⟨e.1::seen,o,Jac _,g1,g2,g3,by simp[h5],ho,hskip (by rw[hz2]; simp),rfl⟩
   ·simp at hy;have hy':¬(n:Int)<o:=by omega
    have hs2:=hskip λ_=>⟨hx,hy⟩;simp -dsimp[hy'];exact qah.intro _ hless ⟨e.1::seen,o,Jac _,g1,g2,g3,by simp[h5],ho,hs2,rfl⟩
  ·simp at hx;simp -dsimp[hx,t1];refine WFS.by hcall ?_
   intro v h' e;cases e;simp -dsimp;rw[qaa];refine⟨λhz2=>?_,λhz2=>?_⟩
   ·simp -dsimp;obtain⟨y1,y2⟩:=hyes hz2 (.inl hx);exact qah.intro _ hless ⟨e.1::seen,n,Jac _,g1,g2,g3,by simp,y1,y2,rfl⟩
   ·simp -dsimp;exact qah.intro _ hless ⟨e.1::seen,o,Jac _,g1,g2,g3,by simp[h5],ho,hskip (by rw[hz2]; simp),rfl⟩
theorem qsI(g:Gr)(hm:mayB g=true)(n:Nat)(hn:n<g.p.l.length){G:Nat}{d:Bool}{mk:Nat}{h:Heap}(hG:h.get G=some (.rows [g.cells])) :
  WF PR d mk (.fn 99 [] [.ptr G 0 0]) [.int .i64 n,.slR (qao (qaB g n)) false] h λr=>r=⟨.bool (lat (qaB g n) n||qhw g (qaB g n) 2),h⟩:=by
 have hok:=qaF hm;have hp60:=hok.p;have hl:(qaB g n).length=g.p.l.length:=by simp[qaB]
 refine qBt f99 b99 [.tm 5] rfl rfl rfl rfl rfl rfl ?_;unfold b99;have c0:(0:Int)<=n:=by omega
 have c1:(n:Int)<(qaB g n).length:=by omega
 simp -dsimp[qg7 c0 c1];rw[Gd_f];refine⟨λhb=>?_,λhb=>?_⟩
 ·simp -dsimp[hb,hG,Gr.cells];refine WFS.by (qld g (qaB g n) hl (by omega) 2 (by simp)) ?_
  intro v h' e;cases e;simp -dsimp[hb]
 ·simp -dsimp[hb]
theorem qqy(g:Gr)(hm:mayB g=true)(n:Nat)(hn:n<g.p.l.length){G:Nat}{d:Bool}{mk:Nat}{h:Heap}(hG:h.get G=some (.rows [g.cells])) :
  WF PR d mk (.fn 101 [] [.ptr G 0 0]) [.int .i64 n,.slR (qao (qaB g n)) false] h λr=>r=⟨.bool (qfC (lat g.p.l n).marks 1||qhw g (qaB g n) 1),h⟩:=by
 have hok:=qaF hm;have hp60:=hok.p;have hl:(qaB g n).length=g.p.l.length:=by simp[qaB]
 refine qBt f101 b101 [.tm 5] rfl rfl rfl rfl rfl rfl ?_;unfold b101;have c0:(0:Int)<=n:=by omega
 have c1:(n:Int)<(g.p.l.length:Nat):=by omega
 obtain⟨p,hp⟩:∃p,lat g.p.l n=p:=⟨_,rfl⟩;simp -dsimp[hG,Gr.cells,qbg c0 c1,hp,Pd.cells];have e1:[Sl.enc qaK p.a,V.int IntKind.i64 p.marks,Sl.enc Rg.cells p.no]=p.cells:=rfl;rw[e1];refine WFS.by (qkG p 1 (by simp)) ?_
 intro v h' e;cases e;simp -dsimp;rw[Gd_f];refine⟨λhb=>?_,λhb=>?_⟩
 ·simp -dsimp[hb,hG,Gr.cells];refine WFS.by (qld g (qaB g n) hl (by omega) 1 (by simp)) ?_
  intro v h' e;cases e;simp -dsimp[hp,hb]
 ·simp -dsimp[hp,hb]
noncomputable def badI (g:Gr):Int:=qgY g λn=>lat (qaB g n) n||qhw g (qaB g n) 2
noncomputable def qrV (g:Gr):Int:=qgY g λn=>qfC (lat g.p.l n).marks 1||qhw g (qaB g n) 1
section
variable {d:Bool}{mk:Nat}{h:Heap}
theorem Bad_ok(g:Gr)(hg:g.Fine):WF PR d mk (.fn 63 [] []) [.agg g.cells] h λr=>r=⟨.int .i64 (badI g),h⟩:=by
 refine qBt f63 b63 [.tm 2] rfl rfl rfl rfl rfl rfl ?_;unfold b63;have e2:[Sl.enc Pd.cells g.p,Sl.enc qac g.keys]=g.cells:=rfl;simp -dsimp[Gr.cells];rw[e2];refine WFS.by (qlC g hg _ _ λn hn h' h1 h2 hm=>qsI g hm n hn (by rw[h2 _ (by simp)]; simp)) ?_
 intro v h' e;cases e;simp -dsimp[badI]
theorem qsG(g:Gr)(hg:g.Fine):WF PR d mk (.fn 64 [] []) [.agg g.cells] h λr=>r=⟨.int .i64 (qrV g),h⟩:=by
 refine qBt f64 b64 [.tm 2] rfl rfl rfl rfl rfl rfl ?_;unfold b64;have e2:[Sl.enc Pd.cells g.p,Sl.enc qac g.keys]=g.cells:=rfl;simp -dsimp[Gr.cells];rw[e2];refine WFS.by (qlC g hg _ _ λn hn h' h1 h2 hm=>qqy g hm n hn (by rw[h2 _ (by simp)]; simp)) ?_
 intro v h' e;cases e;simp -dsimp[qrV]
end
theorem qdI:∀(N:Nat) (l:List Int),l.Nodup->(∀x∈l,0<=x/\x<N)->l.length<=N
 | 0,l,_,h=>by
  cases l with
  | nil=>simp
  | cons x l=>have:=h x (by simp); omega
 | N+1,l,hn,h=>by
  have h1:=qdI N (l.erase (N:Int)) (hn.erase _) (λx hx=>by
   have a:=(List.Nodup.mem_erase_iff hn).1 hx;have b:=h x a.2;omega)
  have h2:l.length<=(l.erase (N:Int)).length+1:=by rw[List.length_erase]; split<;>omega
  omega
theorem qmy{N:Nat}{l:List Int}(hn:l.Nodup)(h:∀x∈l,0<=x/\x<N)(hl:N<=l.length):∀k:Int,0<=k->k<N->k∈l:=by
 intro k h0 h1;apply Classical.byContradiction;intro hk;have:=qdI N (k::l) (List.nodup_cons.2 ⟨hk,hn⟩) (λx hx=>by
  rcases Jag.1 hx with rfl|hx
  ·exact⟨h0,h1⟩
  ·exact h x hx)
 simp at this; omega
def Topo(g:Gr)(out:List Int):Prop:=∀i (h:i<out.length),∀c∈qaq g out[i],c∈out.take i
theorem qi5{g:Gr}{out:List Int}(ht:Topo g out)(hn:out.Nodup)(hf:∀k:Int,0<=k->k<g.p.l.length->k∈out):∀n:Int,0<=n->n<g.p.l.length->¬qdZ g n n:=by
 have key:∀a b,qdZ g a b->∀i (hi:i<out.length),out[i]=a->∃j,j<i/\∃hj:j<out.length,out[j]=b:=by
  intro a b hc;induction hc with
  | one h =>
   intro i hi e;have:=ht i hi _ (e ▸ h);obtain⟨j,hj,e2⟩:=List.mem_take_iff_getElem.1 this;exact⟨j,by omega,by omega,e2⟩
  | more _ h ih =>
   intro i hi e;obtain⟨j,hj,hj',e2⟩:=ih i hi e;have:=ht j hj' _ (e2 ▸ h);obtain⟨q,hq,e3⟩:=List.mem_take_iff_getElem.1 this;exact⟨q,by omega,by omega,e3⟩
 intro n h0 h1 hc;obtain⟨i,hi,e⟩:=List.getElem_of_mem (hf n h0 h1);obtain⟨j,hj,hj',e2⟩:=key n n hc i hi e;have:=(List.getElem_inj hn (h₀:=hi) (h₁:=hj')).1 (by rw[e,e2]);omega
theorem qnl{g:Gr}{out:List Int}{n:Int}(ht:Topo g out)(h:∀c∈qaq g n,c∈out):Topo g (out++[n]):=by
 intro i hi c hc
 by_cases e:i<out.length
 ·rw[List.getElem_append_left e]at hc;rw[List.take_append_of_le_length (by omega)];exact ht i e c hc
 ·have e2:i=out.length:=by simp at hi; omega
  subst e2;rw[List.getElem_append_right (by omega)]at hc;simp at hc ⊢;exact h c hc
theorem qiu{h h':Heap}{m:Nat}{v:V}{l:List Int}(hO:Own h m v 1 (qab l))(hk:∀j,m<=j->j<h.n->h'.get j=h.get j):lenV .sl v h'=some (.int .i64 l.length)/\∀j:Int,0<=j->j<l.length->∃p,qaw 1 v (.int .i64 j)=some p/\qcp none p h'=some (.int .i64 (lat l j.toNat)):=by
 rcases hO with ⟨rfl,e⟩|⟨id,rfl,e2,e3,e4,e5⟩
 ·have:l=[]:=by simpa[qab]using e
  subst this;exact⟨by simp,λj h0 h1=>by simp at h1; omega⟩
 ·refine⟨by simp,λj h0 h1=>⟨.ptr id (0+j.toNat) 0,qam h0 (by simpa using h1),?_⟩⟩;rw[qdL,hk id e3 e4,e2,qcq,Nat.zero_add,qav (by omega)];rfl
noncomputable def waits (g:Gr) (out:List Int) (k:Int):Nat:=(qaq g k).countP λc=>!out.contains c
theorem qni(g:Gr)(k:Int):waits g [] k=(qaq g k).length:=by
 simp[waits]
theorem ql9{g:Gr}{out:List Int}{k:Int}(h:waits g out k=0):∀c∈qaq g k,c∈out:=by
 intro c hc;have:=List.countP_eq_zero.1 h c hc;simpa using this
theorem qma{g:Gr}{out:List Int}{n k:Int}(hn:n ∉ out):waits g out k=waits g (out++[n]) k+(qaq g k).count n:=by
 unfold waits;induction qaq g k with
 | nil=>simp
 | cons c l ih =>
  simp only[List.countP_cons,List.count_cons]
  by_cases e:c=n
  ·subst e;simp[hn]at ih ⊢; omega
  ·by_cases e2:c∈out
   ·simp[e,e2]at ih ⊢; omega
   ·simp[e,e2]at ih ⊢; omega
structure OrdH (h:Heap) (W:Nat) (h':Heap) (wt pl:List Int) (v:V) (out:List Int):Prop where
 keep:∀i,i<h.n->i≠W->h'.get i=h.get i
 w:h'.get W=some (.rows (qab wt))
 p:qbU h' h.n h.n pl
 o:Own h' h.n v 1 (qab out)
 oq:slId v≠some h.n
 op:∀j,slId v=some j->pid h' h.n≠some j
theorem OrdH.turn{h h' h'':Heap}{W:Nat}{wt pl pl':List Int}{v:V}{out:List Int}(hO:OrdH h W h' wt pl v out)(hW:W<h.n)(hP:qbU h'' h.n h.n pl')(hF:PF h.n h' h''):OrdH h W h'' wt pl' v out:=by
 obtain⟨h1,h2,h3,h4,h5,h6⟩:=hO;have hn:h.n<h'.n:=h3.lq;have hp:∀j,pid h' h.n=some j->h.n<=j:=by
  intro j e;obtain⟨_,_,v0,e1,e2⟩:=h3;rcases e2 with ⟨rfl,_⟩|⟨id,L,rfl,_,e4,_⟩
  ·simp[pid,e1]at e
  ·simp[pid,e1]at e; omega
 have hk:∀j,j<h.n->h''.get j=h'.get j:=λj hj=>hF.keep j (by omega) (by omega) (λe=>by have:=hp j e; omega);refine⟨λi hi hw=>by rw[hk i hi,h1 i hi hw],by rw[hk W hW,h2],hP,?_,h5,λj hj e=>?_⟩
 ·rcases h4 with e|⟨id,e1,e2,e3,e4,e5⟩
  ·exact .inl e
  ·refine .inr ⟨id,e1,?_,e3,by have:=hF.n; omega,e5⟩;have hid:slId v=some id:=by rw[e1]; rfl
   rw[hF.keep id e4 (λe=>h5 (by rw[hid,e])) (h6 id hid),e2]
 ·rcases h4 with ⟨e1,_⟩|⟨id,e1,e2,e3,e4,e5⟩
  ·rw[e1]at hj; simp[slId]at hj
  ·have hid:slId v=some id:=by rw[e1]; rfl
   have hij:id=j:=by rw[hid]at hj; exact Option.some.inj hj
   rw[hij]at hid e4;rcases hF.id j e with h7|h7
   ·omega
   ·exact h6 j hid h7
theorem qpC(g:Gr)(hm:mayB g=true){K W R m1 mk:Nat}{h:Heap}{wt0:List Int}{rt:List (List Int)}(hRk:RkR h K W R m1 wt0 rt)(hW:WtP g g.p.l.length wt0)(hR:RtP g g.p.l.length 0 rt)(hmk:mk<=W) :
  WF PR false mk (.fn 132 [] []) [.ptr K 0 0] h λr=>∃out,Own r.h h.n r.v 1 (qab out)/\out.Nodup/\(∀x∈out,0<=x/\x<g.p.l.length)/\Topo g out:=by
 have hok:=qaF hm;have hp60:=hok.p;have hlW:W<h.n:=by have:=hRk.lw; have:=hRk.n; omega
 have hkK:=hRk.k;rw[hW.len,hR.len]at hkK;have hKW:=hRk.kw;have hlK:K<h.n:=by have:=hRk.lk; have:=hRk.n; omega
 refine WF.go f132 b132 [.tm 2] rfl rfl rfl rfl rfl rfl ?_;unfold b132;have e1:¬K=h.n:=by omega
 simp -dsimp[hkK,e1];have put:∀(h':Heap) (pl:List Int) (x:Int),qbU h' h.n h.n pl->pl.length<1000->WF PR false mk (.fn 159 [.ptr h.n 0 0] []) [.int .i64 x] h' λr=>r.v=.tup []/\∃l',qbU r.h h.n h.n l'/\l'.Perm (pl++[x])/\PF h.n h' r.h:=λh' pl x hP hl =>
  qBK qda (WF.join (put_ok hP (by omega) x)) (by omega)
 refine qaf (λk st=>∃(i:Int) (pl:List Int),0<=i/\(k:Int)=g.p.l.length-i/\(gK 17).run st.tm=.int .i64 i/\OrdH h W st.h wt0 pl .nils []/\pl.Nodup/\(∀x∈pl,0<=x/\x<i/\lat wt0 x.toNat=0)/\st.defs=[]) g.p.l.length
  ⟨0,[],by omega,by omega,by simp,⟨λi hi _=>by simp; omega,by simp; rw[Jaa (by omega)]; exact hRk.w,⟨Jac _,by simp,.nils,by simp,.inl ⟨rfl,rfl⟩⟩,.inl ⟨rfl,rfl⟩,by simp[slId],by simp[slId]⟩,by simp,by simp,rfl⟩ ?_
 rintro k ⟨tm,h1,defs,round⟩ ⟨i,pl,hi,hk,h17,hO,hnd,hpl,rfl⟩ hK;have h0:=hK 0 rfl;have h3:=hK 3 rfl;have h4:=hK 4 rfl;have h15:=hK 15 rfl;have h16:=hK 16 rfl;simp at h0 h3 h4 h15 h16 h17 hO;clear hK;simp -dsimp[h16,h17];rw[qaa];refine⟨λhc=>?_,λhc=>?_⟩
 ·simp at hc;have hlt:i.toNat<wt0.length:=by rw[hW.len]; omega
  have hplen:=qdI g.p.l.length pl hnd (λx hx=>by have:=hpl x hx; omega);have fi:fw .i64 (i+1)=i+1:=fw64 (by omega) (by omega);simp -dsimp[h15,h17,qam (e:=1) (id:=W) (b:=0) (n:=g.p.l.length) (f:=true) (k:=.i64) hi hc,hO.w,qav hlt];rw[qaa];refine⟨λhd=>?_,λhd=>?_⟩
  ·simp at hd;simp -dsimp[h4];refine WFS.by (put h1 pl i hO.p (by omega)) ?_
   rintro v h2 ⟨rfl,l',hP2,hp,hpf⟩;simp -dsimp[h17,fi];have hin:i ∉ pl:=λe=>by have:=hpl i e; omega
   refine qah.intro (k-1) (by omega) ⟨i+1,l',by omega,by omega,by simp,hO.turn hlW hP2 hpf,?_,λx hx=>?_,rfl⟩
   ·rw[hp.nodup_iff];exact List.nodup_append.2 ⟨hnd,by simp,by simpa using λa ha (e:a=i)=>hin (by rw[<-e]; exact ha)⟩
   ·rcases Jaj.1 (hp.mem_iff.1 hx)with h6|h6
    ·have:=hpl x h6; omega
    ·simp at h6; subst h6; exact⟨hi,by omega,hd⟩
  ·simp -dsimp[h17,fi];exact qah.intro (k-1) (by omega) ⟨i+1,pl,by omega,by omega,by simp,hO,hnd,λx hx=>by have:=hpl x hx; omega,rfl⟩
 ·simp at hc;have hc':decide (i<(g.p.l.length:Int))=false:=by simpa using hc
  simp -dsimp[hc'];have hkeepW:∀k:Nat,k<g.p.l.length->(lat wt0 k:Int)=waits g [] k:=λk hk=>by rw[hW.val k hk,qni]
  refine qaf (λk st=>∃(out pl wt:List Int),k=g.p.l.length-out.length/\OrdH h W st.h wt pl ((gK 7).run st.tm) out/\wt.length=g.p.l.length/\(∀k:Nat,k<g.p.l.length->lat wt k=waits g out k)/\(out++pl).Nodup/\(∀x∈out++pl,0<=x/\x<g.p.l.length/\waits g out x=0)/\Topo g out/\st.defs=[]) g.p.l.length
   ⟨[],pl,wt0,by simp,by simpa using hO,hW.len,hkeepW,by simpa using hnd,λx hx=>?_,λi hi=>by simp at hi,rfl⟩ ?_
  ·have:=hpl x (by simpa using hx);have h8:=hkeepW x.toNat (by omega);rw[this.2.2]at h8;rw[show((x.toNat:Nat):Int)=x by omega]at h8;exact⟨by omega,by omega,by omega⟩
  rintro k2 ⟨tm2,h2,defs,round⟩ ⟨out,pl2,wt,hk2,hO2,hwl,hwt,hnd2,hmem2,htopo,rfl⟩ hK;have h0':=hK 0 rfl;have h3':=hK 3 rfl;have h4':=hK 4 rfl;simp[h0,h3,h4]at h0' h3' h4' hO2;clear hK;simp -dsimp[h3'];refine WFS.by (qBK qda (qfv hO2.p) (show mk<=h.n by omega)) ?_
  intro v h5 e;cases e;simp -dsimp;rw[qaa];have hlen2:=qdI g.p.l.length _ hnd2 (λx hx=>⟨(hmem2 x hx).1,(hmem2 x hx).2.1⟩);simp only[Jao]at hlen2;refine⟨λhb=>?_,λhb=>?_⟩
  ·simp at hb;have hne:pl2≠[]:=λe=>by rw[e]at hb; simp at hb
   simp -dsimp[h3'];refine WFS.by (qBK qda (qra hO2.p (by omega) hne) (show mk<=h.n by omega)) ?_
   rintro v h6 ⟨x,pl3,rfl,hP3,hp3,hpf3⟩;have hO3:=hO2.turn hlW hP3 hpf3;simp only at hO3;have hxm:x∈pl2:=hp3.mem_iff.1 (by simp);have hx:=hmem2 x (by simp[hxm]);have hxl:x.toNat<g.p.l.length:=by omega
   have hxx:((x.toNat:Nat):Int)=x:=by omega
   have hnd3:(out++[x]++pl3).Nodup:=by
    have:(out++(x::pl3)).Nodup:=(List.Perm.append_left out hp3).nodup_iff.2 hnd2;simpa using this
   have hxo:x ∉ out:=by
    intro e;have:=(List.nodup_append.1 hnd2).2.2 x e x hxm;exact this rfl
   simp -dsimp;refine qBC ?_;rw[qaE (xs:=[[.int .i64 x]]) (by simp)];have hO3n:=hO3.p.lq;obtain⟨v',h7,w1,w2,w3,w4,w5⟩:=qaC (mk:=mk) (bytes:=8) (xs:=[[.int .i64 x]]) hO3.o (by omega) (by simp) (by simp; omega) (by omega) (by omega);simp only[ev_t,qgb,Nat.reduceEqDiff,if_false,if_true];refine⟨_,w1,?_⟩;have x0:∀q,q<h.n->h7.get q=h6.get q:=λq hq=>w4 q (by omega) (hO3.o.slId hq);have x1:∀q,q<h.n->q≠W->h7.get q=h.get q:=λq hq hw=>by rw[x0 q hq,hO3.keep q hq hw]
   have x2:h7.get K=some (Obj.rows [[V.sl W 0 g.p.l.length 1 true,V.sl R 0 g.p.l.length 1 true]]):=by rw[x1 K hlK hKW,hkK]
   have hlR:R<h.n:=by have:=hRk.lr; have:=hRk.n; omega
   obtain⟨vs,r3,r4⟩:=hRk.r;have x3:h7.get R=some (.rows (vs.map λv=>[v])):=by rw[x1 R hlR (Ne.symm hRk.wr),r3]
   have hvl:vs.length=g.p.l.length:=by rw[r4.len,hR.len]
   have hget:(vs.map λv=>[v])[x.toNat]?=some [lat vs x.toNat]:=by simp[qaz (show x.toNat<vs.length by omega)]
   have hpq:pid h7 h.n=pid h6 h.n:=by
    unfold pid;rw[w4 h.n hO3n hO3.oq]
   have hrd:=qiu (h':=h7) (r4.own x.toNat (by omega)) (λq hq1 hq2=>x1 q hq2 (by have:=hRk.lw; omega));obtain⟨l,hl⟩:∃l,lat rt x.toNat=l:=⟨_,rfl⟩;rw[hl]at hrd;have hcount:∀k:Int,0<=k->k<g.p.l.length->l.count k=(qaq g k).count x:=λk h0 h1=>by
    have:=hR.count x.toNat hxl k;rw[hl,rc,Jab ⟨h0,h1⟩,hxx]at this;exact this
   have hlrange:∀c∈l,0<=c/\c<g.p.l.length:=λc hc=>by
    have:=hR.count x.toNat hxl c;rw[hl,rc]at this;have h8:0<l.count c:=List.count_pos_iff.2 hc;apply Classical.byContradiction;intro hcc;rw[Jaa hcc]at this;split at this
    ·simp at this; omega
    ·omega
   have hllen:l.length<=320 * 60:=by have:=hR.room x.toNat hxl; rw[hl]at this; omega
   have hO4:OrdH h W h7 wt pl3 v' (out++[x]):=by
    refine⟨x1,by rw[x0 W hlW,hO3.w],?_,by simpa[qab]using w2,λe=>?_,λj hj e=>?_⟩
    ·obtain⟨p1,p2,v0,p3,p4⟩:=hO3.p;refine⟨p1,by omega,v0,by rw[w4 h.n hO3n hO3.oq,p3],?_⟩;rcases p4 with p5|⟨id,L,p5,p6,p7,p8,p9⟩
     ·exact .inl p5
     ·refine .inr ⟨id,L,p5,?_,p7,by omega,p9⟩;rw[w4 id p8 (λe=>hO3.op id e (by simp[pid,p3,p5])),p6]
    ·rcases w5 h.n e with h8|h8
     ·omega
     ·exact hO3.oq h8
    ·rw[hpq]at e;rcases w5 j hj with h8|h8
     ·obtain⟨p1,p2,v0,p3,p4⟩:=hO3.p;rcases p4 with ⟨p5,_⟩|⟨id,L,p5,p6,p7,p8,p9⟩
      ·rw[p5]at p3; simp[pid,p3]at e
      ·rw[p5]at p3; simp[pid,p3]at e; omega
     ·exact hO3.op j h8 e
   have hx0:0<=x:=hx.1;have hx1:x<((g.p.l.length:Nat):Int):=hx.2.1;simp -dsimp[h0',x2,qam (e:=1) (id:=R) (b:=0) (n:=g.p.l.length) (f:=true) (k:=.i64) hx0 hx1,x3,hget,hrd.1];have hq0:∀q,q<h.n->q≠W->h7.get q=h.get q:=x1;refine qaf (λk3 st=>∃(j:Int) (pl4 wt4:List Int),0<=j/\(k3:Int)=l.length-j/\(gK 43).run st.tm=.int .i64 j/\OrdH h W st.h wt4 pl4 v' (out++[x])/\wt4.length=g.p.l.length/\(∀k:Nat,k<g.p.l.length->lat wt4 k=((waits g (out++[x]) k+(l.drop j.toNat).count (k:Int):Nat):Int))/\(out++[x]++pl4).Nodup/\(∀y∈out++[x]++pl4,0<=y/\y<g.p.l.length/\lat wt4 y.toNat=0)/\st.defs=[]) l.length
    ⟨0,pl3,wt,by omega,by omega,by simp,hO4,hwl,λk hk=>?_,hnd3,λy hy=>?_,rfl⟩ ?_
   ·rw[hwt k hk,qma hxo,<-hcount k (by omega) (by omega)]; simp
   ·have hy2:y∈out++pl2:=by
     rcases Jaj.1 hy with h8|h8
     ·rcases Jaj.1 h8 with h9|h9
      ·simp[h9]
      ·simp at h9; subst h9; simp[hxm]
     ·have:y∈pl2:=hp3.mem_iff.1 (by simp[h8]);simp[this]
    have h8:=hmem2 y hy2;refine⟨h8.1,h8.2.1,?_⟩;rw[hwt y.toNat (by omega),show((y.toNat:Nat):Int)=y by omega,h8.2.2]; rfl
   rintro k3 ⟨tm3,h8,defs,round⟩ ⟨j,pl4,wt4,hj,hk3,h43,hO5,hwl4,hwt4,hnd4,hmem4,rfl⟩ hK;have q0:=hK 0 rfl;have q4:=hK 4 rfl;have q7:=hK 7 rfl;have q41:=hK 41 rfl;have q42:=hK 42 rfl;simp[h0',h4']at q0 q4 q7 q41 q42 h43 hO5;clear hK;simp -dsimp[q42,h43];rw[qaa];have hlen4:=qdI g.p.l.length _ hnd4 (λy hy=>⟨(hmem4 y hy).1,(hmem4 y hy).2.1⟩);simp only[Jao,List.length_singleton]at hlen4;refine⟨λhc2=>?_,λhc2=>?_⟩
   ·simp at hc2;have hjl:j.toNat<l.length:=by omega
    obtain⟨c,hcc⟩:∃c,lat l j.toNat=c:=⟨_,rfl⟩;have hcm:c∈l:=hcc ▸ qai hjl;obtain⟨hc0,hc1⟩:=hlrange c hcm;have hcl:c.toNat<g.p.l.length:=by omega
    have hcn:((c.toNat:Nat):Int)=c:=by omega
    have hrd8:=qiu (h':=h8) (r4.own x.toNat (by omega)) (λq hq1 hq2=>hO5.keep q hq2 (by have:=hRk.lw; omega));rw[hl]at hrd8;obtain⟨p,p1,p2⟩:=hrd8.2 j hj hc2;rw[hcc]at p2;have fj:fw .i64 (j+1)=j+1:=fw64 (by omega) (by omega);have y2:h8.get K=some (Obj.rows [[V.sl W 0 g.p.l.length 1 true,V.sl R 0 g.p.l.length 1 true]]):=by rw[hO5.keep K hlK hKW,hkK]
    have hdrop:l.drop j.toNat=c::l.drop (j.toNat+1):=by rw[qbu hjl,hcc]
    have hj2:(j+1).toNat=j.toNat+1:=by omega
    obtain⟨w,hw⟩:∃w,lat wt4 c.toNat=w:=⟨_,rfl⟩;have hwv:=hwt4 c.toNat hcl;rw[hw,hcn,hdrop,List.count_cons_self]at hwv;have hcle:((l.drop (j.toNat+1)).count c)<=320 * 60:=Jaf List.count_le_length (by simp; omega);have hwle:waits g (out++[x]) c<=320:=Jaf List.countP_le_length (qd7 g c);have fw1:fw .i64 (w-1)=w-1:=fw64 (by omega) (by omega);have hlt4:c.toNat<wt4.length:=by omega
    have hc1':c<((g.p.l.length:Nat):Int):=hc1;have hget2:∀z,(qab (wt4.set c.toNat z))[c.toNat]?=some [.int .i64 z]:=λz=>by
     rw[qav (by simpa using hlt4),qfE hlt4,Jab rfl]
    simp -dsimp[q41,h43,p1,p2,q0,y2,qam (e:=1) (id:=W) (b:=0) (n:=g.p.l.length) (f:=true) (k:=.i64) hc0 hc1',hO5.w,qav hlt4,hw,fw1,hmk,hKW];rw[qcu];simp -dsimp[hget2];rw[qaa];have hO6:OrdH h W (h8.set W (.rows (qab (wt4.set c.toNat (w-1))))) (wt4.set c.toNat (w-1)) pl4 v' (out++[x]):=by
     obtain⟨k1,k2,k3,k4,k5,k6⟩:=hO5;have hpw:∀q,q≠W->(h8.set W (.rows (qab (wt4.set c.toNat (w-1))))).get q=h8.get q:=λq hq=>by rw[qBp,Jaa hq]
     refine⟨λq hq hqw=>by rw[hpw q hqw,k1 q hq hqw],by rw[qBp,Jab rfl],?_,?_,k5,λq hq e=>k6 q hq (by simpa[pid,hpw h.n (by omega)]using e)⟩
     ·obtain⟨a1,a2,v0,a3,a4⟩:=k3;refine⟨a1,by simpa using a2,v0,by rw[hpw _ (by omega),a3],?_⟩;rcases a4 with a5|⟨id,L,a5,a6,a7,a8,a9⟩
      ·exact .inl a5
      ·exact .inr ⟨id,L,a5,by rw[hpw _ (by omega),a6],a7,by simpa using a8,a9⟩
     ·rcases k4 with a5|⟨id,a5,a6,a7,a8,a9⟩
      ·exact .inl a5
      ·exact .inr ⟨id,a5,by rw[hpw _ (by omega),a6],a7,by simpa using a8,a9⟩
    have hcnew:c ∉ out++[x]++pl4:=λe=>by
     have:=(hmem4 c e).2.2;rw[hw,hwv]at this; omega
    have hwt5:∀k:Nat,k<g.p.l.length->lat (wt4.set c.toNat (w-1)) k=((waits g (out++[x]) k+(l.drop (j+1).toNat).count (k:Int):Nat):Int):=λk hk=>by
     rw[qfE (by omega),hj2]
     by_cases e:k=c.toNat
     ·rw[Jab e,hwv,e,hcn]; omega
     ·rw[Jaa e,hwt4 k hk,hdrop,List.count_cons_of_ne (λe2=>e (by omega))]
    have hmem5:∀y∈out++[x]++pl4,0<=y/\y<g.p.l.length/\lat (wt4.set c.toNat (w-1)) y.toNat=0:=λy hy=>by
     have a:=hmem4 y hy;refine⟨a.1,a.2.1,?_⟩;rw[qfE (by omega),Jaa (λe=>hcnew (by rw[show c=y by omega]; exact hy))];exact a.2.2
    refine⟨λhd=>?_,λhd=>?_⟩
    ·simp at hd;simp -dsimp[q4];refine WFS.by (put _ pl4 c hO6.p (by omega)) ?_
     rintro v h9 ⟨rfl,l',hP9,hp9,hpf9⟩;have hO7:=hO6.turn hlW hP9 hpf9;simp -dsimp[h43,fj];have hperm:(out++[x]++l').Perm (out++[x]++pl4++[c]):=by
      have:=List.Perm.append_left (out++[x]) hp9;simpa using this
     refine qah.intro (k3-1) (by omega) ⟨j+1,l',_,by omega,by omega,by simp,hO7,by simpa using hwl4,hwt5,?_,λy hy=>?_,rfl⟩
     ·rw[hperm.nodup_iff];exact List.nodup_append.2 ⟨hnd4,by simp,by simpa using λa ha (e:a=c)=>hcnew (by rw[<-e]; simpa using ha)⟩
     ·rcases Jaj.1 (hperm.mem_iff.1 hy)with a|a
      ·exact hmem5 y a
      ·simp at a; subst a;refine⟨hc0,hc1,?_⟩;rw[qfE (by omega),Jab rfl]; exact hd
    ·simp -dsimp[h43,fj];exact qah.intro (k3-1) (by omega) ⟨j+1,pl4,_,by omega,by omega,by simp,hO6,by simpa using hwl4,hwt5,hnd4,hmem5,rfl⟩
   ·simp at hc2;have hc2':decide (j<(l.length:Int))=false:=by simpa using hc2
    simp -dsimp[hc2'];have hdrop:l.drop j.toNat=[]:=List.drop_eq_nil_of_le (by omega);rw[hdrop]at hwt4;refine qah.intro (g.p.l.length-(out++[x]).length) (by simp; omega) ⟨out++[x],pl4,wt4,rfl,by simpa[q7]using hO5,hwl4,λk hk=>by simpa using hwt4 k hk,hnd4,λy hy=>?_,qnl htopo (ql9 hx.2.2),rfl⟩;have a:=hmem4 y hy;refine⟨a.1,a.2.1,?_⟩;have b:=hwt4 y.toNat (by omega);rw[a.2.2,show((y.toNat:Nat):Int)=y by omega]at b;simp at b; omega
  ·simp at hb;subst hb;simp -dsimp;simp only[List.append_nil]at hnd2 hmem2;exact⟨out,hO2.o,hnd2,λx hx=>⟨(hmem2 x hx).1,(hmem2 x hx).2.1⟩,htopo⟩
theorem qr5{h:Heap}{n m:Nat}{v:V}{l:List Int}(hO:Own h m v 1 (qab l))(hn:n<=m):∃u,freeze n h 15 v=some u:=by
 rcases hO with ⟨rfl,_⟩|⟨id,rfl,h2,h3,_⟩
 ·exact⟨_,rfl⟩
 ·have hr:qal h (.sl id 0 (qab l).length 1 false)=some (qab l):=by simp[qal,h2,qab]; rw[List.take_of_length_le (by simp)]
  have:n<=id:=by omega
  refine⟨.slR (qab l) false,?_⟩;show cond (Nat.ble n id) (match qal h (.sl id 0 (qab l).length 1 false)with|some rows=>(match allM (allM (freeze n h 14)) rows with|some r=>some (V.slR r false)|none=>none)|none=>none) none=_;rw[hr];simp only[qcL,qa3,this,decide_true,cond]
def OrdV(g:Gr)(u:V):Prop:=∃v b,u=.tup [v,.bool b]/\(b=true->mayB g=true/\∀n:Int,0<=n->n<g.p.l.length->¬qdZ g n n)
theorem qqv(g:Gr)(hg:g.Small){mk:Nat}{h:Heap}:WF PR false mk (.fn 93 [] []) [.agg g.cells] h λr=>r.h=h/\OrdV g r.v:=by
 refine qBE (F:=f93) (Q:=OrdV g) rfl rfl rfl (Nat.le_of_ble_eq_true rfl) ?_;refine qef b93 [.tm 2,.tm 3] rfl rfl ?_;unfold b93;simp -dsimp[Gr.cells];refine WFS.by (qfV g hg) ?_
 intro v h1 e;cases e;simp -dsimp;rw[qaa];refine⟨λhb=>?_,λhb=>?_⟩
 ·simp -dsimp;exact⟨_,rfl,_,_,rfl,by simp⟩
 ·simp at hb;have hok:=qaF hb;simp -dsimp;refine WFS.by (qnQ g hg hb (h:=h.push (.rows [[g.p.enc Pd.cells,g.keys.enc qac]])) (by simp)) ?_
  rintro v h1 ⟨⟨K,W,R,wt,rt,m1,rfl,hRk,hW,hR,g1,g2,g3⟩,hn1,hk1⟩;simp at hRk g1 g2 g3 hn1;have hbox:=hk1 h.n (by simp);simp at hbox;simp -dsimp;have hnm:=hRk.n;have hlW:=hRk.lw;refine WFS.by (WF.low qq1 (qBK qda (qpC g hb hRk hW hR (Jac W)) (show h.n+1<=W by omega)) (by omega) |> λw=>qBK qda w (by omega)) ?_
  rintro v h2 ⟨⟨out,hO,hnd,hr,ht⟩,hlow⟩;simp only at hO hlow;have hbox2:h2.get h.n=some (.rows [[g.p.enc Pd.cells,g.keys.enc qac]]):=by rw[hlow.2 h.n (by omega),hbox]
  have hrd:=qiu (h':=h2) hO (λ_ _ _=>rfl);simp -dsimp[hrd.1,hbox2];rw[qaa];refine⟨λhc=>?_,λhc=>?_⟩
  ·simp -dsimp;exact⟨_,rfl,_,_,rfl,by simp⟩
  ·simp at hc;simp -dsimp;obtain⟨u,hu⟩:=qr5 hO (n:=h.n) (by omega);have hfr:freeze h.n h2 qat (.tup [v,.bool true])=some (.tup [u,.bool true]):=by
    show(match allM (freeze h.n h2 15) [v,.bool true]with|some x=>some (V.tup x)|none=>none)=_;have e2:freeze h.n h2 15 (.bool true)=some (.bool true):=rfl;simp only[allM,hu,e2]
   exact⟨_,hfr,_,_,rfl,λ_=>⟨hb,qi5 ht hnd (qmy hnd hr (by omega))⟩⟩
noncomputable def qfg (g:Gr):Int:=if mayB g=true then idxP (λn:Nat=>qcO g n n) (List.range g.p.l.length) 0 else -1
theorem qof{n i:Nat}(h:i<n):lat (List.range n) i=i:=by rw[lat_eq (by simpa using h)]; simp
theorem qjI{α : Type}{p : α->Bool}:∀{l:List α}{i:Int},(∀a∈l,p a=false)->idxP p l i = -1
 | [],_,_=>rfl
 | a::l,i,h=>by simp[idxP,h a (by simp),qjI (l:=l) (i:=i+1) λx hx=>h x (by simp[hx])]
theorem qo6(g:Gr)(hg:g.Small){d:Bool}{mk:Nat}{h:Heap}:WF PR d mk (.fn 60 [] []) [.agg g.cells] h λr=>r=⟨.int .i64 (qfg g),h⟩:=by
 refine qBt f60 b60 [.tm 2] rfl rfl rfl rfl rfl rfl ?_;unfold b60;simp -dsimp[Gr.cells];refine WFS.by (qqv g hg) ?_
 rintro v h1 ⟨e,u,b,e2,hb⟩;simp only at e e2;subst e e2;simp -dsimp;rw[Gd_f];refine⟨λhc=>?_,λhc=>?_⟩
 ·simp -dsimp[hc];refine WFS.by (qfV g hg) ?_
  intro v h1 e;cases e;simp -dsimp;rw[qaa];refine⟨λhd=>?_,λhd=>?_⟩
  ·simp at hd;simp -dsimp[qfg,hd]
  ·simp at hd;have hok:=qaF hd;have hp:=hok.p;simp -dsimp;refine qaf (λk st=>∃i:Int,0<=i/\(k:Int)=g.p.l.length-i/\(gK 20).run st.tm=.int .i64 i/\idxP (λn:Nat=>qcO g n n) ((List.range g.p.l.length).drop i.toNat) i=qfg g/\st.h.get h.n=some (.rows [[g.p.enc Pd.cells,g.keys.enc qac]])/\st.defs=[]) g.p.l.length ⟨0,by omega,by omega,by simp,by simp[qfg,hd],by simp,rfl⟩ ?_;rintro k ⟨tm,h2,defs,round⟩ ⟨i,hi,hk,h20,hx,hbox,rfl⟩ hK;have h1:=hK 1 rfl;have h19:=hK 19 rfl;simp at h1 h19 h20 hbox;clear hK;simp -dsimp[h19,h20];rw[qaa];refine⟨λhl=>?_,λhl=>?_⟩
   ·simp at hl;have hii:((i.toNat:Nat):Int)=i:=by omega
    rw[qbu (by simp; omega),qof (by omega)]at hx;simp only[idxP,hii]at hx;simp -dsimp[h1,h20,hbox];refine WFS.by (qqh g hg i i hp) ?_
    intro v h3 e;cases e;simp -dsimp;rw[qaa];refine⟨λhc3=>?_,λhc3=>?_⟩
    ·rw[hc3]at hx;simp at hx;simp -dsimp[hx]
    ·rw[hc3]at hx;simp at hx;simp -dsimp[h20,fw64 (n:=i+1) (by omega) (by omega)];exact qah.intro (k-1) (by omega) ⟨i+1,by omega,by omega,by simp,by rw[show(i+1).toNat=i.toNat+1 by omega]; exact hx,hbox,rfl⟩
   ·simp at hl;have hl':decide (i<(g.p.l.length:Int))=false:=by simpa using hl
    rw[List.drop_eq_nil_of_le (by simp; omega)]at hx;simp[idxP]at hx;simp -dsimp[hl',<-hx]
 ·have hbb:b=true:=by simpa using hc
  obtain⟨b1,b2⟩:=hb hbb;have:qfg g = -1:=by
   rw[qfg,Jab b1];refine qjI λn hn=>?_;simp at hn;simp only[qcO,Jaq];exact b2 n (by omega) (by omega)
  simp -dsimp[hc,this]
@[simp]theorem qpv{tm:Tm}{h:Heap}{n m:Option Nat}{i j:Nat}:results tm h [.cell n i,.cell m j]=(match qcp n ((gK i).run tm) h,qcp m ((gK j).run tm) h with
  | some a,some b=>some (.tup [a,b])
  | _,_=>none):=by
 have e:∀n j,resV tm h (.cell n j)=qcp n ((gK j).run tm) h:=λ_ _=>rfl;simp only[results,allM,e];cases qcp n ((gK i).run tm) h<;>cases qcp m ((gK j).run tm) h<;>rfl
structure Cn where
 f:Nat
 e:Int
 v:Int
instance:Inhabited Cn:=⟨0,0,0⟩
def Cn.cells(x:Cn):List V:=[.fn x.f [] [],.int .i64 x.e]
noncomputable def cnL (g:Gr):List Cn:=[⟨60,8,qfg g⟩,⟨61,9,qhx g⟩,⟨62,10,qo9 g⟩,⟨63,11,badI g⟩,⟨64,12,qrV g⟩]
def qcy:List Cn->Option Cn
 | []=>none
 | x::l=>if x.v = -1 then qcy l else some x
noncomputable def qcP (g:Gr):Int × Int:=if mayB g=true then(match qcy (cnL g)with
 | none=>(-1,0)
 | some x=>(x.v,x.e))else(0,1)
theorem cn_ok(g:Gr)(hg:g.Fine){x:Cn}(hx:x∈cnL g){d:Bool}{mk:Nat}{h:Heap}:WF PR d mk (.fn x.f [] []) [.agg g.cells] h λr=>r=⟨.int .i64 x.v,h⟩:=by
 simp only[cnL,Jag,List.not_mem_nil,or_false]at hx;rcases hx with rfl|rfl|rfl|rfl|rfl
 ·exact qo6 g hg.toSmall
 ·exact qsE g hg.toSmall
 ·exact qsA g hg
 ·exact Bad_ok g hg
 ·exact qsG g hg
theorem qoz(g:Gr)(hg:g.Fine){l C G mk:Nat}{h0:Heap}(hC:h0.get C=some (.rows [[(Sl.full (cnL g)).enc Cn.cells]]))(hG:h0.get G=some (.rows [g.cells]))(lC:C<h0.n)(lG:G<h0.n)(hmk:mk<=h0.n)(P:Cn->Heap->Prop)
  (hy:∀x∈cnL g,∀h',h0.n<=h'.n->(∀i,i<h0.n->h'.get i=h0.get i)->WF PR false mk (.yld l) [.int .i64 x.v,.int .i64 x.e] h' λr=>r.v=.bool false/\P x r.h) :
  WF PR false mk (.fn 65 [] [.ptr C 0 0,.ptr G 0 0]) [.yld l] h0 λr=>match qcy (cnL g)with
   | none=>h0.n<=r.h.n/\∀i,i<h0.n->r.h.get i=h0.get i
   | some x=>P x r.h:=by
 obtain⟨cn,hcn⟩:∃cn,cnL g=cn:=⟨_,rfl⟩;have hlen:cn.length=5:=by rw[<-hcn]; rfl
 rw[hcn]at hC hy ⊢;refine WF.go f65 b65 [] rfl rfl rfl rfl rfl rfl ?_;unfold b65;simp -dsimp[hC];refine qaf (λk st=>∃i:Int,0<=i/\(k:Int)=cn.length-i/\(gK 9).run st.tm=.int .i64 i/\qcy (cn.drop i.toNat)=qcy cn/\h0.n<=st.h.n/\(∀i,i<h0.n->st.h.get i=h0.get i)/\st.defs=[]) cn.length
  ⟨0,by omega,by omega,by simp,by simp,Jac _,λ_ _=>rfl,rfl⟩ ?_
 rintro k ⟨tm,h1,defs,round⟩ ⟨i,hi,hk,h9,hf,hn,hsame,rfl⟩ hK;have t0:=hK 0 rfl;have t2:=hK 2 rfl;have t7:=hK 7 rfl;have t8:=hK 8 rfl;simp at t0 t2 t7 t8 h9;simp only at hn hsame;clear hK;simp -dsimp[h9,t8];rw[qaa];refine⟨λhc=>?_,λhc=>?_⟩
 ·simp at hc;have hc':i<((Sl.full cn).l.length:Nat):=by simp; omega
  have hit:i.toNat<cn.length:=by omega
  obtain⟨x,hx⟩:∃x,lat cn i.toNat=x:=⟨_,rfl⟩;have hxm:x∈cn:=by rw[<-hx]; exact qai hit
  have hd:=qbu hit;rw[hx]at hd;rw[hd]at hf;have n1:¬G=h1.n:=by omega
  have n2:mk<=h1.n:=by omega
  have hG1:h1.get G=some (.rows [g.cells]):=by rw[hsame G lG,hG]
  have e2:[Sl.enc Pd.cells g.p,Sl.enc qac g.keys]=g.cells:=rfl;simp -dsimp[t7,h9,t2,n1,n2,hG1,Gr.cells,qap (f:=Cn.cells) (s:=Sl.full cn) (esz:=2) (k:=.i64) hi hc' (λ_=>rfl),hx,Cn.cells];rw[e2];refine WFS.by (cn_ok g hg (hcn ▸ hxm)) ?_
  intro v h' e;cases e;simp -dsimp;rw[Gd_t];refine⟨λhz=>?_,λhz=>?_⟩
  ·simp at hz;have hfx:qcy cn=some x:=by rw[<-hf,qcy,Jaa hz]
   simp -dsimp[t0,hz];refine WFS.by (hy x hxm _ (by simp; omega) λj hj=>by rw[qBp,Jaa (by omega),qBq,Jaa (by omega),hsame j hj]) ?_
   rintro v h2 ⟨e,hP⟩;simp only at e hP;subst e;simp -dsimp;rw[hfx];exact hP
  ·simp at hz;have hfx:qcy (cn.drop (i+1).toNat)=qcy cn:=by rw[show(i+1).toNat=i.toNat+1 by omega,<-hf,qcy,Jab hz]
   simp -dsimp[hz,h9,fw64 (n:=i+1) (by omega) (by omega)];exact qah.intro (k-1) (by omega) ⟨i+1,by omega,by omega,by simp,hfx,by simp; omega,λj hj=>by simp; rw[Jaa (by omega),Jaa (by omega),hsame j hj],rfl⟩
 ·simp at hc;have hc':decide (i<(cn.length:Int))=false:=by simpa using hc
  rw[List.drop_eq_nil_of_le (by omega)]at hf;simp -dsimp[hc'];rw[<-hf];exact⟨hn,hsame⟩
theorem qmR(g:Gr){d:Bool}{mk:Nat}{h:Heap}(hmk:mk<=h.n):WF PR d mk (.fn 33 [] []) [.agg g.cells] h λr=>r.v=.fn 65 [] [.ptr (h.n+1) 0 0,.ptr h.n 0 0]/\r.h.n=h.n+2/\r.h.get h.n=some (.rows [g.cells])/\r.h.get (h.n+1)=some (.rows [[(Sl.full (cnL g)).enc Cn.cells]])/\∀i,i<h.n->r.h.get i=h.get i:=by
 refine WF.go f33 b33 [.tm 2] rfl rfl rfl rfl rfl rfl ?_;unfold b33;have n1:mk<=h.n+1:=by omega
 simp -dsimp[Gr.cells,n1];refine⟨rfl,λi hi=>?_⟩;have n2:¬i=h.n:=by omega
 have n3:¬i=h.n+1:=by omega
 simp[n2,n3]
theorem qnb{AP:Prog}{d:Bool}{mk:Nat}{f:Opd}{ps:List Nat}{asg body:IC}{fs:List Fr}{st:St}{Q:OS->Prop}(hr:st.round=false)
  (h1:∀(H0:Heap) (asg' body':IC),asg'=asg->body'=body->H0.n=st.h.n+2->(∀q,q<st.h.n->H0.get q=st.h.get q)->H0.get st.h.n=some .dfr->H0.get (st.h.n+1)=some (.loop .ready none st.tm ps asg' body') ->
   WF AP d mk (f.ev st.tm) [.yld (st.h.n+1)] H0 λr=>(r.h.get (st.h.n+1)=some (.loop .ready none st.tm ps asg' body') /\
    nx AP d mk fs .normal ⟨st.tm,r.h.set (st.h.n+1) (.loop .exhausted none st.tm ps asg' body'),.mark st.h.n::st.defs,st.round⟩ Q ⟨⟩) \/
    (r.h.get (st.h.n+1)=some (.loop .done (some .ret) st.tm ps asg' body') /\
    nx AP d mk fs .ret ⟨st.tm,r.h.set (st.h.n+1) (.loop .exhausted (some .ret) st.tm ps asg' body'),.mark st.h.n::st.defs,st.round⟩ Q ⟨⟩)) :
  wk AP d mk (.rangeF f ps asg body) fs st Q ⟨⟩:=by
 refine qik hr ?_;refine W.mono (h1 _ asg body rfl rfl (by simp) (λq hq=>by rw[qBq,Jaa (by simp; omega),qBq,Jaa (by omega)]) (by simp) (by simp)) ?_;rintro r (⟨a,b⟩|⟨a,b⟩)
 ·exact⟨.ready,none,_,_,_,_,a,by simp,.inl ⟨rfl,b⟩⟩
 ·exact⟨.done,some .ret,_,_,_,_,a,by simp,.inr (.inl ⟨rfl,b⟩)⟩
theorem qqB(g:Gr)(hg:g.Fine){d:Bool}{mk:Nat}{h:Heap}:WF PR d mk (.fn 17 [] []) [.agg g.cells] h λr=>r=⟨.tup [.int .i64 (qcP g).1,.int .i64 (qcP g).2],h⟩:=by
 refine qBt f17 b17 [.cell none 2,.cell none 3] rfl rfl rfl rfl rfl rfl ?_;unfold b17;have e2:[Sl.enc Pd.cells g.p,Sl.enc qac g.keys]=g.cells:=rfl;simp -dsimp[Gr.cells];rw[e2];refine WFS.by (qfV g hg.toSmall) ?_
 intro v h' e;cases e;simp -dsimp;rw[qaa];refine⟨λhb=>?_,λhb=>?_⟩
 ·simp at hb;simp -dsimp[qcP,hb]
 simp at hb;simp -dsimp;refine WFS.by (qmR g (by simp<;>omega)) ?_
 rintro v h1 ⟨rfl,h2,h3,h4,h5⟩;simp at h2 h3 h4 h5;simp -dsimp;refine qgr (λst=>st.h=h1/\(gK 2).run st.tm=.ptr (h.n+1) 0 0/\(gK 3).run st.tm=.ptr (h.n+2) 0 0/\(gK 10).run st.tm=.fn 65 [] [.ptr (h.n+4) 0 0,.ptr (h.n+3) 0 0]/\st.defs=[]/\st.round=false) (by simp) ?_;rintro⟨tm,h1',defs,round⟩ ⟨rfl,k2,k3,k10,rfl,rfl⟩;simp only at k2 k3 k10 h2 h3 h4 h5;refine qnb rfl ?_;intro H0 asg body hasg hbody z1 z2 z3 z4;simp only at z1 z2 z3 z4;simp only[ev_t,k10];refine W.mono (qoz g hg (l:=h1'.n+1) (C:=h.n+4) (G:=h.n+3) (by rw[z2 _ (by omega),h4]) (by rw[z2 _ (by omega),h3]) (by omega) (by omega) (by omega)
  (λx H=>H.get h1'.n=some .dfr/\H.get (h1'.n+1)=some (.loop .done (some .ret) tm [11,12] asg body)/\H.get (h.n+1)=some (.rows [[.int .i64 x.v]])/\H.get (h.n+2)=some (.rows [[.int .i64 x.e]])) ?_) ?_
 ·intro x hx H hHn hH;refine qC2 (s0:=.ready) (by rw[hH _ (by omega),z4]) rfl (by omega) rfl ?_;intro B asg0 body0 ea eb hB2;subst ea eb;have g1:B.get (h.n+1)=some (.rows [[.int .i64 0]]):=by rw[hB2,qBp,Jaa (by omega),hH _ (by omega),z2 _ (by omega),h5 _ (by omega),Jaa (by omega),Jab rfl]
  have g2:B.get (h.n+2)=some (.rows [[.int .i64 0]]):=by rw[hB2,qBp,Jaa (by omega),hH _ (by omega),z2 _ (by omega),h5 _ (by omega),Jab rfl]
  have g3:B.get h1'.n=some .dfr:=by rw[hB2,qBp,Jaa (by omega),hH _ (by omega),z3]
  have g4:B.get (h1'.n+1)=some (.loop .busy none tm [11,12] asg0 body0):=by rw[hB2,qBp,Jab rfl]
  clear hB2;rw[hasg];simp -dsimp;rw[hbody];simp -dsimp[k2,k3,g1,g2];refine⟨rfl,.busy,none,tm,[11,12],asg0,body0,by rw[qBp,Jaa (by omega),qBp,Jaa (by omega),g4],rfl,?_⟩;refine⟨?_,?_,?_,?_⟩
  ·rw[qBp,Jaa (by omega),qBp,Jaa (by omega),qBp,Jaa (by omega),g3]
  ·rw[qBp,Jab rfl,<-hasg,<-hbody]
  ·rw[qBp,Jaa (by omega),qBp,Jaa (by omega),qBp,Jab rfl]
  ·rw[qBp,Jaa (by omega),qBp,Jab rfl]
 ·rintro⟨v,H⟩ hr;simp only at hr ⊢;obtain⟨o,ho⟩:∃o,qcy (cnL g)=o:=⟨_,rfl⟩;rw[ho]at hr;cases o with
  | none =>
   left;obtain⟨hHn,hH⟩:=hr;have hcv:qcP g=(-1,0):=by simp[qcP,hb,ho]
   have g1:H.get (h.n+1)=some (.rows [[.int .i64 0]]):=by rw[hH _ (by omega),z2 _ (by omega),h5 _ (by omega),Jaa (by omega),Jab rfl]
   have g2:H.get (h.n+2)=some (.rows [[.int .i64 0]]):=by rw[hH _ (by omega),z2 _ (by omega),h5 _ (by omega),Jab rfl]
   have g3:H.get h1'.n=some .dfr:=by rw[hH _ (by omega),z3]
   have n1:¬h.n+1=h1'.n+1:=by omega
   have n2:¬h.n+2=h1'.n+1:=by omega
   have n3:¬h.n+1=h1'.n:=by omega
   have n4:¬h.n+2=h1'.n:=by omega
   have n5:¬h1'.n=h.n+1:=by omega
   have n6:¬h1'.n=h.n+2:=by omega
   have n7:h.n<=h1'.n:=by omega
   have n8:¬h.n=h1'.n:=by omega
   have n9:¬h.n+1+1=h1'.n+1:=by omega
   refine⟨by rw[hH _ (by omega),z4],?_⟩;simp -dsimp[k2,k3,g1,g2,g3,n1,n2,n3,n4,n5,n6,n7,n8,hcv]
  | some x =>
   right;obtain⟨g3,g4,g1,g2⟩:=hr;have hcv:qcP g=(x.v,x.e):=by simp[qcP,hb,ho]
   have n1:¬h.n+1=h1'.n+1:=by omega
   have n2:¬h.n+2=h1'.n+1:=by omega
   have n3:¬h.n+1=h1'.n:=by omega
   have n4:¬h.n+2=h1'.n:=by omega
   have n7:h.n<=h1'.n:=by omega
   have n8:¬h.n=h1'.n:=by omega
   have n9:¬h.n+1+1=h1'.n+1:=by omega
   refine⟨g4,?_⟩;simp -dsimp[k2,k3,g1,g2,g3,n1,n2,n3,n4,n7,n8,hcv]
theorem qc8{g:Gr}(h:(qcP g).2=0):mayB g=true/\qfg g = -1:=by
 unfold qcP at h;split at h
 ·rename_i hm;refine⟨hm,?_⟩
  by_cases c:qfg g = -1
  ·exact c
  ·simp[cnL,qcy,c]at h
 ·simp at h
theorem bvN{a:Int}(h0:0<=a)(h1:a<9223372036854775808):(BitVec.ofInt IntKind.i64.bits a).toNat=a.toNat:=by
 show(BitVec.ofInt 64 a).toNat=a.toNat;rw[BitVec.toNat_ofInt];congr 1;exact Int.emod_eq_of_lt h0 (by omega)
theorem qn6{a:Int}(h0:0<=a)(h1:a<9223372036854775808):a.toNat<2 ^ 63:=by omega
theorem qsz{a b:Int}(a0:0<=a)(a1:a<9223372036854775808)(b0:0<=b)(b1:b<9223372036854775808):(binK .and).run (.int .i64 a) (.int .i64 b)=some (.int .i64 ((a.toNat &&& b.toNat:Nat):Int)):=by
 rw[qeG,BitVec.toNat_and,bvN a0 a1,bvN b0 b1];have h:a.toNat &&& b.toNat<2 ^ 63:=Nat.and_lt_two_pow _ (qn6 b0 b1);rw[fw64 (by omega) (by omega)]
theorem qqM{a b:Int}(a0:0<=a)(a1:a<9223372036854775808)(b0:0<=b)(b1:b<9223372036854775808):(binK .or).run (.int .i64 a) (.int .i64 b)=some (.int .i64 ((a.toNat ||| b.toNat:Nat):Int)):=by
 rw[qia,BitVec.toNat_or,bvN a0 a1,bvN b0 b1];have h:a.toNat ||| b.toNat<2 ^ 63:=Nat.or_lt_two_pow (qn6 a0 a1) (qn6 b0 b1)
 rw[fw64 (by omega) (by omega)]
theorem qmB{x k:Nat}:x ||| (2 ^ k-1)=2 ^ k * (x / 2 ^ k)+(2 ^ k-1):=by
 have hlt:2 ^ k-1<2 ^ k:=by have:=Nat.two_pow_pos k; omega
 rw[Nat.two_pow_add_eq_or_of_lt hlt];refine Nat.eq_of_testBit_eq λi=>?_;rw[Nat.testBit_or,Nat.testBit_or,Nat.testBit_two_pow_sub_one,Nat.mul_comm,Nat.testBit_mul_two_pow,Nat.testBit_div_two_pow]
 by_cases h:i<k
 ·simp[h]
 ·have:k<=i:=by omega
  simp[h,this]
theorem qmC{x k:Nat}(hx:x<2 ^ 63)(hk:k<=62):(BitVec.ofNat 64 x &&& ~~~ BitVec.ofNat 64 (2 ^ k-1)).toNat=2 ^ k * (x / 2 ^ k):=by
 refine Nat.eq_of_testBit_eq λi=>?_;rw[Nat.mul_comm,Nat.testBit_mul_two_pow,Nat.testBit_div_two_pow,BitVec.testBit_toNat,BitVec.getLsbD_and,BitVec.getLsbD_not,BitVec.getLsbD_ofNat,BitVec.getLsbD_ofNat,Nat.testBit_two_pow_sub_one]
 by_cases h:i<k
 ·have:¬k<=i:=by omega
  simp[h,this]
 ·have h2:k<=i:=by omega
  by_cases h3:i<64
  ·simp[h,h2,h3,Nat.sub_add_cancel]
  ·have:x.testBit i=false:=Nat.testBit_lt_two_pow (Nat.lt_of_lt_of_le hx (Nat.pow_le_pow_right (by omega) (by omega)));simp[h,h2,h3,this]
def p2(k:Nat):Int:=((2 ^ k:Nat):Int)
theorem qeh(k:Nat):0<p2 k:=by have:=Nat.two_pow_pos k; simp only[p2]; omega
theorem qmv{k:Nat}(hk:k<=62):p2 k<=4611686018427387904:=by
 have:2 ^ k<=2 ^ 62:=Nat.pow_le_pow_right (by omega) hk;simp only[p2]; omega
theorem qi6{a:Int}{k:Nat}(a0:0<=a):((a.toNat / 2 ^ k:Nat):Int)=a / p2 k:=by
 obtain⟨n,rfl⟩:=Int.eq_ofNat_of_zero_le a0;simp[p2]
theorem qnm{a:Int}{k:Nat}(a0:0<=a):((a.toNat % 2 ^ k:Nat):Int)=a % p2 k:=by
 obtain⟨n,rfl⟩:=Int.eq_ofNat_of_zero_le a0;simp[p2]
theorem qil{k:Nat}:(p2 k-1).toNat=2 ^ k-1:=by
 have:=Nat.two_pow_pos k; simp only[p2]; omega
section
variable {a:Int}{k:Nat}(a0:0<=a) (a1:a<4611686018427387904) (hk:k<=62)
include a0 a1 hk
theorem qk1:(binK .and).run (.int .i64 a) (.int .i64 (p2 k-1))=some (.int .i64 (a % p2 k)):=by
 have h1:=qeh k;have h2:=qmv hk;rw[qsz a0 (by omega) (by omega) (by omega),qil,Nat.and_two_pow_sub_one_eq_mod,qnm a0]
theorem or_low:(binK .or).run (.int .i64 a) (.int .i64 (p2 k-1))=some (.int .i64 (p2 k * (a / p2 k)+(p2 k-1))):=by
 have h1:=qeh k;have h2:=qmv hk;rw[qqM a0 (by omega) (by omega) (by omega),qil,qmB];have h3:((2 ^ k * (a.toNat / 2 ^ k)+(2 ^ k-1):Nat):Int)=p2 k * (a / p2 k)+(p2 k-1):=by
  have:=Nat.two_pow_pos k;rw[Int.natCast_add,Int.natCast_mul,qi6 a0];simp only[p2]; omega
 rw[h3]
theorem qm4:(binK .andNot).run (.int .i64 a) (.int .i64 (p2 k-1))=some (.int .i64 (p2 k * (a / p2 k))):=by
 have h1:=qeh k;have h2:=qmv hk;rw[qea];have e1:(BitVec.ofInt IntKind.i64.bits a)=BitVec.ofNat 64 a.toNat:=by
  apply BitVec.eq_of_toNat_eq;rw[bvN a0 (by omega)];show a.toNat=(BitVec.ofNat 64 a.toNat).toNat;simp[BitVec.toNat_ofNat];omega
 have e2:(BitVec.ofInt IntKind.i64.bits (p2 k-1))=BitVec.ofNat 64 (2 ^ k-1):=by
  apply BitVec.eq_of_toNat_eq;rw[bvN (by omega) (by omega),qil];have h9:2 ^ k<=2 ^ 62:=Nat.pow_le_pow_right (by omega) hk;show 2 ^ k-1=(BitVec.ofNat 64 (2 ^ k-1)).toNat;rw[BitVec.toNat_ofNat,Nat.mod_eq_of_lt (by omega)]
 rw[e1,e2];have h3:=qmC (x:=a.toNat) (k:=k) (by omega) hk;have h4:((2 ^ k * (a.toNat / 2 ^ k):Nat):Int)=p2 k * (a / p2 k):=by
  rw[Int.natCast_mul,qi6 a0]; rfl
 have h5:p2 k * (a / p2 k)<=a:=Int.mul_ediv_self_le (by omega);have h6:0<=p2 k * (a / p2 k):=by rw[<-h4]; exact Int.natCast_nonneg _
 show some (V.int .i64 (fw .i64 ((BitVec.ofNat 64 a.toNat &&& ~~~ BitVec.ofNat 64 (2 ^ k-1)).toNat:Int)))=_;rw[h3,h4,fw64 (by omega) (by omega)]
omit a0 a1 in
theorem qkj{kk:IntKind}:(binK .shr).run (.int .i64 a) (.int kk k)=some (.int .i64 (a / p2 k)):=by
 have h:Nat.min k IntKind.i64.bits=k:=Nat.min_eq_left (show k<=64 by omega);show some (V.int .i64 (a.fdiv ((2 ^ (Nat.min k IntKind.i64.bits):Nat):Int)))=_;rw[h,Int.fdiv_eq_ediv_of_nonneg _ (by have:=qeh k; simp only[p2]at this; omega)];rfl
end
theorem qrj{k:Nat}{kk:IntKind}(hk:k<=62):(binK .shl).run (.int .i64 1) (.int kk k)=some (.int .i64 (p2 k)):=by
 have h:Nat.min k IntKind.i64.bits=k:=Nat.min_eq_left (show k<=64 by omega);show some (V.int .i64 (fw .i64 (1 * ((2 ^ (Nat.min k IntKind.i64.bits):Nat):Int))))=_;rw[h,Int.one_mul];have:=qmv hk;have:=qeh k;simp only[p2]at *;rw[fw64 (by omega) (by omega)]
theorem qfx{a b:Int}{k:Nat}{c:Int}(hc:a=p2 k * c)(c0:0<=c)(ha:a<4611686018427387904)(b0:0<=b)(hb:b<p2 k)(hk:k<=62):(binK .or).run (.int .i64 a) (.int .i64 b)=some (.int .i64 (a+b)):=by
 have h1:=qeh k;have h2:=qmv hk;have a0:0<=a:=by rw[hc]; exact Int.mul_nonneg (by omega) c0
 rw[qqM a0 (by omega) b0 (by omega)];obtain⟨n,rfl⟩:=Int.eq_ofNat_of_zero_le c0;obtain⟨m,rfl⟩:=Int.eq_ofNat_of_zero_le b0;have e1:a.toNat=2 ^ k * n:=by
  rw[hc]; simp only[p2,Int.ofNat_eq_natCast]; rw[<-Int.natCast_mul]; rfl
 have hm:m<2 ^ k:=by simp only[p2,Int.ofNat_eq_natCast]at hb; omega
 have e2:((m:Int)).toNat=m:=rfl;rw[e1,e2,<-Nat.two_pow_add_eq_or_of_lt hm,hc];simp only[p2,Int.natCast_add,Int.natCast_mul,Int.ofNat_eq_natCast]
def mayI(r:Int):Bool:=decide (0<=r)&&decide (r<=1114111)&&(decide (r<55296)||decide (57343<r))
def qbB(r:Int):Nat:=if r<128 then 1 else if r<2048 then 2 else if r<65536 then 3 else 4
def qcv(n:Nat):Int:=if n=2 then 192 else if n=3 then 224 else if n=4 then 240 else 0
def conts(r:Int):Nat->List Int
 | 0=>[]
 | j+1=>(128+r / p2 (6 * j) % 64)::conts r j
def putL(r:Int):List Int:=(qcv (qbB r)+r / p2 (6 * (qbB r-1)))::conts r (qbB r-1)
def putS(r:Int):Sl Int:=if mayI r=true then .of (putL r)else .nil
def qdb(n:Int):List V:=[.int .u8 n]
def qbn(l:List Int):List (List V):=l.map qdb
theorem qff(r:Int):∀j,(conts r j).length=j
 | 0=>rfl
 | j+1=>by simp[conts,qff r j]
section
variable {d:Bool}{mk:Nat}{h:Heap}
theorem qi1(r:Int):WF PR d mk (.fn 152 [] []) [.int .i64 r] h λx=>x=⟨.bool (mayI r),h⟩:=by
 refine qBt f152 b152 [.tm 2] rfl rfl rfl rfl rfl rfl ?_;unfold b152;simp -dsimp;rw[Gd_t];refine⟨λh1=>?_,λh1=>?_⟩
 ·simp -dsimp[h1];rw[Gd_t];refine⟨λh2=>?_,λh2=>?_⟩
  ·simp -dsimp[h2];rw[Gd_f];refine⟨λh3=>?_,λh3=>?_⟩
   ·simp -dsimp[h3];simp at h1 h2 h3;simp[mayI,h1,h2,h3]; omega
   ·simp -dsimp[h3];simp at h1 h2 h3;simp[mayI,h1,h2,h3]
  ·simp -dsimp[h2];simp at h1 h2;simp[mayI,h1]; omega
 ·simp -dsimp[h1];simp at h1;simp[mayI]; omega
theorem qny(r:Int):WF PR d mk (.fn 224 [] []) [.int .i64 r] h λx=>x=⟨.int .i64 (qbB r),h⟩:=by
 refine qBt f224 b224 [.tm 2] rfl rfl rfl rfl rfl rfl ?_;unfold b224;simp -dsimp;rw[qaa];refine⟨λh1=>?_,λh1=>?_⟩
 ·simp at h1;simp -dsimp[qbB,h1]
 ·simp at h1;have h1':¬r<128:=by omega
  simp -dsimp;rw[qaa];refine⟨λh2=>?_,λh2=>?_⟩
  ·simp at h2;simp -dsimp[qbB,h1',h2]
  ·simp at h2;have h2':¬r<2048:=by omega
   simp -dsimp;rw[qaa];refine⟨λh3=>?_,λh3=>?_⟩
   ·simp at h3;simp -dsimp[qbB,h1',h2',h3]
   ·simp at h3;have h3':¬r<65536:=by omega
    simp -dsimp[qbB,h1',h2',h3']
def qjJ:V:=.agg [.int .i64 0,.int .i64 0,.int .i64 192,.int .i64 224,.int .i64 240]
theorem qgk:WF PR d mk (.fn 217 [] []) [] h λx=>x=⟨qjJ,h⟩:=by
 refine qBt f217 b217 [.cell (some 5) 0] rfl rfl rfl rfl rfl rfl ?_;unfold b217;simp -dsimp;rfl
theorem u8_set{l:List Int}{r:Nat}{v:Int}:(qbn l).set r [.int .u8 v]=qbn (l.set r v):=by simp[qbn,qdb,List.map_set]
theorem qqV{m k:Nat}{H:Heap}:∀l:List Int,allM (allM (freeze m H (k+1))) (qbn l)=some (qbn l)
 | []=>rfl
 | x::l=>by
  have:=qqV (m:=m) (k:=k) (H:=H) l;simp only[qbn,List.map_cons,allM]at this ⊢;rw[this]; rfl
theorem qr2{N:Nat}(h1:1<=N)(h2:N<=4):qfF 5 1 false qjJ (.int .i64 N)=some (.int .i64 (qcv N)):=by
 have:N=1\/N=2\/N=3\/N=4:=by omega
 rcases this with rfl|rfl|rfl|rfl<;>rfl
theorem qr1{r:Int}(hr:mayI r=true):(binK .or).run (.int .i64 (qcv (qbB r))) (.int .i64 (r / p2 (6 * (qbB r-1))))=some (.int .i64 (qcv (qbB r)+r / p2 (6 * (qbB r-1)))):=by
 simp only[mayI,Jad,Jai]at hr;obtain⟨⟨r0,r1⟩,_⟩:=hr;simp only[qbB];have e0:p2 0=1:=rfl;have e6:p2 6=64:=rfl;have e12:p2 12=4096:=rfl;have e18:p2 18=262144:=rfl;split
 ·rename_i h; exact qfx (k:=7) (c:=0) rfl (by omega) (by decide) (by simp[e0]; omega) (by simp[e0]; exact h) (by omega)
 ·split
  ·rename_i h;exact qfx (k:=6) (c:=3) rfl (by omega) (by decide) (by simp[e6]; omega) (by simp[e6]; omega) (by omega)
  ·split
   ·rename_i h;exact qfx (k:=5) (c:=7) rfl (by omega) (by decide) (by simp[e12]; omega) (by simp[e12,show p2 5=32 from rfl]; omega) (by omega)
   ·rename_i h;exact qfx (k:=4) (c:=15) rfl (by omega) (by decide) (by simp[e18]; omega) (by simp[e18,show p2 4=16 from rfl]; omega) (by omega)
theorem qle(r:Int):1<=qbB r/\qbB r<=4:=by
 unfold qbB; split<;>(try split)<;>(try split)<;>omega
theorem qqL(i j:Nat):p2 (i+j)=p2 i * p2 j:=by simp[p2,Nat.pow_add]
theorem qq0(r:Int):WF PR d mk (.fn 212 [] []) [.int .i64 r] h λx=>x=⟨.tup [(putS r).enc qdb,.bool (mayI r)],h⟩:=by
 refine qBt f212 b212 [.tm 2,.tm 3] rfl rfl rfl rfl rfl rfl ?_;unfold b212;simp -dsimp;refine WFS.by (qi1 r) ?_
 intro v h1 e;cases e;simp -dsimp;rw[qaa];refine⟨λhb=>?_,λhb=>?_⟩
 ·simp at hb;simp -dsimp[putS,hb];rfl
 simp at hb;simp -dsimp;refine WFS.by (qny r) ?_
 intro v h1 e;cases e;obtain⟨hN1,hN4⟩:=qle r;have hho:=qr1 hb;have hb0:=hb;simp only[mayI,Jad,Jai]at hb0;obtain⟨⟨r0,r1⟩,_⟩:=hb0;obtain⟨N,hN⟩:∃N,qbB r=N:=⟨_,rfl⟩;rw[hN]at hN1 hN4 hho;simp -dsimp[hN,qgi (n:=N) (by omega),fw64 (n:=(N:Int)-1) (by omega) (by omega)];refine qaf (λk st=>∃i:Nat,i+1<=N/\k=i/\(gK 6).run st.tm=.int .i64 i/\(gK 0).run st.tm=.int .i64 (r / p2 (6 * (N-1-i)))/\st.h.get h.n=some (.rows (qbn (List.replicate (i+1) 0++conts r (N-1-i))))/\st.defs=[]) (N-1)
  ⟨N-1,by omega,rfl,by simp; omega,by simp[p2],by simp[conts,show N-1+1=N by omega,qbn,qdb],rfl⟩ ?_
 rintro k ⟨tm,h1,defs,round⟩ ⟨i,hi,rfl,h6,h0,hB,rfl⟩ hK;have t4:=hK 4 rfl;have t5:=hK 5 rfl;simp at t4 t5 h6 h0;simp only at hB;clear hK;simp -dsimp[h6];rw[qaa];refine⟨λhc=>?_,λhc=>?_⟩
 ·simp at hc;obtain⟨j,hj⟩:∃j,N-1-k=j:=⟨_,rfl⟩;rw[hj]at h0 hB;obtain⟨q,hq⟩:∃q,r / p2 (6 * j)=q:=⟨_,rfl⟩;have q0:0<=q:=by rw[<-hq]; exact Int.ediv_nonneg r0 (Int.le_of_lt (qeh _))
  have q1:q<=1114111:=by rw[<-hq]; exact Int.le_trans (Int.ediv_le_self _ r0) r1
  rw[hq]at h0;have b1:(binK .and).run (.int .i64 q) (.int .i64 63)=some (.int .i64 (q % 64)):=qk1 (k:=6) q0 (by omega) (by omega);have b2:(binK .or).run (.int .i64 128) (.int .i64 (q % 64))=some (.int .i64 (128+q % 64)):=qfx (k:=6) (c:=2) rfl (by omega) (by omega) (by omega) (by show q % 64<64; omega) (by omega);have b3:(binK .shr).run (.int .i64 q) (.int .u64 6)=some (.int .i64 (q / 64)):=qkj (k:=6) (by omega);have k0:(0:Int)<=(k:Int):=by omega
  have k1:(k:Int)<(N:Nat):=by omega
  have hrow:(qbn (List.replicate (k+1) 0++conts r j))[k]?=some [.int .u8 0]:=by
   simp[qbn,qdb,List.getElem?_append,List.getElem?_replicate]
  have hset:(List.replicate (k+1) 0++conts r j).set k (128+q % 64)=List.replicate k 0++conts r (j+1):=by
   rw[List.replicate_succ',List.append_assoc,List.set_append_right _ _ (by simp)];simp[conts,hq]
  have hk2:N-1-(k-1)=j+1:=by omega
  have hk3:k-1+1=k:=by omega
  have hq2:q / 64=r / p2 (6 * (j+1)):=by
   rw[<-hq,Int.ediv_ediv_of_nonneg (Int.le_of_lt (qeh _)),show(6 * (j+1))=6 * j+6 by omega,qqL];rfl
  simp -dsimp[t5,h6,h0,b1,b2,b3,-qeG,-qia,qam (e:=1) (id:=h.n) (b:=0) (n:=N) (f:=true) (k:=.i64) k0 k1,hB,hrow,fw8 (n:=128+q % 64) (by omega) (by omega),fw64 (n:=(k:Int)-1) (by omega) (by omega)];rw[u8_set,hset];refine qah.intro (k-1) (by omega) ⟨k-1,by omega,rfl,by simp; omega,by simp[hk2,hq2],by simp[hk2,hk3],rfl⟩
 ·simp at hc;subst hc;have hrow:(qbn (List.replicate (0+1) 0++conts r (N-1-0)))[0]?=some [.int .u8 0]:=by simp[qbn,qdb]
  simp only[Nat.sub_zero]at h0 hB hrow;simp -dsimp[t5];refine WFS.by qgk ?_
  intro v h' e;cases e;have hx:0<=qcv N+r / p2 (6 * (N-1))/\qcv N+r / p2 (6 * (N-1))<=255:=by
   have e0:p2 0=1:=rfl;have e6:p2 6=64:=rfl;have e12:p2 12=4096:=rfl;have e18:p2 18=262144:=rfl;have:N=1\/N=2\/N=3\/N=4:=by omega
   simp only[qbB]at hN;rcases this with rfl|rfl|rfl|rfl
   ·simp[qcv,e0]; split at hN<;>(try split at hN)<;>(try split at hN)<;>omega
   ·simp[qcv,e6]; split at hN<;>(try split at hN)<;>(try split at hN)<;>omega
   ·simp[qcv,e12]; split at hN<;>(try split at hN)<;>(try split at hN)<;>omega
   ·simp[qcv,e18]; split at hN<;>(try split at hN)<;>(try split at hN)<;>omega
  have hcons:qbn (List.replicate (0+1) 0++conts r (N-1))=[.int .u8 0]::qbn (conts r (N-1)):=rfl;rw[hcons]at hB;simp -dsimp[t4,t5,qr2 hN1 hN4,h0,hho,-qia,hB,hrow,fw8 hx.1 hx.2,qmL (show 0<N by omega)];have hput:putS r=.of (putL r):=by simp[putS,hb]
  have hrw:[V.int IntKind.u8 (qcv N+r / p2 (6 * (N-1)))]::qbn (conts r (N-1))=qbn (putL r):=by
   simp only[putL,hN]; rfl
  have hlen:(putL r).length=N:=by simp[putL,qff,hN]; omega
  rw[hrw,hput,hb];obtain⟨H,hH⟩:∃H,h1.set h.n (Obj.rows (qbn (putL r)))=H:=⟨_,rfl⟩;have hg:H.get h.n=some (.rows (qbn (putL r))):=by rw[<-hH,qBp,Jab rfl]
  rw[hH];have hr:qal H (.sl h.n 0 N 1 false)=some (qbn (putL r)):=by
   simp[qal,hg,qbn,hlen]; rw[List.take_of_length_le (by simp[hlen])]
  show(match allM (freeze h.n H 15) [V.sl h.n 0 N 1 true,V.bool true]with|some x=>some (V.tup x)|none=>none)=_;have f1:freeze h.n H 15 (V.sl h.n 0 N 1 true)=some (.slR (qbn (putL r)) false):=by
   show cond (Nat.ble h.n h.n) (match qal H (.sl h.n 0 N 1 false)with|some rows=>(match allM (allM (freeze h.n H 14)) rows with|some r=>some (V.slR r false)|none=>none)|none=>none) none=_;rw[hr];have:=qqV (m:=h.n) (H:=H) (k:=13) (putL r);simp only[this,qa3,Jac,decide_true,cond]
  have f2:freeze h.n H 15 (V.bool true)=some (.bool true):=rfl;simp only[allM,f1,f2];rfl
end
def qb3(k:Nat)(r:Rg):Int:=if r.lo % p2 k=0 then r.lo else p2 k * (r.lo / p2 k)+(p2 k-1)+1
def qch(k:Nat)(r:Rg):Int:=if r.hi % p2 k=p2 k-1 then r.hi else p2 k * (r.hi / p2 k)-1
def splA(k:Nat)(r:Rg):List Rg:=if r.lo % p2 k=0 then []else [⟨r.lo,p2 k * (r.lo / p2 k)+(p2 k-1)⟩]
def splB(k:Nat)(r:Rg):List Rg:=if qb3 k r<=qch k r then [⟨qb3 k r,qch k r⟩]else []
def splC(k:Nat)(r:Rg):List Rg:=if qch k r<r.hi then [⟨qch k r+1,r.hi⟩]else []
def qeN(k:Nat)(r:Rg):List Rg:=if r.lo / p2 k=r.hi / p2 k then [r]else splA k r++splB k r++splC k r
def qbV(k:Nat)(l:List Rg):Nat->List Rg
 | 0=>[]
 | i+1=>qbV k l i++qeN k (lat l i)
def qhF(k:Nat)(l:List Rg):List Rg:=qbV k l l.length
theorem qmf(k:Nat)(r:Rg):(qeN k r).length<=3:=by
 simp only[qeN,splA,splB,splC];split
 ·simp
 ·simp only[Jao];split<;>split<;>split<;>simp
theorem qdd(k:Nat)(l:List Rg):∀i,(qbV k l i).length<=3 * i
 | 0=>by simp[qbV]
 | i+1=>by
  have h1:=qdd k l i;have h2:=qmf k (lat l i);simp only[qbV,Jao]; omega
structure SP (H:Heap) (m B:Nat) (v:V) (rows:List Rg) (lo hi:Int):Prop where
 own:Own H m v 2 (rows.map Rg.cells)
 box:H.get B=some (.rows [[.int .i64 lo,.int .i64 hi]])
 ne:slId v≠some B
 lt:B<H.n
 m:m<=B
theorem SP.app{H:Heap}{m B:Nat}{v:V}{rows:List Rg}{lo hi:Int}(h:SP H m B v rows lo hi)(a b:Int)(hl:rows.length+1<4294967296) :
  ∃v' h',qaj m H 2 16 v [[.int .i64 a,.int .i64 b]]=some ⟨v',h'⟩/\SP h' m B v' (rows++[⟨a,b⟩]) lo hi/\H.n<=h'.n/\(∀j,j<H.n->slId v≠some j->h'.get j=H.get j)/\∀j,slId v'=some j->H.n<=j\/slId v=some j:=by
 have:=h.lt;have:=h.m;obtain⟨v',h',a1,a2,a3,a4,a5⟩:=qaC (mk:=m) (bytes:=16) (xs:=[[.int .i64 a,.int .i64 b]]) h.own (Jac _) (by simp) (by simpa using hl) (by omega) (by omega);refine⟨v',h',a1,⟨by simpa[Rg.cells]using a2,by rw[a4 _ h.lt h.ne,h.box],λe=>?_,by omega,h.m⟩,a3,a4,a5⟩;rcases a5 _ e with e|e
 ·omega
 ·exact h.ne e
theorem SP.put{H:Heap}{m B:Nat}{v:V}{rows:List Rg}{lo hi:Int}(h:SP H m B v rows lo hi)(a b:Int):SP (H.set B (.rows [[.int .i64 a,.int .i64 b]])) m B v rows a b:=by
 refine⟨?_,by rw[qBp,Jab rfl],h.ne,by simpa using h.lt,h.m⟩;have hne:=h.ne;rcases h.own with ⟨q,q'⟩|⟨id,q3,q4,q5,q6,q7⟩
 ·exact .inl ⟨q,q'⟩
 ·subst q3;simp[slId]at hne;exact .inr ⟨id,rfl,by rw[qBp,Jaa hne,q4],q5,by simpa using q6,q7⟩
theorem SP.push{H:Heap}{m B:Nat}{v:V}{rows:List Rg}{lo hi:Int}(h:SP H m B v rows lo hi)(o:Obj):SP (H.push o) m B v rows lo hi:=by
 refine⟨h.own.ext (λj hj=>by rw[qBq,Jaa (by omega)]) (by simp),by rw[qBq,Jaa (by have:=h.lt; omega),h.box],h.ne,by have:=h.lt; simp; omega,h.m⟩
theorem SP.far{H:Heap}{m B j:Nat}{v:V}{rows:List Rg}{lo hi:Int}{o:Obj}(h:SP H m B v rows lo hi)(hj:j≠B)(hv:slId v≠some j):SP (H.set j o) m B v rows lo hi:=by
 refine⟨?_,by rw[qBp,Jaa (Ne.symm hj),h.box],h.ne,by simpa using h.lt,h.m⟩;rcases h.own with ⟨q,q'⟩|⟨id,q3,q4,q5,q6,q7⟩
 ·exact .inl ⟨q,q'⟩
 ·subst q3;simp[slId]at hv;exact .inr ⟨id,rfl,by rw[qBp,Jaa hv,q4],q5,by simpa using q6,q7⟩
theorem qov{h:Heap}{n m:Nat}{v:V}{l:List Rg}(hO:Own h m v 2 (l.map Rg.cells))(hn:n<=m):freeze n h qat v=some ((slR l).enc Rg.cells):=qiK hO hn
structure SK0 (k:Nat) (s:Sl Rg) (B:Nat) (i:Int) (tm:Tm):Prop where
 t0:(gK 0).run tm=.int .i64 k
 t6:(gK 6).run tm=.int .i64 (p2 k-1)
 t8:(gK 8).run tm=.ptr B 0 0
 t13:(gK 13).run tm=s.enc Rg.cells
 t14:(gK 14).run tm=.int .i64 s.l.length
 t15:(gK 15).run tm=.int .i64 i
theorem qpf(k:Nat)(hk:k<=30)(s:Sl Rg)(hs:s.l.length<100000000)(hd:∀r∈s.l,0<=r.lo/\r.lo<=r.hi/\r.hi<=1114111){d:Bool}{mk:Nat}{h:Heap} :
  WF PR d mk (.fn 182 [] []) [.int .i64 k,s.enc Rg.cells] h λr=>r=⟨(slR (qhF k s.l)).enc Rg.cells,h⟩:=by
 refine qBt f182 b182 [.tm 4] rfl rfl rfl rfl rfl rfl ?_;unfold b182;have pk:=qeh k;have pk2:=qmv (k:=k) (by omega);have hshl:=qrj (k:=k) (kk:=.i64) (by omega);simp -dsimp[hshl,fw64 (n:=p2 k-1) (by omega) (by omega)];refine qaf (λn st=>∃(i:Int) (v:V),0<=i/\(n:Int)=s.l.length-i/\(gK 15).run st.tm=.int .i64 i/\(gK 5).run st.tm=v/\Own st.h h.n v 2 ((qbV k s.l i.toNat).map Rg.cells)/\h.n<=st.h.n/\st.defs=[]) s.l.length
  ⟨0,.nils,by omega,by omega,by simp,by simp,.inl ⟨rfl,rfl⟩,Jac _,rfl⟩ ?_
 rintro n ⟨tm,h1,defs,round⟩ ⟨i,v,hi,hn,h15,h5,hO,hn1,rfl⟩ hK;have t0:=hK 0 rfl;have t6:=hK 6 rfl;have t13:=hK 13 rfl;have t14:=hK 14 rfl;simp at t0 t6 t13 t14 h15 h5;simp only at hO hn1;clear hK;simp -dsimp[h15,t14];rw[qaa];refine⟨λhc=>?_,λhc=>?_⟩
 ·simp at hc;have hc':i<((s.l.length:Nat):Int):=by omega
  obtain⟨r,hr⟩:∃r,lat s.l i.toNat=r:=⟨_,rfl⟩;have hlen:=qdd k s.l i.toNat;have hdr:=hd r (by rw[<-hr]; exact qai (by omega));obtain⟨out,hout⟩:∃out,qbV k s.l i.toNat=out:=⟨_,rfl⟩;have hup:qbV k s.l (i.toNat+1)=out++qeN k r:=by rw[qbV,hout,hr]
  rw[hout]at hO hlen;have hSP:SP ((h1.push (Obj.rows [[V.int IntKind.i64 0,V.int IntKind.i64 0]])).set h1.n (Obj.rows [[V.int IntKind.i64 r.lo,V.int IntKind.i64 r.hi]])) h.n h1.n v out r.lo r.hi:=by
   refine SP.put ⟨hO.ext (λj hj=>by rw[qBq,Jaa (by omega)]) (by simp),by simp; exact⟨rfl,rfl⟩,?_,by simp,hn1⟩ _ _;rcases hO with ⟨q,q'⟩|⟨id,q3,q4,q5,q6,q7⟩
   ·rw[q]; simp[slId]
   ·rw[q3]; simp[slId]; omega
  obtain⟨H1,hH1⟩:∃H1,(h1.push (Obj.rows [[V.int IntKind.i64 0,V.int IntKind.i64 0]])).set h1.n (Obj.rows [[V.int IntKind.i64 r.lo,V.int IntKind.i64 r.hi]])=H1:=⟨_,rfl⟩;rw[hH1]at hSP;have hHn:h1.n+1=H1.n:=by rw[<-hH1]; simp
  have r1:r.lo<4611686018427387904:=by omega
  have r2:r.hi<4611686018427387904:=by omega
  have r3:0<=r.hi:=by omega
  have sl:=qkj (a:=r.lo) (k:=k) (kk:=.i64) (by omega);have sh:=qkj (a:=r.hi) (k:=k) (kk:=.i64) (by omega);have hit:(i+1).toNat=i.toNat+1:=by omega
  simp -dsimp[-qar,qnc,t13,h15,hi,hc',hr,Rg.cells,hn1,hH1,hSP.box,t0,sl,sh];rw[qar];simp -dsimp[-qar,qnc,t13,h15,hi,hc',hr,Rg.cells,hn1,hH1,hSP.box,t0,sl,sh];have pk3:p2 k<=1073741824:=by
   have:2 ^ k<=2 ^ 30:=Nat.pow_le_pow_right (by omega) hk;simp only[p2]; omega
  have qa:p2 k * (r.lo / p2 k)<=r.lo:=Int.mul_ediv_self_le (by omega);have qb:0<=p2 k * (r.lo / p2 k):=Int.mul_nonneg (by omega) (Int.ediv_nonneg (by omega) (by omega));have qc:p2 k * (r.hi / p2 k)<=r.hi:=Int.mul_ediv_self_le (by omega);have qd:0<=p2 k * (r.hi / p2 k):=Int.mul_nonneg (by omega) (Int.ediv_nonneg (by omega) (by omega));have al:=qk1 (a:=r.lo) (k:=k) (by omega) r1 (by omega);have ol:=or_low (a:=r.lo) (k:=k) (by omega) r1 (by omega);have ah:=qk1 (a:=r.hi) (k:=k) (by omega) r2 (by omega);have nh:=qm4 (a:=r.hi) (k:=k) (by omega) r2 (by omega);rw[qaa];refine⟨λhe=>?_,λhe=>?_⟩
  ·simp at he;simp -dsimp[h5,hSP.box];rw[qaE (xs:=[[.int .i64 r.lo,.int .i64 r.hi]]) (by simp)];refine qBC ?_;obtain⟨v',H2,a1,a2,a3,_⟩:=hSP.app r.lo r.hi (by omega);simp -dsimp;refine⟨_,a1,?_⟩;simp -dsimp[h15,fw64 (n:=i+1) (by omega) (by omega)];refine qah.intro (n-1) (by omega) ⟨i+1,v',by omega,by omega,by simp,by simp,?_,by simp; omega,rfl⟩;rw[hit,hup,qeN,Jab he];exact a2.own
  simp at he;have hsr:qeN k r=splA k r++splB k r++splC k r:=by rw[qeN,Jaa he]
  rw[hsr]at hup;have hS:SK0 k s h1.n i ((sK 8).run (.ptr h1.n 0 0) tm):=⟨by simp[t0],by simp[t6],by simp,by simp[t13],by simp[t14],by simp[h15]⟩;simp -dsimp[-qar];rw[<-qgq];refine qk6 (λo st=>o=.normal/\∃v',SK0 k s h1.n i st.tm/\(gK 5).run st.tm=v'/\SP st.h h.n h1.n v' (out++splA k r) (qb3 k r) r.hi/\st.defs=[]) ?_ ?_
  ·simp -dsimp[hSP.box,t6,al,-qeG];rw[qaa];refine⟨λhx=>?_,λhx=>?_⟩
   ·simp at hx;simp -dsimp[h5,hSP.box,t6,ol,-qia];rw[qaE (xs:=[[.int .i64 r.lo,.int .i64 (p2 k * (r.lo / p2 k)+(p2 k-1))]]) (by simp)];refine qBC ?_;obtain⟨v',H2,a1,a2,a3,_⟩:=hSP.app r.lo (p2 k * (r.lo / p2 k)+(p2 k-1)) (by omega);simp -dsimp;refine⟨_,a1,?_⟩;have e1:splA k r=[⟨r.lo,p2 k * (r.lo / p2 k)+(p2 k-1)⟩]:=by rw[splA,Jaa hx]
    have e2:qb3 k r=p2 k * (r.lo / p2 k)+(p2 k-1)+1:=by rw[qb3,Jaa hx]
    simp -dsimp[a2.box,t6,ol,-qia,hn1,fw64 (n:=p2 k * (r.lo / p2 k)+(p2 k-1)+1) (by omega) (by omega)];refine⟨⟨by simp[t0],by simp[t6],by simp,by simp[t13],by simp[t14],by simp[h15]⟩,?_⟩;rw[e1,e2];exact a2.put _ _
   ·simp at hx;simp -dsimp;have e1:splA k r=[]:=by rw[splA,Jab hx]
    have e2:qb3 k r=r.lo:=by rw[qb3,Jab hx]
    refine⟨⟨by simp[t0],by simp[t6],by simp,by simp[t13],by simp[t14],by simp[h15]⟩,?_⟩;rw[e1,e2,List.append_nil,h5];exact hSP
  rintro o ⟨tm2,H2,defs2,round2⟩ ⟨rfl,v2,hS2,h52,hP2,rfl⟩;simp only at hS2 h52 hP2;have hmH:h.n<=H2.n:=by have:=hP2.lt; have:=hP2.m; omega
  simp -dsimp[-qar];rw[qar];simp -dsimp[-qar,hS2.t8,hP2.box,hmH];have hvC:slId v2≠some H2.n:=by
   rcases hP2.own with ⟨q,q'⟩|⟨id,q3,q4,q5,q6,q7⟩
   ·rw[q]; simp[slId]
   ·rw[q3]; simp[slId]; omega
  have hCB:H2.n≠h1.n:=by have:=hP2.lt; omega
  have hP3:=(hP2.push (Obj.rows [[V.int IntKind.i64 0,V.int IntKind.i64 0]])).far (o:=Obj.rows [[V.int IntKind.i64 (qb3 k r),V.int IntKind.i64 r.hi]]) hCB hvC;obtain⟨H3,hH3⟩:∃H3,(H2.push (Obj.rows [[V.int IntKind.i64 0,V.int IntKind.i64 0]])).set H2.n (Obj.rows [[V.int IntKind.i64 (qb3 k r),V.int IntKind.i64 r.hi]])=H3:=⟨_,rfl⟩;obtain⟨C,hC⟩:∃C,H2.n=C:=⟨_,rfl⟩;have hbC:H3.get C=some (.rows [[.int .i64 (qb3 k r),.int .i64 r.hi]]):=by rw[<-hH3,hC,qBp,Jab rfl]
  have hCn:C<H3.n:=by rw[<-hH3,<-hC]; simp
  rw[hH3]at hP3;rw[hH3,hC];rw[hC]at hvC hCB;have hS3:SK0 k s h1.n i ((sK 9).run (.ptr C 0 0) ((sK 53).run (.agg [.int .i64 (qb3 k r),.int .i64 r.hi]) tm2)):=⟨by simp[hS2.t0],by simp[hS2.t6],by simp[hS2.t8],by simp[hS2.t13],by simp[hS2.t14],by simp[hS2.t15]⟩;have hlo : -1<=qb3 k r/\qb3 k r<=2147483648:=by rw[qb3]; split<;>omega
  have hhi : -1<=qch k r/\qch k r<=1114111:=by rw[qch]; split<;>omega
  have lA:(out++splA k r).length<=3 * i.toNat+1:=by
   rw[Jao]; unfold splA; split<;>simp<;>omega
  rw[<-qgq];refine qk6 (λo st=>o=.normal/\SK0 k s h1.n i st.tm/\(gK 9).run st.tm=.ptr C 0 0/\(gK 5).run st.tm=v2/\SP st.h h.n h1.n v2 (out++splA k r) (qb3 k r) (qch k r)/\st.h.get C=some (.rows [[.int .i64 (qb3 k r),.int .i64 r.hi]])/\C<st.h.n/\st.defs=[]) ?_ ?_
  ·simp -dsimp[hP3.box,hS2.t8,hS2.t6,ah,-qeG];rw[qaa];refine⟨λhx=>?_,λhx=>?_⟩
   ·simp at hx;have e1:qch k r=p2 k * (r.hi / p2 k)-1:=by rw[qch,Jaa hx]
    simp -dsimp[hP3.box,hS2.t8,hS2.t6,nh,-qea,hn1,fw64 (n:=p2 k * (r.hi / p2 k)-1) (by omega) (by omega)];refine⟨⟨by simp[hS2.t0],by simp[hS2.t6],by simp[hS2.t8],by simp[hS2.t13],by simp[hS2.t14],by simp[hS2.t15]⟩,by simp[h52],?_,?_,by simpa using hCn⟩
    ·rw[e1]; exact hP3.put _ _
    ·rw[Jaa hCB,hbC]
   ·simp at hx;have e1:qch k r=r.hi:=by rw[qch,Jab hx]
    simp -dsimp;refine⟨⟨by simp[hS2.t0],by simp[hS2.t6],by simp[hS2.t8],by simp[hS2.t13],by simp[hS2.t14],by simp[hS2.t15]⟩,by simp[h52],by rw[e1]; exact hP3,hbC,hCn⟩
  rintro o ⟨tm4,H4,defs4,round4⟩ ⟨rfl,hS4,h94,h54,hP4,hC4,hCn4,rfl⟩;simp only at hS4 h94 h54 hP4 hC4 hCn4;clear hP3 hS3 hbC hCn hH3 hS2 hP2 h52;simp -dsimp[-qar];rw[<-qgq];refine qk6 (λo st=>o=.normal/\∃v',SK0 k s h1.n i st.tm/\(gK 9).run st.tm=.ptr C 0 0/\(gK 5).run st.tm=v'/\SP st.h h.n h1.n v' (out++splA k r++splB k r) (qb3 k r) (qch k r)/\st.h.get C=some (.rows [[.int .i64 (qb3 k r),.int .i64 r.hi]])/\st.defs=[]) ?_ ?_
  ·simp -dsimp[hP4.box,hS4.t8];rw[qaa];refine⟨λhx=>?_,λhx=>?_⟩
   ·simp at hx;have e1:splB k r=[⟨qb3 k r,qch k r⟩]:=by rw[splB,Jab hx]
    simp -dsimp[h54,hP4.box,hS4.t8];rw[qaE (xs:=[[.int .i64 (qb3 k r),.int .i64 (qch k r)]]) (by simp)];refine qBC ?_;obtain⟨v',H5,a1,a2,a3,a4,a5⟩:=hP4.app (qb3 k r) (qch k r) (by omega);simp -dsimp;refine⟨_,a1,?_⟩;simp -dsimp[h94];refine⟨⟨by simp[hS4.t0],by simp[hS4.t6],by simp[hS4.t8],by simp[hS4.t13],by simp[hS4.t14],by simp[hS4.t15]⟩,?_,?_⟩
    ·rw[e1,<-List.append_assoc]; exact a2
    ·rw[a4 _ hCn4 hvC,hC4]
   ·simp at hx;have e1:splB k r=[]:=by rw[splB,Jaa (by omega)]
    simp -dsimp[h94];refine⟨⟨by simp[hS4.t0],by simp[hS4.t6],by simp[hS4.t8],by simp[hS4.t13],by simp[hS4.t14],by simp[hS4.t15]⟩,?_,hC4⟩;rw[e1,List.append_nil,h54]; exact hP4
  rintro o ⟨tm5,H5,defs5,round5⟩ ⟨rfl,v5,hS5,h95,h55,hP5,hC5,rfl⟩;simp only at hS5 h95 h55 hP5 hC5;have lB:(out++splA k r++splB k r).length<=3 * i.toNat+2:=by
   rw[Jao]; unfold splB; split<;>simp at *<;>omega
  simp -dsimp[hP5.box,hS5.t8,h95,hC5];rw[qaa];refine⟨λhx=>?_,λhx=>?_⟩
  ·simp at hx;have e1:splC k r=[⟨qch k r+1,r.hi⟩]:=by rw[splC,Jab hx]
   simp -dsimp[h55,hP5.box,hS5.t8,h95,hC5,fw64 (n:=qch k r+1) (by omega) (by omega)];rw[qaE (xs:=[[.int .i64 (qch k r+1),.int .i64 r.hi]]) (by simp)];refine qBC ?_;obtain⟨v',H6,a1,a2,a3,a4,a5⟩:=hP5.app (qch k r+1) r.hi (by omega);simp -dsimp;refine⟨_,a1,?_⟩;simp -dsimp[hS5.t15,fw64 (n:=i+1) (by omega) (by omega)];refine qah.intro (n-1) (by omega) ⟨i+1,v',by omega,by omega,by simp,by simp,?_,by have:=a2.lt; have:=a2.m; simp; omega,rfl⟩;rw[hit,hup,e1];simpa[List.append_assoc]using a2.own
  ·simp at hx;have e1:splC k r=[]:=by rw[splC,Jaa (by omega)]
   simp -dsimp[hS5.t15,fw64 (n:=i+1) (by omega) (by omega)];refine qah.intro (n-1) (by omega) ⟨i+1,v5,by omega,by omega,by simp,by simp[h55],?_,by have:=hP5.lt; have:=hP5.m; simp; omega,rfl⟩;rw[hit,hup,e1,List.append_nil,<-List.append_assoc];exact hP5.own
 ·simp at hc;have hc':decide (i<(s.l.length:Int))=false:=by simpa using hc
  have:i.toNat=s.l.length:=by omega
  rw[this]at hO;simp -dsimp[hc',h5];exact qov hO (Jac _)
theorem qjR{r x:Int}:∀{j:Nat},x∈conts r j->0<=x/\x<=255
 | 0,h=>by simp[conts]at h
 | j+1,h=>by
  simp only[conts,Jag]at h;rcases h with rfl|h
  ·omega
  ·exact qjR h
theorem qmI{r:Int}(h:mayI r=true):0<=qcv (qbB r)+r / p2 (6 * (qbB r-1))/\qcv (qbB r)+r / p2 (6 * (qbB r-1))<=255:=by
 simp only[mayI,Jad,Jai]at h;obtain⟨⟨r0,r1⟩,_⟩:=h;have e0:p2 0=1:=rfl;have e6:p2 6=64:=rfl;have e12:p2 12=4096:=rfl;have e18:p2 18=262144:=rfl;simp only[qbB];split
 ·simp[qcv,e0]; omega
 ·split
  ·simp[qcv,e6]; omega
  ·split
   ·simp[qcv,e12]; omega
   ·simp[qcv,e18]; omega
theorem qlk{r x:Int}(h:x∈(putS r).l):0<=x/\x<=255:=by
 unfold putS at h;split at h
 ·rename_i hm;simp only[l_of,putL,Jag]at h;rcases h with rfl|h
  ·exact qmI hm
  ·exact qjR h
 ·simp at h
def qiw(a b:List Int):Nat->List Rg
 | 0=>[]
 | i+1=>qiw a b i++[⟨lat a i,lat b i⟩]
def oneL(r:Rg):List Rg:=qiw (putS r.lo).l (putS r.hi).l (putS r.lo).l.length
theorem qe1(a b:List Int):∀i,(qiw a b i).length=i
 | 0=>rfl
 | i+1=>by simp[qiw,qe1 a b i]
theorem qll(r:Int):(putS r).l.length<=4:=by
 have:=qle r;unfold putS; split
 ·simp[putL,qff]; omega
 ·simp
section
variable {d:Bool}{mk:Nat}{h:Heap}
theorem one_ok(r:Rg)(hr:(putS r.lo).l.length<=(putS r.hi).l.length):WF PR d mk (.fn 183 [] []) [.agg r.cells] h λx=>x=⟨(slR (oneL r)).enc Rg.cells,h⟩:=by
 refine qBt f183 b183 [.tm 2] rfl rfl rfl rfl rfl rfl ?_;unfold b183;simp -dsimp[Rg.cells];refine WFS.by (qq0 r.lo) ?_
 intro v h1 e;cases e;simp -dsimp;refine WFS.by (qq0 r.hi) ?_
 intro v h1 e;cases e;have hl4:=qll r.lo;obtain⟨a,ha⟩:∃a,putS r.lo=a:=⟨_,rfl⟩;obtain⟨b,hb⟩:∃b,putS r.hi=b:=⟨_,rfl⟩;have hma:∀x∈a.l,0<=x/\x<=255:=λx hx=>qlk (r:=r.lo) (ha ▸ hx);have hmb:∀x∈b.l,0<=x/\x<=255:=λx hx=>qlk (r:=r.hi) (hb ▸ hx);have hone:oneL r=qiw a.l b.l a.l.length:=by rw[oneL,ha,hb]
 rw[ha,hb]at hr;rw[ha]at hl4;simp -dsimp[ha,hb];rw[hone];refine qaf (λn st=>∃(i:Int) (v:V),0<=i/\(n:Int)=a.l.length-i/\(gK 23).run st.tm=.int .i64 i/\(gK 7).run st.tm=v/\Own st.h h.n v 2 ((qiw a.l b.l i.toNat).map Rg.cells)/\h.n<=st.h.n/\st.defs=[]) a.l.length
  ⟨0,.nils,by omega,by omega,by simp,by simp,.inl ⟨rfl,rfl⟩,by simp<;>omega,rfl⟩ ?_
 rintro n ⟨tm,h1,defs,round⟩ ⟨i,v,hi,hn,h23,h7,hO,hn1,rfl⟩ hK;have t3:=hK 3 rfl;have t5:=hK 5 rfl;have t22:=hK 22 rfl;simp at t3 t5 t22 h23 h7;simp only at hO hn1;clear hK;simp -dsimp[h23,t22];rw[qaa];refine⟨λhc=>?_,λhc=>?_⟩
 ·simp at hc;have hc1:i<((a.l.length:Nat):Int):=by omega
  have hc2:i<((b.l.length:Nat):Int):=by omega
  have ma:=hma _ (qai (l:=a.l) (i:=i.toNat) (by omega));have mb:=hmb _ (qai (l:=b.l) (i:=i.toNat) (by omega));have hlen:=qe1 a.l b.l i.toNat;simp -dsimp[h23,t3,t5,h7,qdb,qap (f:=qdb) (s:=a) (esz:=1) (k:=.i64) hi hc1 (λ_=>rfl),qap (f:=qdb) (s:=b) (esz:=1) (k:=.i64) hi hc2 (λ_=>rfl),fw64 (n:=lat a.l i.toNat) (by omega) (by omega),fw64 (n:=lat b.l i.toNat) (by omega) (by omega)];rw[qaE (xs:=[[.int .i64 (lat a.l i.toNat),.int .i64 (lat b.l i.toNat)]]) (by simp)];refine qBC ?_;obtain⟨v',h2,a1,a2,a3,a4,a5⟩:=qaC (mk:=h.n) (bytes:=16) (xs:=[[.int .i64 (lat a.l i.toNat),.int .i64 (lat b.l i.toNat)]]) hO (by omega) (by simp) (by simp; omega) (by omega) (by omega);simp -dsimp;refine⟨_,a1,?_⟩;simp -dsimp[h23,fw64 (n:=i+1) (by omega) (by omega)];refine qah.intro (n-1) (by omega) ⟨i+1,v',by omega,by omega,by simp,by simp,?_,by simp; omega,rfl⟩;rw[show(i+1).toNat=i.toNat+1 by omega,qiw,List.map_append];exact a2
 ·simp at hc;have hc':decide (i<(a.l.length:Int))=false:=by simpa using hc
  have:i.toNat=a.l.length:=by omega
  rw[this]at hO;simp -dsimp[hc',h7];exact qiK hO (Jac _)
def qbs(i:Nat):Rg:=if i=0 then ⟨0,127⟩else if i=1 then ⟨128,2047⟩else if i=2 then ⟨2048,55295⟩else if i=3 then ⟨57344,65535⟩else ⟨65536,1114111⟩
def qdg(i:Nat):Nat:=if i=0 then 0 else if i=1 then 1 else if i=2 then 2 else if i=3 then 2 else 3
def qkC(i:Nat):List V:=(qbs i).cells++[.int .i64 (qdg i)]
def qqR:V:=.agg (qkC 0++qkC 1++qkC 2++qkC 3++qkC 4)
theorem qpY:WF PR d mk (.fn 180 [] []) [] h λx=>x=⟨qqR,h⟩:=by
 refine qBt f180 b180 [.cell (some 15) 0] rfl rfl rfl rfl rfl rfl ?_;unfold b180;simp -dsimp;rfl
theorem qpZ{i:Int}(h0:0<=i)(h1:i<5):qfF 5 3 true qqR (.int .i64 i)=some (.agg (qkC i.toNat)):=by
 have:i=0\/i=1\/i=2\/i=3\/i=4:=by omega
 rcases this with rfl|rfl|rfl|rfl|rfl<;>rfl
end
theorem qg3(x:Int):∀l:List Int,l.Pairwise (·<=·)->(insI x l).Pairwise (·<=·)
 | [],_=>by simp[insI]
 | y::l,h=>by
  rw[List.pairwise_cons]at h;simp only[insI]
  by_cases c:x<=y
  ·rw[qgZ,decide_eq_true c];simp only[cond];rw[List.pairwise_cons,List.pairwise_cons];exact⟨λz hz=>by
    rcases Jag.1 hz with rfl|hz
    ·exact c
    ·exact Int.le_trans c (h.1 z hz),h⟩
  ·rw[qgZ,decide_eq_false c];simp only[cond];rw[List.pairwise_cons];refine⟨λz hz=>?_,qg3 x l h.2⟩;have:z=x\/z∈l:=by
    have key:∀l:List Int,z∈insI x l->z=x\/z∈l:=by
     intro l;induction l with
     | nil=>simp[insI]
     | cons w l ih =>
      simp only[insI];cases leB x w with
      | true=>simp
      | false =>
       simp only[cond,Jag];rintro (h|h)
       ·exact .inr (.inl h)
       ·rcases ih h with h|h
        ·exact .inl h
        ·exact .inr (.inr h)
    exact key l hz
   rcases this with rfl|hz
   ·omega
   ·exact h.1 z hz
theorem qfQ:∀l:List Int,(qa8 l).Pairwise (·<=·)
 | []=>by simp[qa8]
 | x::l=>qg3 x _ (qfQ l)
theorem qhh{l:List Int}(hl:l.Pairwise (·<=·)):∀i,i<=l.length->(ddUp l i).Pairwise (· < ·)/\∀x∈ddUp l i,x<=lat l (i-1)
 | 0,_=>by simp[ddUp]
 | i+1,hi=>by
  obtain⟨h1,h2⟩:=qhh hl i (by omega);have hstep:0<i->lat l (i-1)<=lat l i:=λh0=>by
   rw[List.pairwise_iff_getElem]at hl;rw[lat_eq (by omega),lat_eq (by omega)];exact hl _ _ (by omega) (by omega) (by omega)
  simp only[ddUp,Nat.add_sub_cancel];split
  ·rename_i hc;refine⟨List.pairwise_append.2 ⟨h1,by simp,λx hx y hy=>?_⟩,λx hx=>?_⟩
   ·simp at hy; subst hy;have hx':=h2 x hx
    by_cases h0:i=0
    ·subst h0; simp[ddUp]at hx
    ·have:=hstep (by omega);rcases hc with hc|hc
     ·exact absurd hc h0
     ·omega
   ·rcases Jaj.1 hx with hx|hx
    ·by_cases h0:i=0
     ·subst h0; simp[ddUp]at hx
     ·have:=h2 x hx; have:=hstep (by omega); omega
    ·simp at hx; omega
  ·rename_i hc;refine⟨h1,λx hx=>?_⟩;have:=h2 x hx
   by_cases h0:i=0
   ·exact absurd (.inl h0) hc
   ·have:=hstep (by omega); omega
theorem qj1(l:List Rg):(qaX l).Pairwise (· < ·):=(qhh (qfQ _) _ (Jac _)).1
theorem qiR{l:List Rg}{i j:Nat}(h:i<j)(hj:j<(qaX l).length):lat (qaX l) i<lat (qaX l) j:=by
 have:=qj1 l;rw[List.pairwise_iff_getElem]at this;rw[lat_eq (by omega),lat_eq hj];exact this _ _ (by omega) hj h
theorem qoR{l:List Rg}{i:Nat}{x:Int}(hx:x∈qaX l)(hi:i+1<(qaX l).length)(h:lat (qaX l) i<x):lat (qaX l) (i+1)<=x:=by
 rw[List.mem_iff_getElem]at hx;obtain⟨k,hk,rfl⟩:=hx;rw[<-lat_eq hk]at h ⊢
 by_cases c:k<=i
 ·by_cases e:k=i
  ·subst e; omega
  ·have:=qiR (l:=l) (i:=k) (j:=i) (by omega) (by omega); omega
 ·by_cases e:k=i+1
  ·subst e; omega
  ·have:=qiR (l:=l) (i:=i+1) (j:=k) (by omega) hk; omega
theorem qn8{l:List Rg}{r:Rg}{x:Int}(hr:r∈l)(hx:x∈qfM r):x∈qaX l:=by
 rw[qaX,qjw,qc2];have key:∀i,(∃j,j<i/\lat l j=r)->x∈qaO l i:=by
  intro i;induction i with
  | zero=>rintro⟨j,h,_⟩; omega
  | succ i ih =>
   rintro⟨j,hj,e⟩;rw[qaO,Jaj]
   by_cases c:j=i
   ·subst c; right; rw[e]; exact hx
   ·exact .inl (ih ⟨j,by omega,e⟩)
 rw[List.mem_iff_getElem]at hr;obtain⟨k,hk,e⟩:=hr;exact key _ ⟨k,hk,by rw[lat_eq hk,e]⟩
def qkf(p:Int->Bool)(B:List Int)(i:Nat)(x:Rg):Prop :=
 p x.lo=true/\x.lo<=x.hi/\x.lo∈B/\∃m,m<i/\p (lat B m)=true/\x.hi=lat B (m+1)-1
theorem qkf.mono{p:Int->Bool}{B:List Int}{i j:Nat}{x:Rg}(h:qkf p B i x)(hij:i<=j):qkf p B j x:=by
 obtain⟨a,b,b2,m,c,d⟩:=h;exact⟨a,b,b2,m,by omega,d⟩
theorem qjl{p:Int->Bool}{l:List Rg}:∀i,i<(qaX l).length->∀x∈qbZ p (qaX l) i,qkf p (qaX l) i x
 | 0,_,x,hx=>by simp[qbZ]at hx
 | i+1,hi,x,hx=>by
  have ih:=qjl (p:=p) (l:=l) i (by omega);have hlt:=qiR (l:=l) (i:=i) (j:=i+1) (by omega) hi;simp only[qbZ,qbP]at hx;split at hx
  ·rename_i hp;split at hx
   ·rename_i hc;rcases List.mem_or_eq_of_mem_set hx with hx|hx
    ·exact(ih x hx).mono (by omega)
    ·have hm:=qai (l:=qbZ p (qaX l) i) (i:=(qbZ p (qaX l) i).length-1) (by omega);obtain⟨a,b,b2,_⟩:=ih _ hm;have:=hc.2;rw[hx];exact⟨a,by simp only; omega,b2,i,by omega,hp,rfl⟩
   ·rcases Jaj.1 hx with hx|hx
    ·exact(ih x hx).mono (by omega)
    ·simp at hx;rw[hx];exact⟨hp,by simp only; omega,qai (by omega),i,by omega,hp,rfl⟩
  ·exact(ih x hx).mono (by omega)
theorem qpB{p:Int->Bool}{l:List Rg}{x:Rg}(hx:x∈qkp p l):qkf p (qaX l) ((qaX l).length-1) x :=
 qjl _ (by have:=qj2 l; omega) x hx
def InR(K x:Rg):Prop:=K.lo<=x.lo/\x.lo<=x.hi/\x.hi<=K.hi
theorem qrK{p:Int->Bool}{l:List Rg}{x K:Rg}(hx:x∈qkp p l)(hK:K∈l)(h0:0<=K.lo)(h1:K.hi<=1114111)(hp:∀n,p n=true->K.lo<=n/\n<=K.hi):InR K x:=by
 obtain⟨a,b,_,m,c,d,e⟩:=qpB hx;have h2:=hp _ a;have h3:=hp _ d;refine⟨h2.1,b,?_⟩;have hb:K.hi+1∈qaX l:=by
  refine qn8 hK ?_;simp[qfM]; omega
 have:=qoR hb (i:=m) (by omega) (by omega);omega
theorem qqF{r K x:Rg}(h0:0<=K.lo)(h1:K.hi<=1114111)(hx:x∈twoL and [r] [K]):InR K x:=by
 refine qrK hx (by simp) h0 h1 λn hn=>?_;simp[hasB,inR]at hn;omega
theorem qnu{k:Nat}{r K x:Rg}(hr:InR K r)(h0:0<=K.lo)(hx:x∈qeN k r):InR K x:=by
 have pk:=qeh k;obtain⟨a,b,c⟩:=hr;unfold qeN at hx;split at hx
 ·simp at hx; subst hx; exact⟨a,b,c⟩
 ·rename_i hne;have qa:p2 k * (r.lo / p2 k)<=r.lo:=Int.mul_ediv_self_le (by omega);have qc:p2 k * (r.hi / p2 k)<=r.hi:=Int.mul_ediv_self_le (by omega);have hlt:r.lo / p2 k+1<=r.hi / p2 k:=by
   have:=Int.ediv_le_ediv pk b;omega
  have hmul:p2 k * (r.lo / p2 k)+p2 k<=p2 k * (r.hi / p2 k):=by
   have:=Int.mul_le_mul_of_nonneg_left hlt (Int.le_of_lt pk);rw[Int.mul_add,Int.mul_one]at this;exact this
  have ea:=Int.mul_ediv_add_emod r.lo (p2 k);have ea2:=Int.emod_lt_of_pos r.lo pk;have eb:=Int.mul_ediv_add_emod r.hi (p2 k);have eb2:=Int.emod_lt_of_pos r.hi pk;have ea3:=Int.emod_nonneg r.lo (show p2 k≠0 by omega);have eb3:=Int.emod_nonneg r.hi (show p2 k≠0 by omega);have hlo:r.lo<=qb3 k r/\qb3 k r<=p2 k * (r.lo / p2 k)+p2 k:=by unfold qb3; split<;>omega
  have hhi:p2 k * (r.hi / p2 k)-1<=qch k r/\qch k r<=r.hi:=by unfold qch; split<;>omega
  simp only[Jaj]at hx;rcases hx with (hx|hx)|hx
  ·unfold splA at hx;split at hx
   ·simp at hx
   ·simp at hx; subst hx; exact⟨a,by simp only; omega,by simp only; omega⟩
  ·unfold splB at hx;split at hx
   ·simp at hx; subst hx; exact⟨by simp only; omega,by simp only; omega,by simp only; omega⟩
   ·simp at hx
  ·unfold splC at hx;split at hx
   ·simp at hx; subst hx; exact⟨by simp only; omega,by simp only; omega,c⟩
   ·simp at hx
theorem qi9{k:Nat}{l:List Rg}{K x:Rg}(hl:∀r∈l,InR K r)(h0:0<=K.lo)(hx:x∈qhF k l):InR K x:=by
 have key:∀i,i<=l.length->x∈qbV k l i->InR K x:=by
  intro i;induction i with
  | zero=>intro _ h; simp[qbV]at h
  | succ i ih =>
   intro hi h;rw[qbV,Jaj]at h;rcases h with h|h
   ·exact ih (by omega) h
   ·exact qnu (hl _ (qai (by omega))) h0 h
 exact key _ (Jac _) hx
def qaP(s:Sl Rg):List V:=[s.enc Rg.cells]
def qen:Nat->List Rg->List Rg
 | 0,l=>l
 | n+1,l=>qen n (qhF (6 * (n+1)) l)
def qoi(r:Rg)(i:Nat):List Rg:=qen (qdg i) (twoL and [r] [qbs i])
def qee(x:Rg):Sl Rg:=slR (oneL x)
def ofR(r:Rg)(i:Nat):List (Sl Rg):=(qoi r i).map qee
def qdz(r:Rg):Nat->List (Sl Rg)
 | 0=>[]
 | i+1=>qdz r i++ofR r i
def ofUp(l:List Rg):Nat->List (Sl Rg)
 | 0=>[]
 | j+1=>ofUp l j++qdz (lat l j) 5
def ofL(l:List Rg):List (Sl Rg):=ofUp (qgL l) (qgL l).length
def slQ(l:List (Sl Rg)):Sl (Sl Rg):=if l.isEmpty then .nil else .of l
@[simp]theorem slQ_l(l:List (Sl Rg)):(slQ l).l=l:=by unfold slQ; cases l<;>rfl
theorem qgv:∀n l,(qen n l).length<=3 ^ n * l.length
 | 0,l=>by simp[qen]
 | n+1,l=>by
  have h1:=qgv n (qhF (6 * (n+1)) l);have h2:=qdd (6 * (n+1)) l l.length;simp only[qen];have:3 ^ n * (qhF (6 * (n+1)) l).length<=3 ^ n * (3 * l.length):=Nat.mul_le_mul_left _ h2;rw[Nat.pow_succ,Nat.mul_assoc];omega
theorem qeV(p:Int->Bool)(l:List Rg):(qkp p l).length<=1+2 * l.length:=by
 have h1:=qfw p (qaX l) ((qaX l).length-1);have h2:=qj4 l;unfold qkp; omega
theorem qlH(i:Nat):qdg i<=3:=by unfold qdg; split<;>(try split)<;>(try split)<;>(try split)<;>omega
theorem qlG(i:Nat):0<=(qbs i).lo/\(qbs i).lo<=(qbs i).hi/\(qbs i).hi<=1114111:=by
 unfold qbs; split<;>(try split)<;>(try split)<;>(try split)<;>simp
theorem qoh(r:Rg)(i:Nat):(qoi r i).length<=135:=by
 have h1:=qgv (qdg i) (twoL and [r] [qbs i]);have h2:(twoL and [r] [qbs i]).length<=5:=qeV _ ([r]++[qbs i]);have h3:3 ^ qdg i<=3 ^ 3:=Nat.pow_le_pow_right (by omega) (qlH i);have h4:3 ^ qdg i * (twoL and [r] [qbs i]).length<=27 * 5:=Nat.mul_le_mul h3 h2;unfold qoi; omega
theorem qgK(r:Rg):∀i,(qdz r i).length<=135 * i
 | 0=>by simp[qdz]
 | i+1=>by
  have h1:=qgK r i;have h2:=qoh r i;simp only[qdz,ofR,Jao,List.length_map]; omega
theorem qiA(l:List Rg):∀j,(ofUp l j).length<=675 * j
 | 0=>by simp[ofUp]
 | j+1=>by
  have h1:=qiA l j;have h2:=qgK (lat l j) 5;simp only[ofUp,Jao]; omega
theorem qg0{i:Nat}{x:Int}(h0:(qbs i).lo<=x)(h1:x<=(qbs i).hi):mayI x=true/\qbB x=qdg i+1:=by
 unfold qbs at h0 h1;unfold mayI qbB qdg;split at h0
 ·rename_i h; simp[h]at h1 h0 ⊢; omega
 ·rename_i h;split at h0
  ·rename_i h'; subst h'; simp at h1 h0 ⊢; refine⟨by omega,?_⟩; split; omega; split<;>omega
  ·rename_i h';split at h0
   ·rename_i h2; subst h2; simp at h1 h0 ⊢; refine⟨by omega,?_⟩; split; omega; split; omega; split<;>omega
   ·rename_i h2;split at h0
    ·rename_i h3; subst h3; simp at h1 h0 ⊢; refine⟨by omega,?_⟩; split; omega; split; omega; split<;>omega
    ·rename_i h3; simp[h,h',h2,h3]at h1 h0 ⊢; refine⟨by omega,?_⟩; split; omega; split; omega; split<;>omega
theorem qit{i:Nat}{x:Int}(h0:(qbs i).lo<=x)(h1:x<=(qbs i).hi):(putS x).l.length=qdg i+1:=by
 obtain⟨a,b⟩:=qg0 h0 h1;simp[putS,a,putL,qff,b]
theorem qmP{n k:Nat}{h:Heap}{l:List Rg}:freeze n h (k+3) ((slR l).enc Rg.cells)=some ((slR l).enc Rg.cells):=by
 cases l with
 | nil=>rfl
 | cons x l =>
  show(match allM (allM (freeze n h (k+2))) ((x::l).map Rg.cells)with|some r=>some (V.slR r false)|none=>none)=_;rw[qcw]; rfl
theorem qlM{n k:Nat}{h:Heap}:∀{l:List (Sl Rg)},(∀s∈l,∃x,s=qee x)->allM (allM (freeze n h (k+3))) (l.map qaP)=some (l.map qaP)
 | [],_=>rfl
 | s::l,hl=>by
  have ih:=qlM (n:=n) (k:=k) (h:=h) (l:=l) λs hs=>hl s (by simp[hs]);obtain⟨x,rfl⟩:=hl s (by simp);simp only[List.map_cons,allM,qaP,qee,qmP]at ih ⊢;rw[ih]
theorem qiz{l:List Rg}{s:Sl Rg}:∀{j:Nat},s∈ofUp l j->∃x,s=qee x
 | 0,h=>by simp[ofUp]at h
 | j+1,h=>by
  rw[ofUp,Jaj]at h;rcases h with h|h
  ·exact qiz h
  ·have key:∀i,s∈qdz (lat l j) i->∃x,s=qee x:=by
    intro i;induction i with
    | zero=>intro h; simp[qdz]at h
    | succ i ih =>
     intro h;rw[qdz,Jaj]at h;rcases h with h|h
     ·exact ih h
     ·simp only[ofR,Jak]at h;obtain⟨x,_,rfl⟩:=h;exact⟨x,rfl⟩
   exact key _ h
theorem qp7{h:Heap}{n m:Nat}{v:V}{l:List (Sl Rg)}(hO:Own h m v 1 (l.map qaP))(hn:n<=m)(hl:∀s∈l,∃x,s=qee x):freeze n h qat v=some ((slQ l).enc qaP):=by
 rcases hO with ⟨rfl,e⟩|⟨id,rfl,h2,h3,_,h5⟩
 ·have:l=[]:=by simpa using e
  subst this; rfl
 ·have hr:qal h (.sl id 0 (l.map qaP).length 1 false)=some (l.map qaP):=by simp[qal,h2]; rw[List.take_of_length_le (by simp)]
  have hni:n<=id:=by omega
  rw[qc5,hr];have:=qlM (n:=n) (h:=h) (k:=12) hl;simp only[this,qa3,hni,decide_true,cond];cases l with
  | nil=>simp at h5
  | cons x l=>rfl
structure OB (H:Heap) (m B:Nat) (v:V) (rows:List (Sl Rg)) (r:Rg):Prop where
 own:Own H m v 1 (rows.map qaP)
 box:H.get B=some (.rows [r.cells])
 ne:slId v≠some B
 lt:B<H.n
 m:m<=B
theorem OB.push{H:Heap}{m B:Nat}{v:V}{rows:List (Sl Rg)}{r:Rg}(h:OB H m B v rows r)(o:Obj):OB (H.push o) m B v rows r :=
 ⟨h.own.ext (λj hj=>by rw[qBq,Jaa (by omega)]) (by simp),by rw[qBq,Jaa (by have:=h.lt; omega),h.box],h.ne,by have:=h.lt; simp; omega,h.m⟩
theorem Own.idlt{h:Heap}{m e:Nat}{v:V}{rows:List (List V)}(hO:Own h m v e rows){j:Nat}(hj:h.n<=j):Go.Abs.slId v≠some j:=by
 rcases hO with ⟨rfl,_⟩|⟨id,rfl,_,_,h4,_⟩
 ·simp[Go.Abs.slId]
 ·simp[Go.Abs.slId]; omega
theorem Own.setOff{h:Heap}{m e j:Nat}{v:V}{rows:List (List V)}{o:Obj}(hO:Own h m v e rows)(hv:Go.Abs.slId v≠some j):Own (h.set j o) m v e rows:=by
 rcases hO with ⟨q,q'⟩|⟨id,q3,q4,q5,q6,q7⟩
 ·exact .inl ⟨q,q'⟩
 ·subst q3;simp[Go.Abs.slId]at hv;exact .inr ⟨id,rfl,by rw[qBp,Jaa hv,q4],q5,by simpa using q6,q7⟩
theorem OB.far{H:Heap}{m B j:Nat}{v:V}{rows:List (Sl Rg)}{r:Rg}{o:Obj}(h:OB H m B v rows r)(hj:j≠B)(hv:slId v≠some j):OB (H.set j o) m B v rows r :=
 ⟨h.own.setOff hv,by rw[qBp,Jaa (Ne.symm hj),h.box],h.ne,by have:=h.lt; simpa,h.m⟩
theorem OB.boxed{H:Heap}{m B:Nat}{v:V}{rows:List (Sl Rg)}{r:Rg}(h:OB H m B v rows r)(o o':Obj):OB ((H.push o).set H.n o') m B v rows r :=
 (h.push o).far (by have:=h.lt; omega) (h.own.idlt (Jac _))
theorem OB.app{H:Heap}{m B:Nat}{v:V}{rows:List (Sl Rg)}{r:Rg}(h:OB H m B v rows r)(s:Sl Rg)(hl:rows.length+1<4294967296) :
  ∃v' h',qaj m H 1 24 v [qaP s]=some ⟨v',h'⟩/\OB h' m B v' (rows++[s]) r/\H.n<=h'.n:=by
 have:=h.lt;have:=h.m;obtain⟨v',h',a1,a2,a3,a4,a5⟩:=qaC (mk:=m) (bytes:=24) (xs:=[qaP s]) h.own (Jac _) (by simp[qaP]) (by simpa using hl) (by omega) (by omega);refine⟨v',h',a1,⟨by simpa using a2,by rw[a4 _ h.lt h.ne,h.box],λe=>?_,by omega,h.m⟩,a3⟩;rcases a5 _ e with e|e
 ·omega
 ·exact h.ne e
theorem of_ok(s:Sl Rg)(hs:s.l.length<1500000){d:Bool}{mk:Nat}{h:Heap}:WF PR d mk (.fn 146 [] []) [s.enc Rg.cells] h λx=>x=⟨(slQ (ofL s.l)).enc qaP,h⟩:=by
 refine qBt f146 b146 [.tm 2] rfl rfl rfl rfl rfl rfl ?_;unfold b146;simp -dsimp;refine WFS.by (qsD s (by omega)) ?_
 intro v h1 e;cases e;have hnl:=qeV (hasB s.l) s.l;have hof:ofL s.l=ofUp (qgL s.l) (qgL s.l).length:=rfl;have hnl2:(qgL s.l).length<=1+2 * s.l.length:=hnl;obtain⟨nl,hnle⟩:∃nl,qgL s.l=nl:=⟨_,rfl⟩;rw[hnle]at hof hnl2;simp -dsimp[hnle,hof];refine qaf (λn st=>∃(j:Int) (v:V),0<=j/\(n:Int)=nl.length-j/\(gK 15).run st.tm=.int .i64 j/\(gK 3).run st.tm=v/\Own st.h h.n v 1 ((ofUp nl j.toNat).map qaP)/\h.n<=st.h.n/\st.defs=[]) nl.length
  ⟨0,.nils,by omega,by omega,by simp,by simp,.inl ⟨rfl,rfl⟩,by simp,rfl⟩ ?_
 rintro n ⟨tm,h1,defs,round⟩ ⟨j,v,hj,hn,h15,h3,hO,hn1,rfl⟩ hK;have t13:=hK 13 rfl;have t14:=hK 14 rfl;simp at t13 t14 h15 h3;simp only at hO hn1;clear hK;simp -dsimp[h15,t14];rw[qaa];refine⟨λhc=>?_,λhc=>?_⟩
 ·simp at hc;have hc':j<(((slR nl).l.length:Nat):Int):=by simp; omega
  obtain⟨r,hr⟩:∃r,lat nl j.toNat=r:=⟨_,rfl⟩;have hjt:(j+1).toNat=j.toNat+1:=by omega
  have hup:ofUp nl (j.toNat+1)=ofUp nl j.toNat++qdz r 5:=by rw[ofUp,hr]
  have hlen:=qiA nl j.toNat;obtain⟨out,hout⟩:∃out,ofUp nl j.toNat=out:=⟨_,rfl⟩;rw[hout]at hO hlen hup;have hOB:OB ((h1.push (Obj.rows [[V.int IntKind.i64 0,V.int IntKind.i64 0]])).set h1.n (Obj.rows [r.cells])) h.n h1.n v out r :=
   ⟨(hO.ext (λj hj=>by rw[qBq,Jaa (by omega)]) (by simp)).setOff (hO.idlt (Jac _)),by rw[qBp,Jab rfl],hO.idlt (Jac _),by simp,hn1⟩
  obtain⟨H1,hH1⟩:∃H1,(h1.push (Obj.rows [[V.int IntKind.i64 0,V.int IntKind.i64 0]])).set h1.n (Obj.rows [r.cells])=H1:=⟨_,rfl⟩;rw[hH1]at hOB;have hl2:(slR nl).l=nl:=slR_l nl;have hrc:[V.int IntKind.i64 r.lo,V.int IntKind.i64 r.hi]=r.cells:=rfl;simp -dsimp[t13,h15,qe7 hj hc',hr,Rg.cells,hn1];rw[hrc,hH1];refine WFS.by qpY ?_
  intro v0 h0 e;cases e;simp -dsimp;obtain⟨B,hB⟩:∃B,h1.n=B:=⟨_,rfl⟩;rw[hB]at hOB ⊢;refine qaf (λn st=>∃(i:Int) (v:V),0<=i/\i<=5/\(n:Int)=5-i/\(gK 20).run st.tm=.int .i64 i/\(gK 3).run st.tm=v/\OB st.h h.n B v (out++qdz r i.toNat) r/\st.defs=[]) 5
   ⟨0,v,by omega,by omega,by omega,by simp,by simp[h3],by simpa[qdz]using hOB,rfl⟩ ?_
  rintro n2 ⟨tm2,h2,defs2,round2⟩ ⟨i,v2,hi,hi5,hn2,h20,h32,hO2,rfl⟩ hK;have s5:=hK 5 rfl;have s19:=hK 19 rfl;have s13:=hK 13 rfl;have s14:=hK 14 rfl;have s15:=hK 15 rfl;simp[t13,t14,h15]at s5 s19 s13 s14 s15 h20 h32;simp only at hO2;clear hK;simp -dsimp[h20];rw[qaa];refine⟨λhd=>?_,λhd=>?_⟩
  ·simp at hd;obtain⟨it,hit⟩:∃it,i.toNat=it:=⟨_,rfl⟩;have hkc:qkC i.toNat=[.int .i64 (qbs it).lo,.int .i64 (qbs it).hi,.int .i64 (qdg it)]:=by rw[hit]; rfl
   have hmH:h.n<=h2.n:=by have:=hO2.lt; have:=hO2.m; omega
   have hB2:¬B=h2.n:=by have:=hO2.lt; omega
   have hbx:=hO2.box;simp -dsimp[s19,h20,qpZ hi hd,hkc,hmH,s5,hB2,hbx,Rg.cells];have hbs:(V.slR [[V.int IntKind.i64 r.lo,V.int IntKind.i64 r.hi]] true)=(Sl.full [r]).enc Rg.cells:=rfl;have hbs2:(V.slR [[V.int IntKind.i64 (qbs it).lo,V.int IntKind.i64 (qbs it).hi]] true)=(Sl.full [qbs it]).enc Rg.cells:=rfl;rw[hbs,hbs2];refine WFS.by (qsH _ _ (by simp) (by simp)) ?_
   intro v0 h0 e;cases e;have hO3:=hO2.boxed (Obj.rows [[V.int IntKind.i64 0,V.int IntKind.i64 0,V.int IntKind.i64 0]]) (Obj.rows [[V.int IntKind.i64 (qbs it).lo,V.int IntKind.i64 (qbs it).hi,V.int IntKind.i64 (qdg it)]]);obtain⟨H3,hH3⟩:∃H3,(h2.push (Obj.rows [[V.int IntKind.i64 0,V.int IntKind.i64 0,V.int IntKind.i64 0]])).set h2.n (Obj.rows [[V.int IntKind.i64 (qbs it).lo,V.int IntKind.i64 (qbs it).hi,V.int IntKind.i64 (qdg it)]])=H3:=⟨_,rfl⟩;have hg3:H3.get h2.n=some (.rows [[V.int IntKind.i64 (qbs it).lo,V.int IntKind.i64 (qbs it).hi,V.int IntKind.i64 (qdg it)]]):=by rw[<-hH3,qBp,Jab rfl]
   rw[hH3]at hO3;rw[hH3];simp -dsimp[hg3];have hk3:=qlH it;have hKok:=qlG it;have h5:(twoL and [r] [qbs it]).length<=5:=qeV _ ([r]++[qbs it]);refine qaf (λn st=>∃(m:Nat) (A:List Rg),n=m/\m<=3/\(gK 9).run st.tm=.int .i64 m/\(gK 8).run st.tm=(slR A).enc Rg.cells/\qen m A=qoi r it/\(∀x∈A,InR (qbs it) x)/\A.length * 3 ^ m<=135/\st.h=H3/\st.defs=[]) (qdg it)
    ⟨qdg it,_,rfl,hk3,by simp,by simp,rfl,λx hx=>qqF hKok.1 hKok.2.2 hx,Nat.mul_le_mul h5 (Nat.pow_le_pow_right (by omega) hk3:3 ^ qdg it<=3 ^ 3),rfl,rfl⟩ ?_
   rintro n3 ⟨tm3,h3',defs3,round3⟩ ⟨m,A,rfl,hm3,h9,h8,hA,hAin,hAl,rfl,rfl⟩ hK;have u3:=hK 3 rfl;have u5:=hK 5 rfl;have u13:=hK 13 rfl;have u14:=hK 14 rfl;have u15:=hK 15 rfl;have u19:=hK 19 rfl;have u20:=hK 20 rfl;simp[h32,s5,s13,s14,s15,s19,h20]at u3 u5 u13 u14 u15 u19 u20 h9 h8;clear hK;simp -dsimp[h9];rw[qaa];refine⟨λhx=>?_,λhx=>?_⟩
   ·simp at hx;obtain⟨m,rfl⟩:∃m',n3=m'+1:=⟨n3-1,by omega⟩;have hfw:fw .i64 (((m:Int)+1) * 6)=((6 * (m+1):Nat):Int):=by rw[fw64 (by omega) (by omega)]; omega
    have hfw2:fw .i64 ((m:Int)+1-1)=(m:Int):=by rw[fw64 (by omega) (by omega)]; omega
    have hfw3:fw .i64 (m:Int)=(m:Int):=fw64 (by omega) (by omega);have hAl2:A.length<=135:=by
     have:A.length * 1<=A.length * 3 ^ (m+1):=Nat.mul_le_mul_left _ (Nat.pos_of_ne_zero (by simp));omega
    simp -dsimp[h9,h8,hfw]
    refine WFS.by (qpf (6 * (m+1)) (by omega) (slR A) (by simp; omega) (λx hx=>by
     have:=hAin x (by simpa using hx);obtain⟨y1,y2,y3⟩:=this;omega)) ?_
    intro v0 h0 e;cases e;simp -dsimp[h9,hfw2];refine qah.intro m (by omega) ⟨m,_,rfl,by omega,by simp[hfw3],by simp,hA,λx hx=>qi9 hAin hKok.1 hx,?_,rfl,rfl⟩;have h6:=qdd (6 * (m+1)) A A.length;have h7:(qhF (6 * (m+1)) A).length * 3 ^ m<=3 * A.length * 3 ^ m:=Nat.mul_le_mul_right _ h6;rw[Nat.pow_succ]at hAl;have h8':3 * A.length * 3 ^ m=A.length * (3 ^ m * 3):=by rw[Nat.mul_comm 3 A.length,Nat.mul_assoc,Nat.mul_comm 3]
    omega
   ·simp at hx;subst hx;have hA2:A=qoi r it:=hA;have hAl2:A.length<=135:=by simpa using hAl
    have hr5:=qgK r it;have hi5':it<=5:=by omega
    simp -dsimp[h8];refine qaf (λn st=>∃(q:Int) (v:V),0<=q/\(n:Int)=A.length-q/\(gK 41).run st.tm=.int .i64 q/\(gK 3).run st.tm=v/\OB st.h h.n B v (out++qdz r it++(A.take q.toNat).map qee) r/\st.defs=[]) A.length
     ⟨0,v2,by omega,by omega,by simp,by simp[u3],by rw[hit]at hO3; simpa using hO3,rfl⟩ ?_
    rintro n4 ⟨tm4,h4,defs4,round4⟩ ⟨q,v4,hq,hn4,h41,h34,hO4,rfl⟩ hK;have w39:=hK 39 rfl;have w40:=hK 40 rfl;have w13:=hK 13 rfl;have w14:=hK 14 rfl;have w15:=hK 15 rfl;have w19:=hK 19 rfl;have w20:=hK 20 rfl;have w5:=hK 5 rfl;simp[u5,u13,u14,u15,u19,u20]at w39 w40 w13 w14 w15 w19 w20 w5 h41 h34;simp only at hO4;clear hK;simp -dsimp[h41,w40];rw[qaa];refine⟨λhy=>?_,λhy=>?_⟩
    ·simp at hy;have hy':q<(((slR A).l.length:Nat):Int):=by simp; omega
     obtain⟨x,hx⟩:∃x,lat A q.toNat=x:=⟨_,rfl⟩;have hxin:=hAin x (by rw[<-hx]; exact qai (by omega));have hmH4:h.n<=h4.n:=by have:=hO4.lt; have:=hO4.m; omega
     have hxc:[V.int IntKind.i64 x.lo,V.int IntKind.i64 x.hi]=x.cells:=rfl;simp -dsimp[w39,h41,qe7 hq hy',hx,Rg.cells,hmH4];rw[hxc];have p1:=qit (i:=it) (x:=x.lo) hxin.1 (by have:=hxin.2.1; have:=hxin.2.2; omega);have p2':=qit (i:=it) (x:=x.hi) (by have:=hxin.1; have:=hxin.2.1; omega) hxin.2.2;refine WFS.by (one_ok x (by rw[p1,p2']; exact Jac _)) ?_
     intro v0 h0 e;cases e;have hO5:=hO4.boxed (Obj.rows [[V.int IntKind.i64 0,V.int IntKind.i64 0]]) (Obj.rows [x.cells]);obtain⟨H5,hH5⟩:∃H5,(h4.push (Obj.rows [[V.int IntKind.i64 0,V.int IntKind.i64 0]])).set h4.n (Obj.rows [x.cells])=H5:=⟨_,rfl⟩;rw[hH5]at hO5;rw[hH5];simp -dsimp[h34];rw[qaE (xs:=[qaP (qee x)]) (by simp; rfl)];refine qBC ?_;obtain⟨v',H6,a1,a2,a3⟩:=hO5.app (qee x) (by
      simp only[Jao,List.length_map,List.length_take];omega)
     simp -dsimp;refine⟨_,a1,?_⟩;simp -dsimp[h41,fw64 (n:=q+1) (by omega) (by omega)];refine qah.intro (n4-1) (by omega) ⟨q+1,v',by omega,by omega,by simp,by simp,?_,rfl⟩;have ht:A.take (q+1).toNat=A.take q.toNat++[x]:=by
      rw[show(q+1).toNat=q.toNat+1 by omega,Jap,qaz (by omega),hx]; rfl
     rw[ht,List.map_append,<-List.append_assoc];exact a2
    ·simp at hy;have hy':decide (q<(A.length:Int))=false:=by simpa using hy
     simp -dsimp[hy',w20,fw64 (n:=i+1) (by omega) (by omega)];have hu2:qdz r (i+1).toNat=qdz r it++A.map qee:=by
      rw[show(i+1).toNat=it+1 by omega,qdz,ofR,hA2]
     refine qah.intro (n2-1) (by omega) ⟨i+1,v4,by omega,by omega,by omega,by simp,by simp[h34],?_,rfl⟩;rw[hu2,<-List.append_assoc];rw[List.take_of_length_le (by omega)]at hO4;exact hO4
  ·simp at hd;have:i=5:=by omega
   subst this;simp -dsimp[s15,fw64 (n:=j+1) (by omega) (by omega)];refine qah.intro (n-1) (by omega) ⟨j+1,v2,by omega,by omega,by simp,by simp[h32],?_,by have:=hO2.lt; have:=hO2.m; simp; omega,rfl⟩;rw[hjt,hup];exact hO2.own
 ·simp at hc;have hc':decide (j<(nl.length:Int))=false:=by simpa using hc
  have:j.toNat=nl.length:=by omega
  rw[this]at hO;simp -dsimp[hc',h3];rw[hof];exact qp7 hO (Jac _) λs hs=>qiz hs
end Go.Abs

