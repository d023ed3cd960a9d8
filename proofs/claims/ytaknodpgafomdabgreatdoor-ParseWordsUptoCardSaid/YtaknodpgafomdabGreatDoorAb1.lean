/- An evaluator of a small intermediate code: values, memory, control. -/
import GoSem.Core.World
import GoSem.Core.View
set_option linter.unusedSimpArgs false
set_option linter.unusedVariables false
namespace Go.Abs
open Go
theorem Jaa.{u}:∀{c:Prop}{h:Decidable c},¬c->∀{α : Sort u}{t e : α},(if c then t else e)=e:=@if_neg
theorem Jab.{u}:∀{c:Prop}{h:Decidable c},c->∀{α : Sort u}{t e : α},(if c then t else e)=t:=@if_pos
theorem Jac:∀(n:Nat),n<=n:=@Nat.le_refl
theorem Jad:∀(a b:Bool),((a&&b)=true)=(a=true/\b=true):=@Bool.and_eq_true
theorem Jae.{u}:∀{α : Type u}(v w : α),(some v=some w)=(v=w):=@Option.some.injEq
theorem Jaf:∀{n m k:Nat},n<=m->m<=k->n<=k:=@Nat.le_trans
theorem Jag.{u}:∀{α : Type u}{b : α}{l:List α}{a : α},a∈b::l↔a=b\/a∈l:=@List.mem_cons
theorem Jah.{u}:∀{α : Type u}{a b : α},a∈[b]↔a=b:=@List.mem_singleton
theorem Jai:∀{p:Prop} [inst:Decidable p],(decide p=true)=p:=@decide_eq_true_eq
theorem Jaj.{u}:∀{α : Type u}{a : α}{s t:List α},a∈s++t↔a∈s\/a∈t:=@List.mem_append
theorem Jak.{u,v}:∀{α : Type u}{β : Type v}{b : β}{f : α->β}{l:List α},b∈List.map f l↔∃a,a∈l/\f a=b:=@List.mem_map
theorem Jal.{u}:∀{α : Type u}{l:List α}{i:Nat}(h:i<l.length),l[i]?=some l[i]:=@List.getElem?_eq_getElem
theorem Jam.{u}:∀{α : Type u}{i:Nat}{a : α}{l:List α},l[i]?=some a↔∃h:i<l.length,l[i]=a:=@List.getElem?_eq_some_iff
theorem Jan:(false=true)=False:=@Bool.false_eq_true
theorem Jao.{u}:∀{α : Type u}{as bs:List α},(as++bs).length=as.length+bs.length:=@List.length_append
theorem Jap.{u}:∀{α : Type u}{l:List α}{i:Nat},List.take (i+1) l=List.take i l++l[i]?.toList:=@List.take_add_one
theorem Jaq:∀{p:Prop}{x:Decidable p},decide p=false↔¬p:=@decide_eq_false_iff_not
theorem Jar.{u}:∀{α : Type u}{l:List α}{i:Nat}{a : α},l[i]?=some a->a∈l:=@List.mem_of_getElem?
theorem Jas:∀{x y:Nat},(x.beq y=true)=(x=y):=@Nat.beq_eq
theorem Jat:∀{x y:Nat},(x.ble y=true)=(x<=y):=@Nat.ble_eq
inductive V where
 | any
 | bool (b:Bool)
 | int (k:IntKind) (n:Int)
 | str (s:List UInt8)
 | nilp
 | ptr (id row off:Nat)
 | ptrR (row:List V) (off:Nat)
 | nils
 | sl (id lo len esz:Nat) (full:Bool)
 | slR (rows:List (List V)) (full:Bool)
 | nilm
 | map (id:Nat)
 | fn (f:Nat) (first cap:List V)
 | yld (id:Nat)
 | nilf
 | iface (t:Nat) (v:V)
 | nili
 | agg (cs:List V)
 | tup (vs:List V)
instance:Inhabited V:=⟨.any⟩
mutual
def V.beq:V->V->Bool
 | .any,.any=>true
 | .bool a,.bool b=>a == b
 | .int k a,.int l b=>k == l&&a == b
 | .str a,.str b=>a == b
 | .nilp,.nilp=>true
 | .ptr i r o,.ptr j s p=>i == j&&r == s&&o == p
 | .ptrR r o,.ptrR s p=>beqL r s&&o == p
 | .nils,.nils=>true
 | .sl i l n e f,.sl j m k d g=>i == j&&l == m&&n == k&&e == d&&f == g
 | .slR r f,.slR s g=>beqR r s&&f == g
 | .nilm,.nilm=>true
 | .map i,.map j=>i == j
 | .fn f a b,.fn g c d=>f == g&&beqL a c&&beqL b d
 | .yld i,.yld j=>i == j
 | .nilf,.nilf=>true
 | .iface t v,.iface u w=>t == u&&V.beq v w
 | .nili,.nili=>true
 | .agg a,.agg b=>beqL a b
 | .tup a,.tup b=>beqL a b
 | _,_=>false
def beqL:List V->List V->Bool
 | [],[]=>true
 | a::l,b::m=>V.beq a b&&beqL l m
 | _,_=>false
def beqR:List (List V)->List (List V)->Bool
 | [],[]=>true
 | a::l,b::m=>beqL a b&&beqR l m
 | _,_=>false
end
inductive Opd where
 | t (i:Nat)
 | c (v:V)
inductive Cal where
 | dir (f:Nat)
 | val (x:Opd)
 | inv (x:Opd) (m:String)
inductive SK where
 | int|bool|str
def SK.ok(s:SK)(v:V):Bool :=
 match s,v with
 | .int,.int ..=>true
 | .bool,.bool _=>true
 | .str,.str _=>true
 | _,_=>false
def okKs:List SK->List V->Bool
 | [],[]=>true
 | s::l,v::m=>s.ok v&&okKs l m
 | _,_=>false
inductive LK where
 | str|sl|map
inductive KK where
 | one (s:SK)
 | agg (l:List SK)
inductive EqK where
 | bool|slice|func|ptr|iface
 | struct (l:List SK)
inductive PO where
 | mov (x:Opd)
 | pick (c a b:Opd)
 | build (zero:List V) (parts:List (Nat × Nat × Opd))
 | nilc (x:Opd)
 | bin (op:BinOp) (x y:Opd)
 | eqo (neg:Bool) (k:EqK) (x y:Opd)
 | un (op:UnOp) (x:Opd)
 | ci (k:IntKind) (x:Opd)
 | mki (t:Nat) (x:Opd)
 | asrt (t:Nat) (ok:Bool) (zero:V) (x:Opd)
 | mkf (f:Nat) (first cap:List Opd)
 | slice (esz:Nat) (x:Opd) (lo hi mx:Option Opd)
 | sliceS (x:Opd) (lo hi:Option Opd)
 | faddr (off:Nat) (a:Opd)
 | fld (off:Nat) (n:Option Nat) (x:Opd)
 | iaddr (esz:Nat) (x i:Opd)
 | iaddrA (len esz:Nat) (x i:Opd)
 | idxS (x i:Opd)
 | idxA (len esz:Nat) (agg:Bool) (x i:Opd)
 | ext (i:Nat) (x:Opd)
 | min (x:Opd) (xs:List Opd)
 | max (x:Opd) (xs:List Opd)
 | cap (x:Opd)
inductive RdO where
 | load (n:Option Nat) (a:Opd)
 | b2s (x:Opd)
 | lookup (kn:KK) (zero:V) (ok:Bool) (m k:Opd)
 | len (k:LK) (x:Opd)
 | entry (it:Opd)
inductive AO where
 | alloc (cells:List V)
 | box (n:Nat) (x:Opd)
 | bslice (ro:Bool) (zero:List V) (len:Nat) (parts:List (Nat × Opd))
 | s2b (ro:Bool) (x:Opd)
 | mkm
 | mks (zero:List V) (bytes:Nat) (l c:Opd)
 | rngS (x:Opd)
inductive WO where
 | store (n:Nat) (a x:Opd)
 | mupd (kn:KK) (m k v:Opd)
 | del (kn:KK) (m k:Opd)
 | rngM (x:Opd)
 | nxtS (it:Opd)
 | append (esz bytes:Nat) (s x:Opd)
 | appendS (s x:Opd)
 | appendZ (zero:List V) (bytes:Nat) (s n:Opd)
 | clear (zero:List V) (x:Opd)
 | same (x:Opd)
inductive XO where
 | wf (o:WO)
 | ldF (n:Nat) (a:Opd) (c:Nat)
inductive IOp where
 | fz (o:XO)
 | p (o:PO)
 | r (o:RdO)
 | a (o:AO) (hole:Option Nat)
 | w (o:WO)
 | call (c:Cal) (args:List Opd) (frz:Bool)
 | callP (f:Nat) (args:List Opd)
 | nxtM (it:Opd)
 | defer (x:Opd)
 | recover
 | bad
structure Ins where
 dst:Option Nat
 guard:Option (Nat × Bool)
 op:IOp
inductive IC where
 | skip
 | ops (l:List Ins)
 | dops (na:Nat) (chk:List (Nat × Nat)) (l:List Ins)
 | dopc (chk:List (Nat × Nat)) (l:List Ins)
 | seq (a b:IC)
 | cond (c:Opd) (a b:IC)
 | block (id:Nat) (c:IC)
 | loop (c:IC)
 | rangeF (f:Opd) (ps:List Nat) (asg body:IC)
 | exit (id:Nat)
 | ret
 | bad
inductive Tr (α : Type) where
 | e
 | n (v:Option α) (l r:Tr α)
namespace Tr
def get{α : Type}:Nat->Nat->Tr α->Option α
 | 0,_,_=>none
 | f+1,i,t=>match t with
  | .e=>none
  | .n v l r=>match i with
   | 0=>v
   | j+1=>cond (Nat.beq (j % 2) 0) (get f (j / 2) l) (get f (j / 2) r)
def put{α : Type}:Nat->Nat->Option α->Tr α->Tr α
 | 0,_,_,t=>t
 | f+1,i,x,t=>match t with
  | .e=>(match i with
   | 0=>.n x .e .e
   | j+1=>cond (Nat.beq (j % 2) 0) (.n none (put f (j / 2) x .e) .e) (.n none .e (put f (j / 2) x .e)))
  | .n v l r=>(match i with
   | 0=>.n x l r
   | j+1=>cond (Nat.beq (j % 2) 0) (.n v (put f (j / 2) x l) r) (.n v l (put f (j / 2) x r)))
end Tr
structure KG where
 run:Tr V->V
structure KS where
 run:V->Tr V->Tr V
def getK:Nat->Nat->KG
 | 0,_=>⟨λ_=>.tup []⟩
 | f+1,i=>match i with
  | 0=>⟨λt=>match t with
   | .e=>.tup []
   | .n v _ _=>match v with
    | some x=>x
    | none=>.tup []⟩
  | j+1=>cond (Nat.beq (j % 2) 0)
   ⟨λt=>match t with
    | .e=>.tup []
    | .n _ l _=>(getK f (j / 2)).run l⟩
   ⟨λt=>match t with
    | .e=>.tup []
    | .n _ _ r=>(getK f (j / 2)).run r⟩
def setK:Nat->Nat->KS
 | 0,_=>⟨λ_ t=>t⟩
 | f+1,i=>match i with
  | 0=>⟨λx t=>match t with
   | .e=>.n (some x) .e .e
   | .n _ l r=>.n (some x) l r⟩
  | j+1=>cond (Nat.beq (j % 2) 0)
   ⟨λx t=>match t with
    | .e=>.n none ((setK f (j / 2)).run x .e) .e
    | .n v l r=>.n v ((setK f (j / 2)).run x l) r⟩
   ⟨λx t=>match t with
    | .e=>.n none .e ((setK f (j / 2)).run x .e)
    | .n v l r=>.n v l ((setK f (j / 2)).run x r)⟩
abbrev Tm:=Tr V
def gK(i:Nat):KG:=getK (i+1) i
def sK(i:Nat):KS:=setK (i+1) i
def Tm.ofL:Nat->List V->Tm->Tm
 | _,[],tm=>tm
 | i,v::l,tm=>Tm.ofL (i+1) l ((sK i).run v tm)
inductive Obj where
 | rows (rs:List (List V))
 | map (es:List (Nat × V × V)) (clock:Nat)
 | strIter (s:List UInt8) (pos:Nat)
 | mapIter (m since:Nat) (seen:List Nat) (last:Nat)
 | loop (st:LoopState) (pend:Option IC) (tm:Tm) (ps:List Nat) (asg body:IC)
 | dfr
structure Heap where
 n:Nat
 os:Tr Obj
def Heap.get(h:Heap)(i:Nat):Option Obj:=Tr.get (i+1) i h.os
def Heap.set(h:Heap)(i:Nat)(o:Obj):Heap:=⟨h.n,Tr.put (i+1) i (some o) h.os⟩
def Heap.kill(h:Heap)(i:Nat):Heap:=⟨h.n,Tr.put (i+1) i none h.os⟩
def Heap.push(h:Heap)(o:Obj):Heap:=⟨h.n+1,Tr.put (h.n+1) h.n (some o) h.os⟩
abbrev ND(α : Type):Type:=Option (List α)
namespace ND
def join{β : Type}:List (ND β)->ND β
 | []=>some []
 | x::r=>match x,join r with
  | some l,some m=>some (l++m)
  | _,_=>none
def bind{α β : Type}(m:ND α)(f : α->ND β):ND β :=
 match m with
 | none=>none
 | some l=>match l with
  | []=>some []
  | x::r=>match r with
   | []=>f x
   | y::r=>join ((x::y::r).map f)
def single{α : Type}(m:ND α):Option α :=
 match m with
 | none=>none
 | some l=>match l with
  | []=>none
  | x::r=>match r with
   | []=>some x
   | _=>none
end ND
def leB:Int->Int->Bool
 | .ofNat a,.ofNat b=>Nat.ble a b
 | .ofNat _,.negSucc _=>false
 | .negSucc _,.ofNat _=>true
 | .negSucc a,.negSucc b=>Nat.ble b a
def ltB(a b:Int):Bool:=!leB b a
def eqB:Int->Int->Bool
 | .ofNat a,.ofNat b=>Nat.beq a b
 | .negSucc a,.negSucc b=>Nat.beq a b
 | _,_=>false
def ihi:IntKind->Nat
 | .i8=>127|.i16=>32767|.i32=>2147483647|.i64=>9223372036854775807
 | .u8=>255|.u16=>65535|.u32=>4294967295|.u64=>18446744073709551615
def fw(k:IntKind)(n:Int):Int :=
 match n with
 | .ofNat a=>cond (Nat.ble a (ihi k)) (.ofNat a) (k.wrap (.ofNat a))
 | .negSucc a=>cond (k.signed&&Nat.ble a (ihi k)) (.negSucc a) (k.wrap (.negSucc a))
def ikB:IntKind->IntKind->Bool
 | .i64,.i64=>true
 | .u8,.u8=>true
 | a,b=>a == b
structure KB where
 run:V->V->Option V
def cmpV(f:Int->Int->Bool)(x y:V):Option V :=
 match x with
 | .int k a=>match y with
  | .int l b=>cond (ikB k l) (some (.bool (f a b))) none
  | _=>none
 | _=>none
def ariV(f:IntKind->Int->Int->Option Int)(x y:V):Option V :=
 match x with
 | .int k a=>match y with
  | .int l b=>cond (ikB k l) (match f k a b with
   | some n=>some (.int k n)
   | none=>none) none
  | _=>none
 | _=>none
def shiV(f:IntKind->Int->Nat->Int)(x y:V):Option V :=
 match x with
 | .int k a=>match y with
  | .int _ b=>match b with
   | .ofNat n=>some (.int k (f k a (Nat.min n k.bits)))
   | .negSucc _=>none
  | _=>none
 | _=>none
def eq1:V->V->Option Bool
 | .int k a,.int l b=>cond (ikB k l) (some (eqB a b)) none
 | .bool a,.bool b=>some (a == b)
 | .str a,.str b=>some (a == b)
 | _,_=>none
def eqL:List V->List V->Option Bool
 | [],[]=>some true
 | a::l,b::m=>match eq1 a b,eqL l m with
  | some x,some y=>some (x&&y)
  | _,_=>none
 | _,_=>none
def eqv:EqK->V->V->Option Bool
 | .bool,.bool a,.bool b=>some (a == b)
 | .slice,.nils,.nils=>some true
 | .slice,.nils,.sl ..=>some false
 | .slice,.nils,.slR ..=>some false
 | .slice,.sl ..,.nils=>some false
 | .slice,.slR ..,.nils=>some false
 | .func,.nilf,.nilf=>some true
 | .func,.nilf,.fn ..=>some false
 | .func,.fn ..,.nilf=>some false
 | .ptr,.nilp,.nilp=>some true
 | .ptr,.nilp,.ptr ..=>some false
 | .ptr,.ptr ..,.nilp=>some false
 | .iface,.nili,.nili=>some true
 | .iface,.nili,.iface ..=>some false
 | .iface,.iface ..,.nili=>some false
 | .struct n,.agg a,.agg b=>cond (okKs n a) (eqL a b) none
 | _,_,_=>none
def eqV(x y:V):Option Bool :=
 match x with
 | .int k a=>match y with
  | .int l b=>cond (ikB k l) (some (eqB a b)) none
  | _=>none
 | .str a=>match y with
  | .str b=>some (a == b)
  | _=>none
 | _=>none
def addV(x y:V):Option V :=
 match x with
 | .int k a=>match y with
  | .int l b=>cond (ikB k l) (some (.int k (fw k (a+b)))) none
  | _=>none
 | .str a=>match y with
  | .str b=>cond (Nat.blt (a.length+b.length) 4294967296) (some (.str (a++b))) none
  | _=>none
 | _=>none
def binK:BinOp->KB
 | .add=>⟨addV⟩
 | .sub=>⟨ariV λk a b=>some (fw k (a-b))⟩
 | .mul=>⟨ariV λk a b=>some (fw k (a * b))⟩
 | .quo=>⟨ariV λk a b=>cond (eqB b 0) none (some (fw k (a.tdiv b)))⟩
 | .rem=>⟨ariV λ_ a b=>cond (eqB b 0) none (some (a.tmod b))⟩
 | .and=>⟨ariV λk a b=>some (fw k (BitVec.ofInt k.bits a &&& BitVec.ofInt k.bits b).toNat)⟩
 | .or=>⟨ariV λk a b=>some (fw k (BitVec.ofInt k.bits a ||| BitVec.ofInt k.bits b).toNat)⟩
 | .xor=>⟨ariV λk a b=>some (fw k (BitVec.ofInt k.bits a ^^^ BitVec.ofInt k.bits b).toNat)⟩
 | .andNot=>⟨ariV λk a b=>some (fw k (BitVec.ofInt k.bits a &&& ~~~ BitVec.ofInt k.bits b).toNat)⟩
 | .eql=>⟨λx y=>match eqV x y with
  | some b=>some (.bool b)
  | none=>none⟩
 | .neq=>⟨λx y=>match eqV x y with
  | some b=>some (.bool !b)
  | none=>none⟩
 | .lss=>⟨cmpV ltB⟩
 | .leq=>⟨cmpV leB⟩
 | .gtr=>⟨cmpV λa b=>ltB b a⟩
 | .geq=>⟨cmpV λa b=>leB b a⟩
 | .shl=>⟨shiV λk a n=>fw k (a * ((2 ^ n:Nat):Int))⟩
 | .shr=>⟨shiV λ_ a n=>a.fdiv ((2 ^ n:Nat):Int)⟩
def unV(op:UnOp)(x:V):Option V :=
 match op,x with
 | .neg,.int k n=>some (.int k (fw k (0-n)))
 | .xor,.int k n=>some (.int k (fw k (BitVec.ofInt k.bits (if k.signed then -1 else k.max) ^^^ BitVec.ofInt k.bits n).toNat))
 | .not,.bool b=>some (.bool !b)
 | _,_=>none
def V.cells:V->List V
 | .agg cs=>cs
 | .any=>[]
 | v=>[v]
def V.one(v:V):Bool :=
 match v with
 | .any=>false
 | .agg _=>false
 | .tup _=>false
 | _=>true
def ones:List V->Bool
 | []=>true
 | v::l=>v.one&&ones l
def qdH:List (List V)->Bool
 | []=>true
 | r::l=>ones r&&qdH l
def nth:Nat->List V->Option V
 | _,[]=>none
 | 0,v::_=>some v
 | i+1,_::l=>nth i l
def nthR:Nat->List (List V)->Option (List V)
 | _,[]=>none
 | 0,v::_=>some v
 | i+1,_::l=>nthR i l
def qca(row:List V)(o:Nat)(n:Option Nat):Option V :=
 match n with
 | none=>nth o row
 | some n=>cond (Nat.ble (o+n) row.length) (some (.agg ((row.drop o).take n))) none
def qbW:List V->Nat->List V->List V
 | row,_,[]=>row
 | row,o,v::vs=>qbW (row.set o v) (o+1) vs
def opdK:Opd->KG
 | .t i=>gK i
 | .c v=>⟨λ_=>v⟩
def Opd.ev(x:Opd)(tm:Tm):V:=(opdK x).run tm
structure KL where
 run:Tm->List V
def qcE:List Opd->KL
 | []=>⟨λ_=>[]⟩
 | x::l=>⟨λtm=>x.ev tm::(qcE l).run tm⟩
def qbI(cells:List V)(tm:Tm):List (Nat × Nat × Opd)->Option (List V)
 | []=>some cells
 | (off,size,x)::r =>
  let vs:=(x.ev tm).cells
  cond (Nat.beq vs.length size&&Nat.blt 0 size&&Nat.ble (off+size) cells.length) (qbI (qbW cells off vs) tm r) none
def qaV(esz:Nat)(rows:List (List V))(tm:Tm):List (Nat × Opd)->Option (List (List V))
 | []=>some rows
 | (i,x)::r =>
  let vs:=(x.ev tm).cells
  cond (Nat.beq vs.length esz&&Nat.blt 0 esz&&Nat.blt i rows.length) (qaV esz (rows.set i vs) tm r) none
def qb1(s:List UInt8):List (List V):=s.map λc=>[.int .u8 (.ofNat c.toNat)]
def qj0:List V->Option UInt8
 | [.int .u8 n]=>some (UInt8.ofNat n.toNat)
 | _=>none
def qdo:List (List V)->Option (List UInt8)
 | []=>some []
 | r::rs=>match qj0 r,qdo rs with
  | some c,some l=>some (c::l)
  | _,_=>none
def qal(h:Heap)(v:V):Option (List (List V)) :=
 match v with
 | .nils=>some []
 | .slR rows _=>some rows
 | .sl id lo len _ _=>match h.get id with
  | some (.rows rs)=>cond (Nat.ble (lo+len) rs.length) (some ((rs.drop lo).take len)) none
  | _=>none
 | _=>none
def bnd(x:Int)(top:Nat):Option Nat :=
 match x with
 | .ofNat n=>cond (Nat.ble n top) (some n) none
 | .negSucc _=>none
structure KO where
 run:Nat->Nat->Tm->Option Nat
def optK(x:Option Opd):KO :=
 match x with
 | none=>⟨λd _ _=>some d⟩
 | some x=>⟨λ_ top tm=>match x.ev tm with
  | .int _ n=>bnd n top
  | _=>none⟩
structure Cut where
 lo:Nat
 hi:Nat
 full:Bool
structure KCut where
 run:Nat->Bool->Tm->Option Cut
def cutK(lo hi mx:Option Opd):KCut :=
 match mx with
 | none=>⟨λlen full tm=>match (optK hi).run len len tm with
  | none=>none
  | some h=>match (optK lo).run 0 h tm with
   | none=>none
   | some l=>some ⟨l,h,full&&Nat.beq h len⟩⟩
 | some m=>⟨λlen _ tm=>match (optK (some m)).run len len tm with
  | none=>none
  | some m=>match (optK hi).run len m tm with
   | none=>none
   | some h=>match (optK lo).run 0 h tm with
    | none=>none
    | some l=>some ⟨l,h,Nat.beq h m⟩⟩
def qa9(esz:Nat)(rows:List (List V)):Bool :=
 match rows with
 | []=>true
 | r::_=>Nat.beq r.length esz
def qaT(esz:Nat)(k:KCut)(tm:Tm)(x:V):Option V :=
 match x with
 | .nils=>(match k.run 0 true tm with
  | some _=>some .nils
  | none=>none)
 | .sl id b n e f=>cond (Nat.beq e esz) (match k.run n f tm with
  | some r=>some (.sl id (b+r.lo) (r.hi-r.lo) e r.full)
  | none=>none) none
 | .slR rows f=>cond (qa9 esz rows) (match k.run rows.length f tm with
  | some r=>some (.slR ((rows.drop r.lo).take (r.hi-r.lo)) r.full)
  | none=>none) none
 | _=>none
def qcV(a b:V):Option Bool :=
 match a with
 | .agg a=>match b with
  | .agg b=>eqL a b
  | _=>none
 | a=>eq1 a b
def qbX(n:KK)(k:V):Bool :=
 match n with
 | .one s=>s.ok k
 | .agg ks=>match k with
  | .agg l=>okKs ks l
  | _=>false
def qcz(k:V):List (Nat × V × V)->Nat->Option (Option (Nat × V))
 | [],_=>some none
 | (_,k',v)::es,i =>
  match qcV k k' with
  | some b=>cond b (some (some (i,v))) (qcz k es (i+1))
  | none=>none
def qaI(n bytes:Nat):Bool:=Nat.blt n 4294967296&&Nat.blt bytes 1024
def qnj(s:List UInt8)(i:Nat):Option (Nat × Nat) :=
 match s[i]? with
 | some c=>cond (Nat.blt c.toNat 128) (some (c.toNat,1)) none
 | none=>none
def qbS(k:IntKind)(tm:Tm):Int->List Opd->Option V
 | x,[]=>some (.int k x)
 | x,y::r=>match y.ev tm with
  | .int _ n=>qbS k tm (cond (ltB n x) n x) r
  | _=>none
def qco(k:IntKind)(tm:Tm):Int->List Opd->Option V
 | x,[]=>some (.int k x)
 | x,y::r=>match y.ev tm with
  | .int _ n=>qco k tm (cond (ltB x n) n x) r
  | _=>none
def qcT(v:V):Option V :=
 match v with
 | .ptr ..=>some v
 | .ptrR ..=>some v
 | .fn ..=>some v
 | .yld ..=>some v
 | .map ..=>some v
 | .sl ..=>some v
 | .slR ..=>some v
 | .iface ..=>some v
 | _=>none
def idx(i:V)(len:Nat):Option Nat :=
 match i with
 | .int _ n=>match n with
  | .ofNat j=>cond (Nat.blt j len) (some j) none
  | .negSucc _=>none
 | _=>none
structure KP where
 run:Tm->Option V
def qas(o:PO):KP :=
 match o with
 | .mov x=>⟨λtm=>some (x.ev tm)⟩
 | .pick c a b=>⟨λtm=>match c.ev tm with
  | .bool t=>cond t (some (a.ev tm)) (some (b.ev tm))
  | _=>none⟩
 | .build zero parts=>⟨λtm=>match qbI zero tm parts with
  | some l=>some (.agg l)
  | none=>none⟩
 | .nilc x=>⟨λtm=>qcT (x.ev tm)⟩
 | .bin op x y=>⟨λtm=>(binK op).run (x.ev tm) (y.ev tm)⟩
 | .eqo neg k x y=>⟨λtm=>match eqv k (x.ev tm) (y.ev tm)with
  | some b=>some (.bool (neg != b))
  | none=>none⟩
 | .un op x=>⟨λtm=>unV op (x.ev tm)⟩
 | .ci k x=>⟨λtm=>match x.ev tm with
  | .int _ n=>some (.int k (fw k n))
  | _=>none⟩
 | .mki t x=>⟨λtm=>some (.iface t (x.ev tm))⟩
 | .asrt t ok zero x=>⟨λtm=>match x.ev tm with
  | .iface u v=>cond (Nat.beq t u) (some (cond ok (.tup [v,.bool true]) v)) (cond ok (some (.tup [zero,.bool false])) none)
  | .nili=>cond ok (some (.tup [zero,.bool false])) none
  | _=>none⟩
 | .mkf f first cap=>⟨λtm=>some (.fn f ((qcE first).run tm) ((qcE cap).run tm))⟩
 | .slice esz x lo hi mx=>⟨λtm=>qaT esz (cutK lo hi mx) tm (x.ev tm)⟩
 | .sliceS x lo hi=>⟨λtm=>match x.ev tm with
  | .str s=>(match (cutK lo hi none).run s.length true tm with
   | some r=>some (.str ((s.drop r.lo).take (r.hi-r.lo)))
   | none=>none)
  | _=>none⟩
 | .faddr off a=>⟨λtm=>match a.ev tm with
  | .ptr i r o=>some (.ptr i r (o+off))
  | .ptrR r o=>some (.ptrR r (o+off))
  | _=>none⟩
 | .fld off n x=>⟨λtm=>match x.ev tm with
  | .agg cs=>qca cs off n
  | _=>none⟩
 | .iaddr esz x i=>⟨λtm=>match x.ev tm with
  | .sl id lo len e _=>cond (Nat.beq e esz) (match idx (i.ev tm) len with
   | some j=>some (.ptr id (lo+j) 0)
   | none=>none) none
  | .slR rows _=>(match idx (i.ev tm) rows.length with
   | some j=>(match nthR j rows with
    | some r=>cond (Nat.beq r.length esz) (some (.ptrR r 0)) none
    | none=>none)
   | none=>none)
  | _=>none⟩
 | .iaddrA len esz x i=>⟨λtm=>match idx (i.ev tm) len with
  | some j=>(match x.ev tm with
   | .ptr id r o=>some (.ptr id r (o+j * esz))
   | .ptrR r o=>some (.ptrR r (o+j * esz))
   | _=>none)
  | none=>none⟩
 | .idxS x i=>⟨λtm=>match x.ev tm with
  | .str s=>(match idx (i.ev tm) s.length with
   | some j=>(match s[j]? with
    | some c=>some (.int .u8 (.ofNat c.toNat))
    | none=>none)
   | none=>none)
  | _=>none⟩
 | .idxA len esz ag x i=>⟨λtm=>match x.ev tm with
  | .agg cs=>(match idx (i.ev tm) len with
   | some j=>qca cs (j * esz) (cond ag (some esz) none)
   | none=>none)
  | _=>none⟩
 | .ext i x=>⟨λtm=>match x.ev tm with
  | .tup vs=>nth i vs
  | _=>none⟩
 | .min x xs=>⟨λtm=>match x.ev tm with
  | .int k n=>qbS k tm n xs
  | _=>none⟩
 | .max x xs=>⟨λtm=>match x.ev tm with
  | .int k n=>qco k tm n xs
  | _=>none⟩
 | .cap x=>⟨λtm=>match x.ev tm with
  | .nils=>some (.int .i64 0)
  | .sl _ _ n _ f=>cond f (some (.int .i64 (.ofNat n))) none
  | .slR r f=>cond f (some (.int .i64 (.ofNat r.length))) none
  | _=>none⟩
structure KR where
 run:Tm->Heap->Option V
def qbc(o:RdO):KR :=
 match o with
 | .load n a=>⟨λtm h=>match a.ev tm with
  | .ptr i r o=>(match h.get i with
   | some (.rows rs)=>(match nthR r rs with
    | some row=>qca row o n
    | none=>none)
   | _=>none)
  | .ptrR row o=>qca row o n
  | _=>none⟩
 | .b2s x=>⟨λtm h=>match qal h (x.ev tm)with
  | some rs=>(match qdo rs with
   | some s=>some (.str s)
   | none=>none)
  | none=>none⟩
 | .lookup kn zero ok m k=>⟨λtm h=>cond (qbX kn (k.ev tm)) (match m.ev tm with
  | .nilm=>some (cond ok (.tup [zero,.bool false]) zero)
  | .map i=>(match h.get i with
   | some (.map es _)=>(match qcz (k.ev tm) es 0 with
    | some (some r)=>some (cond ok (.tup [r.2,.bool true]) r.2)
    | some none=>some (cond ok (.tup [zero,.bool false]) zero)
    | none=>none)
   | _=>none)
  | _=>none) none⟩
 | .len k x=>⟨λtm h=>match k with
  | .str=>(match x.ev tm with
   | .str s=>some (.int .i64 (.ofNat s.length))
   | _=>none)
  | .sl=>(match x.ev tm with
   | .nils=>some (.int .i64 0)
   | .sl _ _ n _ _=>some (.int .i64 (.ofNat n))
   | .slR r _=>some (.int .i64 (.ofNat r.length))
   | _=>none)
  | .map=>(match x.ev tm with
   | .nilm=>some (.int .i64 0)
   | .map i=>(match h.get i with
    | some (.map es _)=>some (.int .i64 (.ofNat es.length))
    | _=>none)
   | _=>none)⟩
 | .entry it=>⟨λtm h=>match it.ev tm with
  | .ptr i 0 0=>(match h.get i with
   | some (.mapIter m _ seen last)=>(match h.get m,seen with
    | some (.map es clock),b::_=>cond (Nat.beq clock last) (match es.find? λe=>Nat.beq e.1 b with
     | some e=>some (.tup [e.2.1,e.2.2])
     | none=>none) none
    | _,_=>none)
   | _=>none)
  | _=>none⟩
inductive Made where
 | val (v:V)
 | obj (o:Obj) (f:Nat->V)
structure KA where
 run:Tm->Option Made
def qbK(o:AO):KA :=
 match o with
 | .alloc cells=>⟨λ_=>some (.obj (.rows [cells]) λi=>.ptr i 0 0)⟩
 | .box n x=>⟨λtm=>let vs:=(x.ev tm).cells
  cond (Nat.beq vs.length n&&Nat.blt 0 n) (some (.obj (.rows [vs]) λi=>.ptr i 0 0)) none⟩
 | .bslice ro zero len parts=>⟨λtm=>match qaV zero.length (List.replicate len zero) tm parts with
  | some rows=>cond ro (some (.val (.slR rows true))) (some (.obj (.rows rows) λi=>.sl i 0 len zero.length true))
  | none=>none⟩
 | .s2b ro x=>⟨λtm=>match x.ev tm with
  | .str s=>cond ro (some (.val (.slR (qb1 s) false))) (some (.obj (.rows (qb1 s)) λi=>.sl i 0 s.length 1 false))
  | _=>none⟩
 | .mkm=>⟨λ_=>some (.obj (.map [] 0) .map)⟩
 | .mks zero bytes l c=>⟨λtm=>match l.ev tm with
  | .int _ a=>(match c.ev tm with
   | .int _ b=>(match a,b with
    | .ofNat a,.ofNat b=>cond (Nat.ble a b&&qaI b bytes) (some (.obj (.rows (List.replicate a zero)) λi=>.sl i 0 a zero.length (Nat.beq a b))) none
    | _,_=>none)
   | _=>none)
  | _=>none⟩
 | .rngS x=>⟨λtm=>match x.ev tm with
  | .str s=>some (.obj (.strIter s 0) λi=>.ptr i 0 0)
  | _=>none⟩
structure VH where
 v:V
 h:Heap
def qaj(mk:Nat)(h:Heap)(esz bytes:Nat)(s:V)(xs:List (List V)):Option VH :=
 match xs with
 | []=>(match s with
  | .nils=>some ⟨s,h⟩
  | .sl ..=>some ⟨s,h⟩
  | .slR ..=>some ⟨s,h⟩
  | _=>none)
 | x::xs =>
  match qal h s with
  | none=>none
  | some rs =>
   cond (qaI (rs.length+(x::xs).length) bytes&&Nat.beq x.length esz&&qdH (x::xs))
    (match s with
    | .nils=>some ⟨.sl h.n 0 (x::xs).length esz false,h.push (.rows (x::xs))⟩
    | .slR _ f=>cond (f&&qa9 esz rs) (some ⟨.sl h.n 0 (rs.length+(x::xs).length) esz false,h.push (.rows (rs++x::xs))⟩) none
    | .sl i _ _ e f=>cond (Nat.beq e esz) (cond f (some ⟨.sl h.n 0 (rs.length+(x::xs).length) esz false,h.push (.rows (rs++x::xs))⟩)
      (cond (Nat.ble mk i) (some ⟨.sl h.n 0 (rs.length+(x::xs).length) esz false,(h.kill i).push (.rows (rs++x::xs))⟩) none)) none
    | _=>none) none
structure KW where
 run:Nat->Tm->Heap->Option VH
def qay(o:WO):KW :=
 match o with
 | .store n a x=>⟨λmk tm h=>match a.ev tm with
  | .ptr i r o=>(match h.get i with
   | some (.rows rs)=>(match nthR r rs with
    | some row =>
     let vs:=(x.ev tm).cells
     cond (Nat.ble mk i&&Nat.beq vs.length n&&Nat.blt 0 n&&Nat.ble (o+n) row.length&&ones vs) (some ⟨.any,h.set i (.rows (rs.set r (qbW row o vs)))⟩) none
    | none=>none)
   | _=>none)
  | _=>none⟩
 | .mupd kn m k v=>⟨λmk tm h=>match m.ev tm with
  | .map i=>(match h.get i with
   | some (.map es clock) =>
    cond (Nat.ble mk i&&qbX kn (k.ev tm))
     (match qcz (k.ev tm) es 0 with
     | some (some r)=>some ⟨.any,h.set i (.map (es.modify r.1 λe=>(e.1,k.ev tm,v.ev tm)) clock)⟩
     | some none=>some ⟨.any,h.set i (.map (es++[(clock,k.ev tm,v.ev tm)]) (clock+1))⟩
     | none=>none) none
   | _=>none)
  | _=>none⟩
 | .del kn m k=>⟨λmk tm h=>match m.ev tm with
  | .map i=>(match h.get i with
   | some (.map es clock) =>
    cond (Nat.ble mk i&&qbX kn (k.ev tm))
     (match qcz (k.ev tm) es 0 with
     | some (some r)=>some ⟨.any,h.set i (.map (es.eraseIdx r.1) clock)⟩
     | some none=>some ⟨.any,h⟩
     | none=>none) none
   | _=>none)
  | _=>none⟩
 | .rngM x=>⟨λ_ tm h=>match x.ev tm with
  | .map i=>(match h.get i with
   | some (.map _ clock)=>some ⟨.ptr h.n 0 0,h.push (.mapIter i clock [] clock)⟩
   | _=>none)
  | _=>none⟩
 | .nxtS it=>⟨λmk tm h=>match it.ev tm with
  | .ptr i 0 0=>(match h.get i with
   | some (.strIter s pos) =>
    cond (Nat.ble mk i)
     (cond (Nat.blt pos s.length)
      (match qnj s pos with
      | some c=>some ⟨.tup [.bool true,.int .i64 (.ofNat pos),.int .i32 (.ofNat c.1)],h.set i (.strIter s (pos+c.2))⟩
      | none=>none)
      (some ⟨.tup [.bool false],h⟩)) none
   | _=>none)
  | _=>none⟩
 | .append esz bytes s x=>⟨λmk tm h=>match qal h (x.ev tm)with
  | some xs=>qaj mk h esz bytes (s.ev tm) xs
  | none=>none⟩
 | .appendS s x=>⟨λmk tm h=>match x.ev tm with
  | .str t=>qaj mk h 1 1 (s.ev tm) (qb1 t)
  | _=>none⟩
 | .appendZ zero bytes s n=>⟨λ_ tm h=>match n.ev tm with
  | .int _ m=>(match m with
   | .ofNat m=>cond (Nat.blt 0 m&&qaI m bytes)
    (match s.ev tm with
    | .nils=>some ⟨.sl h.n 0 m zero.length false,h.push (.rows (List.replicate m zero))⟩
    | _=>none) none
   | _=>none)
  | _=>none⟩
 | .clear zero x=>⟨λmk tm h=>match x.ev tm with
  | .nils=>some ⟨.any,h⟩
  | .slR rows _=>cond rows.isEmpty (some ⟨.any,h⟩) none
  | .sl i lo len e _=>cond (Nat.beq len 0) (some ⟨.any,h⟩)
   (match h.get i with
   | some (.rows rs)=>cond (Nat.ble mk i&&Nat.ble (lo+len) rs.length&&Nat.beq e zero.length) (some ⟨.any,h.set i (.rows (rs.take lo++List.replicate len zero++rs.drop (lo+len)))⟩) none
   | _=>none)
  | _=>none⟩
 | .same x=>⟨λ_ tm h=>match x.ev tm with
  | .sl i lo len e f=>cond (Nat.blt 0 len&&(h.get i).isSome) (some ⟨.sl i lo len e f,h⟩) none
  | _=>none⟩
inductive Res where
 | tm (t:Nat)
 | cell (n:Option Nat) (t:Nat)
structure IFn where
 pure:Bool
 nt:Nat
 res:List Res
 body:IC
namespace Pr
def i(d:Nat)(o:IOp):Ins:=⟨some d,none,o⟩
def n(o:IOp):Ins:=⟨none,none,o⟩
abbrev sq(l:List Ins)(c:IC):IC:=.seq (.ops l) c
abbrev cd(s:Nat)(a b:IC):IC:=.cond (.t s) a b
abbrev mv(d s:Nat):Ins:=i d (.p (.mov (.t s)))
abbrev ld(d s:Nat):Ins:=i d (.r (.load none (.t s)))
abbrev lg(d k s:Nat):Ins:=i d (.r (.load (some k) (.t s)))
abbrev fa(d o s:Nat):Ins:=i d (.p (.faddr o (.t s)))
abbrev ki(d:Nat)(k:Int):Ins:=i d (.p (.mov (.c (.int .i64 k))))
abbrev nc(d s:Nat):Ins:=i d (.p (.nilc (.t s)))
abbrev ln(d s:Nat):Ins:=i d (.r (.len .sl (.t s)))
abbrev bf(d:Nat):Ins:=i d (.p (.mov (.c (.bool false))))
abbrev bt(d:Nat):Ins:=i d (.p (.mov (.c (.bool true))))
abbrev ex(d k s:Nat):Ins:=i d (.p (.ext k (.t s)))
abbrev bx(d k s:Nat):Ins:=i d (.a (.box k (.t s)) none)
abbrev ns(d:Nat):Ins:=i d (.p (.mov (.c .nils)))
abbrev nt(d s:Nat):Ins:=i d (.p (.un .not (.t s)))
abbrev b2(d:Nat)(op:BinOp)(x y:Nat):Ins:=i d (.p (.bin op (.t x) (.t y)))
abbrev bk(d:Nat)(op:BinOp)(x:Nat)(k:Int):Ins:=i d (.p (.bin op (.t x) (.c (.int .i64 k))))
abbrev ca(d f:Nat)(l:List Opd):Ins:=i d (.call (.dir f) l false)
abbrev pk(d c a b:Nat):Ins:=i d (.p (.pick (.t c) (.t a) (.t b)))
abbrev ia(d e x y:Nat):Ins:=i d (.p (.iaddr e (.t x) (.t y)))
abbrev gt(d g:Nat)(o:IOp):Ins:=⟨some d,some (g,true),o⟩
abbrev gf(d g:Nat)(o:IOp):Ins:=⟨some d,some (g,false),o⟩
abbrev gM(d g s:Nat):Ins:=gt d g (.p (.mov (.t s)))
abbrev gF(d g o s:Nat):Ins:=gt d g (.p (.faddr o (.t s)))
abbrev gL(d g s:Nat):Ins:=gt d g (.r (.load none (.t s)))
abbrev gG(d g k s:Nat):Ins:=gt d g (.r (.load (some k) (.t s)))
abbrev gN(d g s:Nat):Ins:=gt d g (.r (.len .sl (.t s)))
abbrev gI(d g e x y:Nat):Ins:=gt d g (.p (.iaddr e (.t x) (.t y)))
abbrev gC(d g:Nat)(op:BinOp)(x:Nat)(k:Int):Ins:=gt d g (.p (.bin op (.t x) (.c (.int .i64 k))))
abbrev gB(d g:Nat)(op:BinOp)(x y:Nat):Ins:=gt d g (.p (.bin op (.t x) (.t y)))
abbrev gX(d g s:Nat):Ins:=gt d g (.p (.un .not (.t s)))
abbrev eM(d g s:Nat):Ins:=gf d g (.p (.mov (.t s)))
abbrev eF(d g o s:Nat):Ins:=gf d g (.p (.faddr o (.t s)))
abbrev eL(d g s:Nat):Ins:=gf d g (.r (.load none (.t s)))
abbrev eG(d g k s:Nat):Ins:=gf d g (.r (.load (some k) (.t s)))
abbrev eN(d g s:Nat):Ins:=gf d g (.r (.len .sl (.t s)))
abbrev eI(d g e x y:Nat):Ins:=gf d g (.p (.iaddr e (.t x) (.t y)))
abbrev eC(d g:Nat)(op:BinOp)(x:Nat)(k:Int):Ins:=gf d g (.p (.bin op (.t x) (.c (.int .i64 k))))
abbrev eB(d g:Nat)(op:BinOp)(x y:Nat):Ins:=gf d g (.p (.bin op (.t x) (.t y)))
abbrev eX(d g s:Nat):Ins:=gf d g (.p (.un .not (.t s)))
abbrev oP(d c b:Nat):Ins:=i d (.p (.pick (.t c) (.c (.bool true)) (.t b)))
abbrev aP(d c a:Nat):Ins:=i d (.p (.pick (.t c) (.t a) (.c (.bool false))))
abbrev sT(k a b:Nat):Ins:=n (.w (.store k (.t a) (.t b)))
abbrev aD(d e b s x:Nat):Ins:=i d (.w (.append e b (.t s) (.t x)))
abbrev sL(d e x l:Nat):Ins:=i d (.p (.slice e (.t x) (some (.t l)) none none))
abbrev sH(d e x l:Nat):Ins:=i d (.p (.slice e (.t x) none (some (.t l)) none))
abbrev lS(d s:Nat):Ins:=i d (.r (.len .str (.t s)))
abbrev cV(d:Nat)(k:IntKind)(s:Nat):Ins:=i d (.p (.ci k (.t s)))
abbrev bJ(d:Nat)(op:BinOp)(x:Nat)(k:IntKind)(n:Int):Ins:=i d (.p (.bin op (.t x) (.c (.int k n))))
abbrev iX(d e x:Nat)(k:Int):Ins:=i d (.p (.iaddr e (.t x) (.c (.int .i64 k))))
abbrev kc(k:Int):Opd:=.c (.int .i64 k)
abbrev qx:Opd:=.c (.str [])
abbrev qz(l:List UInt8):Opd:=.c (.str l)
abbrev qj:V:=.int .i64 0
abbrev qw(d:Nat)(l:List V):Ins:=i d (.a (.alloc l) none)
abbrev bu(d:Nat)(l:List V)(a:List (Nat × Nat × Opd)):Ins:=i d (.p (.build l a))
abbrev qy(d k s:Nat):Ins:=i d (.p (.fld k none (.t s)))
abbrev qv(s k:Nat):IC:=cd s .skip (.exit k)
abbrev qk(s k:Nat):IC:=cd s (.exit k) .skip
abbrev qQ(s:Nat)(l:List Ins):IC:=cd s (sq l .ret) .skip
abbrev co(s:Nat)(l:List Ins):IC:=cd s (.ops l) .skip
abbrev bq(i n:Nat)(f:IFn):Option IFn:=cond (Nat.beq i n) (some f) none
abbrev br(i n:Nat)(a b:Option IFn):Option IFn:=cond (Nat.blt i n) a b
end Pr
open Go
def allM{α β : Type}(f : α->Option β):List α->Option (List β)
 | []=>some []
 | a::l=>match f a with
  | some b=>(match allM f l with
   | some m=>some (b::m)
   | none=>none)
  | none=>none
def freeze(mk:Nat)(h:Heap):Nat->V->Option V
 | 0,_=>none
 | k+1,v=>match v with
  | .bool b=>some (.bool b)
  | .int k n=>some (.int k n)
  | .str s=>some (.str s)
  | .nilp=>some .nilp
  | .nils=>some .nils
  | .nilm=>some .nilm
  | .nilf=>some .nilf
  | .nili=>some .nili
  | .ptrR row o=>(match allM (freeze mk h k) row with
   | some r=>some (.ptrR r o)
   | none=>none)
  | .slR rows f=>(match allM (allM (freeze mk h k)) rows with
   | some r=>some (.slR r f)
   | none=>none)
  | .sl id lo len e _=>cond (Nat.ble mk id)
    (match qal h (.sl id lo len e false)with
    | some rows=>(match allM (allM (freeze mk h k)) rows with
     | some r=>some (.slR r false)
     | none=>none)
    | none=>none) none
  | .fn f a b=>(match allM (freeze mk h k) a with
   | some x=>(match allM (freeze mk h k) b with
    | some y=>some (.fn f x y)
    | none=>none)
   | none=>none)
  | .iface t v=>(match freeze mk h k v with
   | some x=>some (.iface t x)
   | none=>none)
  | .agg cs=>(match allM (freeze mk h k) cs with
   | some x=>some (.agg x)
   | none=>none)
  | .tup cs=>(match allM (freeze mk h k) cs with
   | some x=>some (.tup x)
   | none=>none)
  | _=>none
def qat:Nat:=16
inductive DefI where
 | call (v:V)
 | mark (id:Nat)
structure St where
 tm:Tm
 h:Heap
 defs:List DefI
 round:Bool
inductive Out where
 | normal
 | exit (id:Nat)
 | ret
structure OS where
 o:Out
 s:St
structure Env where
 callF:V->List V->Heap->ND VH
 meth:Nat->String->Option Nat
 fu:Nat
 lim:Nat
 pureF:Nat->Bool
structure KSt where
 run:V->Heap->St->St
def putK(dst:Option Nat):KSt :=
 match dst with
 | none=>⟨λ_ h st=>⟨st.tm,h,st.defs,st.round⟩⟩
 | some d=>⟨λv h st=>⟨(sK d).run v st.tm,h,st.defs,st.round⟩⟩
def frzV(mk:Nat)(r:VH):Option VH :=
 match r.v with
 | .sl id lo len e _=>cond (Nat.ble mk id)
   (match qal r.h (.sl id lo len e false)with
   | some rows=>(match allM (allM (freeze r.h.n r.h qat)) rows with
    | some rows=>some ⟨.slR rows false,r.h.kill id⟩
    | none=>none)
   | none=>none) none
 | .nils=>some r
 | .slR _ _=>some r
 | _=>none
def qfB(mk:Nat)(it:V)(h:Heap):ND VH :=
 match it with
 | .ptr i 0 0=>(match h.get i with
  | some (.mapIter m since seen last)=>(match h.get m with
   | some (.map es clock) =>
    cond (Nat.ble mk i&&Nat.beq clock since&&Nat.beq clock last&&es.all (λe=>Nat.blt e.1 clock))
     (match es.filter λe=>!seen.contains e.1 with
     | []=>some [⟨.tup [.bool false],h⟩]
     | e::left=>some ((e::left).map λe=>⟨.tup [.bool true,e.2.1,e.2.2],h.set i (.mapIter m since (e.1::seen) clock)⟩)) none
   | _=>none)
  | _=>none)
 | _=>none
structure KI where
 run:Env->Nat->St->ND St
structure KCal where
 run:Env->List V->Tm->Heap->ND VH
def calK(c:Cal):KCal :=
 match c with
 | .dir f=>⟨λe args _ h=>e.callF (.fn f [] []) args h⟩
 | .val x=>⟨λe args tm h=>e.callF (x.ev tm) args h⟩
 | .inv x m=>⟨λe args tm h=>match x.ev tm with
  | .iface t v=>(match e.meth t m with
   | some f=>e.callF (.fn f [] []) (v::args) h
   | none=>none)
  | _=>none⟩
def qs7(mk c:Nat)(p:V)(h:Heap):Option Heap :=
 match p with
 | .ptr id row off=>(match h.get id with
  | some (.rows rs)=>(match nthR row rs with
   | some r=>(match nth (off+c) r with
    | some v=>(match frzV mk ⟨v,h⟩with
     | some q=>cond (Nat.ble mk id&&q.v.one)
      (match q.h.get id with
      | some (.rows rs2)=>(match nthR row rs2 with
       | some r2=>some (q.h.set id (.rows (rs2.set row (r2.set (off+c) q.v))))
       | none=>none)
      | _=>none) none
     | none=>none)
    | none=>none)
   | none=>none)
  | _=>none)
 | _=>none
def xV(o:XO)(mk:Nat)(tm:Tm)(h:Heap):Option VH :=
 match o with
 | .wf o=>(match (qay o).run mk tm h with
  | some r=>frzV mk r
  | none=>none)
 | .ldF n a c=>(match qs7 mk c (a.ev tm) h with
  | some h'=>(match (qbc (.load (some n) a)).run tm h' with
   | some v=>some ⟨v,h'⟩
   | none=>none)
  | none=>none)
def qAV(e:Env)(f:Nat)(args:List V)(h:Heap):Option V :=
 cond (e.pureF f) (match e.callF (.fn f [] []) args h with
  | some [r]=>some r.v
  | _=>none) none
def qaD(dst:Option Nat)(op:IOp):KI :=
 match op with
 | .fz o=>⟨λe _ st=>match xV o e.lim st.tm st.h with
  | some r=>some [(putK dst).run r.v r.h st]
  | none=>none⟩
 | .p o=>⟨λ_ _ st=>match (qas o).run st.tm with
  | some v=>some [(putK dst).run v st.h st]
  | none=>none⟩
 | .r o=>⟨λ_ _ st=>match (qbc o).run st.tm st.h with
  | some v=>some [(putK dst).run v st.h st]
  | none=>none⟩
 | .a o hole=>⟨λ_ base st=>match (qbK o).run st.tm with
  | some (.val v)=>some [(putK dst).run v st.h st]
  | some (.obj o f)=>(match hole with
   | none=>some [(putK dst).run (f st.h.n) (st.h.push o) st]
   | some j=>some [(putK dst).run (f (base+j)) (st.h.set (base+j) o) st])
  | none=>none⟩
 | .w o=>⟨λe _ st=>match (qay o).run e.lim st.tm st.h with
  | some r=>some [(putK dst).run r.v r.h st]
  | none=>none⟩
 | .call c args frz=>⟨λe _ st=>ND.bind ((calK c).run e ((qcE args).run st.tm) st.tm st.h) λr =>
   cond frz
    (match frzV e.lim r with
    | some r=>some [(putK dst).run r.v r.h st]
    | none=>none)
    (some [(putK dst).run r.v r.h st])⟩
 | .callP f args=>⟨λe _ st=>match qAV e f ((qcE args).run st.tm) st.h with
  | some v=>some [(putK dst).run v st.h st]
  | none=>none⟩
 | .nxtM it=>⟨λe _ st=>ND.bind (qfB e.lim (it.ev st.tm) st.h) λr=>some [(putK dst).run r.v r.h st]⟩
 | .defer x=>⟨λ_ _ st=>match x.ev st.tm with
  | .fn f a c=>cond st.round none (some [(putK dst).run .any st.h ⟨st.tm,st.h,.call (.fn f a c)::st.defs,st.round⟩])
  | _=>none⟩
 | .recover=>⟨λ_ _ st=>cond st.round none (some [(putK dst).run .nili st.h st])⟩
 | .bad=>⟨λ_ _ _=>none⟩
def qdm(i:Ins):KI :=
 match i.guard with
 | none=>qaD i.dst i.op
 | some g=>⟨λe base st=>match (gK g.1).run st.tm with
  | .bool c=>cond (c == g.2) ((qaD i.dst i.op).run e base st) (some [(putK i.dst).run (.tup []) st.h st])
  | .tup []=>some [(putK i.dst).run (.tup []) st.h st]
  | _=>none⟩
def qhj:List Ins->KI
 | []=>⟨λ_ _ st=>some [st]⟩
 | i::l=>⟨λe base st=>ND.bind ((qdm i).run e base st) λst=>(qhj l).run e base st⟩
def opsH(e:Env)(base:Nat):List Ins->St->List Heap->Option (St × List Heap)
 | [],st,hs=>some (st,st.h::hs)
 | i::l,st,hs=>match ND.single ((qdm i).run e base st)with
  | some st'=>opsH e base l st' (st.h::hs)
  | none=>none
def recheck(l:List Ins)(tm:Tm)(hs:List Heap)(c:Nat × Nat):Bool :=
 match l[c.1]?,hs[c.2]? with
 | some i,some h =>
  match i.op,i.dst with
  | .r o,some d =>
   let same:=match (qbc o).run tm h with
    | some v=>V.beq v ((gK d).run tm)
    | none=>false
   (match i.guard with
   | none=>same
   | some g=>match (gK g.1).run tm with
    | .bool c=>cond (c == g.2) same true
    | .tup []=>true
    | _=>false)
  | _,_=>false
 | _,_=>false
def qA0(o:Option V)(w:V):Bool :=
 match o with
 | some v=>V.beq v w
 | none=>false
def gdO(g:Option (Nat × Bool))(tm:Tm)(s:Bool):Bool :=
 match g with
 | none=>s
 | some g=>match (gK g.1).run tm with
  | .bool c=>cond (c == g.2) s true
  | .tup []=>true
  | _=>false
def qAU(e:Env)(l:List Ins)(tm:Tm)(hs:List Heap)(c:Nat × Nat):Bool :=
 match l[c.1]?,hs[c.2]? with
 | some i,some h =>
  (match i.op with
  | .callP f args=>(match i.dst with
   | some d=>gdO i.guard tm (qA0 (qAV e f ((qcE args).run tm) h) ((gK d).run tm))
   | none=>false)
  | _=>recheck l tm hs c)
 | _,_=>false
def qAZ(e:Env)(chk:List (Nat × Nat))(l:List Ins)(st:St):ND OS :=
 match opsH e st.h.n l st []with
 | some (st',hs)=>cond (chk.all (qAU e l st'.tm hs.reverse)) (some [⟨.normal,st'⟩]) none
 | none=>none
def qhd(e:Env)(na:Nat)(chk:List (Nat × Nat))(l:List Ins)(st:St):ND OS :=
 match opsH e st.h.n l ⟨st.tm,⟨st.h.n+na,st.h.os⟩,st.defs,st.round⟩ []with
 | some (st',hs)=>cond (chk.all (recheck l st'.tm hs.reverse)) (some [⟨.normal,st'⟩]) none
 | none=>none
def qga(body:St->ND OS):Nat->St->ND OS
 | 0,_=>none
 | n+1,st=>ND.bind (body st) λr=>match r.o with
  | .normal=>qga body n r.s
  | .exit i=>some [⟨.exit i,r.s⟩]
  | .ret=>some [⟨.ret,r.s⟩]
def qcA(e:Env)(fv:V)(ps:List Nat)(asg body:IC)(st:St):ND OS :=
 cond st.round none
 (let h1:=st.h.push .dfr
 let l:=h1.n
 ND.bind (e.callF fv [.yld l] (h1.push (.loop .ready none st.tm ps asg body))) λr =>
  match r.h.get l with
  | some (.loop s pend tm ps asg body) =>
   (match s with
   | .busy=>none
   | _ =>
    let st':St:=⟨st.tm,r.h.set l (.loop .exhausted pend tm ps asg body),.mark st.h.n::st.defs,st.round⟩
    match pend with
    | none=>some [⟨.normal,st'⟩]
    | some .ret=>some [⟨.ret,st'⟩]
    | some (.exit i)=>some [⟨.exit i,st'⟩]
    | _=>none)
  | _=>none)
structure KC where
 run:Env->St->ND OS
def qaR:IC->KC
 | .skip=>⟨λ_ st=>some [⟨.normal,st⟩]⟩
 | .ops l=>⟨λe st=>ND.bind ((qhj l).run e st.h.n st) λst=>some [⟨.normal,st⟩]⟩
 | .dops na chk l=>⟨λe st=>qhd e na chk l st⟩
 | .dopc chk l=>⟨λe st=>qAZ e chk l st⟩
 | .seq a b=>⟨λe st=>ND.bind ((qaR a).run e st) λr=>match r.o with
  | .normal=>(qaR b).run e r.s
  | .exit i=>some [⟨.exit i,r.s⟩]
  | .ret=>some [⟨.ret,r.s⟩]⟩
 | .cond c a b=>⟨λe st=>match c.ev st.tm with
  | .bool t=>cond t ((qaR a).run e st) ((qaR b).run e st)
  | _=>none⟩
 | .block id c=>⟨λe st=>ND.bind ((qaR c).run e st) λr=>match r.o with
  | .exit i=>cond (Nat.beq i id) (some [⟨.normal,r.s⟩]) (some [⟨.exit i,r.s⟩])
  | .normal=>some [⟨.normal,r.s⟩]
  | .ret=>some [⟨.ret,r.s⟩]⟩
 | .loop c=>⟨λe st=>qga ((qaR c).run e) e.fu st⟩
 | .rangeF f ps asg body=>⟨λe st=>qcA e (f.ev st.tm) ps asg body st⟩
 | .exit id=>⟨λ_ st=>some [⟨.exit id,st⟩]⟩
 | .ret=>⟨λ_ st=>some [⟨.ret,st⟩]⟩
 | .bad=>⟨λ_ _=>none⟩
structure Prog where
 fn:Nat->Option IFn
 prim:Nat->Option (Nat->List V->Heap->ND VH)
 meth:Nat->String->Option Nat
def Prog.pureF(P:Prog)(f:Nat):Bool :=
 match P.prim f with
 | some _=>false
 | none=>match P.fn f with
  | some F=>F.pure
  | none=>false
def resV(tm:Tm)(h:Heap)(r:Res):Option V :=
 match r with
 | .tm t=>some ((gK t).run tm)
 | .cell n t=>(qbc (.load n (.t t))).run tm h
def results(tm:Tm)(h:Heap)(rs:List Res):Option V :=
 match allM (resV tm h) rs with
 | some [v]=>some v
 | some vs=>some (.tup vs)
 | none=>none
def qbx(P:Prog)(callF:V->List V->Heap->ND VH):V->List V->Heap->ND VH:=λfv args h =>
 match fv with
 | .fn f _ _=>(match P.prim f with
  | some _=>none
  | none=>callF fv args h)
 | _=>none
def qa1(callF:V->List V->Heap->ND VH)(mk:Nat):List DefI->Heap->ND Heap
 | [],h=>some [h]
 | .mark i::r,h=>(match h.get i with
  | some .dfr=>cond (Nat.ble mk i) (qa1 callF mk r (h.kill i)) none
  | _=>none)
 | .call v::r,h=>ND.bind (callF v [] h) λx=>qa1 callF mk r x.h
def dedup(h:Heap)(m:ND V):ND VH :=
 match m with
 | none=>none
 | some l=>match l with
  | []=>some []
  | x::r=>match r with
   | []=>some [⟨x,h⟩]
   | y::r=>cond ((y::r).all (V.beq x)) (some [⟨x,h⟩]) (some ((x::y::r).map λv=>⟨v,h⟩))
def qdr:Tm->List Nat->List V->Tm
 | tm,p::ps,a::as=>qdr ((sK p).run a tm) ps as
 | tm,_,_=>tm
def qeS(P:Prog)(callF:V->List V->Heap->ND VH)(fu mk:Nat)(F:IFn)(args:List V)(h:Heap):ND VH :=
 cond (Nat.ble args.length F.nt)
  (ND.bind ((qaR F.body).run ⟨callF,P.meth,fu,mk,P.pureF⟩ ⟨Tm.ofL 0 args .e,h,[],false⟩) λr =>
   match r.o with
   | .exit _=>none
   | _=>ND.bind (qa1 (qbx P callF) mk r.s.defs r.s.h) λh' =>
     match results r.s.tm h' F.res with
     | some v=>some [⟨v,h'⟩]
     | none=>none) none
def qeq(mk:Nat)(h:Heap)(m:ND VH):ND VH :=
 dedup h (ND.bind m λr=>match freeze mk r.h qat r.v with
  | some v=>some [v]
  | none=>none)
def endRound(l:Nat)(jump:Option IC)(h:Heap):ND VH :=
 match h.get l with
 | some (.loop _ _ tm ps asg body)=>some [⟨.bool jump.isNone,h.set l (.loop (cond jump.isNone .ready .done) jump tm ps asg body)⟩]
 | _=>none
def qb6(P:Prog)(callF:V->List V->Heap->ND VH)(fu mk:Nat)(l:Nat)(args:List V)(h:Heap):ND VH :=
 match h.get l with
 | some (.loop _ _ tm ps asg body) =>
  cond (Nat.ble mk l&&Nat.beq args.length ps.length)
   (ND.bind ((qaR asg).run ⟨callF,P.meth,fu,mk,P.pureF⟩ ⟨qdr tm ps args,h,[],true⟩) λr =>
    match r.o,r.s.defs,r.s.h.get l with
    | .normal,[],some (.loop .ready pend tm' ps' asg' body') =>
     ND.bind ((qaR body).run ⟨callF,P.meth,fu,mk,P.pureF⟩ ⟨r.s.tm,r.s.h.set l (.loop .busy pend tm' ps' asg' body'),[],true⟩) λs =>
      (match s.s.defs with
      | []=>(match s.o with
       | .normal=>endRound l none s.s.h
       | .ret=>endRound l (some .ret) s.s.h
       | .exit i=>endRound l (some (.exit i)) s.s.h)
      | _=>none)
    | _,_,_=>none) none
 | _=>none
def evCall(P:Prog):Nat->Nat->V->List V->Heap->ND VH
 | 0,_,_,_,_=>none
 | n+1,mk,fv,args,h =>
  match fv with
  | .fn f first cap =>
   (match P.prim f with
   | some p=>p mk (first++args++cap) h
   | none =>
    match P.fn f with
    | none=>none
    | some F =>
     cond F.pure (qeq h.n h (qeS P (evCall P n h.n) n h.n F (first++args++cap) h))
      (qeS P (evCall P n mk) n mk F (first++args++cap) h))
  | .yld l=>qb6 P (evCall P n mk) n mk l args h
  | _=>none
theorem qBM{α : Type}(f i:Nat):Tr.get f i (.e:Tr α)=none:=by cases f<;>rfl
theorem qiG{j f:Nat}(h:j+1<f+1):j / 2<f:=by omega
theorem qkX(j:Nat):Nat.beq (j % 2) 0=decide (j % 2=0):=by
  rw[Bool.eq_iff_iff,Jas]; simp
theorem qBZ{α : Type}(x:Option α):∀(f' f i j:Nat) (t:Tr α),i<f->j<f'->Tr.get f i (Tr.put f' j x t)=if i=j then x else Tr.get f i t:=by
  intro f';induction f' with
  | zero=>intro f i j t _ h; omega
  | succ f' ih =>
    intro f i j t hi hj;obtain ⟨f, rfl⟩ : ∃ g, f = g + 1 := ⟨f - 1, by omega⟩;have key : ∀ (v : Option α) (l r : Tr α), (∀ g k, Tr.get g k (.e : Tr α) = none) →
        Tr.get (f+1) i (match j with
          | 0=>.n x l r
          | j+1=>cond (Nat.beq (j % 2) 0) (.n v (Tr.put f' (j / 2) x l) r) (.n v l (Tr.put f' (j / 2) x r))) =
        if i=j then x else Tr.get (f+1) i (.n v l r):=by
      intro v l r _;cases j with
      | zero =>
        cases i with
        | zero=>rfl
        | succ i=>simp[Tr.get]
      | succ j =>
        have hj':=qiG hj;cases hb:Nat.beq (j % 2) 0<;>simp only[hb,cond]
        all_goals
          cases i with
          | zero=>simp[Tr.get]
          | succ i =>
            have hi':=qiG hi;rw[qkX]at hb;cases hc:Nat.beq (i % 2) 0<;>simp only[Tr.get,hc,cond]
            all_goals
              rw[qkX]at hc;simp only[Jai,Jaq]at hb hc;first
              | (rw[Jaa (by omega)])
              | (rw [ih _ _ _ _ hi' hj']
                 by_cases e:i=j
                 · subst e; simp
                 · rw[Jaa (by omega),Jaa (by omega)])
    cases t with
    | e =>
      have:=key none .e .e (λg k=>qBM g k);have he:Tr.get (f+1) i (.n none .e .e:Tr α)=Tr.get (f+1) i (.e:Tr α):=by
        cases i with
        | zero=>rfl
        | succ i=>simp only[Tr.get]; cases Nat.beq (i % 2) 0<;>simp[qBM]
      rw[he]at this;rw[<-this];cases j<;>rfl
    | n v l r =>
      have:=key v l r (λg k=>qBM g k);rw[<-this];cases j<;>rfl
theorem qlL(f i:Nat):(getK f i).run .e=.tup []:=by
  cases f with
  | zero=>rfl
  | succ f =>
    cases i with
    | zero=>rfl
    | succ i=>simp only[getK]; cases Nat.beq (i % 2) 0<;>rfl
theorem qot(x:V):∀(f' f i j:Nat) (t:Tr V),i<f->j<f'->(getK f i).run ((setK f' j).run x t)=if i=j then x else(getK f i).run t:=by
  intro f';induction f' with
  | zero=>intro f i j t _ h; omega
  | succ f' ih =>
    intro f i j t hi hj;obtain⟨f,rfl⟩:∃g,f=g+1:=⟨f-1,by omega⟩;cases j with
    | zero =>
      cases i with
      | zero=>cases t<;>simp[getK,setK]
      | succ i =>
        simp only[getK,setK];cases Nat.beq (i % 2) 0<;>cases t<;>simp[qlL]
    | succ j =>
      have hj':=qiG hj;cases i with
      | zero =>
        simp only[getK,setK];cases Nat.beq (j % 2) 0<;>cases t<;>simp
      | succ i =>
        have hi':=qiG hi;simp only[getK,setK];cases hb:Nat.beq (j % 2) 0<;>cases hc:Nat.beq (i % 2) 0<;>simp only[cond]
        all_goals
          rw[qkX]at hb hc;simp only[Jai,Jaq]at hb hc
        all_goals
          cases t<;>simp only
        all_goals
          first
          | (rw[Jaa (by omega)]; try rw[qlL])
          | (rw [ih _ _ _ _ hi' hj']
             by_cases e:i=j
             · subst e; simp
             · rw[Jaa (by omega),Jaa (by omega)]
               try rw[qlL])
theorem qgb(i j:Nat)(x:V)(t:Tm):(gK i).run ((sK j).run x t)=if i=j then x else(gK i).run t :=
  qot x _ _ _ _ _ (Nat.lt_succ_self _) (Nat.lt_succ_self _)
theorem gK_e(i:Nat):(gK i).run .e=.tup []:=qlL _ _
theorem qBp(h:Heap)(i j:Nat)(o:Obj):(h.set i o).get j=if j=i then some o else h.get j :=
  qBZ (some o) _ _ _ _ _ (Nat.lt_succ_self _) (Nat.lt_succ_self _)
theorem qBr(h:Heap)(i j:Nat):(h.kill i).get j=if j=i then none else h.get j :=
  qBZ none _ _ _ _ _ (Nat.lt_succ_self _) (Nat.lt_succ_self _)
theorem qBq(h:Heap)(j:Nat)(o:Obj):(h.push o).get j=if j=h.n then some o else h.get j :=
  qBZ (some o) _ _ _ _ _ (Nat.lt_succ_self _) (Nat.lt_succ_self _)
@[simp]theorem qBB(h:Heap)(i:Nat)(o:Obj):(h.set i o).n=h.n:=rfl
@[simp]theorem qBG(h:Heap)(i:Nat):(h.kill i).n=h.n:=rfl
@[simp]theorem qBF(h:Heap)(o:Obj):(h.push o).n=h.n+1:=rfl
theorem qn2:∀(l:List V) (k i:Nat) (t:Tm),(gK i).run (Tm.ofL k l t)=if k<=i then(match l[i-k]? with|some v=>v|none=>(gK i).run t)else(gK i).run t
  | [],k,i,t=>by simp[Tm.ofL]
  | v::l,k,i,t=>by
    simp only[Tm.ofL];rw[qn2 l (k+1) i];rw[qgb]
    by_cases h1:k+1<=i
    · obtain⟨m,hm⟩:∃m,i-k=m+1:=⟨i-k-1,by omega⟩
      have h2:k<=i:=by omega
      have h3:¬i=k:=by omega
      have h4:i-(k+1)=m:=by omega
      simp[h1,h2,h3,h4,hm]
    · by_cases h2:i=k
      · subst h2; simp; intro h; omega
      · have h3:¬k<=i:=by omega
        simp[h1,h2,h3]
theorem qgZ(a b:Int):leB a b=decide (a<=b):=by
  cases a<;>cases b<;>simp only[leB]<;>rw[Bool.eq_iff_iff]<;>simp<;>omega
theorem qgP(a b:Int):ltB a b=decide (a<b):=by
  unfold ltB; rw[qgZ,<-decide_not,decide_eq_decide]; omega
theorem qek(a b:Int):eqB a b=decide (a=b):=by
  cases a<;>cases b<;>simp only[eqB]<;>rw[Bool.eq_iff_iff]<;>simp<;>omega
theorem qf0(a b:IntKind):ikB a b=decide (a=b):=by cases a<;>cases b<;>rfl
theorem qij(k:IntKind)(n:Int)(h:k.min<=n)(h':n<=k.max):k.wrap n=n:=by
  cases k<;>simp[IntKind.wrap,IntKind.min,IntKind.max,IntKind.bits,IntKind.signed]at *<;>omega
theorem qiI(k:IntKind)(n:Int):fw k n=k.wrap n:=by
  cases n with
  | ofNat a =>
    simp only[fw];cases h:Nat.ble a (ihi k)
    · rfl
    · rw[Jat]at h
      refine(qij k _ ?_ ?_).symm<;>cases k<;>simp[IntKind.min,IntKind.max,IntKind.bits,IntKind.signed,ihi]at *<;>omega
  | negSucc a =>
    simp only[fw];cases h:(k.signed&&Nat.ble a (ihi k))
    · rfl
    · simp only[Jad,Jat]at h
      refine(qij k _ ?_ ?_).symm<;>cases k<;>simp[IntKind.min,IntKind.max,IntKind.bits,IntKind.signed,ihi]at *<;>omega
mutual
theorem V.beq_eq:∀(a b:V),V.beq a b=true->a=b
  | .any,b,h=>by cases b<;>simp[V.beq]at h ⊢
  | .bool _,b,h=>by cases b<;>simp[V.beq]at h ⊢; exact h
  | .int _ _,b,h=>by cases b<;>simp[V.beq]at h ⊢; exact h
  | .str _,b,h=>by cases b<;>simp[V.beq]at h ⊢; exact h
  | .nilp,b,h=>by cases b<;>simp[V.beq]at h ⊢
  | .ptr _ _ _,b,h=>by cases b<;>simp[V.beq]at h ⊢; exact⟨h.1.1,h.1.2,h.2⟩
  | .ptrR r _,b,h=>by cases b<;>simp[V.beq]at h ⊢; exact⟨beqL_eq _ _ h.1,h.2⟩
  | .nils,b,h=>by cases b<;>simp[V.beq]at h ⊢
  | .sl _ _ _ _ _,b,h=>by cases b<;>simp[V.beq]at h ⊢; exact⟨h.1.1.1.1,h.1.1.1.2,h.1.1.2,h.1.2,h.2⟩
  | .slR r _,b,h=>by cases b<;>simp[V.beq]at h ⊢; exact⟨beqR_eq _ _ h.1,h.2⟩
  | .nilm,b,h=>by cases b<;>simp[V.beq]at h ⊢
  | .map _,b,h=>by cases b<;>simp[V.beq]at h ⊢; exact h
  | .fn _ x y,b,h=>by cases b<;>simp[V.beq]at h ⊢; exact⟨h.1.1,beqL_eq _ _ h.1.2,beqL_eq _ _ h.2⟩
  | .yld _,b,h=>by cases b<;>simp[V.beq]at h ⊢; exact h
  | .nilf,b,h=>by cases b<;>simp[V.beq]at h ⊢
  | .iface _ v,b,h=>by cases b<;>simp[V.beq]at h ⊢; exact⟨h.1,V.beq_eq _ _ h.2⟩
  | .nili,b,h=>by cases b<;>simp[V.beq]at h ⊢
  | .agg l,b,h=>by cases b<;>simp[V.beq]at h ⊢; exact beqL_eq _ _ h
  | .tup l,b,h=>by cases b<;>simp[V.beq]at h ⊢; exact beqL_eq _ _ h
theorem beqL_eq:∀(a b:List V),beqL a b=true->a=b
  | [],b,h=>by cases b<;>simp[beqL]at h ⊢
  | x::l,b,h=>by
    cases b with
    | nil=>simp[beqL]at h
    | cons y m=>simp[beqL]at h; rw[V.beq_eq _ _ h.1,beqL_eq _ _ h.2]
theorem beqR_eq:∀(a b:List (List V)),beqR a b=true->a=b
  | [],b,h=>by cases b<;>simp[beqR]at h ⊢
  | x::l,b,h=>by
    cases b with
    | nil=>simp[beqR]at h
    | cons y m=>simp[beqR]at h; rw[beqL_eq _ _ h.1,beqR_eq _ _ h.2]
end
mutual
theorem V.beq_refl:∀(a:V),V.beq a a=true
  | .any=>by simp[V.beq]
  | .bool _=>by simp[V.beq]
  | .int _ _=>by simp[V.beq]
  | .str _=>by simp[V.beq]
  | .nilp=>by simp[V.beq]
  | .ptr _ _ _=>by simp[V.beq]
  | .ptrR r _=>by simp[V.beq,beqL_refl r]
  | .nils=>by simp[V.beq]
  | .sl _ _ _ _ _=>by simp[V.beq]
  | .slR r _=>by simp[V.beq,beqR_refl r]
  | .nilm=>by simp[V.beq]
  | .map _=>by simp[V.beq]
  | .fn _ x y=>by simp[V.beq,beqL_refl x,beqL_refl y]
  | .yld _=>by simp[V.beq]
  | .nilf=>by simp[V.beq]
  | .iface _ v=>by simp[V.beq,V.beq_refl v]
  | .nili=>by simp[V.beq]
  | .agg l=>by simp[V.beq,beqL_refl l]
  | .tup l=>by simp[V.beq,beqL_refl l]
theorem beqL_refl:∀(a:List V),beqL a a=true
  | []=>by simp[beqL]
  | x::l=>by simp[beqL,V.beq_refl x,beqL_refl l]
theorem beqR_refl:∀(a:List (List V)),beqR a a=true
  | []=>by simp[beqR]
  | x::l=>by simp[beqR,beqL_refl x,beqR_refl l]
end
theorem qjt:∀(i:Nat) (l:List V),nth i l=l[i]?
  | 0,[]=>rfl
  | _+1,[]=>rfl
  | 0,_::_=>rfl
  | i+1,_::l=>by simp[nth,qjt i l]
theorem qcS:∀(i:Nat) (l:List (List V)),nthR i l=l[i]?
  | 0,[]=>rfl
  | _+1,[]=>rfl
  | 0,_::_=>rfl
  | i+1,_::l=>by simp[nthR,qcS i l]
theorem qCa{β : Type}:∀{ms:List (ND β)}{l:List β},ND.join ms=some l->∀m∈ms,∃k,m=some k/\∀x∈k,x∈l
  | [],_,_,m,hm=>by cases hm
  | x::r,l,h,m,hm=>by
    simp only[ND.join]at h;cases hx:x with
    | none=>simp[hx]at h
    | some a =>
      cases hr:ND.join r with
      | none=>simp[hx,hr]at h
      | some b =>
        simp[hx,hr]at h;subst h;rcases Jag.1 hm with rfl|hm
        · exact⟨a,hx,λy hy=>by simp[hy]⟩
        · obtain⟨k,hk,h2⟩:=qCa hr m hm
          exact⟨k,hk,λy hy=>by simp[h2 y hy]⟩
theorem qBw{α β : Type}{m:ND α}{f : α->ND β}{l:List β}(h:ND.bind m f=some l):∃k,m=some k/\∀x∈k,∃r,f x=some r/\∀y∈r,y∈l:=by
  unfold ND.bind at h;cases m with
  | none=>simp at h
  | some k =>
    refine⟨k,rfl,?_⟩;cases k with
    | nil=>simp
    | cons x r =>
      cases r with
      | nil=>simp at h; intro y hy; simp at hy; subst hy; exact⟨l,h,λ_ h=>h⟩
      | cons y r =>
        simp only at h;intro z hz;exact qCa h (f z) (List.mem_map_of_mem hz)
theorem qBH{α : Type}{m:ND α}{x : α}(h:ND.single m=some x):m=some [x]:=by
  unfold ND.single at h;cases m with
  | none=>simp at h
  | some k =>
    cases k with
    | nil=>simp at h
    | cons y r=>cases r with
      | nil=>simp at h; rw[h]
      | cons _ _=>simp at h
@[simp]theorem qDJ{α β : Type}(x : α)(f : α->ND β):ND.bind (some [x]) f=f x:=rfl
@[simp]theorem qDy{α β : Type}(f : α->ND β):ND.bind none f=none:=rfl
end Go.Abs

