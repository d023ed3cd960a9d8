/- The evaluator is sound: what it comes to the machine comes to. -/
import Derived.Orders
import Derived.Defers
import Derived.Test.YtlnpapkkcmbhmaaGreatDoorAs1
set_option linter.unusedSimpArgs false
set_option linter.unusedVariables false
namespace Go.Abs
open Go
variable {N : Num} {CR : Nat → IC → Code → Prop} {ι ι' ι'' : Inj} {ro ro' ro'' : RO} {P : Program} {h h' h'' : Heap} {w w' w'' : World} {mk : Nat}
theorem All2.filter {α β : Type} {R : α → β → Prop} {l : List α} {m : List β} (h : All2 R l m) {f : α → Bool} {g : β → Bool} (hfg : ∀ a b, R a b → f a = g b) : All2 R (l.filter f) (m.filter g) := by
 induction h with
 | nil => exact .nil
 | cons h k ih =>
  simp only [List.filter_cons, hfg _ _ h]
  split
  ·exact .cons h ih
  ·exact ih
theorem All2.mem' {α β : Type} {R : α → β → Prop} {l : List α} {m : List β} (h : All2 R l m) {b : β} (hb : b ∈ m) : ∃ a ∈ l, R a b := by
 induction h with
 | nil => cases hb
 | cons h k ih =>
  rcases List.mem_cons.1 hb with rfl | hb
  ·exact ⟨_, by simp, h⟩
  ·obtain ⟨a, h1, h2⟩ := ih hb; exact ⟨a, by simp [h1], h2⟩
theorem cond_some {α : Type} {b : Bool} {x : Option α} {y : α} (h : cond b x none = some y) : b = true ∧ x = some y := by
 cases b
 ·cases h
 ·exact ⟨rfl, h⟩
theorem VH.eq {v v' : V} {h h' : Heap} (e : some (VH.mk v h) = some ⟨v', h'⟩) : v = v' ∧ h = h' := by simpa using e
theorem soundW_low {o : WO} {tm : Tm} {v : V} (hev : (compW o).run mk tm h = some ⟨v, h'⟩) : ∀ i, i < mk → i < h.n → h'.get i = h.get i := by
 intro i hi hn
 have hset : ∀ j o, mk ≤ j → (h.set j o).get i = h.get i := fun j o hj => by rw [Heap.get_set, if_neg (by omega)]
 have hpush : ∀ o, (h.push o).get i = h.get i := fun o => by rw [Heap.get_push, if_neg (by omega)]
 have happ : ∀ esz bytes s xs, appendRows mk h esz bytes s xs = some ⟨v, h'⟩ → h'.get i = h.get i := by
  intro esz bytes s xs ha
  unfold appendRows at ha
  split at ha
  ·cases s <;> first | (simp at ha; done) | rw [← (VH.eq ha).2]
  ·split at ha <;> try (simp at ha; done)
   ·replace ha := cond_some ha
    obtain ⟨hb0, ha⟩ := ha
    cases s <;> try (simp at ha; done)
    all_goals dsimp only at ha
    case nils => rw [← (VH.eq ha).2, hpush]
    case sl id lo len e f _ =>
     obtain ⟨_, ha⟩ := cond_some ha
     cases f <;> simp only [cond] at ha
     ·obtain ⟨hm, ha⟩ := cond_some ha
      rw [Nat.ble_eq] at hm
      rw [← (VH.eq ha).2, Heap.get_push, if_neg (by simp; omega), Heap.get_kill, if_neg (by omega)]
     ·rw [← (VH.eq ha).2, hpush]
    case slR =>
     obtain ⟨_, ha⟩ := cond_some ha
     rw [← (VH.eq ha).2, hpush]
 cases o <;> simp only [compW] at hev
 case store n a x =>
  split at hev <;> try (simp at hev; done)
  split at hev <;> try (simp at hev; done)
  split at hev <;> try (simp at hev; done)
  obtain ⟨hb, hev⟩ := cond_some hev
  simp only [Bool.and_eq_true, Nat.ble_eq] at hb
  rw [← (VH.eq hev).2, hset _ _ hb.1.1.1.1]
 case mupd kn m k u =>
  split at hev <;> try (simp at hev; done)
  split at hev <;> try (simp at hev; done)
  obtain ⟨hb, hev⟩ := cond_some hev
  simp only [Bool.and_eq_true, Nat.ble_eq] at hb
  split at hev <;> try (simp at hev; done)
  all_goals rw [← (VH.eq hev).2, hset _ _ hb.1]
 case del kn m k =>
  split at hev <;> try (simp at hev; done)
  split at hev <;> try (simp at hev; done)
  obtain ⟨hb, hev⟩ := cond_some hev
  simp only [Bool.and_eq_true, Nat.ble_eq] at hb
  split at hev <;> try (simp at hev; done)
  ·rw [← (VH.eq hev).2, hset _ _ hb.1]
  ·rw [← (VH.eq hev).2]
 case rngM x =>
  split at hev <;> try (simp at hev; done)
  split at hev <;> try (simp at hev; done)
  rw [← (VH.eq hev).2, hpush]
 case nxtS it =>
  split at hev <;> try (simp at hev; done)
  split at hev <;> try (simp at hev; done)
  obtain ⟨hb, hev⟩ := cond_some hev
  rw [Nat.ble_eq] at hb
  generalize Nat.blt _ _ = c at hev
  cases c <;> simp only [cond] at hev
  ·rw [← (VH.eq hev).2]
  ·split at hev <;> try (simp at hev; done)
   rw [← (VH.eq hev).2, hset _ _ hb]
 case append esz bytes s x =>
  split at hev
  ·exact happ _ _ _ _ hev
  ·cases hev
 case appendS s x =>
  split at hev
  ·exact happ _ _ _ _ hev
  ·cases hev
 case appendZ zero bytes s n =>
  split at hev <;> try (simp at hev; done)
  split at hev <;> try (simp at hev; done)
  obtain ⟨_, hev⟩ := cond_some hev
  split at hev <;> try (simp at hev; done)
  rw [← (VH.eq hev).2, hpush]
 case clear zero x =>
  split at hev
  ·rw [← (VH.eq hev).2]
  ·obtain ⟨_, hev⟩ := cond_some hev
   rw [← (VH.eq hev).2]
  ·generalize Nat.beq _ _ = c at hev
   cases c <;> simp only [cond] at hev
   ·split at hev
    ·obtain ⟨hb, hev⟩ := cond_some hev
     simp only [Bool.and_eq_true, Nat.ble_eq] at hb
     rw [← (VH.eq hev).2, hset _ _ hb.1.1]
    ·cases hev
   ·rw [← (VH.eq hev).2]
  ·cases hev
 case same x =>
  split at hev <;> try (simp at hev; done)
  obtain ⟨_, hev⟩ := cond_some hev
  rw [← (VH.eq hev).2]
theorem nextM_sound (hh : HR N CR ι ro h w) {it : V} {x : Value} (hx : VR N ι ro it x) {outs : List VH} (hev : nextM mk it h = some outs) (ty : TypeId) :
  ∃ r ∈ outs, ∃ y w', (Instr.next x false ty).run P w = .ok y w' ∧ Grow h.n mk ι ro h w ι ro r.h w' ∧ HR N CR ι ro r.h w' ∧ VR N ι ro r.v y := by
 unfold nextM at hev
 split at hev
 ·rename_i i
  split at hev
  ·rename_i m since seen last hg
   split at hev
   ·rename_i es clock hgm
    cases hb : (Nat.ble mk i && Nat.beq clock since && Nat.beq clock last && es.all (fun e => Nat.blt e.1 clock)) <;> simp only [hb, cond, reduceCtorEq] at hev
    simp only [Bool.and_eq_true, Nat.ble_eq, Nat.beq_eq, List.all_eq_true, Nat.blt_eq] at hb
    obtain ⟨⟨⟨b1, rfl⟩, rfl⟩, b4⟩ := hb
    obtain ⟨wn, hw, e1⟩ := VR.iter hx
    obtain ⟨_, wn', h1, c, h2, hb0, wm, hwm, rfl⟩ := hh.live i _ hg
    rw [hw] at h1; cases h1
    rw [hb0] at e1
    obtain ⟨wm', es', g1, g2, g3⟩ := hh.map hgm
    rw [hwm] at g1; cases g1
    have hrev : (seen.reverse.toArray).toList = seen.reverse := rfl
    have hfil : All2 (EntRel N ι ro) (es.filter fun e => !seen.contains e.1) (es'.filter fun e => !(seen.reverse.toArray).contains e.born).toList := by
     rw [Array.toList_filter]
     exact g3.filter fun q q' hq => by rw [hq.1]; simp
    have hborn : ∀ q ∈ es'.toList, q.born < clock := fun q hq => by
     obtain ⟨q0, h1, h2⟩ := g3.mem' hq
     rw [h2.1]; exact b4 q0 h1
    have hunsup : (!(seen.reverse.toArray).isEmpty && !es'.isEmpty && es'.all fun q => decide (q.born ≥ clock)) = false := by
     cases hemp : es'.isEmpty with
     | true => simp
     | false =>
      have : (es'.all fun q => decide (q.born ≥ clock)) = false := by
       rw [Array.all_eq_false']
       have hpos : 0 < es'.size := Nat.pos_of_ne_zero fun e => by simp [Array.isEmpty, e] at hemp
       exact ⟨es'[0], by simp, by have := hborn es'[0] (by simp); simp; omega⟩
      rw [this]; simp
    have hall : ∀ q ∈ (es'.filter fun e => !(seen.reverse.toArray).contains e.born).toList, q.born < clock := fun q hq => by
     rw [Array.toList_filter] at hq
     exact hborn q (List.mem_filter.1 hq).1
    generalize hleft' : (es'.filter fun e => !(seen.reverse.toArray).contains e.born) = left' at hfil hall
    have hold : left'.filter (fun q => decide (q.born < clock)) = left' := by
     apply Array.ext'
     rw [Array.toList_filter, List.filter_eq_self]
     intro q hq; simpa using hall q hq
    have hnew : left'.filter (fun q => decide (q.born ≥ clock)) = #[] := by
     apply Array.ext'
     rw [Array.toList_filter]
     simp only [Array.toList_empty]
     rw [List.filter_eq_nil_iff]
     intro q hq; have := hall q hq; simp; omega
    have key : ∀ (cands : Array (Option MapEntry)), cands = (if left'.isEmpty then #[none] else #[]) ++ left'.map some → ∃ n w1, (choose (.mapNext cands.size)).run P w = .ok n w1 ∧ w1.heap = w.heap ∧ EnvEq w w1 ∧ n < cands.size := by
     intro cands hc
     have hpos : 0 < cands.size := by
      rw [hc]
      cases hl : left'.isEmpty with
      | true => simp; omega
      | false => simp only [Array.isEmpty, decide_eq_false_iff_not] at hl; simp; omega
     by_cases h1 : cands.size ≤ 1
     ·exact ⟨0, w, by simp [choose, Sem.run, Question.forced, h1], rfl, EnvEq.refl w, hpos⟩
     ·exact ⟨_, { w with drawn := w.drawn + 1 }, by simp only [choose, Sem.run, Question.forced, h1]; rfl, rfl, ⟨rfl, rfl, rfl, Nat.le_refl _⟩, Nat.mod_lt _ hpos⟩
    obtain ⟨n, w1, c1, c2, c3, c4⟩ := key _ rfl
    have hrun : (Instr.next x false ty).run P w = (match (((if left'.isEmpty then #[none] else #[]) ++ left'.map some)[n]? : Option (Option MapEntry)) with
      | some (some e) => (do setObj wn.blk (.mapIter (some wm.blk) clock (seen.reverse.toArray.push e.born) clock); pure (.tuple #[.bool true, e.key, e.val]) : Sem Value)
      | some none => pure (.tuple #[.bool false])
      | none => stuck "Next: no such candidate").run P w1 := by
     subst e1
     simp only [Instr.next, Sem.run_bind, getObj, Sem.run, h2, g2, Result.andThen_ok, hunsup, Bool.false_eq_true, if_false, hleft', hold, hnew]
     rw [Array.append_empty, c1]; rfl
    have hh1 := hh.heap c2
    have h2' : w1.heap[wn.blk]? = some (.mapIter (some wm.blk) clock seen.reverse.toArray clock) := by rw [c2]; exact h2
    generalize hlf : (es.filter fun e => !seen.contains e.1) = left at hev hfil
    cases left with
    | nil =>
     have hl0 : left' = #[] := by
      apply Array.ext'
      have := hfil.length
      simpa using this.symm
     subst hl0
     have hn : n = 0 := by simpa using c4
     subst hn
     simp only [Option.some.injEq] at hev
     subst hev
     refine ⟨_, List.mem_singleton.2 rfl, .tuple #[.bool false], w1, by rw [hrun]; simp, ⟨Ext.refl _ _ _, c3, Nat.le_refl _, fun _ _ => rfl⟩, hh1, ?_⟩
     simp only [VR]; exact ⟨_, rfl, VRs.cons (by simp only [VR]) VRs.nil⟩
    | cons e left =>
     have hemp : left'.isEmpty = false := by
      have := hfil.length
      simp at this
      cases hx : left'.isEmpty with
      | false => rfl
      | true => simp at hx; subst hx; simp at this
     rw [hemp] at hrun c4
     simp only [Bool.false_eq_true, if_false, Array.empty_append, Array.size_map] at hrun c4
     have hget : left'.toList[n]? = some left'[n] := by rw [Array.getElem?_toList]; exact Array.getElem?_eq_getElem c4
     have hlen := hfil.length
     have hn : n < (e :: left).length := by rw [hlen]; simpa using c4
     have hq := List.getElem?_eq_getElem hn
     obtain ⟨q', hq', hR⟩ := hfil.get hq
     rw [hget] at hq'; cases hq'
     simp only [Option.some.injEq] at hev
     subst hev
     refine ⟨_, List.mem_map_of_mem (List.getElem_mem hn), .tuple #[.bool true, left'[n].key, left'[n].val], { w1 with heap := w1.heap.setIfInBounds wn.blk (.mapIter (some wm.blk) clock (seen.reverse.toArray.push left'[n].born) clock) }, ?_, ⟨Ext.refl _ _ _, ⟨c3.os, c3.output, c3.tape, by simpa using c3.size⟩, by simp, fun ii hii => by rw [Heap.get_set, if_neg (by omega)]⟩, ?_, ?_⟩
     ·rw [hrun]
      simp [Array.getElem?_eq_getElem c4, setObj_run h2']
     ·refine hh1.set_obj hg hw ⟨hb0, wm, hwm, ?_⟩
      rw [hR.1]; simp
     ·simp only [VR]; exact ⟨_, rfl, VRs.cons (by simp only [VR]) (VRs.cons hR.2.1 (VRs.cons hR.2.2 VRs.nil))⟩
   ·cases hev
  ·cases hev
 ·cases hev
def MethOK (P : Program) (N : Num) (meth : Nat → String → Option Nat) : Prop :=
 ∀ t m f, meth t m = some f → ∀ (v : Value) (w : World), (method (P.types.size + Made.depth) (N.t t) v m).run P w = .ok (N.f f, v) w
section
variable {nt : Nat} {st : St} {b : Frame} {a : Act} {k : List Item} {cs : List Frame} {ops : Array Oper} {j : Nat} {rest : List Nat} {o : Oper} {i : Ins}
theorem VR.bool_tmp {tm : Tm} {s : Nat} {c : Bool} (h : VRtm N ι ro tm a.tmps) (hs : (gK s).run tm = .bool c) : a.tmps[s]? = some (.bool c) := by
 have := h s
 rw [hs] at this
 simp only [VR, Array.getD_eq_getD_getElem?] at this
 cases hx : a.tmps[s]? with
 | none => rw [hx] at this; simp [Go.undef] at this
 | some x => rw [hx] at this; simp at this; rw [this]
theorem VR.undef_tmp {tm : Tm} {s : Nat} (h : VRtm N ι ro tm a.tmps) (hs : (gK s).run tm = .tup []) : ∀ c, a.tmps[s]? ≠ some (.bool c) := fun c hc => by
 have := h s
 rw [hs] at this
 simp only [VR, Array.getD_eq_getD_getElem?, hc] at this
 obtain ⟨_, h1, _⟩ := this
 simp at h1
def StepsTo (P : Program) (N : Num) (CR : Nat → IC → Code → Prop) (nt n0 lim : Nat) (ι : Inj) (ro : RO) (st : St) (b : Frame) (w : World) (outs : List St) (X : Nat → Prop) (m : Machine) (at' : Act → World → Machine) : Prop :=
 ∃ r ∈ outs, ∃ ι' ro' a' w', Grow n0 lim ι ro st.h w ι' ro' r.h w' ∧ (∀ id, id < st.h.n → ¬ X id → ι' id = ι id) ∧ SR P N CR nt ι' ro' r b a' w' ∧ Steps P m (at' a' w')
def HoleOf (op : IOp) (base id : Nat) : Prop := ∃ x q, op = .a x (some q) ∧ id = base + q
theorem cal_sound {e : Env} (hcall : CallOK P N CR e.callF e.lim) (hmeth : MethOK P N e.meth) {c : Cal} {callee : Callee} {args : List Opd} {args' : Array Operand} {ats : Array TypeId} (hok : okCal N c callee = true) (hargs : okOs N args args'.toList = true)
  {tm : Tm} (htm : VRtm N ι ro tm a.tmps) (hh : HR N CR ι ro h w) (hlim : e.lim ≤ h.n) {outs : List VH} (hev : (calK c).run e ((opdsK args).run tm) tm h = some outs) (ho : o.op = .call { callee, args := args', argTypes := ats }) :
  ∃ nx w1, (execOp a.eval o).run P w = .ok nx w1 ∧ NextOK P w1 (fun v w' => ∃ r ∈ outs, ∃ ι' ro', Grow h.n e.lim ι ro h w ι' ro' r.h w' ∧ HR N CR ι' ro' r.h w' ∧ VR N ι' ro' r.v v) nx := by
 have hA := okOs_VRs htm hargs
 have hA' : VRs N ι ro ((opdsK args).run tm) (args'.map a.eval).toList := by simpa using hA
 cases c with
 | dir f =>
  cases callee with
  | value y =>
   cases y <;> simp only [okCal, Bool.false_eq_true, beq_iff_eq] at hok
   rename_i g
   subst hok
   have hf : VR N ι ro (.fn f [] []) (.func (.func (N.f f)) #[] #[]) := by simp only [VR]; exact ⟨#[], #[], rfl, VRs.nil, VRs.nil⟩
   obtain ⟨nx, w1, h1, h2⟩ := hcall ι ro h w _ _ _ _ outs hlim hh hf hA' hev
   exact ⟨nx, w1, by simp only [execOp, ho, resolve]; exact h1, h2⟩
  | _ => simp [okCal] at hok
 | val x =>
  cases callee with
  | value y =>
   simp only [okCal] at hok
   obtain ⟨nx, w1, h1, h2⟩ := hcall ι ro h w _ _ _ _ outs hlim hh (okO_VR htm hok) hA' hev
   exact ⟨nx, w1, by simp only [execOp, ho, resolve]; exact h1, h2⟩
  | _ => simp [okCal] at hok
 | inv x m =>
  cases callee with
  | invoke y m' =>
   simp only [okCal, Bool.and_eq_true, beq_iff_eq] at hok
   obtain ⟨rfl, hx⟩ := hok
   have hx := okO_VR htm hx
   simp only [calK] at hev
   cases hxv : x.ev tm <;> simp only [hxv, reduceCtorEq] at hev
   rename_i t v
   rw [hxv] at hx
   simp only [VR] at hx
   obtain ⟨v', e1, hv'⟩ := hx
   split at hev
   ·rename_i f hf
    have hm := hmeth t m f hf v' w
    have hfn : VR N ι ro (.fn f [] []) (.func (.func (N.f f)) #[] #[]) := by simp only [VR]; exact ⟨#[], #[], rfl, VRs.nil, VRs.nil⟩
    have hA2 : VRs N ι ro (v :: (opdsK args).run tm) (#[v'] ++ args'.map a.eval).toList := by simpa using VRs.cons hv' hA
    obtain ⟨nx, w1, h1, h2⟩ := hcall ι ro h w _ _ _ _ outs hlim hh hfn hA2 hev
    refine ⟨nx, w1, ?_, h2⟩
    rw [← h1]
    have h9 : (args'.map a.eval).extract 0 args'.size = args'.map a.eval := by have := Array.extract_size (xs := args'.map a.eval); rwa [Array.size_map] at this
    have h0 : ∀ (q : Value) (l : Array Value), (#[q] ++ l)[0]? = some q := fun q l => by rw [Array.getElem?_append_left (by simp)]; rfl
    simp [execOp, ho, resolve, invokeOf, Deferred.ofValue, invoke, callMethod, e1, h0, hm, h9]
   ·cases hev
  | _ => simp [okCal] at hok
theorem op_sound (hN : ∀ t u, N.t t = N.t u → t = u) {e : Env} (hcall : CallOK P N CR e.callF e.lim) (hmeth : MethOK P N e.meth) (ho : ops[j]? = some o) (hw : Region.wanted o (yielded ops a.tmps) = true)
  {dst : Option Nat} {op : IOp} (hdst : o.dst = dst) (hd : ∀ d, dst = some d → d < nt) (hok : okOp P N op o.op = true) {n0 base : Nat} (sr : SR P N CR nt ι ro st b a w) (hlim : e.lim ≤ n0) (hn0 : n0 ≤ st.h.n) (hcalm : calm b.kind cs)
  {outs : List St} (hev : (compOp dst op).run e base st = some outs) (hhole : ∀ x q, op = .a x (some q) → n0 ≤ base + q ∧ base + q < st.h.n ∧ ι (base + q) = none) :
  StepsTo P N CR nt n0 e.lim ι ro st b w outs (HoleOf op base) (lone (b.atR a (.inRegion ops (j :: rest) :: k)) cs w) (fun a' w' => lone (b.atR a' (.inRegion ops rest :: k)) cs w') := by
 subst hdst
 have nd : (∀ x, op ≠ .defer x) → (∀ x, op ≠ .bad) → ∀ c, o.op ≠ .defer c := fun h1 h2 c hc => by
  rw [hc] at hok
  cases op with
  | defer x => exact h1 x rfl
  | bad => exact h2 () rfl
  | p o => cases o <;> simp [okOp, okP] at hok
  | r o => cases o <;> simp [okOp, okR] at hok
  | a o _ => cases o <;> simp [okOp, okA] at hok
  | w o => cases o <;> simp [okOp, okW] at hok
  | call => simp [okOp] at hok
  | nxtM => simp [okOp] at hok
  | recover => simp [okOp] at hok
 cases op with
 | p q =>
  simp only [compOp] at hev
  split at hev
  ·rename_i v hv
   cases hev
   obtain ⟨x, hx, hrun⟩ := soundP hN hok sr.tm hv
   exact ⟨_, by simp, ι, ro, _, w, by simpa using Grow.refl, fun _ _ _ => rfl, sr.put hd (fun _ _ h => h) (fun _ _ h => h) sr.hr hx, .one (one_value ho hw (nd (by simp) (by simp)) (hrun o w rfl))⟩
  ·cases hev
 | r q =>
  simp only [compOp] at hev
  split at hev
  ·rename_i v hv
   cases hev
   obtain ⟨x, hx, hrun⟩ := soundR hok sr.tm sr.hr hv
   exact ⟨_, by simp, ι, ro, _, w, by simpa using Grow.refl, fun _ _ _ => rfl, sr.put hd (fun _ _ h => h) (fun _ _ h => h) sr.hr hx, .one (one_value ho hw (nd (by simp) (by simp)) (hrun o rfl))⟩
  ·cases hev
 | a q hole =>
  simp only [compOp] at hev
  have hro : ro w.heap.size = none := by
   cases hc : ro w.heap.size with
   | none => rfl
   | some c =>
    obtain ⟨⟨_, _, h1⟩, _⟩ := sr.hr.rd _ _ hc
    have := (Array.getElem?_eq_some_iff.1 h1).1
    omega
  split at hev
  ·rename_i v hv
   cases hev
   obtain ⟨c, e', fz, w', x, hG, hx, hrun⟩ := soundA (CR := CR) hok sr.tm hv w hro
   have hext : ∀ b' c', ro b' = some c' → (if b' = w.heap.size then some c else ro b') = some c' := fun b' c' h' => by
    by_cases eb : b' = w.heap.size
    ·subst eb; rw [hro] at h'; cases h'
    ·rw [if_neg eb]; exact h'
   have hh' : HR N CR ι (fun b' => if b' = w.heap.size then some c else ro b') st.h w' := (sr.hr.same hG.old).read hG.new (fun jj oj u hj hu e => by
    obtain ⟨_, u', hu', c', hc', _⟩ := sr.hr.live jj oj hj
    rw [hu] at hu'; cases hu'
    have := (Array.getElem?_eq_some_iff.1 hc').1
    omega) (fun c' hc' => by rw [hro] at hc'; cases hc')
   exact ⟨_, by simp, ι, _, _, w', ⟨⟨fun _ _ => rfl, fun _ _ h => h, hext⟩, hG.env, by simp, fun _ _ => by simp⟩, fun _ _ _ => rfl, sr.put hd (fun _ _ h => h) hext hh' hx, .one (one_value ho hw (nd (by simp) (by simp)) (hrun o rfl))⟩
  ·rename_i ob f hv
   obtain ⟨wn, c, w', x, hblk, hG, hO, hX, hrun⟩ := soundA (CR := CR) hok sr.tm hv w hro
   have key : ∀ (id : Nat) (h' : Heap), ι id = none → n0 ≤ id → id < h'.n → st.h.n ≤ h'.n → (id < st.h.n → HoleOf (.a q hole) base id) → (∀ jj, h'.get jj = if jj = id then some ob else st.h.get jj) → outs = [(putK o.dst).run (f id) h' st] →
     StepsTo P N CR nt n0 e.lim ι ro st b w outs (HoleOf (.a q hole) base) (lone (b.atR a (.inRegion ops (j :: rest) :: k)) cs w) (fun a' w' => lone (b.atR a' (.inRegion ops rest :: k)) cs w') := by
    intro id h' hid hn hid' hle hX' hget hout
    subst hout
    have hext : ∀ jj u, ι jj = some u → (if jj = id then some wn else ι jj) = some u := fun jj u hu => by
     by_cases ej : jj = id
     ·subst ej; rw [hid] at hu; cases hu
     ·rw [if_neg ej]; exact hu
    have hh' := sr.hr.put_new (wn := wn) (o := ob) (c := c) hid hid' hle hget hblk hG.old (by rw [hblk]; exact hG.new) (hO _ hext)
    refine ⟨_, by simp, _, ro, _, w', ⟨⟨fun jj hjj => if_neg (by omega), hext, fun _ _ h => h⟩, hG.env, by simpa using hle, fun jj hjj => by rw [putK_h, hget, if_neg (by omega)]⟩, fun jj hjj hX => if_neg fun e => hX (by subst e; exact hX' hjj), sr.put hd hext (fun _ _ h => h) hh' (hX _ id (by simp)), .one (one_value ho hw (nd (by simp) (by simp)) (hrun o rfl))⟩
   split at hev
   ·cases hev
    exact key st.h.n _ (sr.hr.fresh _ (Nat.le_refl _)) hn0 (by simp) (by simp) (fun h => absurd h (Nat.lt_irrefl _)) (fun jj => by rw [Heap.get_push]) rfl
   ·rename_i q'
    cases hev
    obtain ⟨h1, h2, h3⟩ := hhole _ _ rfl
    exact key (base + q') _ h3 h1 (by simpa using h2) (by simp) (fun _ => ⟨_, q', rfl, rfl⟩) (fun jj => by rw [Heap.get_set]) rfl
  ·cases hev
 | w q =>
  simp only [compOp] at hev
  split at hev
  ·rename_i r hr
   cases hev
   obtain ⟨v, h'⟩ := r
   obtain ⟨ι', w', x, nx, h1, h2, h3, h4, h5, h6, h7⟩ := soundW hok sr.tm sr.hr hr
   have hlow := soundW_low hr
   have hG : Grow n0 e.lim ι ro st.h w ι' ro h' w' := ⟨⟨fun jj hj => h1.inj jj (Nat.lt_of_lt_of_le hj hn0), h1.old, h1.ro⟩, h4, h5, fun jj hj => hlow jj hj (by omega)⟩
   refine ⟨_, by simp, ι', ro, _, w', by simpa using hG, fun id hid _ => h1.inj id hid, sr.put hd h1.old (fun _ _ h => h) h2 h3, ?_⟩
   rcases h6 with h6 | ⟨h6, h8⟩
   ·exact .one (one_value ho hw (nd (by simp) (by simp)) (by rw [h7 o rfl, h6]))
   ·subst h8; exact .one (one_skip ho hw (nd (by simp) (by simp)) (by rw [h7 o rfl, h6]))
  ·cases hev
 | call c args frz =>
  simp only [compOp] at hev
  obtain ⟨ms, hm, hall⟩ := ND.of_bind hev
  cases hop : o.op <;> try (rw [hop] at hok; simp [okOp] at hok; done)
  rename_i cl
  obtain ⟨callee, args', ats⟩ := cl
  rw [hop] at hok
  simp only [okOp, Bool.and_eq_true] at hok
  obtain ⟨nx, w1, hrun, hR⟩ := cal_sound (o := o) hcall hmeth hok.1 hok.2 sr.tm sr.hr (Nat.le_trans hlim hn0) hm hop
  obtain ⟨x, w', ⟨r, hr, ι', ro', hG, hh, hv⟩, hst⟩ := one_call (k := k) (cs := cs) (rest := rest) ho hw (nd (by simp) (by simp)) hrun hR
  obtain ⟨rs, h6, h7⟩ := hall r hr
  have hG' := hG.less hn0 (Nat.le_refl _)
  cases frz with
  | false =>
   simp only [cond] at h6
   cases h6
   exact ⟨_, h7 _ (by simp), ι', ro', _, w', by simpa using hG', fun id hid _ => hG.ext.inj id hid, sr.put hd hG.ext.old hG.ext.ro hh hv, hst⟩
  | true =>
   simp only [cond] at h6
   split at h6
   ·rename_i r' hr'
    cases h6
    obtain ⟨ro'', f1, f2, f3, f4, f5⟩ := frzV_sound hr' hh hv
    have hG2 : Grow n0 e.lim ι ro st.h w ι' ro'' r'.h w' := ⟨⟨hG'.ext.inj, hG'.ext.old, fun b c hc => f1 b c (hG'.ext.ro b c hc)⟩, hG'.env, by rw [f4]; exact hG'.n, fun jj hjj => by rw [f5 jj hjj, hG'.low jj hjj]⟩
    exact ⟨_, h7 _ (by simp), ι', ro'', _, w', by simpa using hG2, fun id hid _ => hG.ext.inj id hid, sr.put hd hG2.ext.old hG2.ext.ro f2 f3, hst⟩
   ·cases h6
 | nxtM it =>
  simp only [compOp] at hev
  obtain ⟨ms, hm, hall⟩ := ND.of_bind hev
  cases hop : o.op <;> try (rw [hop] at hok; simp [okOp] at hok; done)
  rename_i y bs
  rw [hop] at hok
  cases bs <;> simp only [okOp, Bool.false_eq_true, reduceCtorEq] at hok
  have hx := okO_VR sr.tm hok
  obtain ⟨r, h1, x, w', h2, h3, h4, h5⟩ := nextM_sound (P := P) sr.hr hx hm o.type
  obtain ⟨rs, h6, h7⟩ := hall r h1
  cases h6
  exact ⟨_, h7 _ (by simp), ι, ro, _, w', by simpa using h3.less hn0 (Nat.le_refl _), fun _ _ _ => rfl, sr.put hd (fun _ _ h => h) (fun _ _ h => h) h4 h5, .one (one_value ho hw (nd (by simp) (by simp)) (by simp [execOp, hop, h2]))⟩
 | defer x =>
  simp only [compOp] at hev
  cases hxv : x.ev st.tm <;> simp only [hxv, reduceCtorEq] at hev
  rename_i f fa fc
  cases hr : st.round with
  | true => simp [hr] at hev
  | false =>
   simp only [hr, cond] at hev
   cases hev
   have hb : b.roundOf = none := by have := sr.round; rw [hr] at this; cases hbb : b.roundOf <;> simp [hbb] at this ⊢
   cases hop : o.op <;> try (rw [hop] at hok; simp [okOp] at hok; done)
   rename_i c
   obtain ⟨callee, args, ats⟩ := c
   rw [hop] at hok
   cases callee <;> try (simp [okOp] at hok; done)
   rename_i y
   simp only [okOp, Bool.and_eq_true] at hok
   have hx := okO_VR sr.tm hok.1
   have hargs : args = #[] := by simpa using hok.2
   subst hargs
   rw [hxv] at hx
   have hx' := hx
   simp only [VR] at hx
   obtain ⟨a', c', e1, _, _⟩ := hx
   have hrun : (execOp a.eval o).run P w = .ok (.defer { target := .fn (.func (N.f f)) c', args := a' ++ #[] }) w := by
    simp [execOp, hop, resolve, e1, Deferred.ofValue]
   have sr' : SR P N CR nt ι ro ⟨st.tm, st.h, .call (.fn f fa fc) :: st.defs, false⟩ b { a with defers := { target := .fn (.func (N.f f)) c', args := a' ++ #[] } :: a.defers } w :=
    ⟨sr.hr, sr.tm, sr.sz, by rw [hb]; rfl, .cons ⟨⟨_, _, _, rfl⟩, _, a', c', by rw [← e1]; exact hx', rfl⟩ sr.defs⟩
   exact ⟨_, by simp, ι, ro, _, w, by simpa using Grow.refl, fun _ _ _ => rfl, sr'.put hd (fun _ _ h => h) (fun _ _ h => h) sr.hr (v := .any) (x := Go.undef) (by simp only [VR]), .one (one_defer ho hw hb hrun)⟩
 | recover =>
  simp only [compOp] at hev
  cases hr : st.round with
  | true => simp [hr] at hev
  | false =>
   simp only [hr, cond] at hev
   cases hev
   have hb : b.roundOf = none := by have := sr.round; rw [hr] at this; cases hbb : b.roundOf <;> simp [hbb] at this ⊢
   cases hop : o.op <;> try (rw [hop] at hok; simp [okOp] at hok; done)
   rename_i c
   obtain ⟨callee, args, ats⟩ := c
   rw [hop] at hok
   cases callee <;> try (simp [okOp] at hok; done)
   rename_i bi
   cases bi <;> simp only [okOp, Bool.false_eq_true, reduceCtorEq] at hok
   exact ⟨_, by simp, ι, ro, _, w, by simpa using Grow.refl, fun _ _ _ => rfl, sr.put hd (fun _ _ h => h) (fun _ _ h => h) sr.hr (v := .nili) (by simp only [VR]), .one (one_recover ho hw (nd (by simp) (by simp)) hb hcalm (by simp [execOp, hop, resolve, invoke, builtin]))⟩
 | bad => simp [compOp] at hev
end
end Go.Abs
namespace Go.Abs
open Go
def Opd.looks : Opd → List Nat
 | .t i => [i]
 | .c _ => []
def looksL (l : List Opd) : List Nat := l.flatMap Opd.looks
def looksO : Option Opd → List Nat
 | none => []
 | some x => x.looks
def PO.looks : PO → List Nat
 | .mov x => x.looks
 | .pick c a b => c.looks ++ a.looks ++ b.looks
 | .build _ ps => ps.flatMap fun p => p.2.2.looks
 | .nilc x => x.looks
 | .bin _ x y => x.looks ++ y.looks
 | .eqo _ _ x y => x.looks ++ y.looks
 | .un _ x => x.looks
 | .ci _ x => x.looks
 | .mki _ x => x.looks
 | .asrt _ _ _ x => x.looks
 | .mkf _ a b => looksL a ++ looksL b
 | .slice _ x a b c => x.looks ++ looksO a ++ looksO b ++ looksO c
 | .sliceS x a b => x.looks ++ looksO a ++ looksO b
 | .faddr _ a => a.looks
 | .fld _ _ x => x.looks
 | .iaddr _ x i => x.looks ++ i.looks
 | .iaddrA _ _ x i => x.looks ++ i.looks
 | .idxS x i => x.looks ++ i.looks
 | .idxA _ _ _ x i => x.looks ++ i.looks
 | .ext _ x => x.looks
 | .min x xs => x.looks ++ looksL xs
 | .max x xs => x.looks ++ looksL xs
 | .cap x => x.looks
def RdO.looks : RdO → List Nat
 | .load _ a => a.looks
 | .b2s x => x.looks
 | .lookup _ _ _ m k => m.looks ++ k.looks
 | .len _ x => x.looks
 | .entry it => it.looks
def AO.looks : AO → List Nat
 | .alloc _ => []
 | .box _ x => x.looks
 | .bslice _ _ _ ps => ps.flatMap fun p => p.2.looks
 | .s2b _ x => x.looks
 | .mkm => []
 | .mks _ _ l c => l.looks ++ c.looks
 | .rngS x => x.looks
def WO.looks : WO → List Nat
 | .store _ a x => a.looks ++ x.looks
 | .mupd _ m k v => m.looks ++ k.looks ++ v.looks
 | .del _ m k => m.looks ++ k.looks
 | .rngM x => x.looks
 | .nxtS it => it.looks
 | .append _ _ s x => s.looks ++ x.looks
 | .appendS s x => s.looks ++ x.looks
 | .appendZ _ _ s n => s.looks ++ n.looks
 | .clear _ x => x.looks
 | .same x => x.looks
def Cal.looks : Cal → List Nat
 | .dir _ => []
 | .val x => x.looks
 | .inv x _ => x.looks
def IOp.looks : IOp → List Nat
 | .p o => o.looks
 | .r o => o.looks
 | .a o _ => o.looks
 | .w o => o.looks
 | .call c as _ => c.looks ++ looksL as
 | .nxtM it => it.looks
 | .defer x => x.looks
 | .recover => []
 | .bad => []
def Ins.looks (i : Ins) : List Nat :=
 match i.guard with
 | none => i.op.looks
 | some g => g.1 :: i.op.looks
def Agree (l : List Nat) (tm tm' : Tm) : Prop := ∀ s ∈ l, (gK s).run tm = (gK s).run tm'
variable {tm tm' : Tm} {h : Heap}
theorem Agree.left {a b : List Nat} (h : Agree (a ++ b) tm tm') : Agree a tm tm' := fun s hs => h s (List.mem_append_left _ hs)
theorem Agree.right {a b : List Nat} (h : Agree (a ++ b) tm tm') : Agree b tm tm' := fun s hs => h s (List.mem_append_right _ hs)
theorem Agree.symm {a : List Nat} (h : Agree a tm tm') : Agree a tm' tm := fun s hs => (h s hs).symm
theorem ev_agree {x : Opd} (h : Agree x.looks tm tm') : x.ev tm = x.ev tm' := by
 cases x with
 | t i => exact h i (by simp [Opd.looks])
 | c v => rfl
theorem opds_agree : ∀ {l : List Opd} (_ : Agree (looksL l) tm tm'), (opdsK l).run tm = (opdsK l).run tm'
 | [], _ => rfl
 | x :: l, h => by
  simp only [looksL, List.flatMap_cons] at h
  simp only [opdsK]
  rw [ev_agree h.left, opds_agree h.right]
theorem opt_agree {x : Option Opd} (h : Agree (looksO x) tm tm') (d top : Nat) : (optK x).run d top tm = (optK x).run d top tm' := by
 cases x with
 | none => rfl
 | some x => simp only [looksO] at h; simp only [optK]; rw [ev_agree h]
theorem cut_agree {a b c : Option Opd} (ha : Agree (looksO a) tm tm') (hb : Agree (looksO b) tm tm') (hc : Agree (looksO c) tm tm') (n : Nat) (f : Bool) : (cutK a b c).run n f tm = (cutK a b c).run n f tm' := by
 cases c with
 | none => simp only [cutK, opt_agree ha, opt_agree hb]
 | some m => simp only [cutK, opt_agree ha, opt_agree hb, opt_agree hc]
theorem fillRow_agree : ∀ {ps : List (Nat × Nat × Opd)} (_ : Agree (ps.flatMap fun p => p.2.2.looks) tm tm') (cells : List V), fillRow cells tm ps = fillRow cells tm' ps
 | [], _, _ => rfl
 | (off, size, x) :: ps, h, cells => by
  simp only [List.flatMap_cons] at h
  simp only [fillRow, ev_agree h.left, fillRow_agree h.right]
theorem fillRows_agree {esz : Nat} : ∀ {ps : List (Nat × Opd)} (_ : Agree (ps.flatMap fun p => p.2.looks) tm tm') (rows : List (List V)), fillRows esz rows tm ps = fillRows esz rows tm' ps
 | [], _, _ => rfl
 | (i, x) :: ps, h, rows => by
  simp only [List.flatMap_cons] at h
  simp only [fillRows, ev_agree h.left, fillRows_agree h.right]
theorem minInt_agree {k : IntKind} : ∀ {l : List Opd} (_ : Agree (looksL l) tm tm') (x : Int), minInt k tm x l = minInt k tm' x l
 | [], _, _ => rfl
 | y :: l, h, x => by
  simp only [looksL, List.flatMap_cons] at h
  simp only [minInt, ev_agree h.left]
  split
  ·exact minInt_agree h.right _
  ·rfl
theorem maxInt_agree {k : IntKind} : ∀ {l : List Opd} (_ : Agree (looksL l) tm tm') (x : Int), maxInt k tm x l = maxInt k tm' x l
 | [], _, _ => rfl
 | y :: l, h, x => by
  simp only [looksL, List.flatMap_cons] at h
  simp only [maxInt, ev_agree h.left]
  split
  ·exact maxInt_agree h.right _
  ·rfl
theorem compP_agree {o : PO} (h : Agree o.looks tm tm') : (compP o).run tm = (compP o).run tm' := by
 cases o <;> simp only [PO.looks] at h <;> simp only [compP]
 case mov => rw [ev_agree h]
 case pick => rw [ev_agree h.left.left, ev_agree h.left.right, ev_agree h.right]
 case build => rw [fillRow_agree h]
 case nilc => rw [ev_agree h]
 case bin => rw [ev_agree h.left, ev_agree h.right]
 case eqo => rw [ev_agree h.left, ev_agree h.right]
 case un => rw [ev_agree h]
 case ci => rw [ev_agree h]
 case mki => rw [ev_agree h]
 case asrt => rw [ev_agree h]
 case mkf => rw [opds_agree h.left, opds_agree h.right]
 case slice esz x a b c =>
  rw [ev_agree h.left.left.left]
  have := cut_agree h.left.left.right h.left.right h.right
  cases x.ev tm' <;> simp only [sliceV, this]
 case sliceS x a b =>
  have := cut_agree (c := none) h.left.right h.right (fun _ h => by cases h)
  simp only [ev_agree h.left.left, this]
 case faddr => rw [ev_agree h]
 case fld => rw [ev_agree h]
 case iaddr => simp only [ev_agree h.left, ev_agree h.right]
 case iaddrA => simp only [ev_agree h.left, ev_agree h.right]
 case idxS => simp only [ev_agree h.left, ev_agree h.right]
 case idxA => simp only [ev_agree h.left, ev_agree h.right]
 case ext => rw [ev_agree h]
 case min => simp only [ev_agree h.left, minInt_agree h.right]
 case max => simp only [ev_agree h.left, maxInt_agree h.right]
 case cap => rw [ev_agree h]
theorem compR_agree {o : RdO} (h : Agree o.looks tm tm') (H : Heap) : (compR o).run tm H = (compR o).run tm' H := by
 cases o <;> simp only [RdO.looks] at h <;> simp only [compR]
 case load => rw [ev_agree h]
 case b2s => rw [ev_agree h]
 case lookup => simp only [ev_agree h.left, ev_agree h.right]
 case len => rw [ev_agree h]
 case entry => rw [ev_agree h]
theorem compA_agree {o : AO} (h : Agree o.looks tm tm') : (compA o).run tm = (compA o).run tm' := by
 cases o <;> simp only [AO.looks] at h <;> simp only [compA]
 case box => rw [ev_agree h]
 case bslice => rw [fillRows_agree h]
 case s2b => rw [ev_agree h]
 case mks => simp only [ev_agree h.left, ev_agree h.right]
 case rngS => rw [ev_agree h]
theorem compW_agree {o : WO} (h : Agree o.looks tm tm') (mk : Nat) (H : Heap) : (compW o).run mk tm H = (compW o).run mk tm' H := by
 cases o <;> simp only [WO.looks] at h <;> simp only [compW]
 case store => simp only [ev_agree h.left, ev_agree h.right]
 case mupd => simp only [ev_agree h.left.left, ev_agree h.left.right, ev_agree h.right]
 case del => simp only [ev_agree h.left, ev_agree h.right]
 case rngM => rw [ev_agree h]
 case nxtS => rw [ev_agree h]
 case append => simp only [ev_agree h.left, ev_agree h.right]
 case appendS => simp only [ev_agree h.left, ev_agree h.right]
 case appendZ => simp only [ev_agree h.left, ev_agree h.right]
 case clear => rw [ev_agree h]
 case same => rw [ev_agree h]
theorem calK_agree {c : Cal} (h : Agree c.looks tm tm') (e : Env) (args : List V) (H : Heap) : (calK c).run e args tm H = (calK c).run e args tm' H := by
 cases c <;> simp only [Cal.looks] at h <;> simp only [calK]
 case val => rw [ev_agree h]
 case inv => rw [ev_agree h]
structure Eff where
 v : V
 h : Heap
 d : List DefI
def effOp (op : IOp) (e : Env) (base : Nat) (tm : Tm) (h : Heap) (round : Bool) : ND Eff :=
 match op with
 | .p o => (match (compP o).run tm with
  | some v => some [⟨v, h, []⟩]
  | none => none)
 | .r o => (match (compR o).run tm h with
  | some v => some [⟨v, h, []⟩]
  | none => none)
 | .a o hole => (match (compA o).run tm with
  | some (.val v) => some [⟨v, h, []⟩]
  | some (.obj o f) => (match hole with
   | none => some [⟨f h.n, h.push o, []⟩]
   | some j => some [⟨f (base + j), h.set (base + j) o, []⟩])
  | none => none)
 | .w o => (match (compW o).run e.lim tm h with
  | some r => some [⟨r.v, r.h, []⟩]
  | none => none)
 | .call c args frz => ND.bind ((calK c).run e ((opdsK args).run tm) tm h) fun r =>
   cond frz
    (match frzV e.lim r with
    | some r => some [⟨r.v, r.h, []⟩]
    | none => none)
    (some [⟨r.v, r.h, []⟩])
 | .nxtM it => ND.bind (nextM e.lim (it.ev tm) h) fun r => some [⟨r.v, r.h, []⟩]
 | .defer x => (match x.ev tm with
  | .fn f a c => cond round none (some [⟨.any, h, [.call (.fn f a c)]⟩])
  | _ => none)
 | .recover => cond round none (some [⟨.nili, h, []⟩])
 | .bad => none
def putE (dst : Option Nat) (f : Eff) (st : St) : St := (putK dst).run f.v f.h ⟨st.tm, st.h, f.d ++ st.defs, st.round⟩
theorem effOp_agree {op : IOp} (h : Agree op.looks tm tm') (e : Env) (base : Nat) (H : Heap) (r : Bool) : effOp op e base tm H r = effOp op e base tm' H r := by
 cases op <;> simp only [IOp.looks] at h <;> simp only [effOp]
 case p => rw [compP_agree h]
 case r => rw [compR_agree h]
 case a => rw [compA_agree h]
 case w => rw [compW_agree h]
 case call => rw [opds_agree h.right, calK_agree h.left]
 case nxtM => rw [ev_agree h]
 case defer => rw [ev_agree h]
theorem ND.bind_map {α β γ : Type} {m : ND α} {f : α → ND β} {g : α → ND γ} {k : β → γ} (h : ∀ a, g a = (f a).map (List.map k)) : ND.bind m g = (ND.bind m f).map (List.map k) := by
 cases m with
 | none => rfl
 | some l =>
  cases l with
  | nil => rfl
  | cons x l =>
   cases l with
   | nil => exact h x
   | cons y l =>
    simp only [ND.bind]
    have : ∀ (ms : List α), ND.join (ms.map g) = (ND.join (ms.map f)).map (List.map k) := by
     intro ms
     induction ms with
     | nil => rfl
     | cons a ms ih =>
      simp only [List.map_cons, ND.join, ih, h a]
      cases f a <;> cases ND.join (ms.map f) <;> simp
    exact this _
theorem compOp_eff (dst : Option Nat) (op : IOp) (e : Env) (base : Nat) (st : St) : (compOp dst op).run e base st = (effOp op e base st.tm st.h st.round).map (List.map fun f => putE dst f st) := by
 cases op <;> simp only [compOp, effOp]
 case p o => cases (compP o).run st.tm <;> simp [putE]
 case r o => cases (compR o).run st.tm st.h <;> simp [putE]
 case a o hole =>
  cases (compA o).run st.tm with
  | none => rfl
  | some m => cases m <;> cases hole <;> simp [putE]
 case w o => cases (compW o).run e.lim st.tm st.h <;> simp [putE]
 case call c args frz =>
  apply ND.bind_map
  intro r
  cases frz
  ·simp [putE]
  ·simp only [cond]; cases frzV e.lim r <;> simp [putE]
 case nxtM it =>
  apply ND.bind_map
  intro r
  simp [putE]
 case defer x => cases x.ev st.tm <;> cases hr : st.round <;> simp [putE, hr]
 case recover => cases st.round <;> simp [putE]
 case bad => rfl
end Go.Abs
namespace Go.Abs
open Go
variable {N : Num} {CR : Nat → IC → Code → Prop} {ι ι' ι'' : Inj} {ro ro' ro'' : RO} {P : Program} {h h' h'' : Heap} {w w' w'' : World} {mk : Nat}
section
variable {nt : Nat} {st : St} {b : Frame} {a : Act} {k : List Item} {cs : List Frame} {ops : Array Oper} {j : Nat} {rest : List Nat} {o : Oper} {i : Ins}
theorem StepsTo.trans {n0 lim : Nat} {outs : List St} {X Y : Nat → Prop} {m : Machine} {at' at'' : Act → World → Machine} {outs' : List St} (h : StepsTo P N CR nt n0 lim ι ro st b w outs X m at') (hXY : ∀ id, X id → Y id)
  (k : ∀ r ∈ outs, ∀ ι' ro' a' w', Grow n0 lim ι ro st.h w ι' ro' r.h w' → (∀ id, id < st.h.n → ¬ X id → ι' id = ι id) → SR P N CR nt ι' ro' r b a' w' → StepsTo P N CR nt n0 lim ι' ro' r b w' outs' Y (at' a' w') at'') :
  StepsTo P N CR nt n0 lim ι ro st b w outs' Y m at'' := by
 obtain ⟨r, h1, ι', ro', a', w', h2, h5, h3, h4⟩ := h
 obtain ⟨r', k1, ι'', ro'', a'', w'', k2, k5, k3, k4⟩ := k r h1 ι' ro' a' w' h2 h5 h3
 exact ⟨r', k1, ι'', ro'', a'', w'', h2.trans k2, fun id hid hY => (k5 id (Nat.lt_of_lt_of_le hid h2.n) hY).trans (h5 id hid fun hx => hY (hXY id hx)), k3, h4.trans k4⟩
theorem ins_sound (hN : ∀ t u, N.t t = N.t u → t = u) {e : Env} (hcall : CallOK P N CR e.callF e.lim) (hmeth : MethOK P N e.meth) (ho : ops[j]? = some o) (hok : okIns P N nt ops i o = true)
  {n0 base : Nat} (sr : SR P N CR nt ι ro st b a w) (hlim : e.lim ≤ n0) (hn0 : n0 ≤ st.h.n) (hcalm : calm b.kind cs)
  {outs : List St} (hev : (compI i).run e base st = some outs) (hhole : ∀ x q, i.op = .a x (some q) → n0 ≤ base + q ∧ base + q < st.h.n ∧ ι (base + q) = none) :
  StepsTo P N CR nt n0 e.lim ι ro st b w outs (HoleOf i.op base) (lone (b.atR a (.inRegion ops (j :: rest) :: k)) cs w) (fun a' w' => lone (b.atR a' (.inRegion ops rest :: k)) cs w') := by
 obtain ⟨dst, guard, op⟩ := i
 simp only [okIns, Bool.and_eq_true, beq_iff_eq] at hok
 obtain ⟨⟨⟨hdst, hg⟩, hop⟩, hd⟩ := hok
 have hd' : ∀ d, dst = some d → d < nt := fun d e => by subst e; simpa [Nat.blt_eq] using hd
 have run : Region.wanted o (yielded ops a.tmps) = true → (compOp dst op).run e base st = some outs →
   StepsTo P N CR nt n0 e.lim ι ro st b w outs (HoleOf op base) (lone (b.atR a (.inRegion ops (j :: rest) :: k)) cs w) (fun a' w' => lone (b.atR a' (.inRegion ops rest :: k)) cs w') :=
  fun hw he => op_sound hN hcall hmeth ho hw hdst.symm hd' hop sr hlim hn0 hcalm he hhole
 have skip : Region.wanted o (yielded ops a.tmps) = false → outs = [(putK dst).run (.tup []) st.h st] →
   StepsTo P N CR nt n0 e.lim ι ro st b w outs (HoleOf op base) (lone (b.atR a (.inRegion ops (j :: rest) :: k)) cs w) (fun a' w' => lone (b.atR a' (.inRegion ops rest :: k)) cs w') := by
  intro hw he
  subst he
  have hs := stepR_op_skip (P := P) (b := b) (k := k) (cs := cs) (w := w) (a := a) (ops := ops) (i := j) (rest := rest) (by simp [ho, hw])
  simp only [ho, Option.bind_some] at hs
  exact ⟨_, List.mem_singleton.2 rfl, ι, ro, _, w, by simpa using Grow.refl, fun _ _ _ => rfl, by rw [← hdst]; exact sr.put hd' (fun _ _ h => h) (fun _ _ h => h) sr.hr VR.undef, .one hs⟩
 cases hgd : o.guard with
 | none =>
  rw [hgd] at hg
  cases guard with
  | some g => simp [okGuard] at hg
  | none => exact run (by simp [Region.wanted, hgd]) (by simpa only [compI] using hev)
 | some jb =>
  obtain ⟨jj, c⟩ := jb
  rw [hgd] at hg
  cases guard with
  | none => simp [okGuard] at hg
  | some g =>
   obtain ⟨s, c'⟩ := g
   simp only [okGuard, Bool.and_eq_true, beq_iff_eq] at hg
   obtain ⟨rfl, hg⟩ := hg
   split at hg
   ·rename_i o' ho'
    have hs : o'.dst = some s := by simpa using hg
    have hyb : ∀ q, a.tmps[s]? = some (.bool q) → yielded ops a.tmps jj = some q := fun q hq => by simp [yielded, ho', hs, hq]
    have hyn : (∀ c, a.tmps[s]? ≠ some (.bool c)) → yielded ops a.tmps jj = none := fun hq => by
     unfold yielded
     rw [ho']
     simp only [Option.bind_some, hs]
    simp only [compI] at hev
    split at hev
    ·rename_i q hq
     have hy := hyb q (VR.bool_tmp sr.tm hq)
     by_cases e : q = c'
     ·subst e
      simp only [beq_self_eq_true, cond] at hev
      exact run (by simp [Region.wanted, hgd, hy]) hev
     ·have : (q == c') = false := by simpa using e
      simp only [this, cond, Option.some.injEq] at hev
      exact skip (by simp [Region.wanted, hgd, hy, e]) hev.symm
    ·rename_i hq
     have := VR.undef_tmp sr.tm hq
     simp only [Option.some.injEq] at hev
     refine skip ?_ hev.symm
     have := hyn this
     simp [Region.wanted, hgd, this]
    ·cases hev
   ·cases hg
def noHole (i : Ins) : Bool :=
 match i.op with
 | .a _ (some _) => false
 | _ => true
theorem noHole_inv (h : noHole i = true) : ∀ x q, i.op ≠ .a x (some q) := fun x q e => by simp [noHole, e] at h
theorem ops_sound (hN : ∀ t u, N.t t = N.t u → t = u) {e : Env} (hcall : CallOK P N CR e.callF e.lim) (hmeth : MethOK P N e.meth) {n0 : Nat} (hlim : e.lim ≤ n0) (hcalm : calm b.kind cs) {base : Nat} :
  ∀ (l : List Ins) (p : Nat) (ι : Inj) (ro : RO) (st : St) (a : Act) (w : World) (outs : List St), okL P N nt ops l (ops.toList.drop p) = true → l.all noHole = true → SR P N CR nt ι ro st b a w → n0 ≤ st.h.n → (compL l).run e base st = some outs →
   StepsTo P N CR nt n0 e.lim ι ro st b w outs (fun _ => False) (lone (b.atR a (.inRegion ops (List.range' p l.length) :: k)) cs w) (fun a' w' => lone (b.atR a' (.inRegion ops [] :: k)) cs w')
 | [], p, ι, ro, st, a, w, outs, hok, _, sr, hn0, hev => by
  simp only [compL, Option.some.injEq] at hev; subst hev
  exact ⟨st, by simp, ι, ro, a, w, Grow.refl, fun _ _ _ => rfl, sr, Steps.refl P _⟩
 | i :: l, p, ι, ro, st, a, w, outs, hok, hh, sr, hn0, hev => by
  simp only [compL] at hev
  obtain ⟨ms, hm, hall⟩ := ND.of_bind hev
  cases ho : ops.toList.drop p with
  | nil => simp [ho, okL] at hok
  | cons o rs =>
   simp only [ho, okL, Bool.and_eq_true] at hok
   simp only [List.all_cons, Bool.and_eq_true] at hh
   have hget : ops[p]? = some o := by
    have : (ops.toList.drop p)[0]? = some o := by rw [ho]; rfl
    rw [List.getElem?_drop] at this
    simpa using this
   have hrs : ops.toList.drop (p + 1) = rs := by
    have : (ops.toList.drop p).drop 1 = rs := by rw [ho]; rfl
    rw [List.drop_drop] at this
    exact this
   have h1 := ins_sound (k := k) (cs := cs) (rest := List.range' (p + 1) l.length) hN hcall hmeth hget hok.1 sr hlim hn0 hcalm hm (fun x q e => absurd e (noHole_inv hh.1 x q))
   rw [List.length_cons, List.range'_succ]
   refine h1.trans (fun id hid => by obtain ⟨x, q, h1, _⟩ := hid; exact absurd h1 (noHole_inv hh.1 x q)) fun r hr ι' ro' a' w' hG _ sr' => ?_
   obtain ⟨outs', ho', hsub⟩ := hall r hr
   obtain ⟨r', k1, k2⟩ := ops_sound hN hcall hmeth hlim hcalm l (p + 1) ι' ro' r a' w' outs' (by rw [hrs]; exact hok.2) hh.2 sr' (Nat.le_trans hn0 hG.n) ho'
   exact ⟨r', hsub _ k1, k2⟩
end
end Go.Abs
namespace Go.Abs
open Go
def effI (i : Ins) (e : Env) (base : Nat) (tm : Tm) (h : Heap) (round : Bool) : ND Eff :=
 match i.guard with
 | none => effOp i.op e base tm h round
 | some g => match (gK g.1).run tm with
  | .bool c => cond (c == g.2) (effOp i.op e base tm h round) (some [⟨.tup [], h, []⟩])
  | .tup [] => some [⟨.tup [], h, []⟩]
  | _ => none
variable {e : Env} {base : Nat} {tm tm' : Tm} {h h' : Heap} {r : Bool} {st st' : St} {i : Ins} {op : IOp} {f : Eff}
theorem compI_eff (i : Ins) (e : Env) (base : Nat) (st : St) : (compI i).run e base st = (effI i e base st.tm st.h st.round).map (List.map fun f => putE i.dst f st) := by
 unfold compI effI
 cases i.guard with
 | none => exact compOp_eff _ _ _ _ _
 | some g =>
  dsimp only
  generalize (gK g.1).run st.tm = q
  split
  ·rename_i c
   dsimp only
   cases hcg : (c == g.2)
   ·simp [putE]
   ·simp only [cond]; exact compOp_eff _ _ _ _ _
  ·simp [putE]
  ·rename_i h1 h2
   split
   ·exact absurd rfl (h1 _)
   ·exact absurd rfl h2
   ·rfl
theorem effI_agree (h : Agree i.looks tm tm') (H : Heap) : effI i e base tm H r = effI i e base tm' H r := by
 unfold Ins.looks at h
 unfold effI
 cases hg : i.guard with
 | none => rw [hg] at h; exact effOp_agree h _ _ _ _
 | some g =>
  rw [hg] at h
  have h0 : (gK g.1).run tm = (gK g.1).run tm' := h g.1 (by simp)
  have h1 : Agree i.op.looks tm tm' := fun s hs => h s (by simp [hs])
  dsimp only
  rw [h0, effOp_agree h1]
theorem putE_tm (dst : Option Nat) (f : Eff) (st : St) (s : Nat) : (gK s).run (putE dst f st).tm = if dst = some s then f.v else (gK s).run st.tm := by
 cases dst with
 | none => simp [putE, putK]
 | some d =>
  simp only [putE, putK, gK_sK, Option.some.injEq]
  by_cases e : s = d
  ·subst e; simp
  ·rw [if_neg e, if_neg (fun h => e h.symm)]
@[simp] theorem putE_h (dst : Option Nat) (f : Eff) (st : St) : (putE dst f st).h = f.h := by simp [putE]
@[simp] theorem putE_defs (dst : Option Nat) (f : Eff) (st : St) : (putE dst f st).defs = f.d ++ st.defs := by simp [putE]
@[simp] theorem putE_round (dst : Option Nat) (f : Eff) (st : St) : (putE dst f st).round = st.round := by simp [putE]
theorem eff_one (h : ND.single ((compI i).run e base st) = some st') : ∃ f, effI i e base st.tm st.h st.round = some [f] ∧ st' = putE i.dst f st := by
 have h := ND.of_single h
 rw [compI_eff] at h
 cases he : effI i e base st.tm st.h st.round with
 | none => simp [he] at h
 | some l =>
  cases l with
  | nil => simp [he] at h
  | cons f l =>
   cases l with
   | nil => simp [he] at h; exact ⟨f, rfl, h.symm⟩
   | cons _ _ => simp [he] at h
theorem opsH_runs : ∀ (l : List Ins) (st : St) (acc : List Heap) (st' : St) (hs : List Heap), opsH e base l st acc = some (st', hs) →
  ∃ T : Nat → St, T 0 = st ∧ T l.length = st' ∧ (∀ (i : Nat) (li : Ins), l[i]? = some li → ∃ f, effI li e base (T i).tm (T i).h (T i).round = some [f] ∧ T (i + 1) = putE li.dst f (T i)) ∧
   hs.reverse = acc.reverse ++ (List.range (l.length + 1)).map fun i => (T i).h
 | [], st, acc, st', hs, h => by
  simp only [opsH, Option.some.injEq, Prod.mk.injEq] at h
  obtain ⟨rfl, rfl⟩ := h
  exact ⟨fun _ => st, rfl, rfl, fun i li hi => by simp at hi, by simp⟩
 | i :: l, st, acc, st', hs, h => by
  simp only [opsH] at h
  split at h
  ·rename_i st1 h1
   obtain ⟨f, hf, rfl⟩ := eff_one h1
   obtain ⟨T, t0, t1, t2, t3⟩ := opsH_runs l _ _ _ _ h
   refine ⟨fun n => match n with | 0 => st | n + 1 => T n, rfl, t1, fun j lj hj => ?_, ?_⟩
   ·cases j with
    | zero => simp at hj; subst hj; exact ⟨f, hf, t0⟩
    | succ j => exact t2 j lj (by simpa using hj)
   ·rw [t3]
    simp [List.range_succ_eq_map, List.map_map, Function.comp_def]
  ·cases h
structure DrawOK (l : List Ins) (bs : Nat → List Nat) (na : Nat) (chk : List (Nat × Nat)) : Prop where
 dst : ∀ (i j : Nat) (li lj : Ins) (d : Nat), i ≠ j → l[i]? = some li → l[j]? = some lj → li.dst = some d → lj.dst ≠ some d
 look : ∀ (i j : Nat) (li lj : Ins) (s : Nat), i ≠ j → l[i]? = some li → l[j]? = some lj → lj.dst = some s → s ∈ li.looks → (j ∈ bs i ∧ j < i) ∨ (li.op.cls ≠ .r ∧ i ∈ bs j ∧ i < j)
 ww : ∀ (i j : Nat) (li lj : Ins), i < j → l[i]? = some li → l[j]? = some lj → li.op.cls = .w → lj.op.cls = .w → i ∈ bs j
 rwB : ∀ (i k : Nat) (li lk : Ins), k < i → l[i]? = some li → l[k]? = some lk → li.op.cls = .r → lk.op.cls = .w → k ∈ bs i ∨ (i, k) ∈ chk
 rwA : ∀ (i k : Nat) (li lk : Ins), i < k → l[i]? = some li → l[k]? = some lk → li.op.cls = .r → lk.op.cls = .w → i ∈ bs k ∨ (i, k + 1) ∈ chk
 own : ∀ (i : Nat) (li : Ins) (s : Nat), l[i]? = some li → li.op.cls = .r → li.dst = some s → s ∉ li.looks
 aa : ∀ (i j : Nat) (li lj : Ins) (p : Nat), i ≠ j → l[i]? = some li → l[j]? = some lj → li.op.cls = .a p → lj.op.cls ≠ .a p
 ap : ∀ (i : Nat) (li : Ins) (p : Nat), l[i]? = some li → li.op.cls = .a p → p < na
 aw : na ≠ 0 → ∀ (i : Nat) (li : Ins), l[i]? = some li → li.op.cls ≠ .w
 ar : na ≠ 0 → ∀ (i : Nat) (li : Ins), l[i]? = some li → li.op.cls = .r → (i, 0) ∈ chk
theorem eff_n (hc : i.op.cls = .n) (he : effI i e base tm h r = some [f]) : f.h = h ∧ f.d = [] ∧ ∀ h', effI i e base tm h' r = some [⟨f.v, h', []⟩] := by
 have key : ∀ {f : Eff} {h : Heap}, effOp i.op e base tm h r = some [f] → f.h = h ∧ f.d = [] ∧ ∀ h', effOp i.op e base tm h' r = some [⟨f.v, h', []⟩] := by
  intro f h he
  cases hop : i.op with
  | p o =>
   rw [hop] at he
   simp only [effOp] at he ⊢
   split at he <;> cases he
   rename_i v hv
   exact ⟨rfl, rfl, fun h' => rfl⟩
  | a o hole =>
   rw [hop] at he hc
   have hval : ∀ m, (compA o).run tm = some m → ∃ v, m = .val v := fun m hm => by
    cases o with
    | bslice ro zero len parts =>
     cases ro
     ·cases hole <;> simp [IOp.cls] at hc
     ·simp only [compA, cond] at hm
      split at hm
      ·cases hm; exact ⟨_, rfl⟩
      ·cases hm
    | s2b ro x =>
     cases ro
     ·cases hole <;> simp [IOp.cls] at hc
     ·simp only [compA, cond] at hm
      split at hm
      ·cases hm; exact ⟨_, rfl⟩
      ·cases hm
    | _ => cases hole <;> simp [IOp.cls] at hc
   simp only [effOp] at he ⊢
   cases hm : (compA o).run tm with
   | none => simp [hm] at he
   | some m =>
    obtain ⟨v, rfl⟩ := hval m hm
    simp [hm] at he
    subst he
    exact ⟨rfl, rfl, fun h' => rfl⟩
  | recover =>
   rw [hop] at he
   simp only [effOp] at he ⊢
   cases r <;> simp at he
   subst he
   exact ⟨rfl, rfl, fun h' => rfl⟩
  | _ => rw [hop] at hc; simp [IOp.cls] at hc
 unfold effI at he ⊢
 cases hg : i.guard with
 | none => rw [hg] at he; exact key he
 | some g =>
  rw [hg] at he
  dsimp only at he ⊢
  split at he
  ·rename_i c hc
   cases hcg : (c == g.2)
   ·simp [hcg] at he; subst he; exact ⟨rfl, rfl, fun h' => rfl⟩
   ·simp only [hcg, cond] at he ⊢; exact key he
  ·simp at he; subst he; exact ⟨rfl, rfl, fun h' => rfl⟩
  ·cases he
end Go.Abs
namespace Go.Abs
open Go
variable {e : Env} {base : Nat} {tm tm' : Tm} {h h' : Heap} {r : Bool} {st st' : St} {i : Ins} {op : IOp} {f : Eff}
theorem cls_r (hc : op.cls = .r) : ∃ o, op = .r o := by
 cases op with
 | r o => exact ⟨o, rfl⟩
 | p o => simp [IOp.cls] at hc
 | a o hole =>
  cases o with
  | bslice ro z n ps => cases ro <;> cases hole <;> simp [IOp.cls] at hc
  | s2b ro x => cases ro <;> cases hole <;> simp [IOp.cls] at hc
  | _ => cases hole <;> simp [IOp.cls] at hc
 | _ => simp [IOp.cls] at hc
theorem cls_a {p : Nat} (hc : op.cls = .a p) : ∃ o, op = .a o (some p) := by
 cases op with
 | a o hole =>
  cases hole with
  | none =>
   cases o with
   | bslice ro z n ps => cases ro <;> simp [IOp.cls] at hc
   | s2b ro x => cases ro <;> simp [IOp.cls] at hc
   | _ => simp [IOp.cls] at hc
  | some q =>
   have : q = p := by
    cases o with
    | bslice ro z n ps => cases ro <;> simp [IOp.cls] at hc <;> exact hc
    | s2b ro x => cases ro <;> simp [IOp.cls] at hc <;> exact hc
    | _ => simpa [IOp.cls] using hc
   subst this; exact ⟨o, rfl⟩
 | _ => simp [IOp.cls] at hc
theorem eff_r (hc : i.op.cls = .r) (he : effI i e base tm h r = some [f]) : f.h = h ∧ f.d = [] := by
 obtain ⟨o, ho⟩ := cls_r hc
 have key : ∀ {f : Eff}, effOp i.op e base tm h r = some [f] → f.h = h ∧ f.d = [] := by
  intro f he
  rw [ho] at he
  simp only [effOp] at he
  split at he <;> cases he
  exact ⟨rfl, rfl⟩
 unfold effI at he
 cases hg : i.guard with
 | none => rw [hg] at he; exact key he
 | some g =>
  rw [hg] at he
  dsimp only at he
  split at he
  ·rename_i c _
   cases hcg : (c == g.2)
   ·simp [hcg] at he; subst he; exact ⟨rfl, rfl⟩
   ·simp only [hcg, cond] at he; exact key he
  ·simp at he; subst he; exact ⟨rfl, rfl⟩
  ·cases he
theorem eff_a {p : Nat} (hc : i.op.cls = .a p) (he : effI i e base tm h r = some [f]) : ∃ upd : Heap → Heap, (upd = id ∨ ∃ ob, upd = fun H => H.set (base + p) ob) ∧ f.h = upd h ∧ f.d = [] ∧ ∀ H, effI i e base tm H r = some [⟨f.v, upd H, []⟩] := by
 obtain ⟨o, ho⟩ := cls_a hc
 have key : ∀ {f : Eff}, effOp i.op e base tm h r = some [f] → ∃ upd : Heap → Heap, (upd = id ∨ ∃ ob, upd = fun H => H.set (base + p) ob) ∧ f.h = upd h ∧ f.d = [] ∧ ∀ H, effOp i.op e base tm H r = some [⟨f.v, upd H, []⟩] := by
  intro f he
  rw [ho] at he ⊢
  simp only [effOp] at he ⊢
  cases hm : (compA o).run tm with
  | none => simp [hm] at he
  | some m =>
   cases m with
   | val v => simp [hm] at he; subst he; exact ⟨id, .inl rfl, rfl, rfl, fun H => rfl⟩
   | obj ob fn => simp [hm] at he; subst he; exact ⟨_, .inr ⟨ob, rfl⟩, rfl, rfl, fun H => rfl⟩
 unfold effI at he ⊢
 cases hg : i.guard with
 | none => rw [hg] at he; exact key he
 | some g =>
  rw [hg] at he
  dsimp only at he ⊢
  split at he
  ·rename_i c _
   cases hcg : (c == g.2)
   ·simp [hcg] at he; subst he; exact ⟨id, .inl rfl, rfl, rfl, fun H => rfl⟩
   ·simp only [hcg, cond] at he ⊢; exact key he
  ·simp at he; subst he; exact ⟨id, .inl rfl, rfl, rfl, fun H => rfl⟩
  ·cases he
theorem rowsOf_mono {v : V} {rs : List (List V)} (hr : rowsOf h v = some rs) (hm : ∀ id o, h.get id = some o → h'.get id = some o) : rowsOf h' v = some rs := by
 cases v <;> simp only [rowsOf, reduceCtorEq] at hr ⊢ <;> try exact hr
 split at hr
 ·rename_i R hg
  rw [hm _ _ hg]; exact hr
 ·cases hr
theorem compR_mono {o : RdO} {v : V} (hr : (compR o).run tm h = some v) (hm : ∀ id o, h.get id = some o → h'.get id = some o) : (compR o).run tm h' = some v := by
 cases o <;> simp only [compR] at hr ⊢
 case load n x =>
  cases hx : x.ev tm <;> simp only [hx] at hr ⊢ <;> try exact hr
  split at hr <;> try (simp at hr; done)
  rename_i rs hg
  rw [hm _ _ hg]; exact hr
 case b2s x =>
  split at hr <;> try (simp at hr; done)
  rename_i rs hg
  rw [rowsOf_mono hg hm]; exact hr
 case lookup kn zero ok m k =>
  cases hk : keyOk kn (k.ev tm) <;> simp only [hk, cond, reduceCtorEq] at hr ⊢
  cases hx : m.ev tm <;> simp only [hx] at hr ⊢ <;> try exact hr
  split at hr <;> try (simp at hr; done)
  rename_i es cl hg
  rw [hm _ _ hg]; exact hr
 case len k x =>
  cases k <;> simp only at hr ⊢ <;> try exact hr
  cases hx : x.ev tm <;> simp only [hx] at hr ⊢ <;> try exact hr
  split at hr <;> try (simp at hr; done)
  rename_i es cl hg
  rw [hm _ _ hg]; exact hr
 case entry x =>
  split at hr <;> try (simp at hr; done)
  split at hr <;> try (simp at hr; done)
  rename_i hg
  rw [hm _ _ hg]
  dsimp only
  split at hr <;> try (simp at hr; done)
  rename_i hg2
  rw [hm _ _ hg2]; exact hr
theorem effr_mono (hc : i.op.cls = .r) (he : effI i e base tm h r = some [f]) (hm : ∀ id o, h.get id = some o → h'.get id = some o) : effI i e base tm h' r = some [⟨f.v, h', []⟩] := by
 obtain ⟨o, ho⟩ := cls_r hc
 have key : ∀ {f : Eff}, effOp i.op e base tm h r = some [f] → effOp i.op e base tm h' r = some [⟨f.v, h', []⟩] := by
  intro f he
  rw [ho] at he ⊢
  simp only [effOp] at he ⊢
  split at he <;> cases he
  rename_i v hv
  rw [compR_mono hv hm]
 unfold effI at he ⊢
 cases hg : i.guard with
 | none => rw [hg] at he; exact key he
 | some g =>
  rw [hg] at he
  dsimp only at he ⊢
  split at he
  ·rename_i c _
   cases hcg : (c == g.2)
   ·simp [hcg] at he; subst he; simp
   ·simp only [hcg, cond] at he ⊢; exact key he
  ·simp at he; subst he; simp
  ·cases he
theorem recheck_eff {l : List Ins} {hs : List Heap} {j k d : Nat} (hl : l[j]? = some i) (hk : hs[k]? = some h') (hd : i.dst = some d) (hc : i.op.cls = .r) (hre : recheck l tm hs (j, k) = true) (he : effI i e base tm h r = some [f]) (hv : f.v = (gK d).run tm) :
  effI i e base tm h' r = some [⟨f.v, h', []⟩] := by
 obtain ⟨o, ho⟩ := cls_r hc
 simp only [recheck, hl, hk, ho, hd] at hre
 have key : (match (compR o).run tm h' with | some v => V.beq v ((gK d).run tm) | none => false) = true → effOp i.op e base tm h' r = some [⟨f.v, h', []⟩] := by
  intro hs
  rw [ho]
  simp only [effOp]
  split at hs
  ·rename_i v hv'
   have := V.beq_eq _ _ hs
   first | rw [hv', hv, this] | rw [hv, this]
  ·cases hs
 unfold effI at he ⊢
 cases hg : i.guard with
 | none => rw [hg] at hre; exact key hre
 | some g =>
  rw [hg] at he hre
  dsimp only at he hre ⊢
  split at he
  ·rename_i c hgc
   rw [hgc] at hre
   dsimp only at hre
   cases hcg : (c == g.2)
   ·simp [hcg] at he; subst he; simp
   ·simp only [hcg, cond] at hre ⊢; exact key hre
  ·simp at he; subst he; simp
  ·cases he
end Go.Abs
namespace Go.Abs
open Go
variable {e : Env} {base : Nat}
structure TextRun (e : Env) (base : Nat) (l : List Ins) (T : Nat → St) : Prop where
 step : ∀ (i : Nat) (li : Ins), l[i]? = some li → ∃ f, effI li e base (T i).tm (T i).h (T i).round = some [f] ∧ T (i + 1) = putE li.dst f (T i)
section
variable {l : List Ins} {T : Nat → St} {bs : Nat → List Nat} {na : Nat} {chk : List (Nat × Nat)}
theorem TextRun.round (t : TextRun e base l T) : ∀ i, i ≤ l.length → (T i).round = (T 0).round
 | 0, _ => rfl
 | i + 1, hi => by
  obtain ⟨f, _, h⟩ := t.step i l[i] (List.getElem?_eq_getElem (by omega))
  rw [h, putE_round, t.round i (by omega)]
theorem TextRun.stay (t : TextRun e base l T) {s : Nat} : ∀ (d j : Nat), j + d = l.length → (∀ (k : Nat) (lk : Ins), j ≤ k → l[k]? = some lk → lk.dst ≠ some s) → (gK s).run (T l.length).tm = (gK s).run (T j).tm
 | 0, j, hj, _ => by simp at hj; rw [hj]
 | d + 1, j, hj, hw => by
  have hlt : j < l.length := by omega
  obtain ⟨f, _, h⟩ := t.step j l[j] (List.getElem?_eq_getElem hlt)
  rw [t.stay d (j + 1) (by omega) fun k lk hk => hw k lk (by omega), h, putE_tm, if_neg (hw j _ (Nat.le_refl _) (List.getElem?_eq_getElem hlt))]
theorem TextRun.pre (t : TextRun e base l T) {s : Nat} : ∀ (j : Nat), j ≤ l.length → (∀ (k : Nat) (lk : Ins), k < j → l[k]? = some lk → lk.dst ≠ some s) → (gK s).run (T j).tm = (gK s).run (T 0).tm
 | 0, _, _ => rfl
 | j + 1, hj, hw => by
  have hlt : j < l.length := by omega
  obtain ⟨f, _, h⟩ := t.step j l[j] (List.getElem?_eq_getElem hlt)
  rw [h, putE_tm, if_neg (hw j _ (Nat.lt_succ_self _) (List.getElem?_eq_getElem hlt)), t.pre j (by omega) fun k lk hk => hw k lk (by omega)]
theorem TextRun.final (t : TextRun e base l T) (ok : DrawOK l bs na chk) {i : Nat} {li : Ins} (hi : l[i]? = some li) {s : Nat} (hs : li.dst = some s) {f : Eff} (he : T (i + 1) = putE li.dst f (T i)) : (gK s).run (T l.length).tm = f.v := by
 have hlt : i < l.length := (List.getElem?_eq_some_iff.1 hi).1
 rw [t.stay (l.length - (i + 1)) (i + 1) (by omega) fun k lk hk hlk hd => ok.dst i k li lk s (by omega) hi hlk hs hd, he, putE_tm, if_pos hs]
def isW (l : List Ins) (k : Nat) : Prop := ∃ lk, l[k]? = some lk ∧ lk.op.cls = .w
open Classical in
theorem first_w (p : Nat → Prop) : ∀ (d a : Nat), (∀ k, a ≤ k → k < a + d → ¬ p k) ∨ ∃ k, a ≤ k ∧ k < a + d ∧ p k ∧ ∀ k', a ≤ k' → k' < k → ¬ p k'
 | 0, a => .inl fun k h1 h2 => by omega
 | d + 1, a => by
  by_cases h : p a
  ·exact .inr ⟨a, Nat.le_refl _, by omega, h, fun k' h1 h2 => by omega⟩
  ·rcases first_w p d (a + 1) with h1 | ⟨k, h1, h2, h3, h4⟩
   ·left; intro k hk1 hk2
    by_cases e : k = a
    ·subst e; exact h
    ·exact h1 k (by omega) (by omega)
   ·right; refine ⟨k, by omega, by omega, h3, fun k' hk1 hk2 => ?_⟩
    by_cases e : k' = a
    ·subst e; exact h
    ·exact h4 k' (by omega) hk2
open Classical in
theorem last_w (p : Nat → Prop) (a : Nat) : ∀ (d : Nat), (∀ k, a ≤ k → k < a + d → ¬ p k) ∨ ∃ k, a ≤ k ∧ k < a + d ∧ p k ∧ ∀ k', k < k' → k' < a + d → ¬ p k'
 | 0 => .inl fun k h1 h2 => by omega
 | d + 1 => by
  by_cases h : p (a + d)
  ·exact .inr ⟨a + d, by omega, by omega, h, fun k' h1 h2 => by omega⟩
  ·rcases last_w p a d with h1 | ⟨k, h1, h2, h3, h4⟩
   ·left; intro k hk1 hk2
    by_cases e : k = a + d
    ·subst e; exact h
    ·exact h1 k hk1 (by omega)
   ·right; refine ⟨k, h1, by omega, h3, fun k' hk1 hk2 => ?_⟩
    by_cases e : k' = a + d
    ·subst e; exact h
    ·exact h4 k' hk1 (by omega)
theorem TextRun.quiet (t : TextRun e base l T) (ok : DrawOK l bs na chk) (h0 : na = 0) {a : Nat} : ∀ (d : Nat), a + d ≤ l.length → (∀ k, a ≤ k → k < a + d → ¬ isW l k) → (T (a + d)).h = (T a).h ∧ (T (a + d)).defs = (T a).defs
 | 0, _, _ => ⟨rfl, rfl⟩
 | d + 1, hd, hq => by
  obtain ⟨h1, h2⟩ := t.quiet ok h0 d (by omega) fun k hk1 hk2 => hq k hk1 (by omega)
  have hlt : a + d < l.length := by omega
  have hget := List.getElem?_eq_getElem hlt
  obtain ⟨f, he, h⟩ := t.step (a + d) _ hget
  have hnw := hq (a + d) (by omega) (by omega)
  have hf : f.h = (T (a + d)).h ∧ f.d = [] := by
   cases hc : l[a + d].op.cls with
   | n => exact ⟨(eff_n hc he).1, (eff_n hc he).2.1⟩
   | r => exact eff_r hc he
   | a p => have := ok.ap _ _ p hget hc; omega
   | w => exact absurd ⟨_, hget, hc⟩ hnw
  rw [show a + (d + 1) = a + d + 1 by omega, h]
  simp only [putE_h, putE_defs, hf.1, hf.2, List.nil_append, h1, h2, and_self]
structure Sim (l : List Ins) (T : Nat → St) (base na : Nat) (S : Nat → Prop) (g : St) : Prop where
 i1 : ∀ (i : Nat) (li : Ins) (s : Nat), S i → l[i]? = some li → li.dst = some s → (gK s).run g.tm = (gK s).run (T l.length).tm
 i2 : ∀ s, (∀ (i : Nat) (li : Ins), S i → l[i]? = some li → li.dst ≠ some s) → (gK s).run g.tm = (gK s).run (T 0).tm
 i3 : g.round = (T 0).round
 hw : na = 0 → ∃ m, m ≤ l.length ∧ (∀ k, isW l k → (S k ↔ k < m)) ∧ g.h = (T m).h ∧ g.defs = (T m).defs
 ha : na ≠ 0 → g.defs = (T 0).defs ∧ g.h.n = (T 0).h.n ∧ (∀ id, (∀ (i : Nat) (li : Ins) (p : Nat), S i → l[i]? = some li → li.op.cls = .a p → id ≠ base + p) → g.h.get id = (T 0).h.get id) ∧
  ∀ (i : Nat) (li : Ins) (p : Nat), S i → l[i]? = some li → li.op.cls = .a p → g.h.get (base + p) = (T l.length).h.get (base + p)
theorem Sim.begin : Sim l T base na (fun _ => False) (T 0) where
 i1 := fun i li s h => h.elim
 i2 := fun s _ => rfl
 i3 := rfl
 hw := fun _ => ⟨0, Nat.zero_le _, fun k _ => ⟨fun h => h.elim, fun h => by omega⟩, rfl, rfl⟩
 ha := fun _ => ⟨rfl, rfl, fun id _ => rfl, fun i li p h => h.elim⟩
variable {S : Nat → Prop} {g : St}
theorem Sim.agree (t : TextRun e base l T) (ok : DrawOK l bs na chk) (sm : Sim l T base na S g) {i : Nat} {li : Ins} (hi : l[i]? = some li) (hS : ¬ S i) (hb : ∀ j ∈ bs i, S j) (hdc : ∀ j, S j → ∀ i ∈ bs j, S i) : Agree li.looks g.tm (T i).tm := by
 intro s hs
 have hlt : i < l.length := (List.getElem?_eq_some_iff.1 hi).1
 by_cases hw : ∃ j lj, j ≠ i ∧ l[j]? = some lj ∧ lj.dst = some s
 ·obtain ⟨j, lj, hji, hj, hd⟩ := hw
  rcases ok.look i j li lj s (fun e => hji e.symm) hi hj hd hs with ⟨k1, k2⟩ | ⟨_, k1, k2⟩
  ·rw [sm.i1 j lj s (hb j k1) hj hd]
   exact t.stay (l.length - i) i (by omega) fun k lk hk hlk hdk => ok.dst j k lj lk s (by omega) hj hlk hd hdk
  ·have hSj : ¬ S j := fun h => hS (hdc j h i k1)
   rw [sm.i2 s fun q lq hSq hq hdq => ok.dst j q lj lq s (fun e => hSj (e ▸ hSq)) hj hq hd hdq, t.pre i (by omega) fun k lk hk hlk hdk => ok.dst j k lj lk s (by omega) hj hlk hd hdk]
 ·rw [sm.i2 s fun j lj hSj hj hd => hw ⟨j, lj, fun e => hS (e ▸ hSj), hj, hd⟩, t.pre i (by omega) fun k lk hk hlk hd => hw ⟨k, lk, by omega, hlk, hd⟩]
theorem TextRun.agree_end (t : TextRun e base l T) (ok : DrawOK l bs na chk) {i : Nat} {li : Ins} (hi : l[i]? = some li) (hc : li.op.cls = .r) : Agree li.looks (T l.length).tm (T i).tm := by
 intro s hs
 have hlt : i < l.length := (List.getElem?_eq_some_iff.1 hi).1
 refine t.stay (l.length - i) i (by omega) fun k lk hk hlk hd => ?_
 by_cases e : k = i
 ·subst e; rw [hi] at hlk; cases hlk
  exact ok.own k li s hi hc hd hs
 ·rcases ok.look i k li lk s (fun h => e h.symm) hi hlk hd hs with h | ⟨h, _⟩
  ·omega
  ·exact h hc
end
end Go.Abs
namespace Go.Abs
open Go
variable {e : Env} {base : Nat} {l : List Ins} {T : Nat → St} {bs : Nat → List Nat} {na : Nat} {chk : List (Nat × Nat)} {S : Nat → Prop} {g : St}
theorem TextRun.holes (t : TextRun e base l T) (ok : DrawOK l bs na chk) (h0 : na ≠ 0) {a : Nat} : ∀ (d : Nat), a + d ≤ l.length → (T (a + d)).h.n = (T a).h.n ∧ (T (a + d)).defs = (T a).defs ∧
  ∀ id, (∀ (i : Nat) (li : Ins) (p : Nat), a ≤ i → i < a + d → l[i]? = some li → li.op.cls = .a p → id ≠ base + p) → (T (a + d)).h.get id = (T a).h.get id
 | 0, _ => ⟨rfl, rfl, fun _ _ => rfl⟩
 | d + 1, hd => by
  obtain ⟨h1, h2, h3⟩ := t.holes ok h0 (a := a) d (by omega)
  have hlt : a + d < l.length := by omega
  have hget := List.getElem?_eq_getElem hlt
  obtain ⟨f, he, h⟩ := t.step (a + d) _ hget
  have hf : f.h.n = (T (a + d)).h.n ∧ f.d = [] ∧ ∀ id, (∀ p, l[a + d].op.cls = .a p → id ≠ base + p) → f.h.get id = (T (a + d)).h.get id := by
   cases hc : l[a + d].op.cls with
   | n => exact ⟨by rw [(eff_n hc he).1], (eff_n hc he).2.1, fun id _ => by rw [(eff_n hc he).1]⟩
   | r => exact ⟨by rw [(eff_r hc he).1], (eff_r hc he).2, fun id _ => by rw [(eff_r hc he).1]⟩
   | a p =>
    obtain ⟨upd, hu, h4, h5, _⟩ := eff_a hc he
    rcases hu with rfl | ⟨ob, rfl⟩
    ·exact ⟨by rw [h4]; rfl, h5, fun id _ => by rw [h4]; rfl⟩
    ·exact ⟨by rw [h4]; rfl, h5, fun id hid => by rw [h4]; simp only []; rw [Heap.get_set, if_neg (hid p rfl)]⟩
   | w => exact absurd hc (ok.aw h0 _ _ hget)
  rw [show a + (d + 1) = a + d + 1 by omega, h]
  refine ⟨by rw [putE_h, hf.1, h1], by rw [putE_defs, hf.2.1, h2]; rfl, fun id hid => ?_⟩
  rw [putE_h, hf.2.2 id fun p hp => hid (a + d) _ p (by omega) (by omega) hget hp, h3 id fun i li p h5 h6 => hid i li p h5 (by omega)]
theorem TextRun.hole_end (t : TextRun e base l T) (ok : DrawOK l bs na chk) (h0 : na ≠ 0) {i : Nat} {li : Ins} (hi : l[i]? = some li) {p : Nat} (hc : li.op.cls = .a p) : (T l.length).h.get (base + p) = (T (i + 1)).h.get (base + p) ∧ (T i).h.get (base + p) = (T 0).h.get (base + p) := by
 have hlt : i < l.length := (List.getElem?_eq_some_iff.1 hi).1
 constructor
 ·have := (t.holes ok h0 (a := i + 1) (l.length - (i + 1)) (by omega)).2.2 (base + p) fun k lk q h1 h2 hk hq e => by
   have : p = q := by omega
   subst this
   exact ok.aa i k li lk p (by omega) hi hk hc hq
  rw [← this]; congr 2; congr 1; omega
 ·have := (t.holes ok h0 (a := 0) i (by omega)).2.2 (base + p) fun k lk q h1 h2 hk hq e => by
   have : p = q := by omega
   subst this
   exact ok.aa i k li lk p (by omega) hi hk hc hq
  simpa using this
theorem Sim.step (t : TextRun e base l T) (ok : DrawOK l bs na chk) {hs : List Heap} (hchk : ∀ c ∈ chk, recheck l (T l.length).tm hs c = true) (hhs : ∀ k, k ≤ l.length → hs[k]? = some (T k).h) (hfree : ∀ p, (T 0).h.get (base + p) = none)
  (sm : Sim l T base na S g) (hdc : ∀ j, S j → ∀ i ∈ bs j, S i) {i : Nat} {li : Ins} (hi : l[i]? = some li) (hS : ¬ S i) (hb : ∀ j ∈ bs i, S j) :
  ∃ f, effI li e base g.tm g.h g.round = some [f] ∧ Sim l T base na (fun j => S j ∨ j = i) (putE li.dst f g) := by
 have hlt : i < l.length := (List.getElem?_eq_some_iff.1 hi).1
 obtain ⟨f, he, hT⟩ := t.step i li hi
 have hag := sm.agree t ok hi hS hb hdc
 have hround : g.round = (T i).round := by rw [sm.i3, t.round i (by omega)]
 have htr : ∀ H, effI li e base g.tm H g.round = effI li e base (T i).tm H (T i).round := fun H => by rw [effI_agree hag, hround]
 have slots : ∀ f', f'.v = f.v → (∀ (j : Nat) (lj : Ins) (s : Nat), (S j ∨ j = i) → l[j]? = some lj → lj.dst = some s → (gK s).run (putE li.dst f' g).tm = (gK s).run (T l.length).tm) ∧
   ∀ s, (∀ (j : Nat) (lj : Ins), (S j ∨ j = i) → l[j]? = some lj → lj.dst ≠ some s) → (gK s).run (putE li.dst f' g).tm = (gK s).run (T 0).tm := by
  intro f' hv
  refine ⟨fun j lj s hj hlj hd => ?_, fun s hs => ?_⟩
  ·rw [putE_tm]
   rcases hj with hj | rfl
   ·have hne : i ≠ j := fun h => hS (h ▸ hj)
    rw [if_neg (fun h => ok.dst i j li lj s hne hi hlj h hd)]
    exact sm.i1 j lj s hj hlj hd
   ·rw [hi] at hlj; cases hlj
    rw [if_pos hd, hv, t.final ok hi hd hT]
  ·rw [putE_tm, if_neg (hs i li (.inr rfl) hi)]
   exact sm.i2 s fun j lj hj => hs j lj (.inl hj)
 have build : ∀ f', f'.v = f.v → effI li e base g.tm g.h g.round = some [f'] → (na = 0 → ∃ m, m ≤ l.length ∧ (∀ k, isW l k → ((S k ∨ k = i) ↔ k < m)) ∧ f'.h = (T m).h ∧ f'.d ++ g.defs = (T m).defs) →
   (na ≠ 0 → f'.d ++ g.defs = (T 0).defs ∧ f'.h.n = (T 0).h.n ∧ (∀ id, (∀ (j : Nat) (lj : Ins) (p : Nat), (S j ∨ j = i) → l[j]? = some lj → lj.op.cls = .a p → id ≠ base + p) → f'.h.get id = (T 0).h.get id) ∧
    ∀ (j : Nat) (lj : Ins) (p : Nat), (S j ∨ j = i) → l[j]? = some lj → lj.op.cls = .a p → f'.h.get (base + p) = (T l.length).h.get (base + p)) →
   ∃ f, effI li e base g.tm g.h g.round = some [f] ∧ Sim l T base na (fun j => S j ∨ j = i) (putE li.dst f g) := by
  intro f' hv hf h1 h2
  exact ⟨f', hf, (slots f' hv).1, (slots f' hv).2, by rw [putE_round, sm.i3], fun h0 => by simpa using h1 h0, fun h0 => by simpa using h2 h0⟩
 have calm : (∀ p, li.op.cls ≠ .a p) → li.op.cls ≠ .w → effI li e base g.tm g.h g.round = some [⟨f.v, g.h, []⟩] → ∃ f, effI li e base g.tm g.h g.round = some [f] ∧ Sim l T base na (fun j => S j ∨ j = i) (putE li.dst f g) := by
  intro hna hnw hf
  refine build ⟨f.v, g.h, []⟩ rfl hf (fun h0 => ?_) (fun h0 => ?_)
  ·obtain ⟨m, h1, h2, h3, h4⟩ := sm.hw h0
   refine ⟨m, h1, fun k hk => ?_, h3, by simpa using h4⟩
   rw [← h2 k hk]
   refine ⟨fun h => ?_, .inl⟩
   rcases h with h | rfl
   ·exact h
   ·obtain ⟨lk, hlk, hc⟩ := hk
    rw [hi] at hlk; cases hlk; exact absurd hc hnw
  ·obtain ⟨h1, h2, h3, h4⟩ := sm.ha h0
   refine ⟨by simpa using h1, h2, fun id hid => h3 id fun j lj p hj => hid j lj p (.inl hj), fun j lj p hj hlj hc => ?_⟩
   rcases hj with hj | rfl
   ·exact h4 j lj p hj hlj hc
   ·rw [hi] at hlj; cases hlj; exact absurd hc (hna p)
 cases hc : li.op.cls with
 | n =>
  refine calm (fun p h => by rw [hc] at h; cases h) (fun h => by rw [hc] at h; cases h) ?_
  rw [htr]; exact (eff_n hc he).2.2 _
 | r =>
  refine calm (fun p h => by rw [hc] at h; cases h) (fun h => by rw [hc] at h; cases h) ?_
  have chkd : ∀ k, k ≤ l.length → (i, k) ∈ chk → effI li e base g.tm (T k).h g.round = some [⟨f.v, (T k).h, []⟩] := by
   intro k hk hmem
   have hre := hchk _ hmem
   have hage := t.agree_end ok hi hc
   have he' : effI li e base (T l.length).tm (T i).h (T i).round = some [f] := by rw [effI_agree hage]; exact he
   cases hd : li.dst with
   | none =>
    obtain ⟨o, ho⟩ := cls_r hc
    simp [recheck, hi, hhs k hk, ho, hd] at hre
   | some d =>
    have hv := (t.final ok hi hd hT).symm
    have := recheck_eff hi (hhs k hk) hd hc hre he' hv
    rw [htr, ← effI_agree hage]; exact this
  by_cases h0 : na = 0
  ·obtain ⟨m, h1, h2, h3, h4⟩ := sm.hw h0
   rw [h3]
   have same : (T m).h = (T i).h → effI li e base g.tm (T m).h g.round = some [⟨f.v, (T m).h, []⟩] := fun h => by
    rw [h, htr, he]
    obtain ⟨q1, q2⟩ := eff_r hc he
    rw [← q1, ← q2]
   by_cases hmi : m ≤ i
   ·rcases first_w (isW l) (i - m) m with hq | ⟨k, k1, k2, k3, k4⟩
    ·have := (t.quiet ok h0 (i - m) (by omega) fun k hk1 hk2 => hq k hk1 (by omega)).1
     rw [show m + (i - m) = i by omega] at this
     exact same this.symm
    ·have hq := (t.quiet ok h0 (a := m) (k - m) (by omega) fun k' hk1 hk2 => k4 k' hk1 (by omega)).1
     rw [show m + (k - m) = k by omega] at hq
     rw [← hq]
     obtain ⟨lk, hlk, hck⟩ := k3
     rcases ok.rwB i k li lk (by omega) hi hlk hc hck with hbk | hmem
     ·have := (h2 k ⟨lk, hlk, hck⟩).1 (hb k hbk); omega
     ·exact chkd k (by omega) hmem
   ·rcases last_w (isW l) (i + 1) (m - (i + 1)) with hq | ⟨k, k1, k2, k3, k4⟩
    ·have hq2 := (t.quiet ok h0 (a := i) (m - i) (by omega) fun k hk1 hk2 => by
      by_cases ek : k = i
      ·subst ek; rintro ⟨lk, hlk, hck⟩
       rw [hi] at hlk; cases hlk; rw [hc] at hck; cases hck
      ·exact hq k (by omega) (by omega)).1
     rw [show i + (m - i) = m by omega] at hq2
     exact same hq2
    ·have hq2 := (t.quiet ok h0 (a := k + 1) (m - (k + 1)) (by omega) fun k' hk1 hk2 => k4 k' (by omega) (by omega)).1
     rw [show k + 1 + (m - (k + 1)) = m by omega] at hq2
     rw [hq2]
     obtain ⟨lk, hlk, hck⟩ := k3
     rcases ok.rwA i k li lk (by omega) hi hlk hc hck with hbk | hmem
     ·exact absurd (hdc k ((h2 k ⟨lk, hlk, hck⟩).2 (by omega)) i hbk) hS
     ·exact chkd (k + 1) (by omega) hmem
  ·obtain ⟨h1, h2, h3, h4⟩ := sm.ha h0
   have := chkd 0 (by omega) (ok.ar h0 i li hi hc)
   have := effr_mono hc this (h' := g.h) fun id o hid => by
    rw [h3 id fun j lj p hj hlj hcj e => by rw [e, hfree p] at hid; cases hid]; exact hid
   exact this
 | a p =>
  have h0 : na ≠ 0 := by have := ok.ap i li p hi hc; omega
  obtain ⟨upd, hu, u1, u2, u3⟩ := eff_a hc he
  obtain ⟨h1, h2, h3, h4⟩ := sm.ha h0
  have hfree' : g.h.get (base + p) = (T 0).h.get (base + p) := h3 _ fun j lj q hj hlj hcj e => by
   have : p = q := by omega
   subst this
   exact ok.aa i j li lj p (fun h => hS (h ▸ hj)) hi hlj hc hcj
  obtain ⟨e1, e2⟩ := t.hole_end ok h0 hi hc
  rw [hT, putE_h, u1] at e1
  refine build ⟨f.v, upd g.h, []⟩ rfl (by rw [htr]; exact u3 _) (fun h => absurd h h0) fun _ => ⟨by simpa using h1, ?_, fun id hid => ?_, fun j lj q hj hlj hcj => ?_⟩
  ·rcases hu with rfl | ⟨ob, rfl⟩
   ·exact h2
   ·exact h2
  ·have hne := hid i li p (.inr rfl) hi hc
   have hold := h3 id fun j lj q hj => hid j lj q (.inl hj)
   rcases hu with rfl | ⟨ob, rfl⟩
   ·exact hold
   ·simp only []; rw [Heap.get_set, if_neg hne]; exact hold
  ·rcases hj with hj | rfl
   ·have hpq : p ≠ q := fun h => by subst h; exact ok.aa i j li lj p (fun h => hS (h ▸ hj)) hi hlj hc hcj
    have hold := h4 j lj q hj hlj hcj
    rcases hu with rfl | ⟨ob, rfl⟩
    ·exact hold
    ·simp only []; rw [Heap.get_set, if_neg (by omega)]; exact hold
   ·rw [hi] at hlj; cases hlj
    rw [hc] at hcj; cases hcj
    rw [e1]
    rcases hu with rfl | ⟨ob, rfl⟩
    ·show g.h.get _ = (T j).h.get _
     rw [hfree', e2]
    ·simp only []; rw [Heap.get_set, Heap.get_set, if_pos rfl, if_pos rfl]
 | w =>
  have h0 : na = 0 := Classical.byContradiction fun h => ok.aw h i li hi hc
  obtain ⟨m, h1, h2, h3, h4⟩ := sm.hw h0
  have hiw : isW l i := ⟨li, hi, hc⟩
  have hmi : m ≤ i := Nat.le_of_not_lt fun h => hS ((h2 i hiw).2 h)
  have hbefore : ∀ k, k < i → isW l k → S k := fun k hk hw => by
   obtain ⟨lk, hlk, hck⟩ := hw
   exact hb k (ok.ww k i lk li hk hlk hi hck hc)
  have hq := t.quiet ok h0 (a := m) (i - m) (by omega) fun k hk1 hk2 hw => by
   have := (h2 k hw).1 (hbefore k (by omega) hw); omega
  rw [show m + (i - m) = i by omega] at hq
  refine build f rfl ?_ (fun _ => ⟨i + 1, by omega, fun k hk => ⟨fun h => ?_, fun h => ?_⟩, by rw [hT, putE_h], by rw [hT, putE_defs, h4, hq.2]⟩) (fun h => absurd h0 h)
  ·rw [h3, ← hq.1, htr]; exact he
  ·rcases h with h | rfl
   ·have := (h2 k hk).1 h; omega
   ·omega
  ·by_cases ek : k = i
   ·exact .inr ek
   ·exact .inl (hbefore k (by omega) hk)
theorem Sim.finish (t : TextRun e base l T) (ok : DrawOK l bs na chk) (sm : Sim l T base na S g) (hall : ∀ i, i < l.length → S i) :
  (∀ s, (gK s).run g.tm = (gK s).run (T l.length).tm) ∧ g.h.n = (T l.length).h.n ∧ (∀ id, g.h.get id = (T l.length).h.get id) ∧ g.defs = (T l.length).defs ∧ g.round = (T l.length).round := by
 refine ⟨fun s => ?_, ?_⟩
 ·by_cases hw : ∃ (i : Nat) (li : Ins), l[i]? = some li ∧ li.dst = some s
  ·obtain ⟨i, li, hi, hd⟩ := hw
   exact sm.i1 i li s (hall i (List.getElem?_eq_some_iff.1 hi).1) hi hd
  ·rw [sm.i2 s fun i li _ hi hd => hw ⟨i, li, hi, hd⟩]
   exact (t.stay l.length 0 (by omega) fun k lk _ hk hd => hw ⟨k, lk, hk, hd⟩).symm
 ·have hr : g.round = (T l.length).round := by rw [sm.i3, t.round _ (Nat.le_refl _)]
  by_cases h0 : na = 0
  ·obtain ⟨m, h1, h2, h3, h4⟩ := sm.hw h0
   have hq := t.quiet ok h0 (a := m) (l.length - m) (by omega) fun k hk1 hk2 hw => by
    have := (h2 k hw).1 (hall k (by omega)); omega
   rw [show m + (l.length - m) = l.length by omega] at hq
   rw [hq.1, hq.2, h3, h4]
   exact ⟨rfl, fun _ => rfl, rfl, hr⟩
  ·obtain ⟨h1, h2, h3, h4⟩ := sm.ha h0
   have hh := t.holes ok h0 (a := 0) l.length (by omega)
   rw [Nat.zero_add] at hh
   refine ⟨by rw [h2, hh.1], fun id => ?_, by rw [h1, hh.2.1], hr⟩
   by_cases hid : ∃ (i : Nat) (li : Ins) (p : Nat), l[i]? = some li ∧ li.op.cls = .a p ∧ id = base + p
   ·obtain ⟨i, li, p, hi, hc, rfl⟩ := hid
    exact h4 i li p (hall i (List.getElem?_eq_some_iff.1 hi).1) hi hc
   ·rw [h3 id fun i li p _ hi hc e => hid ⟨i, li, p, hi, hc, e⟩, hh.2.2 id fun i li p _ _ hi hc e => hid ⟨i, li, p, hi, hc, e⟩]
end Go.Abs
namespace Go.Abs
open Go
def depsOf (o : Oper) : List Nat := (o.after.toList.filter (Region.binds .any)).map (·.on)
def memN (x : Nat) : List Nat → Bool
 | [] => false
 | y :: l => cond (Nat.beq x y) true (memN x l)
def uni (a : List Nat) : List Nat → List Nat
 | [] => a
 | x :: l => uni (cond (memN x a) a (x :: a)) l
def uniAll (acc : List (List Nat)) (a : List Nat) : List Nat → List Nat
 | [] => a
 | d :: l => uniAll acc (uni a (acc.getD d [])) l
def befGo (acc : List (List Nat)) : List (List Nat) → List (List Nat)
 | [] => acc
 | d :: r => befGo (acc ++ [uniAll acc d d]) r
inductive Bef (deps : Nat → List Nat) : Nat → Nat → Prop
 | one {d j : Nat} (h : d ∈ deps j) : Bef deps d j
 | step {d m j : Nat} (h : Bef deps d m) (k : m ∈ deps j) : Bef deps d j
theorem memN_eq {x : Nat} : ∀ {l : List Nat}, memN x l = true → x ∈ l
 | y :: l, h => by
  simp only [memN] at h
  cases e : Nat.beq x y
  ·simp only [e, cond] at h; exact List.mem_cons_of_mem _ (memN_eq h)
  ·rw [Nat.beq_eq] at e; subst e; simp
theorem uni_mem {x : Nat} : ∀ {l a : List Nat}, x ∈ uni a l → x ∈ a ∨ x ∈ l
 | [], a, h => .inl h
 | y :: l, a, h => by
  simp only [uni] at h
  rcases uni_mem h with h | h
  ·cases e : memN y a
   ·simp only [e, cond] at h
    rcases List.mem_cons.1 h with rfl | h
    ·simp
    ·exact .inl h
   ·simp only [e, cond] at h; exact .inl h
  ·exact .inr (List.mem_cons_of_mem _ h)
theorem uniAll_mem {x : Nat} {acc : List (List Nat)} : ∀ {l a : List Nat}, x ∈ uniAll acc a l → x ∈ a ∨ ∃ d ∈ l, x ∈ acc.getD d []
 | [], a, h => .inl h
 | d :: l, a, h => by
  simp only [uniAll] at h
  rcases uniAll_mem h with h | ⟨d', h1, h2⟩
  ·rcases uni_mem h with h | h
   ·exact .inl h
   ·exact .inr ⟨d, by simp, h⟩
  ·exact .inr ⟨d', by simp [h1], h2⟩
theorem befGo_bef {deps : Nat → List Nat} : ∀ (r acc : List (List Nat)), (∀ j, j < acc.length → ∀ x ∈ acc.getD j [], Bef deps x j) → (∀ i d, r[i]? = some d → deps (acc.length + i) = d) → ∀ j x, x ∈ (befGo acc r).getD j [] → Bef deps x j
 | [], acc, h, _, j, x, hx => by
  by_cases hj : j < acc.length
  ·exact h j hj x hx
  ·simp only [befGo] at hx
   rw [List.getD_eq_getElem?_getD, List.getElem?_eq_none (by omega)] at hx; simp at hx
 | d :: r, acc, h, hd, j, x, hx => by
  simp only [befGo] at hx
  have h0 : deps acc.length = d := by simpa using hd 0 d rfl
  refine befGo_bef r _ (fun j hj x hx => ?_) (fun i d' hi => ?_) j x hx
  ·simp only [List.length_append, List.length_singleton] at hj
   by_cases e : j < acc.length
   ·rw [List.getD_eq_getElem?_getD, List.getElem?_append_left e, ← List.getD_eq_getElem?_getD] at hx
    exact h j e x hx
   ·have : j = acc.length := by omega
    subst this
    rw [List.getD_eq_getElem?_getD, List.getElem?_append_right (Nat.le_refl _)] at hx
    simp at hx
    rcases uniAll_mem hx with hx | ⟨d', h1, h2⟩
    ·exact .one (by rw [h0]; exact hx)
    ·have hlt : d' < acc.length := by
      apply Classical.byContradiction; intro hn
      rw [List.getD_eq_getElem?_getD, List.getElem?_eq_none (by omega)] at h2; simp at h2
     exact .step (h d' hlt x h2) (by rw [h0]; exact h1)
  ·have := hd (i + 1) d' (by simpa using hi)
   rw [← this]; congr 1; simp; omega
theorem bef_listed {deps : Nat → List Nat} {S : Nat → Prop} (hc : ∀ j, S j → ∀ d ∈ deps j, S d) {x j : Nat} (h : Bef deps x j) : (∀ d ∈ deps j, S d) → S x := by
 induction h with
 | one h => intro hj; exact hj _ h
 | step h k ih => intro hj; exact ih (hc _ (hj _ k))
def allIdx {α : Type} (f : Nat → α → Bool) : Nat → List α → Bool
 | _, [] => true
 | k, a :: l => f k a && allIdx f (k + 1) l
theorem allIdx_get {α : Type} {f : Nat → α → Bool} : ∀ {l : List α} {k : Nat}, allIdx f k l = true → ∀ {i : Nat} {a : α}, l[i]? = some a → f (k + i) a = true
 | [], k, h, i, a, hi => by simp at hi
 | b :: l, k, h, i, a, hi => by
  simp only [allIdx, Bool.and_eq_true] at h
  cases i with
  | zero => simp at hi; subst hi; exact h.1
  | succ i =>
   have := allIdx_get h.2 (i := i) (by simpa using hi)
   rw [show k + (i + 1) = k + 1 + i by omega]; exact this
def hasPair (p q : Nat) : List (Nat × Nat) → Bool
 | [] => false
 | c :: l => cond (Nat.beq c.1 p && Nat.beq c.2 q) true (hasPair p q l)
theorem hasPair_mem {p q : Nat} : ∀ {l : List (Nat × Nat)}, hasPair p q l = true → (p, q) ∈ l
 | c :: l, h => by
  simp only [hasPair] at h
  cases e : (Nat.beq c.1 p && Nat.beq c.2 q)
  ·simp only [e, cond] at h; exact List.mem_cons_of_mem _ (hasPair_mem h)
  ·simp only [Bool.and_eq_true, Nat.beq_eq] at e
   obtain ⟨c1, c2⟩ := c
   simp only at e
   rw [e.1, e.2]; simp
def optIs (d : Option Nat) (s : Nat) : Bool :=
 match d with
 | some x => Nat.beq x s
 | none => false
def okPair (tab : List (List Nat)) (chk : List (Nat × Nat)) (p q : Nat) (a b : Ins) : Bool :=
 (match b.dst with
 | some s => !(optIs a.dst s) && cond (memN s a.looks) ((memN q (tab.getD p []) && Nat.blt q p) || ((match a.op.cls with | .r => false | _ => true) && memN p (tab.getD q []) && Nat.blt p q)) true
 | none => true) &&
 (match a.op.cls, b.op.cls with
 | .w, .w => cond (Nat.blt p q) (memN p (tab.getD q [])) true
 | .r, .w => cond (Nat.blt q p) (memN q (tab.getD p []) || hasPair p q chk) (memN p (tab.getD q []) || hasPair p (q + 1) chk)
 | .a x, .a y => !(Nat.beq x y)
 | _, _ => true)
def okSelf (na : Nat) (chk : List (Nat × Nat)) (p : Nat) (a : Ins) : Bool :=
 (match a.op.cls with
 | .r => (match a.dst with
  | some s => !(memN s a.looks)
  | none => true) && (Nat.beq na 0 || hasPair p 0 chk)
 | .a x => Nat.blt x na
 | .w => Nat.beq na 0
 | .n => true) &&
 (match a.op with
 | .a _ (some _) => (match a.op.cls with
  | .a _ => true
  | _ => false)
 | _ => true)
def okDraw (na : Nat) (chk : List (Nat × Nat)) (l : List Ins) (ops : Array Oper) : Bool :=
 let deps := ops.toList.map depsOf
 let tab := befGo [] deps
 allIdx (fun j ds => ds.all (fun d => Nat.blt d j)) 0 deps && allIdx (fun p a => okSelf na chk p a && allIdx (fun q b => Nat.beq p q || okPair tab chk p q a b) 0 l) 0 l
theorem memN_iff {x : Nat} {l : List Nat} : memN x l = true ↔ x ∈ l := by
 refine ⟨memN_eq, fun h => ?_⟩
 induction l with
 | nil => cases h
 | cons y l ih =>
  simp only [memN]
  cases e : Nat.beq x y
  ·simp only [cond]
   rcases List.mem_cons.1 h with rfl | h
   ·simp at e
   ·exact ih h
  ·rfl
theorem okDraw_inv {na : Nat} {chk : List (Nat × Nat)} {l : List Ins} {ops : Array Oper} (h : okDraw na chk l ops = true) :
  DrawOK l (fun j => (befGo [] (ops.toList.map depsOf)).getD j []) na chk ∧ (∀ (j : Nat) (o : Oper), ops[j]? = some o → ∀ d ∈ depsOf o, d < j) ∧
   ∀ (i : Nat) (li : Ins) x q, l[i]? = some li → li.op = .a x (some q) → li.op.cls = .a q := by
 simp only [okDraw, Bool.and_eq_true] at h
 obtain ⟨h1, h2⟩ := h
 have self : ∀ (i : Nat) (li : Ins), l[i]? = some li → okSelf na chk i li = true := fun i li hi => by
  have := allIdx_get h2 hi
  simp only [Bool.and_eq_true, Nat.zero_add] at this; exact this.1
 have pair : ∀ (i j : Nat) (li lj : Ins), i ≠ j → l[i]? = some li → l[j]? = some lj → okPair (befGo [] (ops.toList.map depsOf)) chk i j li lj = true := fun i j li lj hne hi hj => by
  have := allIdx_get h2 hi
  simp only [Bool.and_eq_true, Nat.zero_add] at this
  have := allIdx_get this.2 hj
  simp only [Nat.zero_add, Bool.or_eq_true, Nat.beq_eq] at this
  exact this.resolve_left hne
 refine ⟨⟨?_, ?_, ?_, ?_, ?_, ?_, ?_, ?_, ?_, ?_⟩, fun j o ho d hd => ?_, fun i li x q hi hop => ?_⟩
 ·intro i j li lj d hne hi hj hd hd'
  have := pair i j li lj hne hi hj
  simp only [okPair, hd', hd, Bool.and_eq_true, optIs] at this
  simp at this
 ·intro i j li lj s hne hi hj hd hs
  have := pair i j li lj hne hi hj
  simp only [okPair, hd, Bool.and_eq_true] at this
  have := this.1.2
  rw [memN_iff.2 hs] at this
  simp only [cond, Bool.or_eq_true, Bool.and_eq_true, Nat.blt_eq] at this
  rcases this with this | this
  ·exact .inl ⟨memN_eq this.1, this.2⟩
  ·refine .inr ⟨fun hr => ?_, memN_eq this.1.2, this.2⟩
   have := this.1.1
   rw [hr] at this; cases this
 ·intro i j li lj hlt hi hj hc hc'
  have := pair i j li lj (by omega) hi hj
  simp only [okPair, hc, hc', Bool.and_eq_true] at this
  have := this.2
  rw [show Nat.blt _ _ = true by rw [Nat.blt_eq]; exact hlt] at this
  exact memN_eq this
 ·intro i j li lj hlt hi hj hc hc'
  have := pair i j li lj (by omega) hi hj
  simp only [okPair, hc, hc', Bool.and_eq_true] at this
  have := this.2
  rw [show Nat.blt _ _ = true by rw [Nat.blt_eq]; exact hlt] at this
  simp only [cond, Bool.or_eq_true] at this
  exact this.imp memN_eq hasPair_mem
 ·intro i j li lj hlt hi hj hc hc'
  have := pair i j li lj (by omega) hi hj
  simp only [okPair, hc, hc', Bool.and_eq_true] at this
  have := this.2
  have hb : Nat.blt j i = false := by cases hb : Nat.blt j i <;> simp [Nat.blt_eq] at hb ⊢; omega
  rw [hb] at this
  simp only [cond, Bool.or_eq_true] at this
  exact this.imp memN_eq hasPair_mem
 ·intro i li s hi hc hd hs
  have := self i li hi
  simp only [okSelf, hc, hd, Bool.and_eq_true] at this
  have := this.1.1
  rw [memN_iff.2 hs] at this; simp at this
 ·intro i j li lj p hne hi hj hc hc'
  have := pair i j li lj hne hi hj
  simp only [okPair, hc, hc', Bool.and_eq_true] at this
  simp at this
 ·intro i li p hi hc
  have := self i li hi
  simp only [okSelf, hc, Bool.and_eq_true, Nat.blt_eq] at this
  exact this.1
 ·intro h0 i li hi hc
  have := self i li hi
  simp only [okSelf, hc, Bool.and_eq_true, Nat.beq_eq] at this
  exact h0 this.1
 ·intro h0 i li hi hc
  have := self i li hi
  simp only [okSelf, hc, Bool.and_eq_true, Bool.or_eq_true, Nat.beq_eq] at this
  exact hasPair_mem (this.1.2.resolve_left h0)
 ·have hj : (ops.toList.map depsOf)[j]? = some (depsOf o) := by rw [List.getElem?_map, Array.getElem?_toList, ho]; rfl
  have := allIdx_get h1 hj
  simp only [Nat.zero_add, List.all_eq_true, Nat.blt_eq] at this
  exact this d hd
 ·have := self i li hi
  simp only [okSelf, Bool.and_eq_true] at this
  have := this.2
  rw [hop] at this
  dsimp only at this
  cases hc : (IOp.a x (some q)).cls with
  | a p =>
   obtain ⟨o, ho⟩ := cls_a hc
   cases ho
   rw [hop]; exact hc
  | _ => rw [hc] at this; simp at this
end Go.Abs
namespace Go.Abs
open Go
variable {N : Num} {CR : Nat → IC → Code → Prop} {ι ι' ι'' : Inj} {ro ro' ro'' : RO} {P : Program} {h h' h'' : Heap} {w w' w'' : World} {nt : Nat} {st st' g : St} {b : Frame} {a : Act} {k : List Item} {cs : List Frame} {ops : Array Oper}
theorem HR.ext (hh : HR N CR ι ro h w) (hn : h'.n = h.n) (hg : ∀ i, h'.get i = h.get i) : HR N CR ι ro h' w :=
 ⟨fun i o hi => by rw [hn]; exact hh.live i o (by rw [← hg]; exact hi), fun i j oi oj wi wj hi hj => hh.dist i j oi oj wi wj (by rw [← hg]; exact hi) (by rw [← hg]; exact hj),
  fun b c hb => ⟨(hh.rd b c hb).1, fun i o wn hi => (hh.rd b c hb).2 i o wn (by rw [← hg]; exact hi)⟩, by rw [hn]; exact hh.fresh,
  fun b o hb => ⟨(hh.kb b o hb).1, fun i oi wn hi => (hh.kb b o hb).2 i oi wn (by rw [← hg]; exact hi)⟩⟩
theorem SR.ext (sr : SR P N CR nt ι ro g b a w) (h1 : ∀ s, (gK s).run g.tm = (gK s).run st.tm) (h2 : g.h.n = st.h.n) (h3 : ∀ id, g.h.get id = st.h.get id) (h4 : g.defs = st.defs) (h5 : g.round = st.round) : SR P N CR nt ι ro st b a w :=
 ⟨sr.hr.ext h2.symm fun i => (h3 i).symm, fun i => by rw [← h1]; exact sr.tm i, sr.sz, by rw [← h5]; exact sr.round, by rw [← h4]; exact sr.defs⟩
theorem filterD_lt {α : Type} {p q : α → Bool} : ∀ {l : List α}, (∀ x ∈ l, q x = true → p x = true) → (∃ x ∈ l, p x = true ∧ q x = false) → (l.filter q).length < (l.filter p).length
 | [], _, h => by obtain ⟨x, hx, _⟩ := h; cases hx
 | y :: l, hm, h => by
  have hle : ∀ {l : List α}, (∀ x ∈ l, q x = true → p x = true) → (l.filter q).length ≤ (l.filter p).length := by
   intro l hm
   induction l with
   | nil => simp
   | cons y l ih =>
    have := ih fun x hx => hm x (by simp [hx])
    simp only [List.filter_cons]
    cases hq : q y
    ·cases hp : p y <;> simp <;> omega
    ·rw [hm y (by simp) hq]; simp; omega
  simp only [List.filter_cons]
  obtain ⟨x, hx, hp, hq⟩ := h
  have hm' : ∀ x ∈ l, q x = true → p x = true := fun x hx => hm x (by simp [hx])
  rcases List.mem_cons.1 hx with rfl | hx
  ·rw [hp, hq]
   have := hle hm'
   simp; omega
  ·have := filterD_lt hm' ⟨x, hx, hp, hq⟩
   cases hqy : q y
   ·cases hpy : p y <;> simp <;> omega
   ·rw [hm y (by simp) hqy]; simp; omega
theorem okL_get : ∀ {l : List Ins} {m : List Oper}, okL P N nt ops l m = true → l.length = m.length ∧ ∀ (i : Nat) (li : Ins), l[i]? = some li → ∃ o, m[i]? = some o ∧ okIns P N nt ops li o = true
 | [], [], _ => ⟨rfl, fun i li hi => by simp at hi⟩
 | [], _ :: _, h => by simp [okL] at h
 | _ :: _, [], h => by simp [okL] at h
 | x :: l, o :: m, h => by
  simp only [okL, Bool.and_eq_true] at h
  obtain ⟨h1, h2⟩ := okL_get h.2
  refine ⟨by simp [h1], fun i li hi => ?_⟩
  cases i with
  | zero => simp at hi; subst hi; exact ⟨o, rfl, h.1⟩
  | succ i => simpa using h2 i li (by simpa using hi)
theorem draw_go (hN : ∀ t u, N.t t = N.t u → t = u) {e : Env} (hcall : CallOK P N CR e.callF e.lim) (hmeth : MethOK P N e.meth) (hcalm : calm b.kind cs) {base : Nat} (hlim : e.lim ≤ base) {l : List Ins} {T : Nat → St} {na : Nat} {chk : List (Nat × Nat)}
  (hok : okL P N nt ops l ops.toList = true) (hd : okDraw na chk l ops = true) (t : TextRun e base l T) {hs : List Heap} (hchk : ∀ c ∈ chk, recheck l (T l.length).tm hs c = true) (hhs : ∀ k, k ≤ l.length → hs[k]? = some (T k).h)
  (hfree : ∀ p, (T 0).h.get (base + p) = none) (hbn : base + na ≤ (T 0).h.n) :
  ∀ (fuel tt : Nat) (listed : Array Bool) (ι : Inj) (ro : RO) (g : St) (a : Act) (w : World), listed.size = l.length → Sim l T base na (fun i => listed.getD i false = true) g →
   (∀ j, listed.getD j false = true → ∀ o, ops[j]? = some o → ∀ d ∈ depsOf o, listed.getD d false = true) →
   SR P N CR nt ι ro g b a w → base ≤ g.h.n → ((List.range l.length).filter fun i => !listed.getD i true).length ≤ fuel → (∀ (i : Nat) (li : Ins) (p : Nat), listed.getD i false = false → l[i]? = some li → li.op.cls = .a p → ι (base + p) = none) →
   StepsTo P N CR nt base e.lim ι ro g b w [T l.length] (fun _ => True) (lone (b.atR a (.inRegion ops (Region.linearise.go .any ops fuel tt listed []) :: k)) cs w) (fun a' w' => lone (b.atR a' (.inRegion ops [] :: k)) cs w') := by
 obtain ⟨dok, hdep, hhole⟩ := okDraw_inv hd
 obtain ⟨hlen, hget⟩ := okL_get hok
 have hsz : ops.size = l.length := by rw [hlen]; simp
 let deps : Nat → List Nat := fun j => match ops[j]? with | some o => depsOf o | none => []
 have hbef : ∀ j x, x ∈ (befGo [] (ops.toList.map depsOf)).getD j [] → Bef deps x j := befGo_bef (ops.toList.map depsOf) [] (fun j hj => by simp at hj) fun i d hi => by
  rw [List.getElem?_map, Array.getElem?_toList] at hi
  simp only [List.length_nil, Nat.zero_add, deps]
  cases ho : ops[i]? with
  | none => simp [ho] at hi
  | some o => simp [ho] at hi; exact hi
 have done : ∀ (listed : Array Bool) (ι : Inj) (ro : RO) (g : St) (a : Act) (w : World), Sim l T base na (fun i => listed.getD i false = true) g → SR P N CR nt ι ro g b a w → (∀ i, i < l.length → listed.getD i false = true) →
   StepsTo P N CR nt base e.lim ι ro g b w [T l.length] (fun _ => True) (lone (b.atR a (.inRegion ops [] :: k)) cs w) (fun a' w' => lone (b.atR a' (.inRegion ops [] :: k)) cs w') := by
  intro listed ι ro g a w sm sr hall
  obtain ⟨h1, h2, h3, h4, h5⟩ := sm.finish t dok hall
  exact ⟨_, List.mem_singleton.2 rfl, ι, ro, a, w, ⟨Ext.refl _ _ _, EnvEq.refl w, by omega, fun i _ => (h3 i).symm⟩, fun _ _ _ => rfl, sr.ext h1 h2 h3 h4 h5, Steps.refl P _⟩
 intro fuel
 induction fuel with
 | zero =>
  intro tt listed ι ro g a w hsize sm hdc sr hbg hcnt hho
  refine done listed ι ro g a w sm sr fun i hi => ?_
  cases hl : listed.getD i false with
  | true => rfl
  | false =>
   have hmem : i ∈ (List.range l.length).filter fun i => !listed.getD i true := by
    rw [List.mem_filter, List.mem_range]
    refine ⟨hi, ?_⟩
    have : listed.getD i true = listed.getD i false := by simp [Array.getElem?_eq_getElem (show i < listed.size by omega)]
    rw [this, hl]; rfl
   have := List.length_pos_of_mem hmem
   omega
 | succ fuel ih =>
  intro tt listed ι ro g a w hsize sm hdc sr hbg hcnt hho
  have hsame : ∀ i, i < l.length → listed.getD i true = listed.getD i false := fun i hi => by simp [Array.getElem?_eq_getElem (show i < listed.size by omega)]
  simp only [Region.linearise.go]
  change StepsTo P N CR nt base e.lim ι ro g b w [T l.length] (fun _ => True) (lone (b.atR a (.inRegion ops (match (Region.ready .any ops listed)[tt % (Region.ready .any ops listed).length]? with
   | some i => Region.linearise.go .any ops fuel (tt / (Region.ready .any ops listed).length) (listed.setIfInBounds i true) [i]
   | none => [].reverse) :: k)) cs w) _
  cases hi : (Region.ready .any ops listed)[tt % (Region.ready .any ops listed).length]? with
  | none =>
   have hnil : Region.ready .any ops listed = [] := by
    cases hr : Region.ready .any ops listed with
    | nil => rfl
    | cons x xs =>
     rw [hr] at hi
     have hlt : tt % (x :: xs).length < (x :: xs).length := Nat.mod_lt _ (by simp)
     rw [List.getElem?_eq_getElem hlt] at hi; cases hi
   refine done listed ι ro g a w sm sr fun i => ?_
   induction i using Nat.strongRecOn with
   | ind i hind =>
    intro hi'
    cases hl : listed.getD i false with
    | true => rfl
    | false =>
     have ho := Array.getElem?_eq_getElem (show i < ops.size by omega)
     have : i ∈ Region.ready .any ops listed := mem_ready.2 ⟨by rw [hsame i hi', hl], _, ho, fun ed hed hbd => by
      have hdm : ed.on ∈ depsOf ops[i] := List.mem_map.2 ⟨ed, List.mem_filter.2 ⟨by simpa using hed, hbd⟩, rfl⟩
      have hlt := hdep i _ ho _ hdm
      exact hind _ hlt (by omega)⟩
     rw [hnil] at this; cases this
  | some i =>
   dsimp only
   rw [linearise_go_acc, List.reverse_singleton, List.singleton_append]
   obtain ⟨r1, o, ho, r2⟩ := mem_ready.1 (List.mem_of_getElem? hi)
   have hilt : i < l.length := by rw [← hsz]; exact (Array.getElem?_eq_some_iff.1 ho).1
   have hli := List.getElem?_eq_getElem hilt
   have hnot : listed.getD i false = false := by rw [← hsame i hilt]; exact r1
   have hdi : ∀ d ∈ depsOf o, listed.getD d false = true := fun d hd => by
    obtain ⟨ed, h1, h2⟩ := List.mem_map.1 hd
    obtain ⟨h3, h4⟩ := List.mem_filter.1 h1
    rw [← h2]; exact r2 ed (by simpa using h3) h4
   have hdc' : ∀ j, listed.getD j false = true → ∀ d ∈ deps j, listed.getD d false = true := fun j hj d hd => by
    simp only [deps] at hd
    split at hd
    ·rename_i oj hoj; exact hdc j hj oj hoj d hd
    ·cases hd
   have hbi : ∀ j ∈ (befGo [] (ops.toList.map depsOf)).getD i [], listed.getD j false = true := fun j hj => bef_listed hdc' (hbef i j hj) fun d hd => by
    simp only [deps, ho] at hd; exact hdi d hd
   have hbj : ∀ j, listed.getD j false = true → ∀ x ∈ (befGo [] (ops.toList.map depsOf)).getD j [], listed.getD x false = true := fun j hj x hx => bef_listed hdc' (hbef j x hx) (hdc' j hj)
   obtain ⟨f, hf, sm'⟩ := sm.step t dok hchk hhs hfree hbj hli (by rw [hnot]; simp) hbi
   obtain ⟨o', ho', hoki⟩ := hget i _ hli
   rw [Array.getElem?_toList, ho] at ho'; cases ho'
   have hev : (compI l[i]).run e base g = some [putE l[i].dst f g] := by rw [compI_eff, hf]; rfl
   have hone := ins_sound (k := k) (cs := cs) (rest := Region.linearise.go .any ops fuel (tt / (Region.ready .any ops listed).length) (listed.setIfInBounds i true) []) hN hcall hmeth ho hoki sr hlim hbg hcalm hev fun x q hop => by
    have hc := hhole i _ x q hli hop
    have hq := dok.ap i _ q hli hc
    refine ⟨by omega, ?_, hho i _ q hnot hli hc⟩
    rw [(sm.ha (by omega)).2.1]; omega
   have hset : ∀ j, (listed.setIfInBounds i true).getD j false = true ↔ (listed.getD j false = true ∨ j = i) := fun j => by
    by_cases e : i = j
    ·subst e; simp [show i < listed.size by omega]
    ·rw [getD_set_ne false e]; exact ⟨.inl, fun h => h.resolve_right fun h => e h.symm⟩
   refine hone.trans (fun _ _ => trivial) fun r hr ι' ro' a' w' hG hX sr' => ?_
   rw [List.mem_singleton] at hr
   subst hr
   refine ih _ _ ι' ro' _ a' w' (by simpa using hsize) ?_ (fun j hj oj hoj d hd => ?_) sr' (Nat.le_trans hbg hG.n) ?_ (fun j lj p hj hlj hc => ?_)
   ·have : (fun j => (listed.setIfInBounds i true).getD j false = true) = fun j => listed.getD j false = true ∨ j = i := funext fun j => propext (hset j)
    rw [this]; exact sm'
   ·refine (hset d).2 (.inl ?_)
    rcases (hset j).1 hj with hj | rfl
    ·exact hdc j hj oj hoj d hd
    ·rw [ho] at hoj; cases hoj; exact hdi d hd
   ·have := filterD_lt (l := List.range l.length) (p := fun i => !listed.getD i true) (q := fun j => !(listed.setIfInBounds i true).getD j true) (fun x hx hq => by
     by_cases e : i = x
     ·subst e; simp [show i < listed.size by omega] at hq
     ·rwa [getD_set_ne true e] at hq) ⟨i, by simpa using hilt, by rw [r1]; rfl, by simp [show i < listed.size by omega]⟩
    omega
   ·have hj' : listed.getD j false = false ∧ j ≠ i := by
     constructor
     ·cases hx : listed.getD j false with
      | false => rfl
      | true => rw [(hset j).2 (.inl hx)] at hj; cases hj
     ·intro e; rw [(hset j).2 (.inr e)] at hj; cases hj
    have hp := dok.ap j lj p hlj hc
    rw [hX _ ?_ ?_]
    ·exact hho j lj p hj'.1 hlj hc
    ·rw [(sm.ha (by omega)).2.1]; omega
    ·rintro ⟨x, q, hop, hpq⟩
     have hci := hhole i _ x q hli hop
     have : p = q := by omega
     subst this
     exact dok.aa i j _ lj p (fun h => hj'.2 h.symm) hli hlj hci hc
end Go.Abs
namespace Go.Abs
open Go
def okC (P : Program) (N : Num) (nt : Nat) : IC → Code → Bool
 | .skip, .skip => true
 | .ops l, .region _ ops false => okL P N nt ops l ops.toList && l.all noHole
 | .dops na chk l, .region _ ops true => okL P N nt ops l ops.toList && okDraw na chk l ops
 | .seq a b, .seq x y => okC P N nt a x && okC P N nt b y
 | .cond c a b, .cond d x y => okO N c d && okC P N nt a x && okC P N nt b y
 | .block i a, .block j x => Nat.beq i j && okC P N nt a x
 | .loop a, .loop x => okC P N nt a x
 | .rangeF f ps asg body, .rangeFunc g qs x y => okO N f g && qs.toList == ps && okC P N nt asg x && okC P N nt body y && ps.all (fun p => Nat.blt p nt)
 | .exit i, .exit j => Nat.beq i j
 | .ret, .ret => true
 | .bad, _ => true
 | _, _ => false
def CRel (P : Program) (N : Num) (nt : Nat) (c : IC) (x : Code) : Prop := okC P N nt c x = true
variable {N : Num} {ι ι' ι'' : Inj} {ro ro' ro'' : RO} {P : Program} {h h' h'' : Heap} {w w' w'' : World} {nt : Nat} {st st' g : St} {b : Frame} {a : Act} {k : List Item} {cs : List Frame} {ops : Array Oper}
def Arr (P : Program) (m : Machine) (b : Frame) (k : List Item) (cs : List Frame) (o : Out) (a : Act) (w : World) : Prop :=
 match o with
 | .normal => Steps P m (lone (b.atR a k) cs w)
 | .exit id => ∃ k', exitTo id k' = exitTo id k ∧ Steps P m (lone (b.atR a (.code (.exit id) :: k')) cs w)
 | .ret => ∃ k', Steps P m (lone (b.atR a (.code .ret :: k')) cs w)
theorem Arr.of_steps {m m' : Machine} {o : Out} (h : Steps P m m') (k' : Arr P m' b k cs o a w) : Arr P m b k cs o a w := by
 cases o with
 | normal => exact h.trans k'
 | exit id => obtain ⟨q, h1, h2⟩ := k'; exact ⟨q, h1, h.trans h2⟩
 | ret => obtain ⟨q, h2⟩ := k'; exact ⟨q, h.trans h2⟩
def CodeTo (P : Program) (N : Num) (nt n0 lim : Nat) (ι : Inj) (ro : RO) (st : St) (b : Frame) (w : World) (outs : List OS) (m : Machine) (k : List Item) (cs : List Frame) : Prop :=
 ∃ r ∈ outs, ∃ ι' ro' a' w', Grow n0 lim ι ro st.h w ι' ro' r.s.h w' ∧ SR P N (CRel P N) nt ι' ro' r.s b a' w' ∧ Arr P m b k cs r.o a' w'
theorem CodeTo.sub {n0 lim : Nat} {outs outs' : List OS} {m : Machine} (h : CodeTo P N nt n0 lim ι ro st b w outs m k cs) (hs : ∀ x ∈ outs, x ∈ outs') : CodeTo P N nt n0 lim ι ro st b w outs' m k cs :=
 let ⟨r, h1, h2⟩ := h; ⟨r, hs r h1, h2⟩
theorem CodeTo.head {n0 lim : Nat} {outs : List OS} {m m' : Machine} (hm : Steps P m m') (h : CodeTo P N nt n0 lim ι ro st b w outs m' k cs) : CodeTo P N nt n0 lim ι ro st b w outs m k cs :=
 let ⟨r, h1, ι', ro', a', w', h2, h3, h4⟩ := h; ⟨r, h1, ι', ro', a', w', h2, h3, h4.of_steps hm⟩
structure CodeEnv (P : Program) (N : Num) (e : Env) (b : Frame) (cs : List Frame) (n0 : Nat) : Prop where
 hN : ∀ t u, N.t t = N.t u → t = u
 call : CallOK P N (CRel P N) e.callF e.lim
 meth : MethOK P N e.meth
 mixed : P.follows .mixedOrders = true
 calm : calm b.kind cs
 lim : e.lim ≤ n0
theorem ops_code {e : Env} {n0 : Nat} (ce : CodeEnv P N e b cs n0) {l : List Ins} {id : Nat} (hok : okL P N nt ops l ops.toList = true) (hh : l.all noHole = true) (sr : SR P N (CRel P N) nt ι ro st b a w) (hn : n0 ≤ st.h.n) {outs : List St} (hev : (compL l).run e st.h.n st = some outs) :
  CodeTo P N nt n0 e.lim ι ro st b w (outs.map fun s => ⟨.normal, s⟩) (lone (b.atR a (.code (.region id ops false) :: k)) cs w) k cs := by
 have hlen := (okL_get hok).1
 obtain ⟨r, h1, ι', ro', a', w', h2, _, h3, h4⟩ := ops_sound (k := k) (cs := cs) ce.hN ce.call ce.meth ce.lim ce.calm l 0 ι ro st a w outs (by simpa using hok) hh sr hn hev
 refine ⟨⟨.normal, r⟩, List.mem_map_of_mem h1, ι', ro', a', w', h2, h3, ?_⟩
 have : List.range' 0 l.length = List.range ops.size := by rw [List.range_eq_range', hlen]; simp
 rw [this] at h4
 exact .head stepR_region (h4.trans (.one stepR_region_end))
theorem dops_code {e : Env} {n0 : Nat} (ce : CodeEnv P N e b cs n0) {na : Nat} {chk : List (Nat × Nat)} {l : List Ins} {id : Nat} (hok : okL P N nt ops l ops.toList = true) (hd : okDraw na chk l ops = true) (sr : SR P N (CRel P N) nt ι ro st b a w) (hn : n0 ≤ st.h.n)
  {outs : List OS} (hev : evDops e na chk l st = some outs) :
  CodeTo P N nt n0 e.lim ι ro st b w outs (lone (b.atR a (.code (.region id ops true) :: k)) cs w) k cs := by
 unfold evDops at hev
 split at hev
 ·rename_i st' hs hrun
  cases hc : chk.all (recheck l st'.tm hs.reverse) <;> simp only [hc, cond, reduceCtorEq, Option.some.injEq] at hev
  subst hev
  obtain ⟨T, t0, t1, t2, t3⟩ := opsH_runs l _ _ _ _ hrun
  have hlen := (okL_get hok).1
  have hhs : ∀ q, q ≤ l.length → hs.reverse[q]? = some (T q).h := fun q hq => by
   rw [t3]
   simp only [List.reverse_nil, List.nil_append, List.getElem?_map]
   rw [List.getElem?_range (by omega)]; rfl
  have hget0 : ∀ q, (T 0).h.get q = st.h.get q := fun q => by rw [t0]; rfl
  have hw1 : HR N (CRel P N) ι ro (T 0).h { w with drawn := w.drawn + 1 } := by
   have h1 : HR N (CRel P N) ι ro st.h { w with drawn := w.drawn + 1 } := sr.hr.heap rfl
   rw [t0]
   exact ⟨fun i o hi => ⟨Nat.lt_of_lt_of_le (h1.live i o hi).1 (Nat.le_add_right _ _), (h1.live i o hi).2⟩, h1.dist, h1.rd, fun i hi => h1.fresh i (Nat.le_trans (Nat.le_add_right _ _) hi), h1.kb⟩
  have sr0 : SR P N (CRel P N) nt ι ro (T 0) b a { w with drawn := w.drawn + 1 } := ⟨hw1, by rw [t0]; exact sr.tm, sr.sz, by rw [t0]; exact sr.round, by rw [t0]; exact sr.defs⟩
  have hn0 : (T 0).h.n = st.h.n + na := by rw [t0]
  obtain ⟨r, h1, ι', ro', a', w', h2, _, h3, h4⟩ := draw_go (k := k) (cs := cs) ce.hN ce.call ce.meth ce.calm (base := st.h.n) (Nat.le_trans ce.lim hn) hok hd ⟨t2⟩ (hs := hs.reverse)
   (fun c hcm => by rw [t1]; exact List.all_eq_true.1 hc c hcm) hhs (fun p => by
    rw [hget0]
    cases hg : st.h.get (st.h.n + p) with
    | none => rfl
    | some o => have := (sr.hr.live _ _ hg).1; omega) (by omega)
   ops.size (w.tape w.drawn (.order b.fn id)) (Array.replicate ops.size false) ι ro (T 0) a { w with drawn := w.drawn + 1 } (by rw [hlen]; simp) (by
    have : (fun i => (Array.replicate ops.size false).getD i false = true) = fun _ => False := funext fun i => by
     simp only [Array.getD_eq_getD_getElem?, Array.getElem?_replicate]
     split <;> simp
    rw [this]; exact Sim.begin) (fun j hj => by
     simp only [Array.getD_eq_getD_getElem?, Array.getElem?_replicate] at hj
     split at hj <;> simp at hj) sr0 (by omega) (by
     have : ((List.range l.length).filter fun i => !(Array.replicate ops.size false).getD i true).length ≤ (List.range l.length).length := List.length_filter_le _ _
     rw [List.length_range] at this
     have hsz : l.length = ops.size := by rw [hlen]; simp
     omega) (fun i li p _ _ _ => sr.hr.fresh _ (by omega))
  rw [List.mem_singleton] at h1
  subst h1
  refine ⟨⟨.normal, st'⟩, List.mem_singleton.2 rfl, ι', ro', a', w', ?_, by rw [← t1]; exact h3, ?_⟩
  ·rw [← t1]
   exact ⟨⟨fun i hi => h2.ext.inj i (Nat.lt_of_lt_of_le hi hn), h2.ext.old, h2.ext.ro⟩, ⟨h2.env.os, h2.env.output, h2.env.tape, h2.env.size⟩, by have := h2.n; show st.h.n ≤ (T l.length).h.n; omega, fun i hi => by rw [h2.low i hi, hget0]⟩
  ·have hsch : Region.schedule (P.follows .mixedOrders) ops (w.tape w.drawn (.order b.fn id)) = Region.linearise.go .any ops ops.size (w.tape w.drawn (.order b.fn id)) (Array.replicate ops.size false) [] := by
    simp only [Region.schedule, ce.mixed, Bool.true_or, if_true, Region.linearise]
   have hst := stepR_region_draw (P := P) (b := b) (a := a) (k := k) (cs := cs) (w := w) (ops := ops) (id := id)
   rw [hsch] at hst
   exact .head hst (h4.trans (.one stepR_region_end))
 ·cases hev
def RangeOK (P : Program) (N : Num) (e : Env) (b : Frame) (cs : List Frame) (n0 nt : Nat) : Prop :=
 ∀ (f : Opd) (ps : List Nat) (asg body : IC) (g : Operand) (qs : Array Tmp) (x y : Code) (ι : Inj) (ro : RO) (st : St) (a : Act) (w : World) (k : List Item) (outs : List OS),
  okC P N nt (.rangeF f ps asg body) (.rangeFunc g qs x y) = true → SR P N (CRel P N) nt ι ro st b a w → n0 ≤ st.h.n → evRange e (f.ev st.tm) ps asg body st = some outs →
   CodeTo P N nt n0 e.lim ι ro st b w outs (lone (b.atR a (.code (.rangeFunc g qs x y) :: k)) cs w) k cs
theorem code_sound {e : Env} {n0 : Nat} (ce : CodeEnv P N e b cs n0) (hrange : RangeOK P N e b cs n0 nt) : ∀ (c : IC) (x : Code), okC P N nt c x = true → ∀ (ι : Inj) (ro : RO) (st : St) (a : Act) (w : World) (k : List Item) (outs : List OS),
  SR P N (CRel P N) nt ι ro st b a w → n0 ≤ st.h.n → (compC c).run e st = some outs → CodeTo P N nt n0 e.lim ι ro st b w outs (lone (b.atR a (.code x :: k)) cs w) k cs
 | .skip, x, hok, ι, ro, st, a, w, k, outs, sr, hn, hev => by
  cases x <;> simp only [okC, Bool.false_eq_true] at hok
  simp only [compC, Option.some.injEq] at hev; subst hev
  exact ⟨_, List.mem_singleton.2 rfl, ι, ro, a, w, Grow.refl, sr, .one stepR_skip⟩
 | .ops l, x, hok, ι, ro, st, a, w, k, outs, sr, hn, hev => by
  cases x <;> try (simp [okC] at hok; done)
  rename_i id ops d
  cases d <;> simp only [okC, Bool.false_eq_true, Bool.and_eq_true] at hok
  simp only [compC] at hev
  obtain ⟨ms, hm, hall⟩ := ND.of_bind hev
  refine (ops_code ce hok.1 hok.2 sr hn hm).sub fun r hr => ?_
  obtain ⟨s, hs, rfl⟩ := List.mem_map.1 hr
  obtain ⟨rs, h1, h2⟩ := hall s hs
  cases h1
  exact h2 _ (List.mem_singleton.2 rfl)
 | .dops na chk l, x, hok, ι, ro, st, a, w, k, outs, sr, hn, hev => by
  cases x <;> try (simp [okC] at hok; done)
  rename_i id ops d
  cases d <;> simp only [okC, Bool.false_eq_true, Bool.and_eq_true] at hok
  simp only [compC] at hev
  exact dops_code ce hok.1 hok.2 sr hn hev
 | .seq c d, x, hok, ι, ro, st, a, w, k, outs, sr, hn, hev => by
  cases x <;> simp only [okC, Bool.false_eq_true, Bool.and_eq_true] at hok
  rename_i y z
  simp only [compC] at hev
  obtain ⟨ms, hm, hall⟩ := ND.of_bind hev
  obtain ⟨r, hr, ι', ro', a', w', hG, sr', harr⟩ := code_sound ce hrange c y hok.1 ι ro st a w (.code z :: k) ms sr hn hm
  obtain ⟨rs, h1, h2⟩ := hall r hr
  obtain ⟨o, s⟩ := r
  cases o with
  | normal =>
   dsimp only at h1
   obtain ⟨r2, k1, ι2, ro2, a2, w2, k2, k3, k4⟩ := code_sound ce hrange d z hok.2 ι' ro' s a' w' k rs sr' (Nat.le_trans hn hG.n) h1
   exact ⟨r2, h2 _ k1, ι2, ro2, a2, w2, hG.trans k2, k3, k4.of_steps (.head stepR_seq harr)⟩
  | exit id =>
   cases h1
   obtain ⟨k', e1, e2⟩ := harr
   exact ⟨_, h2 _ (List.mem_singleton.2 rfl), ι', ro', a', w', hG, sr', k', by rw [e1]; rfl, .head stepR_seq e2⟩
  | ret =>
   cases h1
   obtain ⟨k', e2⟩ := harr
   exact ⟨_, h2 _ (List.mem_singleton.2 rfl), ι', ro', a', w', hG, sr', k', .head stepR_seq e2⟩
 | .cond c d1 d2, x, hok, ι, ro, st, a, w, k, outs, sr, hn, hev => by
  cases x <;> simp only [okC, Bool.false_eq_true, Bool.and_eq_true] at hok
  rename_i c' y z
  simp only [compC] at hev
  have hc := okO_VR sr.tm hok.1.1
  split at hev
  ·rename_i t ht
   rw [ht] at hc
   simp only [VR] at hc
   have hst := stepR_cond (P := P) (b := b) (a := a) (k := k) (cs := cs) (w := w) (x := y) (y := z) hc
   cases t with
   | true => exact (code_sound ce hrange d1 y hok.1.2 ι ro st a w k outs sr hn hev).head (.one hst)
   | false => exact (code_sound ce hrange d2 z hok.2 ι ro st a w k outs sr hn hev).head (.one hst)
  ·cases hev
 | .block id c, x, hok, ι, ro, st, a, w, k, outs, sr, hn, hev => by
  cases x <;> simp only [okC, Bool.false_eq_true, Bool.and_eq_true, Nat.beq_eq] at hok
  rename_i id' y
  obtain ⟨rfl, hok⟩ := hok
  simp only [compC] at hev
  obtain ⟨ms, hm, hall⟩ := ND.of_bind hev
  obtain ⟨r, hr, ι', ro', a', w', hG, sr', harr⟩ := code_sound ce hrange c y hok ι ro st a w (.inBlock id :: k) ms sr hn hm
  obtain ⟨rs, h1, h2⟩ := hall r hr
  obtain ⟨o, s⟩ := r
  cases o with
  | normal =>
   cases h1
   exact ⟨_, h2 _ (List.mem_singleton.2 rfl), ι', ro', a', w', hG, sr', .head stepR_block (harr.trans (.one stepR_inBlock))⟩
  | exit j =>
   obtain ⟨k', e1, e2⟩ := harr
   dsimp only at h1
   cases hj : Nat.beq j id <;> simp only [hj, cond] at h1 <;> cases h1
   ·have hne : (id == j) = false := by
     rw [beq_eq_false_iff_ne]; intro e; subst e; simp at hj
    exact ⟨_, h2 _ (List.mem_singleton.2 rfl), ι', ro', a', w', hG, sr', k', by rw [e1]; simp [exitTo, hne], .head stepR_block e2⟩
   ·rw [Nat.beq_eq] at hj; subst hj
    have he : exitTo j k' = some k := by rw [e1]; simp [exitTo]
    exact ⟨_, h2 _ (List.mem_singleton.2 rfl), ι', ro', a', w', hG, sr', .head stepR_block (e2.trans (.one (stepR_exit he)))⟩
  | ret =>
   cases h1
   obtain ⟨k', e2⟩ := harr
   exact ⟨_, h2 _ (List.mem_singleton.2 rfl), ι', ro', a', w', hG, sr', k', .head stepR_block e2⟩
 | .loop c, x, hok, ι, ro, st, a, w, k, outs, sr, hn, hev => by
  cases x <;> simp only [okC, Bool.false_eq_true] at hok
  rename_i y
  simp only [compC] at hev
  have key : ∀ (n : Nat) (ι : Inj) (ro : RO) (st : St) (a : Act) (w : World) (outs : List OS), SR P N (CRel P N) nt ι ro st b a w → n0 ≤ st.h.n → loopN ((compC c).run e) n st = some outs →
    CodeTo P N nt n0 e.lim ι ro st b w outs (lone (b.atR a (.code y :: .inLoop y :: k)) cs w) k cs := by
   intro n
   induction n with
   | zero => intro ι ro st a w outs _ _ h; cases h
   | succ n ih =>
    intro ι ro st a w outs sr hn hev
    simp only [loopN] at hev
    obtain ⟨ms, hm, hall⟩ := ND.of_bind hev
    obtain ⟨r, hr, ι', ro', a', w', hG, sr', harr⟩ := code_sound ce hrange c y hok ι ro st a w (.inLoop y :: k) ms sr hn hm
    obtain ⟨rs, h1, h2⟩ := hall r hr
    obtain ⟨o, s⟩ := r
    cases o with
    | normal =>
     dsimp only at h1
     obtain ⟨r2, k1, ι2, ro2, a2, w2, k2, k3, k4⟩ := ih ι' ro' s a' w' rs sr' (Nat.le_trans hn hG.n) h1
     exact ⟨r2, h2 _ k1, ι2, ro2, a2, w2, hG.trans k2, k3, k4.of_steps (Steps.trans harr (.one stepR_inLoop))⟩
    | exit id =>
     cases h1
     obtain ⟨k', e1, e2⟩ := harr
     exact ⟨_, h2 _ (List.mem_singleton.2 rfl), ι', ro', a', w', hG, sr', k', by rw [e1]; rfl, e2⟩
    | ret =>
     cases h1
     exact ⟨_, h2 _ (List.mem_singleton.2 rfl), ι', ro', a', w', hG, sr', harr⟩
  exact (key e.fu ι ro st a w outs sr hn hev).head (.one stepR_loop)
 | .rangeF f ps asg body, x, hok, ι, ro, st, a, w, k, outs, sr, hn, hev => by
  cases x <;> try (simp [okC] at hok; done)
  rename_i g qs x y
  simp only [compC] at hev
  exact hrange f ps asg body g qs x y ι ro st a w k outs hok sr hn hev
 | .exit id, x, hok, ι, ro, st, a, w, k, outs, sr, hn, hev => by
  cases x <;> simp only [okC, Bool.false_eq_true, Nat.beq_eq] at hok
  subst hok
  simp only [compC, Option.some.injEq] at hev; subst hev
  exact ⟨_, List.mem_singleton.2 rfl, ι, ro, a, w, Grow.refl, sr, k, rfl, Steps.refl P _⟩
 | .ret, x, hok, ι, ro, st, a, w, k, outs, sr, hn, hev => by
  cases x <;> simp only [okC, Bool.false_eq_true] at hok
  simp only [compC, Option.some.injEq] at hev; subst hev
  exact ⟨_, List.mem_singleton.2 rfl, ι, ro, a, w, Grow.refl, sr, k, Steps.refl P _⟩
 | .bad, x, hok, ι, ro, st, a, w, k, outs, sr, hn, hev => by simp [compC] at hev
end Go.Abs
namespace Go.Abs
open Go
variable {N : Num} {ι ι' ι'' : Inj} {ro ro' ro'' : RO} {P : Program} {h h' h'' : Heap} {w w' w'' : World} {nt : Nat} {st st' g : St} {b : Frame} {a : Act} {k : List Item} {cs : List Frame} {ops : Array Oper}
def enterW (b : Frame) (a : Act) (qs : Array Tmp) (x y : Code) (w : World) : World :=
 { w with heap := (w.heap.push (.deferred (some []))).push (.loop { state := .ready, pending := none, fn := b.fn, tmps := a.tmps, params := qs, assign := x, body := y, defers := w.heap.size }) }
def enterA (a : Act) (w : World) : Act := { a with defers := { target := .collected w.heap.size, args := #[] } :: a.defers }
theorem enterLoop_run (qs : Array Tmp) (x y : Code) : (Instr.enterLoop b.fn a.tmps qs x y none).run P w = .ok (w.heap.size + 1, [{ target := .collected w.heap.size, args := #[] }]) (enterW b a qs x y w) := by
 simp [Instr.enterLoop, newObj, Sem.run, enterW]
 rfl
theorem rng_enter (hb : b.roundOf = none) {f : Operand} {qs : Array Tmp} {x y : Code} {R : Value → World → Prop} (h : Invokes P (a.eval f) #[.func (.yield (w.heap.size + 1)) #[] #[]] (enterW b a qs x y w) R) :
  ∃ v w', R v w' ∧ Steps P (lone (b.atR a (.code (.rangeFunc f qs x y) :: k)) cs w) (lone (b.atR (enterA a w) (.endRangeFunc (w.heap.size + 1) :: k)) cs w') := by
 obtain ⟨nx, w1, h1, h2⟩ := h
 have hfin : ∀ v, (b.atR (enterA a w) (.inRangeFunc (w.heap.size + 1) :: k)).finish v = b.atR (enterA a w) (.endRangeFunc (w.heap.size + 1) :: k) := fun v => rfl
 have hev : ∀ (z : Operand), (b.atR (enterA a w) (.inRangeFunc (w.heap.size + 1) :: k)).eval z = a.eval z := fun z => by cases z <;> rfl
 have hen := enterLoop_run (P := P) (b := b) (a := a) (w := w) qs x y
 have hst : (stepG P true { frame := b.atR a (.code (.rangeFunc f qs x y) :: k), callers := cs, status := .running, dying := none } w).bare =
   (stepG.apply P true (b.atR (enterA a w) (.inRangeFunc (w.heap.size + 1) :: k)) cs none (invokeOf (a.eval f) #[.func (.yield (w.heap.size + 1)) #[] #[]]) (enterW b a qs x y w)).bare := by
  have hr : ∀ ty, (resolve (b.atR (enterA a w) (.inRangeFunc (w.heap.size + 1) :: k)).eval { callee := .value f, args := #[.const (.func (.yield (w.heap.size + 1)) #[] #[])], argTypes := #[] } ty : Sem Deferred) = Deferred.ofValue (a.eval f) #[.func (.yield (w.heap.size + 1)) #[] #[]] := fun ty => by
   simp [resolve, hev, Act.eval]
  have hr0 := hr 0
  simp only [stepG, stepG.exec, Frame.atR, hb, Sem.runT_eq, hen, GStep.bare_after]
  simp only [Frame.atR, hb, enterA] at hr0
  simp only [enterA, invokeOf, List.cons_append, List.nil_append]
  rw [hr0]
 cases nx <;> simp only [NextOK] at h2
 ·rename_i v
  refine ⟨v, w1, h2, .one (step_lone_go ?_)⟩
  rw [hst, ← hfin v]; simp [stepG.apply, h1]
 ·rename_i f' args
  obtain ⟨v, w', g1, g2⟩ := h2.of_calls (b.atR (enterA a w) (.inRangeFunc (w.heap.size + 1) :: k)) cs
  refine ⟨v, w', g1, .head (step_lone_go (fr' := Frame.enter P f' args .normal) (cs' := b.atR (enterA a w) (.inRangeFunc (w.heap.size + 1) :: k) :: cs) (w' := w1) ?_) (by rw [← hfin]; exact g2)⟩
  rw [hst]; simp [stepG.apply, h1, Frame.atR]
 ·rename_i l f' tmps asg body
  obtain ⟨v, w', g1, g2⟩ := h2 (b.atR (enterA a w) (.inRangeFunc (w.heap.size + 1) :: k)) cs
  refine ⟨v, w', g1, .head (step_lone_go (fr' := Frame.round l f' tmps asg body .normal) (cs' := b.atR (enterA a w) (.inRangeFunc (w.heap.size + 1) :: k) :: cs) (w' := w1) ?_) (by rw [← hfin]; exact g2)⟩
  rw [hst]; simp [stepG.apply, h1, Frame.atR]
theorem rng_end {L : Nat} {r : Loop} (hL : w.heap[L]? = some (.loop r)) (hs : r.state ≠ .busy) :
  step P (lone (b.atR a (.endRangeFunc L :: k)) cs w) = .next (lone (b.atR a ((r.pending.map Item.code).toList ++ k)) cs { w with heap := w.heap.setIfInBounds L (.loop { r with state := .exhausted }) }) := by
 have hrun : (Instr.endLoop L).run P w = .ok r.pending { w with heap := w.heap.setIfInBounds L (.loop { r with state := .exhausted }) } := by
  simp [Instr.endLoop, Instr.getLoop, getObj, setObj, Sem.run, hL, hs]
 exact step_lone_go (by simp [stepG, stepG.exec, Frame.atR, Sem.runT_eq, hrun])
def outOf : Option IC → Option Out
 | none => some .normal
 | some .ret => some .ret
 | some (.exit i) => some (.exit i)
 | _ => none
theorem range_end {s : LoopState} {pend : Option IC} {st' : St} {rs : List OS} (h : (match s with
  | .busy => none
  | _ => match pend with
   | none => some [⟨.normal, st'⟩]
   | some .ret => some [⟨.ret, st'⟩]
   | some (.exit i) => some [⟨.exit i, st'⟩]
   | _ => (none : ND OS)) = some rs) : s ≠ .busy ∧ ∃ o, outOf pend = some o ∧ rs = [⟨o, st'⟩] := by
 cases s with
 | busy => cases h
 | _ =>
  dsimp only at h
  refine ⟨by simp, ?_⟩
  split at h
  ·exact ⟨_, rfl, (Option.some.inj h).symm⟩
  ·exact ⟨_, rfl, (Option.some.inj h).symm⟩
  ·exact ⟨_, rfl, (Option.some.inj h).symm⟩
  ·cases h
theorem jump_arr {pend : Option IC} {q : Option Code} {o : Out} (ho : outOf pend = some o) (hj : JumpRel pend q) {m : Machine} (hm : Steps P m (lone (b.atR a ((q.map Item.code).toList ++ k)) cs w)) : Arr P m b k cs o a w := by
 cases pend with
 | none =>
  cases q with
  | none => cases ho; exact hm
  | some c => exact hj.elim
 | some p =>
  cases q with
  | none => cases p <;> exact hj.elim
  | some c =>
   cases p <;> try (cases ho; done)
   ·cases c <;> try exact hj.elim
    have e : _ = _ := hj
    subst e
    cases ho
    exact ⟨k, rfl, hm⟩
   ·cases c <;> try exact hj.elim
    cases ho
    exact ⟨k, hm⟩
theorem range_sound {e : Env} {n0 : Nat} (ce : CodeEnv P N e b cs n0) : RangeOK P N e b cs n0 nt := by
 intro f ps asg body g qs x y ι ro st a w k outs hok sr hn hev
 simp only [okC, Bool.and_eq_true, beq_iff_eq, List.all_eq_true, Nat.blt_eq] at hok
 obtain ⟨⟨⟨⟨o1, o2⟩, o3⟩, o4⟩, o5⟩ := hok
 unfold evRange at hev
 cases hr : st.round with
 | true => simp [hr] at hev
 | false =>
  simp only [hr, cond] at hev
  have hb : b.roundOf = none := by have := sr.round; rw [hr] at this; cases hbb : b.roundOf <;> simp [hbb] at this ⊢
  obtain ⟨ms, hm, hall⟩ := ND.of_bind hev
  let wd : Plc := ⟨w.heap.size, 0, 0, 0⟩
  let wl : Plc := ⟨w.heap.size + 1, 0, 0, 0⟩
  let w1 : World := { w with heap := w.heap.push (.deferred (some [])) }
  have e1 := ext_new sr.hr wd
  have hh1 : HR N (CRel P N) (fun j => if j = st.h.n then some wd else ι j) ro (st.h.push .dfr) w1 :=
   sr.hr.put_new (wn := wd) (o := .dfr) (c := .deferred (some [])) (sr.hr.fresh _ (Nat.le_refl _)) (by simp) (by simp) (fun j => by rw [Heap.get_push]) rfl (Grown.alloc w _).old (Grown.alloc w _).new rfl
  have e2 := ext_new hh1 wl
  let lo : Loop := { state := .ready, pending := none, fn := b.fn, tmps := a.tmps, params := qs, assign := x, body := y, defers := w.heap.size }
  have hh2 := hh1.put_new (wn := wl) (o := .loop .ready none st.tm ps asg body) (c := .loop lo) (h' := (st.h.push .dfr).push (.loop .ready none st.tm ps asg body)) (w' := enterW b a qs x y w) (hh1.fresh _ (Nat.le_refl _)) (by simp) (by simp) (fun j => by rw [Heap.get_push]) (by simp [wl, w1]) (by
    intro b' hb'; simp only [enterW, w1] at hb' ⊢; rw [Array.getElem?_push, if_neg (by omega)]) (by show ((w.heap.push _).push _)[w.heap.size + 1]? = _; rw [Array.getElem?_push, if_pos (by simp)]) ⟨lo, rfl, rfl, trivial, (sr.tm.mono e1.old e1.ro).mono e2.old e2.ro, o2, nt, sr.sz, o3, o4, o5⟩
  have hf := (VR.mono e2.old e2.ro _ _ (VR.mono e1.old e1.ro _ _ (okO_VR sr.tm o1)))
  have hargs : VRs N (fun j => if j = (st.h.push .dfr).n then some wl else if j = st.h.n then some wd else ι j) ro [.yld (st.h.push .dfr).n] (#[Value.func (.yield (w.heap.size + 1)) #[] #[]] : Array Value).toList :=
   VRs.cons (by simp only [VR]; exact ⟨wl, by simp, rfl⟩) VRs.nil
  have hinv := ce.call _ _ _ _ _ _ _ #[Value.func (.yield (w.heap.size + 1)) #[] #[]] ms (by have := ce.lim; simp; omega) hh2 hf hargs hm
  obtain ⟨v, w', ⟨r, hrm, ι', ro', hG, hh', _⟩, hst⟩ := rng_enter (k := k) (cs := cs) hb hinv
  obtain ⟨rs, hrs, hsub⟩ := hall r hrm
  split at hrs
  ·rename_i s pend tm' ps' asg' body' hgl
   have hl' : ι' (st.h.push .dfr).n = some wl := hG.ext.old _ _ (by simp)
   have hd' : ι' st.h.n = some wd := hG.ext.old _ _ (by simp)
   obtain ⟨_, wn, hwn, c, hc, hO⟩ := hh'.live _ _ hgl
   rw [hl'] at hwn; cases hwn
   obtain ⟨lo', rfl, hs1, hj, ht1, hp1, hx1⟩ := hO
   have hold : ∀ j u, ι j = some u → ι' j = some u := fun j u hj => hG.ext.old _ _ (e2.old _ _ (e1.old _ _ hj))
   have hroo : ∀ b c, ro b = some c → ro' b = some c := hG.ext.ro
   have fin : ∀ (o : Out), s ≠ .busy → rs = [⟨o, ⟨st.tm, r.h.set (st.h.push .dfr).n (.loop .exhausted pend tm' ps' asg' body'), .mark st.h.n :: st.defs, false⟩⟩] →
     (∀ (m : Machine) a w, Steps P m (lone (b.atR a ((lo'.pending.map Item.code).toList ++ k)) cs w) → Arr P m b k cs o a w) →
     CodeTo P N nt n0 e.lim ι ro st b w outs (lone (b.atR a (.code (.rangeFunc g qs x y) :: k)) cs w) k cs := by
    intro o hsb hrs harr
    subst hrs
    have hend := rng_end (P := P) (b := b) (a := enterA a w) (k := k) (cs := cs) hc (by rw [hs1]; exact hsb)
    refine ⟨_, hsub _ (List.mem_singleton.2 rfl), ι', ro', enterA a w, _, ?_, ?_, harr _ _ _ (hst.trans (.one hend))⟩
    ·refine ⟨⟨fun j hj => ?_, hold, hroo⟩, ⟨hG.env.os, hG.env.output, hG.env.tape, ?_⟩, ?_, fun j hj => ?_⟩
     ·rw [hG.ext.inj j (by simp; omega)]
      exact (if_neg (by simp; omega)).trans (if_neg (by omega))
     ·have := hG.env.size
      simp only [enterW, Array.size_push] at this
      simp only [Array.size_setIfInBounds]; omega
     ·have := hG.n
      simp only [Heap.n_push, Heap.n_set] at this ⊢; omega
     ·have := ce.lim
      show (r.h.set _ _).get j = _
      rw [Heap.get_set, if_neg (by simp; omega), hG.low j hj, Heap.get_push, if_neg (by simp; omega), Heap.get_push, if_neg (by omega)]
    ·refine ⟨?_, sr.tm.mono hold hroo, sr.sz, by rw [hb]; rfl, .cons ⟨wd, hd', rfl⟩ (sr.defs.mono fun _ _ h => h.mono hold hroo)⟩
     exact hh'.set_obj hgl hl' ⟨_, rfl, rfl, hj, ht1, hp1, hx1⟩
   obtain ⟨hsb, o, ho, hrs'⟩ := range_end hrs
   exact fin o hsb hrs' fun m a w hm => jump_arr ho hj hm
  ·cases hrs
end Go.Abs
namespace Go.Abs
open Go
variable {N : Num} {ι ι' ι'' : Inj} {ro ro' ro'' : RO} {P : Program} {h h' h'' : Heap} {w w' w'' : World} {nt : Nat} {st st' g : St} {b : Frame} {a : Act} {k : List Item} {cs : List Frame} {ops : Array Oper}
theorem zipPut_VR : ∀ (ps : List Nat) (args : List V) (xs : List Value) (tm : Tm) (t : Array Value), VRtm N ι ro tm t → VRs N ι ro args xs → (∀ p ∈ ps, p < t.size) →
  VRtm N ι ro (zipPut tm ps args) ((ps.zip xs).foldl (fun t (q : Nat × Value) => t.setIfInBounds q.1 q.2) t) ∧ ((ps.zip xs).foldl (fun t (q : Nat × Value) => t.setIfInBounds q.1 q.2) t).size = t.size
 | [], args, xs, tm, t, h, _, _ => ⟨h, rfl⟩
 | p :: ps, [], xs, tm, t, h, hx, _ => by rw [VRs.nil_inv hx]; exact ⟨h, rfl⟩
 | p :: ps, v :: args, xs, tm, t, h, hx, hp => by
  obtain ⟨x, r, rfl, h1, h2⟩ := VRs.cons_inv hx
  simp only [zipPut, List.zip_cons_cons, List.foldl_cons]
  obtain ⟨k1, k2⟩ := zipPut_VR ps args r _ (t.setIfInBounds p x) (h.set (hp p (by simp)) h1) h2 (fun q hq => by simpa using hp q (by simp [hq]))
  exact ⟨k1, by simpa using k2⟩
theorem yield_run {L : Nat} {r : Loop} (hL : w.heap[L]? = some (.loop r)) {xs : Array Value} (hn : xs.size = r.params.size) :
  (invokeOf (.func (.yield L) #[] #[]) xs).run P w = .ok (.round L r.fn ((r.params.zip xs).foldl (fun t (q : Nat × Value) => t.setIfInBounds q.1 q.2) r.tmps) r.assign r.body) w := by
 simp [invokeOf, Deferred.ofValue, invoke, Instr.yield, Instr.getLoop, getObj, Sem.run, hL, hn]
theorem begin_run {L : Nat} {r : Loop} (hL : w.heap[L]? = some (.loop r)) (hs : r.state = .ready) : (Instr.beginRound L).run P w = .ok () { w with heap := w.heap.setIfInBounds L (.loop { r with state := .busy }) } := by
 simp [Instr.beginRound, Instr.getLoop, getObj, setObj, Sem.run, hL, hs]
theorem end_run {L : Nat} {r : Loop} (hL : w.heap[L]? = some (.loop r)) (jump : Option Code) : (Instr.endRound L jump).run P w = .ok (.bool jump.isNone) { w with heap := w.heap.setIfInBounds L (.loop { r with state := if jump.isNone then .ready else .done, pending := jump }) } := by
 simp [Instr.endRound, Instr.getLoop, getObj, setObj, Sem.run, hL]
theorem round_sound (hN : ∀ t u, N.t t = N.t u → t = u) {AP : Prog} {callF : V → List V → Heap → ND VH} {mk fu : Nat} (hcall : CallOK P N (CRel P N) callF mk) (hmeth : MethOK P N AP.meth) (hmixed : P.follows .mixedOrders = true)
  {l : Nat} {args : List V} {xs : Array Value} {outs : List VH} (hlim : mk ≤ h.n) (hh : HR N (CRel P N) ι ro h w) {wn : Plc} (hw : ι l = some wn) (hargs : VRs N ι ro args xs.toList) (hev : runRound AP callF fu mk l args h = some outs) :
  Invokes P (.func (.yield wn.blk) #[] #[]) xs w fun v w' => ∃ r ∈ outs, ∃ ι' ro', Grow h.n mk ι ro h w ι' ro' r.h w' ∧ HR N (CRel P N) ι' ro' r.h w' ∧ VR N ι' ro' r.v v := by
 unfold runRound at hev
 split at hev
 ·rename_i s pend tm ps asg body hg
  obtain ⟨hb, hev⟩ := cond_some hev
  simp only [Bool.and_eq_true, Nat.ble_eq, Nat.beq_eq] at hb
  obtain ⟨hmk, hlen⟩ := hb
  obtain ⟨hln, wn', hw', c, hc, lo, rfl, hs, hj, htm, hps, nt, hnt, hasg, hbody, hpn⟩ := hh.live _ _ hg
  rw [hw] at hw'; cases hw'
  have hxs : xs.size = lo.params.size := by
   have h1 := hargs.length
   have h2 : lo.params.toList.length = ps.length := by rw [hps]
   simp at h1 h2; omega
  refine ⟨_, w, yield_run hc hxs, ?_⟩
  intro cf cs
  let b : Frame := { (default : Frame) with fn := lo.fn, kind := .normal, roundOf := some wn.blk }
  obtain ⟨ht1, ht2⟩ := zipPut_VR ps args xs.toList tm lo.tmps htm hargs fun p hp => Nat.lt_of_lt_of_le (hpn p hp) hnt
  have hfold : (lo.params.zip xs).foldl (fun t (q : Nat × Value) => t.setIfInBounds q.1 q.2) lo.tmps = (ps.zip xs.toList).foldl (fun t (q : Nat × Value) => t.setIfInBounds q.1 q.2) lo.tmps := by
   rw [← Array.foldl_toList, Array.toList_zip, hps]
  let a : Act := ⟨(lo.params.zip xs).foldl (fun t (q : Nat × Value) => t.setIfInBounds q.1 q.2) lo.tmps, []⟩
  have hfr : Frame.round wn.blk lo.fn a.tmps lo.assign lo.body .normal = b.atR a [.code lo.assign, .beginRound, .code lo.body] := by
   simp [Frame.round, Frame.atR, b, a]
  have ce : CodeEnv P N ⟨callF, AP.meth, fu, mk⟩ b (cf :: cs) h.n := ⟨hN, hcall, hmeth, hmixed, calm_normal _, hlim⟩
  have sr : SR P N (CRel P N) nt ι ro ⟨zipPut tm ps args, h, [], true⟩ b a w := ⟨hh, by show VRtm N ι ro _ ((lo.params.zip xs).foldl _ lo.tmps); rw [hfold]; exact ht1, by show nt ≤ ((lo.params.zip xs).foldl _ lo.tmps).size; rw [hfold, ht2]; exact hnt, rfl, .nil⟩
  obtain ⟨ms, hm, hall⟩ := ND.of_bind hev
  obtain ⟨r, hr, ι1, ro1, a1, w1, hG1, sr1, harr1⟩ := code_sound ce (range_sound ce) asg lo.assign hasg ι ro _ a w [.beginRound, .code lo.body] ms sr (Nat.le_refl _) hm
  obtain ⟨rs, hrs, hsub⟩ := hall r hr
  rw [hfr]
  obtain ⟨ro1', rs1⟩ := r
  obtain ⟨tm1, h1, defs1, round1⟩ := rs1
  dsimp only at hrs
  split at hrs
  ·rename_i o1 d1 g1 pend1 tm' ps' asg' body' hgl
   dsimp only at harr1
   have hw1 : ι1 l = some wn := hG1.ext.old _ _ hw
   obtain ⟨_, wn1, hwn1, c1, hc1, lo1, rfl, hs1, hj1, ht1', hp1', hx1'⟩ := sr1.hr.live _ _ hgl
   rw [hw1] at hwn1; cases hwn1
   have hdef : a1.defers = [] := by have := sr1.defs; cases hq : a1.defers with
    | nil => rfl
    | cons x y => rw [hq] at this; cases this
   have hbegin := stepR_beginRound (P := P) (b := b) (a := a1) (k := [.code lo.body]) (cs := cf :: cs) (w := w1) rfl (begin_run hc1 hs1)
   have hh2 := sr1.hr.set_obj (o' := .loop .busy pend1 tm' ps' asg' body') (c := .loop { lo1 with state := .busy }) hgl hw1 ⟨_, rfl, rfl, hj1, ht1', hp1', hx1'⟩
   have sr2 : SR P N (CRel P N) nt ι1 ro1 ⟨tm1, h1.set l (.loop .busy pend1 tm' ps' asg' body'), [], true⟩ b a1 _ := ⟨hh2, sr1.tm, sr1.sz, rfl, by rw [hdef]; exact .nil⟩
   obtain ⟨ms2, hm2, hall2⟩ := ND.of_bind hrs
   obtain ⟨s2, hs2, ι2, ro2, a2, w2, hG2, sr2', harr2⟩ := code_sound ce (range_sound ce) body lo.body hbody ι1 ro1 _ a1 _ [] ms2 sr2 (by have := hG1.n; exact this) hm2
   obtain ⟨rs2, hrs2, hsub2⟩ := hall2 s2 hs2
   have hw2 : ι2 l = some wn := hG2.ext.old _ _ hw1
   have hsteps : Steps P (lone (b.atR a [.code lo.assign, .beginRound, .code lo.body]) (cf :: cs) w) (lone (b.atR a1 [.code lo.body]) (cf :: cs) { w1 with heap := w1.heap.setIfInBounds wn.blk (.loop { lo1 with state := .busy }) }) := Steps.trans harr1 (.one hbegin)
   obtain ⟨o2, s2⟩ := s2
   obtain ⟨tm2, h2, defs2, round2⟩ := s2
   dsimp only at hrs2 harr2 sr2' hG2
   have fin : ∀ (jump : Option IC) (cj : Option Code) (m : Machine), JumpRel jump cj → endRound l jump h2 = some rs2 → Steps P (lone (b.atR a1 [.code lo.body]) (cf :: cs) { w1 with heap := w1.heap.setIfInBounds wn.blk (.loop { lo1 with state := .busy }) }) m →
     (∀ v w', (Instr.endRound wn.blk cj).run P w2 = .ok v w' → step P m = .next (lone (cf.finish v) cs w')) →
     ∃ v w', (∃ r ∈ outs, ∃ ι' ro', Grow h.n mk ι ro h w ι' ro' r.h w' ∧ HR N (CRel P N) ι' ro' r.h w' ∧ VR N ι' ro' r.v v) ∧ Steps P (lone (b.atR a [.code lo.assign, .beginRound, .code lo.body]) (cf :: cs) w) (lone (cf.finish v) cs w') := by
    intro jump cj m hjr hend hm hst
    unfold endRound at hend
    split at hend
    ·rename_i s3 p3 tm3 ps3 asg3 body3 hg3
     cases hend
     obtain ⟨_, wn3, hwn3, c3, hc3, lo3, rfl, hs3, hj3, ht3, hp3, hx3⟩ := sr2'.hr.live _ _ hg3
     rw [hw2] at hwn3; cases hwn3
     have hb3 : cj.isNone = jump.isNone := by cases jump <;> cases cj <;> first | rfl | exact hjr.elim | (rename_i q; cases q <;> exact hjr.elim)
     refine ⟨_, _, ⟨_, hsub _ (hsub2 _ (List.mem_singleton.2 rfl)), ι2, ro2, ?_, sr2'.hr.set_obj (c := .loop { lo3 with state := if cj.isNone then .ready else .done, pending := cj }) hg3 hw2 ⟨_, rfl, ?_, hjr, ht3, hp3, hx3⟩, ?_⟩, (hsteps.trans hm).trans (.one (hst _ _ (end_run hc3 cj)))⟩
     ·have hG := hG1.trans (⟨Ext.refl _ _ _, ⟨rfl, rfl, rfl, by simp⟩, by simp, fun i hi => by rw [Heap.get_set, if_neg (by omega)]⟩ : Grow h.n mk ι1 ro1 h1 w1 ι1 ro1 (h1.set l (.loop .busy pend1 tm' ps' asg' body')) { w1 with heap := w1.heap.setIfInBounds wn.blk (.loop { lo1 with state := .busy }) })
      have hG := hG.trans hG2
      exact ⟨hG.ext, ⟨hG.env.os, hG.env.output, hG.env.tape, by simpa using hG.env.size⟩, by simpa using hG.n, fun i hi => by rw [Heap.get_set, if_neg (by omega)]; exact hG.low i hi⟩
     ·rw [hb3]; cases jump <;> rfl
     ·rw [hb3]; simp only [VR]
    ·cases hend
   split at hrs2
   ·cases o2 with
    | normal => exact fin none none _ trivial hrs2 harr2 fun v w' hr => stepR_round_end rfl rfl hr
    | ret =>
     obtain ⟨k', hk'⟩ := harr2
     exact fin (some .ret) (some .ret) _ trivial hrs2 hk' fun v w' hr => stepR_round_ret rfl rfl hr
    | exit i =>
     obtain ⟨k', e1, hk'⟩ := harr2
     exact fin (some (.exit i)) (some (.exit i)) _ rfl hrs2 hk' fun v w' hr => stepR_round_exit rfl rfl (by rw [e1]; rfl) hr
   ·cases hrs2
  ·cases hrs
 ·cases hev
end Go.Abs
namespace Go.Abs
open Go
variable {N : Num} {ι ι' ι'' : Inj} {ro ro' ro'' : RO} {P : Program} {h h' h'' : Heap} {w w' w'' : World} {nt : Nat} {st st' g : St} {b : Frame} {a : Act} {k : List Item} {cs : List Frame} {ops : Array Oper}
variable {CR : Nat → IC → Code → Prop}
theorem HR.kill_set (hh : HR N CR ι ro h w) {i : Nat} {o : Obj} {wn : Plc} (hi : h.get i = some o) (hw : ι i = some wn) (c : Go.Obj) : HR N CR ι ro (h.kill i) { w with heap := w.heap.setIfInBounds wn.blk c } := by
 have hk := hh.kill i
 refine ⟨fun j oj hj => ?_, hk.dist, fun b' c' hb => ?_, hk.fresh, fun b' o' hb => ?_⟩
 ·obtain ⟨h1, u, h2, c2, h3, h4⟩ := hk.live j oj hj
  refine ⟨h1, u, h2, c2, ?_, h4⟩
  have hne : u.blk ≠ wn.blk := fun e => by
   rw [Heap.get_kill] at hj
   by_cases ej : j = i
   ·rw [if_pos ej] at hj; cases hj
   ·rw [if_neg ej] at hj; exact ej (hh.dist j i oj o u wn hj hi h2 hw e)
  simp only [Array.getElem?_setIfInBounds]
  rw [if_neg (fun e => hne e.symm)]; exact h3
 ·obtain ⟨⟨e, fz, h1⟩, h2⟩ := hk.rd b' c' hb
  refine ⟨⟨e, fz, ?_⟩, h2⟩
  have hne : wn.blk ≠ b' := (hh.rd b' c' hb).2 i o wn hi hw
  simp only [Array.getElem?_setIfInBounds]
  rw [if_neg hne]; exact h1
 ·refine ⟨?_, (hk.kb b' o' hb).2⟩
  have hne : wn.blk ≠ b' := (hh.kb b' o' hb).2 i o wn hi hw
  simp only [Array.getElem?_setIfInBounds]
  rw [if_neg hne]; exact (hk.kb b' o' hb).1
theorem step_take {fr : Frame} {ds : List Deferred} {blk : Nat} (hm : fr.mode = .returning) (hd : fr.defers = { target := .collected blk, args := #[] } :: ds) (hb : w.heap[blk]? = some (.deferred (some []))) :
  step P (lone fr cs w) = .next (lone { fr with defers := ds } cs { w with heap := w.heap.setIfInBounds blk (.deferred none) }) := by
 have hrun : (Instr.takeDeferred blk).run P w = .ok [] { w with heap := w.heap.setIfInBounds blk (.deferred none) } := by
  simp [Instr.takeDeferred, getObj, setObj, Sem.run, hb]
 exact step_lone_go (by simp [stepG, unwind, hm, hd, Sem.runT_eq, hrun])
theorem step_defer_value {fr : Frame} {d : Deferred} {ds : List Deferred} {fv : Fn} {cap : Array Value} {v : Value} (hm : fr.mode = .returning) (hd : fr.defers = d :: ds) (ht : d.target = .fn fv cap) (hi : (invoke d.target d.args).run P w = .ok (.value v) w') :
  step P (lone fr cs w) = .next (lone { fr with defers := ds } cs w') := by
 obtain ⟨t, a⟩ := d
 simp only at ht hi
 subst ht
 exact step_lone_go (by simp [stepG, unwind, callDeferred, hm, hd, hi])
theorem unwind_sound {callF : V → List V → Heap → ND VH} {mk : Nat} (hcall : DefOK P N CR callF mk) : ∀ (defs : List DefI) (ds : List Deferred) (ι : Inj) (ro : RO) (h : Heap) (w : World) (outs : List Heap), All2 (DefR N ι ro) defs ds → HR N CR ι ro h w → mk ≤ h.n → unwindD callF mk defs h = some outs →
  ∀ (fr : Frame) (cs : List Frame), fr.mode = .returning → fr.defers = ds → ∃ h' ∈ outs, ∃ ι' ro' w', Grow h.n mk ι ro h w ι' ro' h' w' ∧ HR N CR ι' ro' h' w' ∧ Steps P (lone fr cs w) (lone { fr with defers := [] } cs w')
 | [], ds, ι, ro, h, w, outs, hds, hh, hmk, hev, fr, cs, hm, hd => by
  cases hds
  simp only [unwindD, Option.some.injEq] at hev; subst hev
  refine ⟨h, List.mem_singleton.2 rfl, ι, ro, w, Grow.refl, hh, ?_⟩
  have : ({ fr with defers := [] } : Frame) = fr := by cases fr; simp at hd; subst hd; rfl
  rw [this]; exact Steps.refl P _
 | .mark i :: defs, ds, ι, ro, h, w, outs, hds, hh, hmk, hev, fr, cs, hm, hd => by
  cases hds with
  | cons hr hds =>
   rename_i d ds
   obtain ⟨wn, hw, rfl⟩ := hr
   simp only [unwindD] at hev
   split at hev
   ·rename_i hg
    obtain ⟨hmi, hev⟩ := cond_some hev
    rw [Nat.ble_eq] at hmi
    obtain ⟨_, wn', hw', c, hc, hO⟩ := hh.live _ _ hg
    rw [hw] at hw'; cases hw'
    have hc' : c = .deferred (some []) := hO
    subst hc'
    have hst := step_take (P := P) (cs := cs) hm hd hc
    obtain ⟨h', h1, ι', ro', w', hG, hh', hs⟩ := unwind_sound hcall defs ds ι ro (h.kill i) _ outs hds (hh.kill_set hg hw (.deferred none)) hmk hev { fr with defers := ds } cs hm rfl
    refine ⟨h', h1, ι', ro', w', ⟨hG.ext, ⟨hG.env.os, hG.env.output, hG.env.tape, by simpa using hG.env.size⟩, hG.n, fun j hj => ?_⟩, hh', .head hst hs⟩
    rw [hG.low j hj, Heap.get_kill, if_neg (by omega)]
   ·cases hev
 | .call v :: defs, ds, ι, ro, h, w, outs, hds, hh, hmk, hev, fr, cs, hm, hd => by
  cases hds with
  | cons hr hds =>
   rename_i d ds
   obtain ⟨⟨f, fa, fc, rfl⟩, fn, first, cap, hv, rfl⟩ := hr
   simp only [unwindD] at hev
   obtain ⟨ms, hms, hall⟩ := ND.of_bind hev
   have hen := hcall ι ro h w f fa fc _ [] #[] ms hmk hh hv VRs.nil hms
   have key : ∀ (fr' : Frame) v w', Steps P (lone fr cs w) (lone { fr with defers := ds } cs w') → (∃ r ∈ ms, ∃ ι' ro', Grow h.n mk ι ro h w ι' ro' r.h w' ∧ HR N CR ι' ro' r.h w' ∧ VR N ι' ro' r.v v) →
     ∃ h' ∈ outs, ∃ ι' ro' w', Grow h.n mk ι ro h w ι' ro' h' w' ∧ HR N CR ι' ro' h' w' ∧ Steps P (lone fr cs w) (lone { fr with defers := [] } cs w') := by
    intro _ v w' hst hR
    obtain ⟨r, hr, ι', ro', hG, hh', _⟩ := hR
    obtain ⟨rs, hrs, hsub⟩ := hall r hr
    obtain ⟨h', h1, ι2, ro2, w2, hG2, hh2, hs2⟩ := unwind_sound hcall defs ds ι' ro' r.h w' rs (hds.mono fun _ _ h => h.mono hG.ext.old hG.ext.ro) hh' (Nat.le_trans hmk hG.n) hrs { fr with defers := ds } cs hm rfl
    exact ⟨h', hsub _ h1, ι2, ro2, w2, hG.trans (hG2.less hG.n (Nat.le_refl _)), hh2, hst.trans hs2⟩
   rcases hen with ⟨f', args', h1, h2⟩ | ⟨v, w1, h1, h2⟩
   ·have hi : (invoke (.fn fn cap) (first ++ #[])).run P w = .ok (.enter f' args') w := by simpa [invokeOf, Deferred.ofValue] using h1
    have hst := step_defer (P := P) (cs := cs) (fr := fr) (by rw [hm]; simp) hd rfl hi
    obtain ⟨v, w', fr', g1, g2, g3, g4, g5, g6, fnn, g7, g8⟩ := h2 .deferred ({ fr with defers := ds } :: cs) (fun q hq => by unfold tryRecover; rw [hq]; simp [hm])
    have hret := step_going_returned (P := P) (c := { fr with defers := ds }) (cs := cs) (w := w') (v := v) g6 ⟨g4, g5, fnn, by rw [g3]; exact g7, g8⟩
    have hset : ({ { fr with defers := ds } with mode := settle ({ fr with defers := ds } : Frame).mode } : Frame) = { fr with defers := ds } := by
     simp only [hm, settle]
    rw [hset] at hret
    exact key fr v w' (.head hst (g2.trans (.one hret))) g1
   ·have hi : (invoke (.fn fn cap) (first ++ #[])).run P w = .ok (.value v) w1 := by simpa [invokeOf, Deferred.ofValue] using h1
    exact key fr v w1 (.one (step_defer_value hm hd rfl hi)) h2
end Go.Abs
namespace Go.Abs
open Go
variable {N : Num} {ι ι' ι'' : Inj} {ro ro' ro'' : RO} {P : Program} {h h' h'' : Heap} {w w' w'' : World} {nt : Nat} {st st' g : St} {b : Frame} {a : Act} {k : List Item} {cs : List Frame} {ops : Array Oper}
variable {CR : Nat → IC → Code → Prop}
def okRes1 (P : Program) (r : Res) (v : ResultVar) : Bool :=
 match r, v with
 | .tm t, .tmp u => Nat.beq t u
 | .cell n t, .cell u ty => Nat.beq t u && okN P n ty
 | _, _ => false
def okRes (P : Program) : List Res → List ResultVar → Bool
 | [], [] => true
 | r :: l, v :: m => okRes1 P r v && okRes P l m
 | _, _ => false
def resSem (tmps : Array Value) : ResultVar → Sem Value
 | .tmp t => pure (tmps.getD t undef)
 | .cell a t => do loadVar t (← asAddr (tmps.getD a undef))
theorem res_one {tm : Tm} {tmps : Array Value} (htm : VRtm N ι ro tm tmps) (hh : HR N CR ι ro h w) {r : Res} {v : ResultVar} (hok : okRes1 P r v = true) {u : V} (hev : resV tm h r = some u) : ∃ x, (resSem tmps v).run P w = .ok x w ∧ VR N ι ro u x := by
 cases r with
 | tm t =>
  cases v <;> simp only [okRes1, Bool.false_eq_true, Nat.beq_eq] at hok
  subst hok
  simp only [resV, Option.some.injEq] at hev
  subst hev
  exact ⟨_, rfl, htm t⟩
 | cell n t =>
  cases v <;> simp only [okRes1, Bool.false_eq_true, Bool.and_eq_true, Nat.beq_eq] at hok
  obtain ⟨rfl, hn⟩ := hok
  simp only [resV, compR] at hev
  have hx := htm t
  have hevt : (Opd.t t).ev tm = (gK t).run tm := rfl
  rw [hevt] at hev
  cases hxv : (gK t).run tm <;> simp only [hxv, reduceCtorEq] at hev <;> rw [hxv] at hx
  ·rename_i i r o
   simp only [VR] at hx
   obtain ⟨wn, hw, e1⟩ := hx
   split at hev
   ·rename_i rs hg
    split at hev
    ·rename_i row hr
     rw [nthR_eq] at hr
     obtain ⟨wn', c, e, fz, g1, g2, g3, g4, g5, g6⟩ := hh.rows hg
     rw [hw] at g1; cases g1
     obtain ⟨z, hz, hrun⟩ := load_row (ad := wn.base + r * wn.esz) g2 (fun j u hu => g6.2 r row hr j u hu) hev hn
     exact ⟨z, by simp only [resSem, e1, asAddr, Plc.at]; simp [hrun], hz⟩
    ·cases hev
   ·cases hev
  ·rename_i row o
   rw [VR.ptrR_iff] at hx
   obtain ⟨b, ad, c, e1, hro, hc⟩ := hx
   obtain ⟨⟨e, fz, hb⟩, _⟩ := hh.rd b c hro
   obtain ⟨z, hz, hrun⟩ := load_row hb hc hev hn
   exact ⟨z, by simp only [resSem, e1, asAddr]; simp [hrun], hz⟩
theorem res_all {tm : Tm} {tmps : Array Value} (htm : VRtm N ι ro tm tmps) (hh : HR N CR ι ro h w) : ∀ {rs : List Res} {vs : List ResultVar} {us : List V}, okRes P rs vs = true → allM (resV tm h) rs = some us → ∃ xs, (vs.mapM (resSem tmps)).run P w = .ok xs w ∧ VRs N ι ro us xs
 | [], [], us, _, hev => by simp [allM] at hev; subst hev; exact ⟨[], by simp, VRs.nil⟩
 | [], _ :: _, _, h, _ => by simp [okRes] at h
 | _ :: _, [], _, h, _ => by simp [okRes] at h
 | r :: rs, v :: vs, us, hok, hev => by
  simp only [okRes, Bool.and_eq_true] at hok
  simp only [allM] at hev
  split at hev
  ·rename_i u hu
   split at hev
   ·rename_i m hm
    cases hev
    obtain ⟨x, h1, h2⟩ := res_one htm hh hok.1 hu
    obtain ⟨xs, h3, h4⟩ := res_all htm hh hok.2 hm
    exact ⟨x :: xs, by simp [List.mapM_cons, h1, h3], VRs.cons h2 h4⟩
   ·cases hev
  ·cases hev
theorem results_sound {tm : Tm} {tmps : Array Value} (htm : VRtm N ι ro tm tmps) (hh : HR N CR ι ro h w) {fn : Func} {rs : List Res} (hok : okRes P rs fn.results.toList = true) {u : V} (hev : results tm h rs = some u) : ∃ x, (Go.results fn tmps).run P w = .ok x w ∧ VR N ι ro u x := by
 unfold results at hev
 cases hm : allM (resV tm h) rs with
 | none => simp [hm] at hev
 | some us =>
  obtain ⟨xs, h1, h2⟩ := res_all htm hh hok hm
  have hrun : (fn.results.mapM (resSem tmps)).run P w = .ok xs.toArray w := by
   rw [Array.mapM_eq_mapM_toList]; simp [h1]
  have hrun' : (Go.results fn tmps).run P w = .ok (if h : xs.toArray.size = 1 then xs.toArray[0] else .tuple xs.toArray) w := by
   have : Go.results fn tmps = (do let vs ← fn.results.mapM (resSem tmps); pure (if h : vs.size = 1 then vs[0] else .tuple vs)) := rfl
   rw [this, Sem.run_bind, hrun]; rfl
  refine ⟨_, hrun', ?_⟩
  rw [hm] at hev
  have hlen := h2.length
  cases us with
  | nil =>
   simp at hev; subst hev
   rw [dif_neg (by simp at hlen ⊢; omega)]
   simp only [VR]; exact ⟨_, rfl, h2⟩
  | cons u1 us =>
   cases us with
   | nil =>
    simp at hev; subst hev
    obtain ⟨x, r, rfl, k1, k2⟩ := VRs.cons_inv h2
    rw [VRs.nil_inv k2] at hlen ⊢
    simpa using k1
   | cons u2 us =>
    simp at hev; subst hev
    rw [dif_neg (by simp at hlen ⊢; omega)]
    simp only [VR]; exact ⟨_, rfl, h2⟩
theorem fn_sound (hN : ∀ t u, N.t t = N.t u → t = u) {AP : Prog} {callF : V → List V → Heap → ND VH} {mk fu : Nat} (hcall : CallOK P N (CRel P N) callF mk) (hdef : DefOK P N (CRel P N) (noPrim AP callF) mk) (hmeth : MethOK P N AP.meth) (hmixed : P.follows .mixedOrders = true)
  {id : FuncId} {F : IFn} {fn : Func} {c : Code} (hf : P.funcs[id]? = some fn) (hb : fn.body = some c) (hnt : fn.ntmps = F.nt) (hc : okC P N F.nt F.body c = true) (hres : okRes P F.res fn.results.toList = true)
  {args : List V} {xs : Array Value} {outs : List VH} (hlim : mk ≤ h.n) (hh : HR N (CRel P N) ι ro h w) (hargs : VRs N ι ro args xs.toList) (hev : runFn AP callF fu mk F args h = some outs) :
  RunsTo P id xs w fun v w' => ∃ r ∈ outs, ∃ ι' ro', Grow h.n mk ι ro h w ι' ro' r.h w' ∧ HR N (CRel P N) ι' ro' r.h w' ∧ VR N ι' ro' r.v v := by
 unfold runFn at hev
 obtain ⟨hle, hev⟩ := cond_some hev
 rw [Nat.ble_eq] at hle
 intro kind cs hcalm
 let b : Frame := { fn := id, tmps := #[], todo := [], defers := [], mode := .run, kind := kind }
 let a : Act := ⟨xs ++ Array.replicate (F.nt - xs.size) undef, []⟩
 have hsz : xs.size = args.length := by have := hargs.length; simp at this; omega
 have hfr : Frame.enter P id xs kind = b.atR a [.code c] := by simp [Frame.enter, Frame.atR, hf, hb, hnt, b, a]
 have ce : CodeEnv P N ⟨callF, AP.meth, fu, mk⟩ b cs h.n := ⟨hN, hcall, hmeth, hmixed, hcalm, hlim⟩
 have sr : SR P N (CRel P N) F.nt ι ro ⟨Tm.ofL 0 args .e, h, [], false⟩ b a w := ⟨hh, by
  have := VRtm.init hargs (F.nt - xs.size)
  simpa [a] using this, by simp [a]; omega, rfl, .nil⟩
 obtain ⟨ms, hm, hall⟩ := ND.of_bind hev
 obtain ⟨r, hr, ι1, ro1, a1, w1, hG1, sr1, harr1⟩ := code_sound ce (range_sound ce) F.body c hc ι ro _ a w [] ms sr (Nat.le_refl _) hm
 obtain ⟨rs, hrs, hsub⟩ := hall r hr
 obtain ⟨o1, s1⟩ := r
 obtain ⟨tm1, h1, defs1, round1⟩ := s1
 have fin : ∀ todo, Steps P (lone (b.atR a [.code c]) cs w) (lone { b.atR a1 todo with mode := .returning } cs w1) → ND.bind (unwindD (noPrim AP callF) mk defs1 h1) (fun h' => match results tm1 h' F.res with | some v => some [⟨v, h'⟩] | none => none) = some rs →
   ∃ v w' fr, (∃ r ∈ outs, ∃ ι' ro', Grow h.n mk ι ro h w ι' ro' r.h w' ∧ HR N (CRel P N) ι' ro' r.h w' ∧ VR N ι' ro' r.v v) ∧ Steps P (lone (Frame.enter P id xs kind) cs w) (lone fr cs w') ∧ fr.fn = id ∧ fr.mode = .returning ∧ fr.defers = [] ∧ fr.kind = kind ∧
    ∃ fn, P.funcs[id]? = some fn ∧ (Go.results fn fr.tmps).run P w' = .ok v w' := by
  intro todo hst hun
  obtain ⟨hs, hu, hall2⟩ := ND.of_bind hun
  obtain ⟨h', hh1, ι2, ro2, w2, hG2, hh2, hst2⟩ := unwind_sound hdef defs1 a1.defers ι1 ro1 h1 w1 hs sr1.defs sr1.hr (Nat.le_trans hlim hG1.n) hu { b.atR a1 todo with mode := .returning } cs rfl rfl
  obtain ⟨rs2, hrs2, hsub2⟩ := hall2 h' hh1
  split at hrs2
  ·rename_i v hv
   cases hrs2
   obtain ⟨x, hx1, hx2⟩ := results_sound (P := P) (sr1.tm.mono hG2.ext.old hG2.ext.ro) hh2 hres hv
   refine ⟨x, w2, _, ⟨_, hsub _ (hsub2 _ (List.mem_singleton.2 rfl)), ι2, ro2, hG1.trans (hG2.less hG1.n (Nat.le_refl _)), hh2, hx2⟩, by rw [hfr]; exact hst.trans hst2, rfl, rfl, rfl, rfl, fn, hf, hx1⟩
  ·cases hrs2
 cases o1 with
 | normal => exact fin [] (Steps.trans harr1 (.one (stepR_end rfl))) hrs
 | ret =>
  obtain ⟨k', hk'⟩ := harr1
  exact fin _ (hk'.trans (.one (stepR_ret rfl))) hrs
 | exit i => cases hrs
end Go.Abs
namespace Go.Abs
open Go
variable {N : Num} {ι ι' ι'' : Inj} {ro ro' ro'' : RO} {P : Program} {h h' h'' : Heap} {w w' w'' : World}
mutual
theorem VR.back (hi : ∀ i w, ι i = some w → ι' i = some w) : ∀ (v : V) (x0 x : Value), VR N ι ro v x0 → VR N ι' ro' v x → VR N ι ro' v x
 | .any, _, _, _, _ => by simp [VR]
 | .bool _, _, _, _, h => by simpa only [VR] using h
 | .int _ _, _, _, _, h => by simpa only [VR] using h
 | .str _, _, _, _, h => by simpa only [VR] using h
 | .nilp, _, _, _, h => by simpa only [VR] using h
 | .ptr _ _ _, _, _, h0, h => by
  simp only [VR] at h0 h ⊢
  obtain ⟨w0, k0, _⟩ := h0
  obtain ⟨w1, k1, k2⟩ := h
  rw [hi _ _ k0] at k1; cases k1
  exact ⟨w0, k0, k2⟩
 | .ptrR row _, _, _, h0, h => by
  simp only [VR] at h0 h ⊢
  obtain ⟨_, _, _, _, _, cr0, g0, _⟩ := h0
  obtain ⟨b, a, c, h1, h2, cr, h3, h4⟩ := h
  exact ⟨b, a, c, h1, h2, cr, VRs.back hi row cr0 cr g0 h3, h4⟩
 | .nils, _, _, _, h => by simpa only [VR] using h
 | .sl _ _ _ _ _, _, _, h0, h => by
  simp only [VR] at h0 h ⊢
  obtain ⟨w0, k0, _⟩ := h0
  obtain ⟨w1, k1, k2⟩ := h
  rw [hi _ _ k0] at k1; cases k1
  exact ⟨w0, k0, k2⟩
 | .slR rows _, _, _, h0, h => by
  simp only [VR] at h0 h ⊢
  obtain ⟨_, _, _, _, _, g4⟩ := h0
  obtain ⟨a, cap, h1, h2, h3, h4⟩ := h
  refine ⟨a, cap, h1, h2, h3, ?_⟩
  rcases g4 with g4 | ⟨_, _, _, cr0, _, g6, _⟩
  ·exact .inl g4
  ·rcases h4 with h4 | ⟨h4, c, esz, cr, h5, h6, h7⟩
   ·exact .inl h4
   ·exact .inr ⟨h4, c, esz, cr, h5, VRrs.back hi rows cr0 cr g6 h6, h7⟩
 | .nilm, _, _, _, h => by simpa only [VR] using h
 | .map _, _, _, h0, h => by
  simp only [VR] at h0 h ⊢
  obtain ⟨w0, k0, _⟩ := h0
  obtain ⟨w1, k1, k2⟩ := h
  rw [hi _ _ k0] at k1; cases k1
  exact ⟨w0, k0, k2⟩
 | .fn _ a b, _, _, h0, h => by
  simp only [VR] at h0 h ⊢
  obtain ⟨a0, b0, _, g1, g2⟩ := h0
  obtain ⟨a', b', e, h1, h2⟩ := h
  exact ⟨a', b', e, VRs.back hi a _ _ g1 h1, VRs.back hi b _ _ g2 h2⟩
 | .yld _, _, _, h0, h => by
  simp only [VR] at h0 h ⊢
  obtain ⟨w0, k0, _⟩ := h0
  obtain ⟨w1, k1, k2⟩ := h
  rw [hi _ _ k0] at k1; cases k1
  exact ⟨w0, k0, k2⟩
 | .nilf, _, _, _, h => by simpa only [VR] using h
 | .iface _ v, _, _, h0, h => by
  simp only [VR] at h0 h ⊢
  obtain ⟨x0, _, g⟩ := h0
  obtain ⟨x, e, k⟩ := h
  exact ⟨x, e, VR.back hi v _ _ g k⟩
 | .nili, _, _, _, h => by simpa only [VR] using h
 | .agg cs, _, _, h0, h => by
  simp only [VR] at h0 h ⊢
  obtain ⟨x0, _, g⟩ := h0
  obtain ⟨x, e, k⟩ := h
  exact ⟨x, e, VRs.back hi cs _ _ g k⟩
 | .tup cs, _, _, h0, h => by
  simp only [VR] at h0 h ⊢
  obtain ⟨x0, _, g⟩ := h0
  obtain ⟨x, e, k⟩ := h
  exact ⟨x, e, VRs.back hi cs _ _ g k⟩
theorem VRs.back (hi : ∀ i w, ι i = some w → ι' i = some w) : ∀ (l : List V) (x0 x : List Value), VRs N ι ro l x0 → VRs N ι' ro' l x → VRs N ι ro' l x
 | [], _, _, _, h => by rw [VRs.nil_inv h]; exact VRs.nil
 | v :: l, _, _, h0, h => by
  obtain ⟨y0, r0, rfl, g1, g2⟩ := VRs.cons_inv h0
  obtain ⟨y, r, rfl, h1, h2⟩ := VRs.cons_inv h
  exact VRs.cons (VR.back hi v _ _ g1 h1) (VRs.back hi l _ _ g2 h2)
theorem VRrs.back (hi : ∀ i w, ι i = some w → ι' i = some w) : ∀ (l : List (List V)) (x0 x : List (List Value)), VRrs N ι ro l x0 → VRrs N ι' ro' l x → VRrs N ι ro' l x
 | [], _, _, _, h => by simpa only [VRrs] using h
 | v :: l, _, _, h0, h => by
  simp only [VRrs] at h0 h ⊢
  obtain ⟨y0, r0, rfl, g1, g2⟩ := h0
  obtain ⟨y, r, rfl, h1, h2⟩ := h
  exact ⟨y, r, rfl, VRs.back hi v _ _ g1 h1, VRrs.back hi l _ _ g2 h2⟩
end
theorem All2.back {es : List (Nat × V × V)} {m0 : List MapEntry} (hi : ∀ i w, ι i = some w → ι' i = some w) (h0 : All2 (EntRel N ι ro) es m0) : ∀ {m : List MapEntry}, All2 (EntRel N ι' ro') es m → All2 (EntRel N ι ro') es m := by
 induction h0 with
 | nil => intro m h; cases h; exact .nil
 | cons h k ih =>
  intro m hm
  cases hm with
  | cons h1 k1 => exact .cons ⟨h1.1, VR.back hi _ _ _ h.2.1 h1.2.1, VR.back hi _ _ _ h.2.2 h1.2.2⟩ (ih k1)
variable {CR : Nat → IC → Code → Prop}
theorem ORel.back (hi : ∀ i w, ι i = some w → ι' i = some w) {o : Obj} {wn : Plc} {c0 c : Go.Obj} (h0 : ORel N CR ι ro o wn c0) (h : ORel N CR ι' ro' o wn c) : ORel N CR ι ro' o wn c := by
 cases o with
 | rows rs =>
  obtain ⟨a0, _, _, _, _, _, _, g⟩ := h0
  obtain ⟨a, b, f, h1, h2, h3, h4, h5⟩ := h
  refine ⟨a, b, f, h1, h2, h3, h4, h5.1, fun i r hr j v hv => ?_⟩
  obtain ⟨x0, _, k0⟩ := g.2 i r hr j v hv
  obtain ⟨x, hx, k⟩ := h5.2 i r hr j v hv
  exact ⟨x, hx, VR.back hi _ _ _ k0 k⟩
 | map es clock =>
  obtain ⟨m0, _, g⟩ := h0
  obtain ⟨m, h1, h2⟩ := h
  exact ⟨m, h1, All2.back hi g h2⟩
 | strIter s p => exact h
 | mapIter m a b d =>
  obtain ⟨_, w0, g, _⟩ := h0
  obtain ⟨hb, w1, h1, h2⟩ := h
  rw [hi _ _ g] at h1; cases h1
  exact ⟨hb, w0, g, h2⟩
 | loop st pend tm ps asg body =>
  obtain ⟨l0, _, _, _, g, _⟩ := h0
  obtain ⟨l, h1, h2, h3, h4, h5⟩ := h
  exact ⟨l, h1, h2, h3, fun i => VR.back hi _ _ _ (g i) (h4 i), h5⟩
 | dfr => exact h
theorem HR.back {h0 : Heap} {w0 : World} (hh0 : HR N CR ι ro h0 w0) (hh : HR N CR ι' ro' h w) (hG : Grow h0.n h0.n ι ro h0 w0 ι' ro' h w) : HR N CR ι (roAll h0.n h ι' ro' w) h0 w := by
 have key : ∀ i o, h0.get i = some o → i < h0.n ∧ h.get i = some o ∧ ∀ u, ι i = some u → ι' i = some u := fun i o hi => by
  have := (hh0.live i o hi).1
  exact ⟨this, by rw [hG.low i this]; exact hi, fun u => hG.ext.old i u⟩
 refine ⟨fun i o hi => ?_, hh0.dist, fun b c hb => ?_, hh0.fresh, fun b o hb => ⟨(hh.kb b o hb).1, fun j oj u hj hu => ?_⟩⟩
 ·obtain ⟨k1, k2, k3⟩ := key i o hi
  obtain ⟨_, wn, hw, c0, hc0, hO0⟩ := hh0.live i o hi
  obtain ⟨_, wn', hw', c, hc, hO⟩ := hh.live i o k2
  rw [k3 _ hw] at hw'; cases hw'
  exact ⟨k1, wn, hw, c, hc, (ORel.back hG.ext.old hO0 hO).mono (fun _ _ h => h) fun _ _ h => roAll_ext h⟩
 ·rcases roAll_inv hb with hb | ⟨hc, i, wn, hmi, hlive, hw, rfl⟩
  ·obtain ⟨hc, hn⟩ := hh.rd b c hb
   refine ⟨hc, fun j oj u hj hu => ?_⟩
   obtain ⟨_, k2, k3⟩ := key j oj hj
   exact hn j oj u k2 (k3 u hu)
  ·obtain ⟨e, fz, hcell⟩ := hc
   refine ⟨⟨e, fz, hcell⟩, fun j oj u hj hu e' => ?_⟩
   obtain ⟨k1, k2, k3⟩ := key j oj hj
   obtain ⟨o, ho⟩ := Option.isSome_iff_exists.1 hlive
   have := hh.dist j i oj o u wn k2 ho (k3 u hu) hw e'
   omega
 ·obtain ⟨_, k2, k3⟩ := key j oj hj
  exact (hh.kb b o hb).2 j oj u k2 (k3 u hu)
theorem dedupB_mem {h0 : Heap} {l : List V} {outs : List VH} (hd : dedup h0 (some l) = some outs) {v : V} (hv : v ∈ l) : (⟨v, h0⟩ : VH) ∈ outs := by
 cases l with
 | nil => cases hv
 | cons x r =>
  cases r with
  | nil =>
   simp only [dedup, Option.some.injEq] at hd; subst hd
   rw [List.mem_singleton] at hv; subst hv; simp
  | cons y r =>
   simp only [dedup] at hd
   cases ha : (y :: r).all (V.beq x) <;> simp only [ha, cond, Option.some.injEq] at hd <;> subst hd
   ·exact List.mem_map_of_mem hv
   ·rcases List.mem_cons.1 hv with rfl | hv
    ·simp
    ·have := V.beq_eq _ _ (List.all_eq_true.1 ha v hv)
     rw [← this]; simp
theorem pure_sound {mk : Nat} {h0 : Heap} {m : ND VH} {outs : List VH} (hev : pureRun h0.n h0 m = some outs) (hmk : mk ≤ h0.n) (hh0 : HR N CR ι ro h0 w) {ms : List VH} (hm : m = some ms) {x : Value}
  (hR : ∃ r ∈ ms, ∃ ι' ro', Grow h0.n h0.n ι ro h0 w ι' ro' r.h w' ∧ HR N CR ι' ro' r.h w' ∧ VR N ι' ro' r.v x) :
  ∃ r ∈ outs, ∃ ι' ro', Grow h0.n mk ι ro h0 w ι' ro' r.h w' ∧ HR N CR ι' ro' r.h w' ∧ VR N ι' ro' r.v x := by
 obtain ⟨r, hr, ι', ro', hG, hh, hv⟩ := hR
 unfold pureRun at hev
 generalize hb : ND.bind m _ = q at hev
 cases q with
 | none => cases hev
 | some l =>
  obtain ⟨ms', hm', hall⟩ := ND.of_bind hb
  rw [hm] at hm'; cases hm'
  obtain ⟨rs, hrs, hsub⟩ := hall r hr
  split at hrs
  ·rename_i v hf
   cases hrs
   refine ⟨⟨v, h0⟩, dedupB_mem hev (hsub v (by simp)), ι, roAll h0.n r.h ι' ro' w', ⟨⟨fun _ _ => rfl, fun _ _ h => h, fun b c hb => roAll_ext (hG.ext.ro b c hb)⟩, hG.env, Nat.le_refl _, fun _ _ => rfl⟩, HR.back hh0 hh hG, VR.none (freeze_sound hh _ _ _ _ hf hv)⟩
  ·cases hrs
end Go.Abs
namespace Go.Abs
open Go
variable {N : Num} {ι ι' ι'' : Inj} {ro ro' ro'' : RO} {P : Program} {h h' h'' : Heap} {w w' w'' : World}
def PrimOK (P : Program) (N : Num) (f : Nat) (p : Nat → List V → Heap → ND VH) : Prop :=
 ∀ mk ι ro h w args (xs : Array Value) outs, mk ≤ h.n → HR N (CRel P N) ι ro h w → VRs N ι ro args xs.toList → p mk args h = some outs →
  ∃ nx w1, (callFunc (N.f f) xs).run P w = .ok nx w1 ∧ NextOK P w1 (fun v w' => ∃ r ∈ outs, ∃ ι' ro', Grow h.n mk ι ro h w ι' ro' r.h w' ∧ HR N (CRel P N) ι' ro' r.h w' ∧ VR N ι' ro' r.v v) nx
structure Link (P : Program) (N : Num) (AP : Prog) : Prop where
 hN : ∀ t u, N.t t = N.t u → t = u
 mixed : P.follows .mixedOrders = true
 meth : MethOK P N AP.meth
 fn : ∀ f F, AP.prim f = none → AP.fn f = some F → ∃ fn c, P.funcs[N.f f]? = some fn ∧ fn.body = some c ∧ fn.ntmps = F.nt ∧ (fn.name == "runtime.NumGoroutine") = false ∧ okC P N F.nt F.body c = true ∧ okRes P F.res fn.results.toList = true
 prim : ∀ f p, AP.prim f = some p → PrimOK P N f p
theorem invoke_fn {f : Nat} {a' b' xs : Array Value} (w : World) : (invokeOf (.func (.func (N.f f)) a' b') xs).run P w = (callFunc (N.f f) (a' ++ xs ++ b')).run P w := by simp [invokeOf, Deferred.ofValue, invoke]
theorem evCall_sound {AP : Prog} (L : Link P N AP) : ∀ n mk, CallOK P N (CRel P N) (evCall AP n mk) mk ∧ DefOK P N (CRel P N) (noPrim AP (evCall AP n mk)) mk
 | 0, mk => ⟨fun ι ro h w fv fx args xs outs _ _ _ _ hev => by simp [evCall] at hev, fun ι ro h w f fa fc fx args xs outs _ _ _ _ hev => by
   simp only [noPrim, evCall] at hev
   split at hev <;> cases hev⟩
 | n + 1, mk => by
  have hdef : DefOK P N (CRel P N) (noPrim AP (evCall AP (n + 1) mk)) mk := by
   intro ι ro h w f fa fc fx args xs outs hlim hh hfx hargs hev
   simp only [VR] at hfx
   obtain ⟨a', b', rfl, ha, hb⟩ := hfx
   have hall : VRs N ι ro (fa ++ args ++ fc) (a' ++ xs ++ b').toList := by
    simp only [Array.toList_append]; exact VRs.append (VRs.append ha hargs) hb
   simp only [noPrim] at hev
   cases hp : AP.prim f with
   | some p => rw [hp] at hev; cases hev
   | none =>
    rw [hp] at hev
    simp only [evCall, hp] at hev
    cases hF : AP.fn f with
    | none => rw [hF] at hev; cases hev
    | some F =>
     rw [hF] at hev
     dsimp only at hev
     obtain ⟨fn, c, g1, g2, g3, g4, g5, g6⟩ := L.fn f F hp hF
     have g4' : fn.name ≠ "runtime.NumGoroutine" := by simpa using g4
     have hent : (callFunc (N.f f) (a' ++ xs ++ b')).run P w = .ok (.enter (N.f f) (a' ++ xs ++ b')) w := by simp [callFunc, g1, g4', g2]
     refine .inl ⟨N.f f, a' ++ xs ++ b', (invoke_fn w).trans hent, ?_⟩
     cases hpure : F.pure with
     | true =>
      rw [hpure] at hev
      simp only [cond] at hev
      obtain ⟨k1, k2⟩ := evCall_sound L n h.n
      cases hm : runFn AP (evCall AP n h.n) n h.n F (fa ++ args ++ fc) h with
      | none => rw [hm] at hev; simp [pureRun, dedup] at hev
      | some ms =>
       exact (fn_sound L.hN k1 k2 L.meth L.mixed g1 g2 g3 g5 g6 (Nat.le_refl _) hh hall hm).mono fun v w' hR => pure_sound hev hlim hh hm hR
     | false =>
      rw [hpure] at hev
      simp only [cond] at hev
      obtain ⟨k1, k2⟩ := evCall_sound L n mk
      exact fn_sound L.hN k1 k2 L.meth L.mixed g1 g2 g3 g5 g6 hlim hh hall hev
  refine ⟨fun ι ro h w fv fx args xs outs hlim hh hfx hargs hev => ?_, hdef⟩
  cases fv with
  | fn f fa fc =>
   cases hp : AP.prim f with
   | some p =>
    simp only [evCall, hp] at hev
    simp only [VR] at hfx
    obtain ⟨a', b', rfl, ha, hb⟩ := hfx
    have hall : VRs N ι ro (fa ++ args ++ fc) (a' ++ xs ++ b').toList := by
     simp only [Array.toList_append]; exact VRs.append (VRs.append ha hargs) hb
    obtain ⟨nx, w1, q1, q2⟩ := L.prim f p hp mk ι ro h w _ _ outs hlim hh hall hev
    exact ⟨nx, w1, (invoke_fn w).trans q1, q2⟩
   | none => exact (hdef ι ro h w f fa fc fx args xs outs hlim hh hfx hargs (by simp only [noPrim, hp]; exact hev)).invokes
  | yld l =>
   simp only [VR] at hfx
   obtain ⟨wn, hw, rfl⟩ := hfx
   simp only [evCall] at hev
   exact round_sound L.hN (evCall_sound L n mk).1 L.meth L.mixed hlim hh hw hargs hev
  | _ => simp [evCall] at hev
end Go.Abs
