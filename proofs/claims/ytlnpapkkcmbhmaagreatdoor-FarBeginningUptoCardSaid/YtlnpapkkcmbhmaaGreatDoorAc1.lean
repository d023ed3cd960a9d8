/- What the program's functions come to, by the evaluator's rules; the intermediate code. -/
import Derived.Test.YtlnpapkkcmbhmaaGreatDoorAb1
set_option linter.unusedSimpArgs false
set_option linter.unusedVariables false
namespace Go.Abs
open Go
def W {α : Type} (d : Bool) (m : Nat → ND α) (Q : α → Prop) : Prop :=
 ∃ l N, l ≠ [] ∧ (d = true → l.length = 1) ∧ (∀ n, N ≤ n → m n = some l) ∧ ∀ r ∈ l, Q r
theorem W.one {α : Type} {d : Bool} {x : α} {Q : α → Prop} (h : Q x) : W d (fun _ => some [x]) Q :=
 ⟨[x], 0, by simp, fun _ => rfl, fun _ _ => rfl, by simpa using h⟩
theorem W.mono {α : Type} {d : Bool} {m : Nat → ND α} {Q R : α → Prop} (h : W d m Q) (hi : ∀ r, Q r → R r) : W d m R := by
 obtain ⟨l, N, h0, h1, h2, h3⟩ := h
 exact ⟨l, N, h0, h1, h2, fun r hr => hi r (h3 r hr)⟩
theorem W.conj {α : Type} {d : Bool} {m : Nat → ND α} {Q R : α → Prop} (h : W d m Q) (hi : ∀ n l, m n = some l → ∀ r ∈ l, R r) : W d m fun r => Q r ∧ R r := by
 obtain ⟨l, N, h0, h1, h2, h3⟩ := h
 exact ⟨l, N, h0, h1, h2, fun r hr => ⟨h3 r hr, hi N l (h2 N (Nat.le_refl _)) r hr⟩⟩
theorem W.congr {α : Type} {d : Bool} {m m' : Nat → ND α} {Q : α → Prop} (h : W d m Q) (M : Nat) (e : ∀ n, M ≤ n → m' n = m n) : W d m' Q := by
 obtain ⟨l, N, h0, h1, h2, h3⟩ := h
 exact ⟨l, max M N, h0, h1, fun n hn => by rw [e n (by omega), h2 n (by omega)], h3⟩
theorem W.eq {α : Type} {d : Bool} {m m' : Nat → ND α} {Q : α → Prop} (h : W d m Q) (e : ∀ n, m' n = m n) : W d m' Q := h.congr 0 fun n _ => e n
theorem W.loose {α : Type} {d : Bool} {m : Nat → ND α} {Q : α → Prop} (h : W true m Q) : W d m Q := by
 obtain ⟨l, N, h0, h1, h2, h3⟩ := h
 exact ⟨l, N, h0, fun _ => h1 rfl, h2, h3⟩
theorem W.drop {α : Type} {d : Bool} {m : Nat → ND α} {Q : α → Prop} (h : W d m Q) : W false m Q := by
 obtain ⟨l, N, h0, _, h2, h3⟩ := h
 exact ⟨l, N, h0, (fun e => absurd e (by simp)), h2, h3⟩
theorem W.out {α : Type} {d : Bool} {m : ND α} {l : List α} {Q : α → Prop} (h : m = some l) (h0 : l ≠ []) (h1 : d = true → l.length = 1) (h2 : ∀ r ∈ l, Q r) : W d (fun _ => m) Q :=
 ⟨l, 0, h0, h1, fun _ _ => h, h2⟩
theorem W.joins {α β : Type} {f : Nat → α → ND β} {Q : β → Prop} {d : Bool} : ∀ (l : List α), (∀ x ∈ l, W d (fun n => f n x) Q) →
  ∃ k N, (l ≠ [] → k ≠ []) ∧ (∀ n, N ≤ n → ND.join (l.map (f n)) = some k) ∧ ∀ r ∈ k, Q r
 | [], _ => ⟨[], 0, fun h => absurd rfl h, fun _ _ => rfl, by simp⟩
 | x :: l, h => by
  obtain ⟨k, N, h0, h1, h2⟩ := W.joins l fun y hy => h y (List.mem_cons_of_mem _ hy)
  obtain ⟨k', N', g0, _, g2, g3⟩ := h x List.mem_cons_self
  refine ⟨k' ++ k, max N N', fun _ => by simp [g0], fun n hn => ?_, ?_⟩
  ·simp only [List.map_cons, ND.join]
   have e1 : f n x = some k' := g2 n (by omega)
   rw [e1, h1 n (by omega)]
  ·intro r hr
   rcases List.mem_append.1 hr with hr | hr
   ·exact g3 r hr
   ·exact h2 r hr
theorem W.bind {α β : Type} {d : Bool} {m : Nat → ND α} {f : Nat → α → ND β} {Q : β → Prop} (h : W d m fun x => W d (fun n => f n x) Q) : W d (fun n => ND.bind (m n) (f n)) Q := by
 obtain ⟨l, N, h0, h1, h2, h3⟩ := h
 match l, h0, h1, h2, h3 with
 | [], h0, _, _, _ => exact absurd rfl h0
 | [x], _, _, h2, h3 =>
  refine W.congr (h3 x List.mem_cons_self) N fun n hn => ?_
  show ND.bind (m n) (f n) = f n x
  rw [h2 n hn]; rfl
 | x :: y :: l, _, h1, h2, h3 =>
  obtain ⟨k, M, g0, g1, g2⟩ := W.joins (x :: y :: l) h3
  refine ⟨k, max N M, g0 (by simp), fun hd => absurd (h1 hd) (by simp), fun n hn => ?_, g2⟩
  show ND.bind (m n) (f n) = _
  rw [h2 n (by omega)]
  exact g1 n (by omega)
def Op {α : Type} (o : Option α) (Q : α → Prop) : Prop := ∃ v, o = .some v ∧ Q v
def Br (v : V) (A B : Prop) : Prop := ∃ t, v = .bool t ∧ (t = true → A) ∧ (t = false → B)
def Gd (v : V) (b : Bool) (A B : Prop) : Prop := (∃ c, v = .bool c ∧ (c = b → A) ∧ (c ≠ b → B)) ∨ (v = .tup [] ∧ B)
variable {AP : Prog} {mk : Nat} {d : Bool}
def env (AP : Prog) (mk n : Nat) : Env := ⟨evCall AP n mk, AP.meth, n, mk⟩
def WF (AP : Prog) (d : Bool) (mk : Nat) (fv : V) (args : List V) (h : Heap) (Q : VH → Prop) : Prop :=
 W d (fun n => evCall AP n mk fv args h) Q
def wcal (AP : Prog) (d : Bool) (mk : Nat) (c : Cal) (args : List V) (tm : Tm) (h : Heap) (Q : VH → Prop) : Prop :=
 match c with
 | .dir f => WF AP d mk (.fn f [] []) args h Q
 | .val x => WF AP d mk (x.ev tm) args h Q
 | .inv x m => Op (match x.ev tm with | .iface t v => some (t, v) | _ => none) fun p => Op (AP.meth p.1 m) fun f => WF AP d mk (.fn f [] []) (p.2 :: args) h Q
def wop (AP : Prog) (d : Bool) (mk : Nat) (dst : Option Nat) (op : IOp) (base : Nat) (st : St) (Q : St → Prop) : Prop :=
 match op with
 | .p o => Op ((compP o).run st.tm) fun v => Q ((putK dst).run v st.h st)
 | .r o => Op ((compR o).run st.tm st.h) fun v => Q ((putK dst).run v st.h st)
 | .a o hole => Op ((compA o).run st.tm) fun m => match m with
  | .val v => Q ((putK dst).run v st.h st)
  | .obj o f => (match hole with
   | none => Q ((putK dst).run (f st.h.n) (st.h.push o) st)
   | some j => Q ((putK dst).run (f (base + j)) (st.h.set (base + j) o) st))
 | .w o => Op ((compW o).run mk st.tm st.h) fun r => Q ((putK dst).run r.v r.h st)
 | .call c args frz => wcal AP d mk c ((opdsK args).run st.tm) st.tm st.h fun r => cond frz (Op (frzV mk r) fun r => Q ((putK dst).run r.v r.h st)) (Q ((putK dst).run r.v r.h st))
 | .nxtM it => Op (nextM mk (it.ev st.tm) st.h) fun l => d = false ∧ l ≠ [] ∧ ∀ r ∈ l, Q ((putK dst).run r.v r.h st)
 | .defer x => Op (match x.ev st.tm with | .fn f a c => some (V.fn f a c) | _ => none) fun v => st.round = false ∧ Q ((putK dst).run .any st.h ⟨st.tm, st.h, .call v :: st.defs, st.round⟩)
 | .recover => st.round = false ∧ Q ((putK dst).run .nili st.h st)
 | .bad => False
def wins (AP : Prog) (d : Bool) (mk : Nat) (i : Ins) (base : Nat) (st : St) (Q : St → Prop) : Prop :=
 match i.guard with
 | none => wop AP d mk i.dst i.op base st Q
 | some g => Gd ((gK g.1).run st.tm) g.2 (wop AP d mk i.dst i.op base st Q) (Q ((putK i.dst).run (.tup []) st.h st))
def wl (AP : Prog) (d : Bool) (mk : Nat) : List Ins → Nat → St → (St → Prop) → Prop
 | [], _, st, Q => Q st
 | i :: l, base, st, Q => wins AP d mk i base st fun st => wl AP d mk l base st Q
def wd (AP : Prog) (mk : Nat) : List Ins → Nat → St → List Heap → (St → List Heap → Prop) → Prop
 | [], _, st, hs, Q => Q st (st.h :: hs)
 | i :: l, base, st, hs, Q => wins AP true mk i base st fun st' => wd AP mk l base st' (st.h :: hs) Q
def keepL (l : List Ins) (i : Nat) : Bool := l.all fun x => match x.dst with
 | some j => !Nat.beq j i
 | none => true
def keep : IC → Nat → Bool
 | .ops l, i => keepL l i
 | .dops _ _ l, i => keepL l i
 | .seq a b, i => keep a i && keep b i
 | .cond _ a b, i => keep a i && keep b i
 | .block _ c, i => keep c i
 | .loop c, i => keep c i
 | .rangeF .., _ => false
 | _, _ => true
def Keeps (c : IC) (s t : St) : Prop := ∀ i, keep c i = true → (gK i).run t.tm = (gK i).run s.tm
def wc (AP : Prog) (d : Bool) (mk : Nat) : IC → St → (OS → Prop) → Prop
 | .skip, st, Q => Q ⟨.normal, st⟩
 | .ops l, st, Q => wl AP d mk l st.h.n st fun st => Q ⟨.normal, st⟩
 | .dops na chk l, st, Q => wd AP mk l st.h.n ⟨st.tm, ⟨st.h.n + na, st.h.os⟩, st.defs, st.round⟩ [] fun st hs => Op (cond (chk.all (recheck l st.tm hs.reverse)) (some ()) none) fun _ => Q ⟨.normal, st⟩
 | .seq a b, st, Q => wc AP d mk a st fun r => match r.o with
  | .normal => wc AP d mk b r.s Q
  | .exit i => Q ⟨.exit i, r.s⟩
  | .ret => Q ⟨.ret, r.s⟩
 | .cond c a b, st, Q => Br (c.ev st.tm) (wc AP d mk a st Q) (wc AP d mk b st Q)
 | .block id c, st, Q => wc AP d mk c st fun r => match r.o with
  | .exit i => cond (Nat.beq i id) (Q ⟨.normal, r.s⟩) (Q ⟨.exit i, r.s⟩)
  | .normal => Q ⟨.normal, r.s⟩
  | .ret => Q ⟨.ret, r.s⟩
 | .loop c, st, Q => ∃ I : Nat → St → Prop, (∃ k, I k st) ∧ ∀ k st', I k st' → Keeps c st st' → wc AP d mk c st' fun r => match r.o with
  | .normal => ∃ j, j < k ∧ I j r.s
  | .exit i => Q ⟨.exit i, r.s⟩
  | .ret => Q ⟨.ret, r.s⟩
 | .rangeF f ps asg body, st, Q => W d (fun n => evRange (env AP mk n) (f.ev st.tm) ps asg body st) Q
 | .exit id, st, Q => Q ⟨.exit id, st⟩
 | .ret, st, Q => Q ⟨.ret, st⟩
 | .bad, _, _ => False
theorem ND.of_join {β : Type} : ∀ {ms : List (ND β)} {l : List β}, ND.join ms = some l → ∀ y ∈ l, ∃ m ∈ ms, ∃ k, m = some k ∧ y ∈ k
 | [], l, h, y, hy => by simp [ND.join] at h; subst h; cases hy
 | x :: r, l, h, y, hy => by
  simp only [ND.join] at h
  cases hx : x with
  | none => simp [hx] at h
  | some a =>
   cases hr : ND.join r with
   | none => simp [hx, hr] at h
   | some b =>
    simp [hx, hr] at h
    subst h
    rcases List.mem_append.1 hy with hy | hy
    ·exact ⟨some a, by simp, a, rfl, hy⟩
    ·obtain ⟨m, hm, k, hk, h2⟩ := ND.of_join hr y hy
     exact ⟨m, by simp [hm], k, hk, h2⟩
theorem ND.mem_bind {α β : Type} {m : ND α} {f : α → ND β} {l : List β} (h : ND.bind m f = some l) : ∀ y ∈ l, ∃ k, m = some k ∧ ∃ x ∈ k, ∃ r, f x = some r ∧ y ∈ r := by
 intro y hy
 unfold ND.bind at h
 cases m with
 | none => simp at h
 | some k =>
  refine ⟨k, rfl, ?_⟩
  cases k with
  | nil => simp at h; subst h; cases hy
  | cons x r =>
   cases r with
   | nil => exact ⟨x, by simp, l, h, hy⟩
   | cons z r =>
    simp only at h
    obtain ⟨m, hm, k, hk, h2⟩ := ND.of_join h y hy
    obtain ⟨u, hu, rfl⟩ := List.mem_map.1 hm
    exact ⟨u, hu, k, hk, h2⟩
abbrev free (dst : Option Nat) (i : Nat) : Prop := (match dst with | some j => !Nat.beq j i | none => true) = true
theorem gK_put {dst : Option Nat} {v : V} {h : Heap} {st : St} {i : Nat} (hk : free dst i) : (gK i).run ((putK dst).run v h st).tm = (gK i).run st.tm := by
 cases dst with
 | none => rfl
 | some j =>
  simp only [putK, gK_sK]
  rw [if_neg]
  rintro rfl
  simp at hk
theorem one_keep {e : St} {l : List St} {P : St → Prop} (h : some [e] = some l) (hp : P e) : ∀ r ∈ l, P r := by
 cases h; intro r hr; simp at hr; subst hr; exact hp
theorem op_keep {e : Env} {base : Nat} {dst : Option Nat} {op : IOp} {st : St} {l : List St} {i : Nat} (hk : free dst i) (h : (compOp dst op).run e base st = some l) : ∀ r ∈ l, (gK i).run r.tm = (gK i).run st.tm := by
 cases op with
 | p o =>
  simp only [compOp] at h
  split at h
  ·exact one_keep h (gK_put hk)
  ·cases h
 | r o =>
  simp only [compOp] at h
  split at h
  ·exact one_keep h (gK_put hk)
  ·cases h
 | a o hole =>
  simp only [compOp] at h
  split at h
  ·exact one_keep h (gK_put hk)
  ·cases hole <;> exact one_keep h (gK_put hk)
  ·cases h
 | w o =>
  simp only [compOp] at h
  split at h
  ·exact one_keep h (gK_put hk)
  ·cases h
 | call c args frz =>
  intro y hy
  obtain ⟨k, _, x, _, r, hr, hyr⟩ := ND.mem_bind h y hy
  cases frz with
  | false => exact one_keep (P := fun r => (gK i).run r.tm = (gK i).run st.tm) hr (gK_put hk) y hyr
  | true =>
   simp only [cond] at hr
   split at hr
   ·exact one_keep (P := fun r => (gK i).run r.tm = (gK i).run st.tm) hr (gK_put hk) y hyr
   ·cases hr
 | nxtM it =>
  intro y hy
  obtain ⟨k, _, x, _, r, hr, hyr⟩ := ND.mem_bind h y hy
  exact one_keep (P := fun r => (gK i).run r.tm = (gK i).run st.tm) hr (gK_put hk) y hyr
 | defer x =>
  simp only [compOp] at h
  split at h
  ·cases hr : st.round with
   | true => rw [hr] at h; cases h
   | false => rw [hr] at h; exact one_keep h (gK_put (st := ⟨st.tm, st.h, _, _⟩) hk)
  ·cases h
 | recover =>
  simp only [compOp] at h
  cases hr : st.round with
  | true => rw [hr] at h; cases h
  | false => rw [hr] at h; exact one_keep h (gK_put hk)
 | bad => cases h
theorem ins_keep {e : Env} {base : Nat} {x : Ins} {st : St} {l : List St} {i : Nat} (hk : free x.dst i) (h : (compI x).run e base st = some l) : ∀ r ∈ l, (gK i).run r.tm = (gK i).run st.tm := by
 unfold compI at h
 split at h
 ·exact op_keep hk h
 ·rename_i g hg
  simp only at h
  split at h
  ·rename_i c hc
   cases hcg : (c == g.2) with
   | true => rw [hcg] at h; exact op_keep hk h
   | false => rw [hcg] at h; exact one_keep h (gK_put hk)
  ·exact one_keep h (gK_put hk)
  ·cases h
theorem keepL_cons {x : Ins} {l : List Ins} {i : Nat} (h : keepL (x :: l) i = true) : free x.dst i ∧ keepL l i = true := by
 simpa [keepL] using h
theorem list_keep {e : Env} {i : Nat} {base : Nat} : ∀ {l : List Ins} {st : St} {k : List St}, keepL l i = true → (compL l).run e base st = some k → ∀ r ∈ k, (gK i).run r.tm = (gK i).run st.tm
 | [], st, k, _, h => one_keep h rfl
 | x :: l, st, k, hk, h => by
  intro y hy
  obtain ⟨h1, h2⟩ := keepL_cons hk
  obtain ⟨k', e1, z, hz, r, hr, hyr⟩ := ND.mem_bind h y hy
  rw [list_keep h2 hr y hyr, ins_keep h1 e1 z hz]
theorem opsH_keep {e : Env} {i : Nat} {base : Nat} : ∀ {l : List Ins} {st : St} {hs : List Heap} {k : St × List Heap}, keepL l i = true → opsH e base l st hs = some k → (gK i).run k.1.tm = (gK i).run st.tm
 | [], st, hs, k, _, h => by simp [opsH] at h; subst h; rfl
 | x :: l, st, hs, k, hk, h => by
  obtain ⟨h1, h2⟩ := keepL_cons hk
  simp only [opsH] at h
  split at h
  ·rename_i st' hs'
   rw [opsH_keep h2 h, ins_keep h1 (ND.of_single hs') st' (by simp)]
  ·cases h
theorem one_os {e : OS} {l : List OS} {P : OS → Prop} (h : some [e] = some l) (hp : P e) : ∀ r ∈ l, P r := by
 cases h; intro r hr; simp at hr; subst hr; exact hp
theorem loopN_keep {c : IC} {i : Nat} {body : St → ND OS} (hb : ∀ st l, body st = some l → ∀ r ∈ l, (gK i).run r.s.tm = (gK i).run st.tm) : ∀ (n : Nat) (st : St) (l : List OS), loopN body n st = some l → ∀ r ∈ l, (gK i).run r.s.tm = (gK i).run st.tm
 | 0, st, l, h => by cases h
 | n + 1, st, l, h => by
  intro y hy
  obtain ⟨k, e1, z, hz, r, hr, hyr⟩ := ND.mem_bind h y hy
  split at hr
  ·rw [loopN_keep (c := c) hb n _ _ hr y hyr, hb _ _ e1 z hz]
  ·exact (one_os hr (P := fun r => (gK i).run r.s.tm = (gK i).run st.tm) (hb _ _ e1 z hz)) y hyr
  ·exact (one_os hr (P := fun r => (gK i).run r.s.tm = (gK i).run st.tm) (hb _ _ e1 z hz)) y hyr
theorem code_keep {e : Env} {i : Nat} : ∀ (c : IC) (st : St) (l : List OS), keep c i = true → (compC c).run e st = some l → ∀ r ∈ l, (gK i).run r.s.tm = (gK i).run st.tm
 | .skip, st, l, _, h => one_os h rfl
 | .ops x, st, l, hk, h => by
  intro y hy
  obtain ⟨k, e1, z, hz, r, hr, hyr⟩ := ND.mem_bind h y hy
  exact (one_os hr (P := fun r => (gK i).run r.s.tm = (gK i).run st.tm) (list_keep hk e1 z hz)) y hyr
 | .dops na chk x, st, l, hk, h => by
  simp only [compC, evDops] at h
  split at h
  ·rename_i st' hs he
   cases hc : chk.all (recheck x st'.tm hs.reverse) with
   | false => rw [hc] at h; cases h
   | true =>
    rw [hc] at h
    have := opsH_keep hk he
    exact one_os h this
  ·cases h
 | .seq a b, st, l, hk, h => by
  simp only [keep, Bool.and_eq_true] at hk
  intro y hy
  obtain ⟨k, e1, z, hz, r, hr, hyr⟩ := ND.mem_bind h y hy
  have h1 := code_keep a st k hk.1 e1 z hz
  split at hr
  ·rw [code_keep b _ _ hk.2 hr y hyr, h1]
  ·exact (one_os hr (P := fun r => (gK i).run r.s.tm = (gK i).run st.tm) h1) y hyr
  ·exact (one_os hr (P := fun r => (gK i).run r.s.tm = (gK i).run st.tm) h1) y hyr
 | .cond c a b, st, l, hk, h => by
  simp only [keep, Bool.and_eq_true] at hk
  simp only [compC] at h
  split at h
  ·rename_i t ht
   cases t with
   | true => exact code_keep a st l hk.1 h
   | false => exact code_keep b st l hk.2 h
  ·cases h
 | .block id c, st, l, hk, h => by
  intro y hy
  obtain ⟨k, e1, z, hz, r, hr, hyr⟩ := ND.mem_bind h y hy
  have h1 := code_keep c st k hk e1 z hz
  split at hr
  ·rename_i j hj
   cases hc : Nat.beq j id <;> rw [hc] at hr <;> exact (one_os hr (P := fun r => (gK i).run r.s.tm = (gK i).run st.tm) h1) y hyr
  ·exact (one_os hr (P := fun r => (gK i).run r.s.tm = (gK i).run st.tm) h1) y hyr
  ·exact (one_os hr (P := fun r => (gK i).run r.s.tm = (gK i).run st.tm) h1) y hyr
 | .loop c, st, l, hk, h => loopN_keep (c := c) (fun st l => code_keep c st l hk) _ st l h
 | .rangeF .., _, _, hk, _ => by cases hk
 | .exit _, st, l, _, h => one_os h rfl
 | .ret, st, l, _, h => one_os h rfl
 | .bad, _, _, _, h => by cases h
theorem wcal_sound {c : Cal} {args : List V} {tm : Tm} {h : Heap} {Q : VH → Prop} (hw : wcal AP d mk c args tm h Q) : W d (fun n => (calK c).run (env AP mk n) args tm h) Q := by
 cases c with
 | dir f => exact hw
 | val x => exact hw
 | inv x m =>
  obtain ⟨p, e1, f, e2, hw⟩ := hw
  split at e1
  ·rename_i t v e0
   cases e1
   refine hw.eq fun n => ?_
   show (match x.ev tm with | .iface t v => (match AP.meth t m with | some f => evCall AP n mk (.fn f [] []) (v :: args) h | none => none) | _ => none) = _
   rw [e0]; dsimp only; rw [e2]
  ·cases e1
theorem wop_sound {dst : Option Nat} {op : IOp} {base : Nat} {st : St} {Q : St → Prop} (hw : wop AP d mk dst op base st Q) : W d (fun n => (compOp dst op).run (env AP mk n) base st) Q := by
 cases op with
 | p o => obtain ⟨v, e, hq⟩ := hw; exact (W.one hq).eq fun n => by simp only [compOp]; rw [e]
 | r o => obtain ⟨v, e, hq⟩ := hw; exact (W.one hq).eq fun n => by simp only [compOp]; rw [e]
 | a o hole =>
  obtain ⟨m, e, hq⟩ := hw
  cases m with
  | val v => exact (W.one (Q := Q) hq).eq fun n => by simp only [compOp]; rw [e]
  | obj o f =>
   cases hole with
   | none => exact (W.one (Q := Q) hq).eq fun n => by simp only [compOp]; rw [e]
   | some j => exact (W.one (Q := Q) hq).eq fun n => by simp only [compOp]; rw [e]
 | w o => obtain ⟨r, e, hq⟩ := hw; exact (W.one hq).eq fun n => by simp only [compOp, env]; rw [e]
 | call c args frz =>
  refine W.bind ((wcal_sound hw).mono fun r hr => ?_)
  cases frz with
  | true => obtain ⟨r', e, hq⟩ := hr; exact (W.one hq).eq fun n => by simp only [cond, env]; rw [e]
  | false => exact W.one hr
 | nxtM it =>
  obtain ⟨l, e, hd, h0, hq⟩ := hw
  refine W.bind (W.out e h0 (fun h => by rw [hd] at h; cases h) fun r hr => W.one (hq r hr))
 | defer x =>
  obtain ⟨v, e1, hr, hq⟩ := hw
  split at e1
  ·rename_i f a c e
   cases e1
   exact (W.one hq).eq fun n => by simp only [compOp]; rw [e]; simp only [hr, cond]
  ·cases e1
 | recover =>
  obtain ⟨hr, hq⟩ := hw
  exact (W.one hq).eq fun n => by simp only [compOp, hr, cond]
 | bad => exact hw.elim
theorem wins_sound {i : Ins} {base : Nat} {st : St} {Q : St → Prop} (hw : wins AP d mk i base st Q) : W d (fun n => (compI i).run (env AP mk n) base st) Q := by
 unfold wins at hw
 unfold compI
 split at hw
 ·rename_i hg; simp only [hg]; exact wop_sound hw
 ·rename_i g hg
  simp only [hg]
  rcases hw with ⟨c, e, h1, h2⟩ | ⟨e, hq⟩
  ·by_cases hc : c = g.2
   ·refine (wop_sound (h1 hc)).eq fun n => ?_
    rw [e]; simp only [hc, beq_self_eq_true, cond]
   ·refine (W.one (h2 hc)).eq fun n => ?_
    have hc' : (c == g.2) = false := by simpa using hc
    rw [e]; simp only [hc', cond]
  ·exact (W.one hq).eq fun n => by rw [e]
theorem wl_sound : ∀ {l : List Ins} {base : Nat} {st : St} {Q : St → Prop}, wl AP d mk l base st Q → W d (fun n => (compL l).run (env AP mk n) base st) Q
 | [], _, _, _, hw => W.one hw
 | _ :: _, _, _, _, hw => W.bind ((wins_sound hw).mono fun _ h => wl_sound h)
theorem wd_sound : ∀ {l : List Ins} {base : Nat} {st : St} {hs : List Heap} {Q : St → List Heap → Prop}, wd AP mk l base st hs Q → ∃ r N, (∀ n, N ≤ n → opsH (env AP mk n) base l st hs = some r) ∧ Q r.1 r.2
 | [], _, st, hs, _, hw => ⟨(st, st.h :: hs), 0, fun _ _ => rfl, hw⟩
 | i :: l, base, st, hs, Q, hw => by
  obtain ⟨k, N, h0, h1, h2, h3⟩ := wins_sound hw
  match k, h0, h1 rfl, h2, h3 with
  | [x], _, _, h2, h3 =>
   obtain ⟨r, M, g1, g2⟩ := wd_sound (h3 x (by simp))
   refine ⟨r, max N M, fun n hn => ?_, g2⟩
   simp only [opsH]
   have e1 : (compI i).run (env AP mk n) base st = some [x] := h2 n (by omega)
   rw [e1]
   exact g1 n (by omega)
theorem loop_sound {c : IC} {I : Nat → St → Prop} {st : St} {Q : OS → Prop}
  (hc : ∀ k st', I k st' → Keeps c st st' → W d (fun n => (compC c).run (env AP mk n) st') fun r => match r.o with
   | .normal => ∃ j, j < k ∧ I j r.s
   | .exit i => Q ⟨.exit i, r.s⟩
   | .ret => Q ⟨.ret, r.s⟩) : ∀ k st', I k st' → Keeps c st st' → ∀ (f : Nat → Nat), (∃ N, ∀ n, N ≤ n → k < f n) → W d (fun n => loopN ((compC c).run (env AP mk n)) (f n) st') Q := by
 intro k
 induction k using Nat.strongRecOn with
 | ind k ih =>
  intro st' hI hk f hf
  obtain ⟨N, hN⟩ := hf
  have h1 := (hc k st' hI hk).conj (R := fun r => Keeps c st r.s) (fun n l e r hr i hi => by rw [code_keep c st' l hi e r hr]; exact hk i hi)
  refine W.congr (m := fun n => ND.bind ((compC c).run (env AP mk n) st') fun r => match r.o with
   | .normal => loopN ((compC c).run (env AP mk n)) (f n - 1) r.s
   | .exit i => some [⟨.exit i, r.s⟩]
   | .ret => some [⟨.ret, r.s⟩]) (W.bind (h1.mono ?_)) N fun n hn => ?_
  ·rintro ⟨o, s⟩ ⟨h2, h3⟩
   cases o with
   | normal =>
    obtain ⟨j, hj, hIj⟩ := h2
    exact ih j hj s hIj h3 (fun n => f n - 1) ⟨N, fun n hn => by have := hN n hn; omega⟩
   | exit i => exact W.one h2
   | ret => exact W.one h2
  ·have := hN n hn
   obtain ⟨m, hm⟩ : ∃ m, f n = m + 1 := ⟨f n - 1, by omega⟩
   rw [hm]; rfl
theorem wc_sound : ∀ {c : IC} {st : St} {Q : OS → Prop}, wc AP d mk c st Q → W d (fun n => (compC c).run (env AP mk n) st) Q
 | .skip, _, _, hw => W.one hw
 | .ops _, _, _, hw => W.bind ((wl_sound hw).mono fun _ h => W.one h)
 | .dops na chk l, st, Q, hw => by
  obtain ⟨r, N, h1, u, h2, h3⟩ := wd_sound hw
  have h2 : chk.all (recheck l r.1.tm r.2.reverse) = true := by
   cases hb : chk.all (recheck l r.1.tm r.2.reverse) with
   | true => rfl
   | false => rw [hb] at h2; cases h2
  refine W.congr (W.one h3) N fun n hn => ?_
  simp only [compC, evDops]
  rw [h1 n hn]
  simp only [h2, cond]
 | .seq a b, st, Q, hw => by
  refine W.bind ((wc_sound (c := a) hw).mono ?_)
  rintro ⟨o, s⟩ h
  cases o with
  | normal => exact wc_sound (c := b) h
  | exit i => exact W.one h
  | ret => exact W.one h
 | .cond c a b, st, Q, hw => by
  obtain ⟨t, e, h1, h2⟩ := hw
  cases t with
  | true => exact (wc_sound (c := a) (h1 rfl)).eq fun n => by simp only [compC]; rw [e]; rfl
  | false => exact (wc_sound (c := b) (h2 rfl)).eq fun n => by simp only [compC]; rw [e]; rfl
 | .block id c, st, Q, hw => by
  refine W.bind ((wc_sound (c := c) hw).mono ?_)
  rintro ⟨o, s⟩ h
  cases o with
  | normal => exact W.one h
  | exit i =>
   simp only at h
   cases hb : Nat.beq i id <;> rw [hb] at h <;> simp only [hb, cond] <;> exact W.one h
  | ret => exact W.one h
 | .loop c, st, Q, hw => by
  obtain ⟨I, ⟨k, hI⟩, hc⟩ := hw
  exact loop_sound (fun k st' h1 h2 => wc_sound (c := c) (hc k st' h1 h2)) k st hI (fun _ _ => rfl) (fun n => n) ⟨k + 1, fun n hn => by omega⟩
 | .rangeF .., _, _, hw => hw
 | .exit _, _, _, hw => W.one hw
 | .ret, _, _, hw => W.one hw
 | .bad, _, _, hw => hw.elim
def wun (AP : Prog) (d : Bool) (mk : Nat) : List DefI → Heap → (Heap → Prop) → Prop
 | [], h, Q => Q h
 | .mark i :: r, h, Q => h.get i = some .dfr ∧ mk ≤ i ∧ wun AP d mk r (h.kill i) Q
 | .call v :: r, h, Q => (∃ f a c, v = .fn f a c ∧ AP.prim f = none) ∧ WF AP d mk v [] h fun x => wun AP d mk r x.h Q
theorem wun_sound : ∀ {l : List DefI} {h : Heap} {Q : Heap → Prop}, wun AP d mk l h Q → W d (fun n => unwindD (noPrim AP (evCall AP n mk)) mk l h) Q
 | [], _, _, hw => W.one hw
 | .mark i :: r, h, Q, hw => by
  obtain ⟨h1, h2, h3⟩ := hw
  refine (wun_sound h3).eq fun n => ?_
  simp only [unwindD]
  rw [h1]
  simp only [(Nat.ble_eq ▸ h2 : Nat.ble mk i = true), cond]
 | .call v :: r, h, Q, hw => by
  obtain ⟨⟨f, a, c, rfl, hp⟩, hw⟩ := hw
  refine W.bind (W.eq (W.mono hw fun _ h => wun_sound h) fun n => ?_)
  simp only [noPrim, hp]
def wbody (AP : Prog) (d : Bool) (mk : Nat) (F : IFn) (args : List V) (h : Heap) (Q : VH → Prop) : Prop :=
 wc AP d mk F.body ⟨Tm.ofL 0 args .e, h, [], false⟩ fun r => (match r.o with | .exit _ => False | _ => True) ∧
  wun AP d mk r.s.defs r.s.h fun h' => ∃ v, results r.s.tm h' F.res = some v ∧ Q ⟨v, h'⟩
theorem wbody_sound {F : IFn} {args : List V} {h : Heap} {Q : VH → Prop} (hl : args.length ≤ F.nt) (hw : wbody AP d mk F args h Q) : W d (fun n => runFn AP (evCall AP n mk) n mk F args h) Q := by
 have h1 : W d (fun n => ND.bind ((compC F.body).run (env AP mk n) ⟨Tm.ofL 0 args .e, h, [], false⟩) fun r =>
   match r.o with
   | .exit _ => none
   | _ => ND.bind (unwindD (noPrim AP (evCall AP n mk)) mk r.s.defs r.s.h) fun h' =>
     match results r.s.tm h' F.res with
     | some v => some [⟨v, h'⟩]
     | none => none) Q := by
  refine W.bind ((wc_sound hw).mono ?_)
  rintro ⟨o, s⟩ ⟨ho, hu⟩
  have h2 : W d (fun n => ND.bind (unwindD (noPrim AP (evCall AP n mk)) mk s.defs s.h) fun h' =>
     match results s.tm h' F.res with
     | some v => some [⟨v, h'⟩]
     | none => none) Q := by
   refine W.bind ((wun_sound hu).mono ?_)
   rintro h' ⟨v, e, hq⟩
   exact (W.one hq).eq fun n => by rw [e]
  cases o with
  | normal => exact h2
  | exit i => exact ho.elim
  | ret => exact h2
 refine h1.eq fun n => ?_
 simp only [runFn, (Nat.ble_eq ▸ hl : Nat.ble args.length F.nt = true), cond]
 rfl
theorem WF.fn {f : Nat} {first cap args : List V} {F : IFn} {h : Heap} {Q : VH → Prop} (hp : AP.prim f = none) (hF : AP.fn f = some F) (hpure : F.pure = false) (hl : (first ++ args ++ cap).length ≤ F.nt)
  (hw : wbody AP d mk F (first ++ args ++ cap) h Q) : WF AP d mk (.fn f first cap) args h Q := by
 obtain ⟨l, N, h0, h1, h2, h3⟩ := wbody_sound hl hw
 refine ⟨l, N + 1, h0, h1, fun n hn => ?_, h3⟩
 obtain ⟨m, rfl⟩ : ∃ m, n = m + 1 := ⟨n - 1, by omega⟩
 simp only [evCall, hp, hF, hpure, cond]
 exact h2 m (by omega)
theorem WF.prim {f : Nat} {first cap args : List V} {p : Nat → List V → Heap → ND VH} {h : Heap} {Q : VH → Prop} (hp : AP.prim f = some p) (hw : W d (fun _ => p mk (first ++ args ++ cap) h) Q) : WF AP d mk (.fn f first cap) args h Q := by
 obtain ⟨l, N, h0, h1, h2, h3⟩ := hw
 refine ⟨l, N + 1, h0, h1, fun n hn => ?_, h3⟩
 obtain ⟨m, rfl⟩ : ∃ m, n = m + 1 := ⟨n - 1, by omega⟩
 simp only [evCall, hp]
 exact h2 m (by omega)
theorem dedup_mem {h : Heap} {l : List V} {m : List VH} (e : dedup h (some l) = some m) : ∀ r ∈ m, r.h = h ∧ r.v ∈ l := by
 unfold dedup at e
 simp only at e
 split at e
 ·cases e; simp
 ·split at e
  ·cases e; simp
  ·rename_i x r y r'
   cases hb : (y :: r').all (V.beq x) with
   | true => rw [hb] at e; cases e; simp
   | false =>
    rw [hb] at e; cases e
    intro r hr
    obtain ⟨v, hv, rfl⟩ := List.mem_map.1 hr
    exact ⟨rfl, hv⟩
theorem dedup_some (h : Heap) (l : List V) : ∃ m, dedup h (some l) = some m ∧ (l ≠ [] → m ≠ []) ∧ (l.length = 1 → m.length = 1) ∧ (∀ v, (∀ x ∈ l, x = v) → l ≠ [] → m.length = 1) := by
 unfold dedup
 simp only
 split
 ·exact ⟨[], rfl, by simp, by simp, by simp⟩
 ·split
  ·exact ⟨_, rfl, by simp, by simp, by simp⟩
  ·rename_i x r y r'
   cases hb : (y :: r').all (V.beq x) with
   | true => exact ⟨_, rfl, by simp, by simp, by simp⟩
   | false =>
    refine ⟨_, rfl, by simp, by simp, fun v hv => ?_⟩
    exfalso
    have : (y :: r').all (V.beq x) = true := by
     rw [List.all_eq_true]
     intro z hz
     rw [hv x (by simp), hv z (List.mem_cons_of_mem _ hz)]
     exact V.beq_refl v
    rw [hb] at this; cases this
theorem WF.pureFn {f : Nat} {first cap args : List V} {F : IFn} {h : Heap} {Q : V → Prop} (hp : AP.prim f = none) (hF : AP.fn f = some F) (hpure : F.pure = true) (hl : (first ++ args ++ cap).length ≤ F.nt)
  (hw : wbody AP d h.n F (first ++ args ++ cap) h fun r => ∃ v, freeze h.n r.h depthMax r.v = some v ∧ Q v) : WF AP d mk (.fn f first cap) args h fun r => r.h = h ∧ Q r.v := by
 have h1 := wbody_sound (AP := AP) hl hw
 have h2 : W d (fun n => ND.bind (runFn AP (evCall AP n h.n) n h.n F (first ++ args ++ cap) h) fun r => match freeze h.n r.h depthMax r.v with
  | some v => some [v]
  | none => none) Q := by
  refine W.bind (h1.mono ?_)
  rintro r ⟨v, e, hq⟩
  exact (W.one hq).eq fun n => by rw [e]
 obtain ⟨l, N, g0, g1, g2, g3⟩ := h2
 obtain ⟨m, e, k0, k1, _⟩ := dedup_some h l
 refine ⟨m, N + 1, k0 g0, fun hd => k1 (g1 hd), fun n hn => ?_, fun r hr => ?_⟩
 ·obtain ⟨n, rfl⟩ : ∃ m, n = m + 1 := ⟨n - 1, by omega⟩
  simp only [evCall, hp, hF, hpure, cond, pureRun]
  exact (congrArg (dedup h) (g2 n (by omega))).trans e
 ·obtain ⟨e1, e2⟩ := dedup_mem e r hr
  exact ⟨e1, g3 _ e2⟩
theorem WF.pureOne {f : Nat} {first cap args : List V} {F : IFn} {h : Heap} {v : V} (hp : AP.prim f = none) (hF : AP.fn f = some F) (hpure : F.pure = true) (hl : (first ++ args ++ cap).length ≤ F.nt)
  (hw : wbody AP false h.n F (first ++ args ++ cap) h fun r => freeze h.n r.h depthMax r.v = some v) : WF AP d mk (.fn f first cap) args h fun r => r = ⟨v, h⟩ := by
 have h1 := wbody_sound (AP := AP) hl hw
 have h2 : W false (fun n => ND.bind (runFn AP (evCall AP n h.n) n h.n F (first ++ args ++ cap) h) fun r => match freeze h.n r.h depthMax r.v with
  | some v => some [v]
  | none => none) fun x => x = v := by
  refine W.bind (h1.mono ?_)
  intro r e
  exact (W.one (x := v) (Q := fun x => x = v) rfl).eq fun n => by rw [e]
 obtain ⟨l, N, g0, g1, g2, g3⟩ := h2
 obtain ⟨m, e, k0, _, k1⟩ := dedup_some h l
 refine ⟨m, N + 1, k0 g0, fun _ => k1 v g3 g0, fun n hn => ?_, fun r hr => ?_⟩
 ·obtain ⟨n, rfl⟩ : ∃ m, n = m + 1 := ⟨n - 1, by omega⟩
  simp only [evCall, hp, hF, hpure, cond, pureRun]
  exact (congrArg (dedup h) (g2 n (by omega))).trans e
 ·obtain ⟨e1, e2⟩ := dedup_mem e r hr
  obtain ⟨rv, rh⟩ := r
  simp only at e1 e2
  subst e1
  rw [g3 _ e2]
end Go.Abs
universe u
namespace Go.Abs
open Go
variable {AP : Prog} {mk : Nat} {d : Bool}
theorem wcal_mono {c : Cal} {args : List V} {tm : Tm} {h : Heap} {Q R : VH → Prop} (hw : wcal AP d mk c args tm h Q) (hi : ∀ r, Q r → R r) : wcal AP d mk c args tm h R := by
 cases c with
 | dir f => exact W.mono hw hi
 | val x => exact W.mono hw hi
 | inv x m => obtain ⟨p, e, f, e2, hw⟩ := hw; exact ⟨p, e, f, e2, W.mono hw hi⟩
theorem wop_mono {t : Option Nat} {o : IOp} {b : Nat} {st : St} {Q R : St → Prop} (hw : wop AP d mk t o b st Q) (hi : ∀ r, Q r → R r) : wop AP d mk t o b st R := by
 cases o with
 | p o => obtain ⟨v, e, h⟩ := hw; exact ⟨v, e, hi _ h⟩
 | r o => obtain ⟨v, e, h⟩ := hw; exact ⟨v, e, hi _ h⟩
 | a o hole =>
  obtain ⟨m, e, h⟩ := hw
  refine ⟨m, e, ?_⟩
  cases m with
  | val v => exact hi _ h
  | obj o f => cases hole <;> exact hi _ h
 | w o => obtain ⟨v, e, h⟩ := hw; exact ⟨v, e, hi _ h⟩
 | call c args frz =>
  refine wcal_mono hw fun r h => ?_
  cases frz with
  | true => obtain ⟨v, e, h⟩ := h; exact ⟨v, e, hi _ h⟩
  | false => exact hi _ h
 | nxtM it => obtain ⟨l, e, h1, h2, h3⟩ := hw; exact ⟨l, e, h1, h2, fun r hr => hi _ (h3 r hr)⟩
 | defer x => obtain ⟨v, e, h1, h2⟩ := hw; exact ⟨v, e, h1, hi _ h2⟩
 | recover => exact ⟨hw.1, hi _ hw.2⟩
 | bad => exact hw
theorem wins_mono {x : Ins} {b : Nat} {st : St} {Q R : St → Prop} (hw : wins AP d mk x b st Q) (hi : ∀ r, Q r → R r) : wins AP d mk x b st R := by
 unfold wins at hw ⊢
 split at hw
 ·exact wop_mono hw hi
 ·rename_i g hg
  rcases hw with ⟨c, e, h1, h2⟩ | ⟨e, h⟩
  ·exact .inl ⟨c, e, fun k => wop_mono (h1 k) hi, fun k => hi _ (h2 k)⟩
  ·exact .inr ⟨e, hi _ h⟩
theorem wl_mono : ∀ {l : List Ins} {b : Nat} {st : St} {Q R : St → Prop}, wl AP d mk l b st Q → (∀ r, Q r → R r) → wl AP d mk l b st R
 | [], _, _, _, _, hw, hi => hi _ hw
 | _ :: _, _, _, _, _, hw, hi => wins_mono hw fun _ h => wl_mono h hi
theorem wd_mono : ∀ {l : List Ins} {b : Nat} {st : St} {hs : List Heap} {Q R : St → List Heap → Prop}, wd AP mk l b st hs Q → (∀ r s, Q r s → R r s) → wd AP mk l b st hs R
 | [], _, _, _, _, _, hw, hi => hi _ _ hw
 | _ :: _, _, _, _, _, _, hw, hi => wins_mono hw fun _ h => wd_mono h hi
theorem wc_mono : ∀ (c : IC) {st : St} {Q R : OS → Prop}, wc AP d mk c st Q → (∀ r, Q r → R r) → wc AP d mk c st R
 | .skip, _, _, _, hw, hi => hi _ hw
 | .ops _, _, _, _, hw, hi => wl_mono hw fun _ h => hi _ h
 | .dops .., _, _, _, hw, hi => wd_mono hw fun _ _ h => let ⟨v, e, k⟩ := h; ⟨v, e, hi _ k⟩
 | .seq a b, _, _, _, hw, hi => wc_mono a hw fun r h => by
  obtain ⟨o, s⟩ := r
  cases o with
  | normal => exact wc_mono b h hi
  | exit i => exact hi _ h
  | ret => exact hi _ h
 | .cond c a b, _, _, _, hw, hi => let ⟨t, e, h1, h2⟩ := hw; ⟨t, e, fun k => wc_mono a (h1 k) hi, fun k => wc_mono b (h2 k) hi⟩
 | .block id c, _, _, _, hw, hi => wc_mono c hw fun r h => by
  obtain ⟨o, s⟩ := r
  cases o with
  | normal => exact hi _ h
  | exit i => simp only at h ⊢; cases hb : Nat.beq i id <;> rw [hb] at h <;> exact hi _ h
  | ret => exact hi _ h
 | .loop c, _, _, _, hw, hi => by
  obtain ⟨I, hI, hc⟩ := hw
  refine ⟨I, hI, fun k st' h1 h2 => wc_mono c (hc k st' h1 h2) fun r h => ?_⟩
  obtain ⟨o, s⟩ := r
  cases o with
  | normal => exact h
  | exit i => exact hi _ h
  | ret => exact hi _ h
 | .rangeF .., _, _, _, hw, hi => W.mono hw hi
 | .exit _, _, _, _, hw, hi => hi _ hw
 | .ret, _, _, _, hw, hi => hi _ hw
 | .bad, _, _, _, hw, _ => hw
def Heap.grow (h : Heap) (na : Nat) : Heap := ⟨h.n + na, h.os⟩
@[simp] theorem Heap.grow_zero (h : Heap) : h.grow 0 = h := (rfl)
@[simp] theorem Heap.n_grow (h : Heap) (na : Nat) : (h.grow na).n = h.n + na := (rfl)
@[simp] theorem Heap.get_grow (h : Heap) (na i : Nat) : (h.grow na).get i = h.get i := (rfl)
structure Ps {α : Sort u} (a : α) : Type where it ::
def OpS {α : Type} (o : Option α) (Q : α → Prop) (_ : Ps Q) : Prop := Op o Q
def BrS (v : V) (A B : Prop) (_ : Ps (A ∧ B)) : Prop := Br v A B
def GdS (v : V) (b : Bool) (A B : Prop) (_ : Ps (A ∧ B)) : Prop := Gd v b A B
def WFS (AP : Prog) (d : Bool) (mk : Nat) (fv : V) (args : List V) (h : Heap) (Q : VH → Prop) (_ : Ps Q) : Prop := WF AP d mk fv args h Q
inductive Fr where
 | seq (b : IC)
 | block (id : Nat)
def through (AP : Prog) (d : Bool) (mk : Nat) : List Fr → (OS → Prop) → OS → Prop
 | [], Q, r => Q r
 | .seq b :: fs, Q, r => match r.o with
  | .normal => wc AP d mk b r.s (through AP d mk fs Q)
  | .exit i => through AP d mk fs Q ⟨.exit i, r.s⟩
  | .ret => through AP d mk fs Q ⟨.ret, r.s⟩
 | .block id :: fs, Q, r => match r.o with
  | .exit i => cond (Nat.beq i id) (through AP d mk fs Q ⟨.normal, r.s⟩) (through AP d mk fs Q ⟨.exit i, r.s⟩)
  | .normal => through AP d mk fs Q ⟨.normal, r.s⟩
  | .ret => through AP d mk fs Q ⟨.ret, r.s⟩
def wk (AP : Prog) (d : Bool) (mk : Nat) (c : IC) (fs : List Fr) (st : St) (Q : OS → Prop) (_ : Ps (c, fs, Q)) : Prop := wc AP d mk c st (through AP d mk fs Q)
def nx (AP : Prog) (d : Bool) (mk : Nat) (fs : List Fr) (o : Out) (st : St) (Q : OS → Prop) (_ : Ps (fs, Q)) : Prop := through AP d mk fs Q ⟨o, st⟩
def wlS (AP : Prog) (d : Bool) (mk : Nat) (l : List Ins) (b : Nat) (fs : List Fr) (st : St) (Q : OS → Prop) (_ : Ps (l, fs, Q)) : Prop := wl AP d mk l b st fun st => through AP d mk fs Q ⟨.normal, st⟩
def wdS (AP : Prog) (d : Bool) (mk : Nat) (l : List Ins) (b : Nat) (chk : List (Nat × Nat)) (l0 : List Ins) (fs : List Fr) (st : St) (hs : List Heap) (Q : OS → Prop) (_ : Ps (l, chk, l0, fs, Q)) : Prop :=
 wd AP mk l b st hs fun st hs => Op (cond (chk.all (recheck l0 st.tm hs.reverse)) (some ()) none) fun _ => through AP d mk fs Q ⟨.normal, st⟩
def winsS (AP : Prog) (d : Bool) (mk : Nat) (i : Ins) (b : Nat) (st : St) (Q : St → Prop) (_ : Ps (i, Q)) : Prop := wins AP d mk i b st Q
def wopS (AP : Prog) (d : Bool) (mk : Nat) (t : Option Nat) (o : IOp) (b : Nat) (st : St) (Q : St → Prop) (_ : Ps (o, Q)) : Prop := wop AP d mk t o b st Q
def wcalS (AP : Prog) (d : Bool) (mk : Nat) (c : Cal) (args : List V) (tm : Tm) (h : Heap) (Q : VH → Prop) (_ : Ps (c, Q)) : Prop := wcal AP d mk c args tm h Q
def wunS (AP : Prog) (d : Bool) (mk : Nat) (l : List DefI) (h : Heap) (Q : Heap → Prop) (_ : Ps Q) : Prop := wun AP d mk l h Q
@[simp] theorem Op_some {α : Type} {x : α} {Q : α → Prop} : OpS (some x) Q ⟨⟩ = Q x := by
 simp [OpS, Op]
@[simp] theorem Op_none {α : Type} {Q : α → Prop} : OpS (none : Option α) Q ⟨⟩ = False := by
 simp [OpS, Op]
theorem OpS.ex {α : Type} {o : Option α} {Q : α → Prop} (h : ∃ x, o = some x ∧ Q x) : OpS o Q ⟨⟩ := h
theorem OpS.intro {α : Type} {o : Option α} {x : α} {Q : α → Prop} (h : o = some x) (hq : Q x) : OpS o Q ⟨⟩ := ⟨x, h, hq⟩
section
variable {A B : Prop} {b : Bool}
@[simp] theorem Br_true : BrS (.bool true) A B ⟨⟩ = A := by simp [BrS, Br]
@[simp] theorem Br_false : BrS (.bool false) A B ⟨⟩ = B := by simp [BrS, Br]
theorem Br_bool : BrS (.bool b) A B ⟨⟩ = ((b = true → A) ∧ (b = false → B)) := by simp [BrS, Br]
@[simp] theorem Gd_tt : GdS (.bool true) true A B ⟨⟩ = A := by simp [GdS, Gd]
@[simp] theorem Gd_ft : GdS (.bool false) true A B ⟨⟩ = B := by simp [GdS, Gd]
@[simp] theorem Gd_tf : GdS (.bool true) false A B ⟨⟩ = B := by simp [GdS, Gd]
@[simp] theorem Gd_ff : GdS (.bool false) false A B ⟨⟩ = A := by simp [GdS, Gd]
theorem Gd_t : GdS (.bool b) true A B ⟨⟩ = ((b = true → A) ∧ (b = false → B)) := by cases b <;> simp [GdS, Gd]
theorem Gd_f : GdS (.bool b) false A B ⟨⟩ = ((b = false → A) ∧ (b = true → B)) := by cases b <;> simp [GdS, Gd]
@[simp] theorem Gd_u : GdS (.tup []) b A B ⟨⟩ = B := by simp [GdS, Gd]
end
def loopQ (AP : Prog) (d : Bool) (mk : Nat) (I : Nat → St → Prop) (k : Nat) (fs : List Fr) (Q : OS → Prop) (_ : Ps (I, k, fs, Q)) (r : OS) : Prop := match r.o with
 | .normal => ∃ j, j < k ∧ I j r.s
 | .exit i => nx AP d mk fs (.exit i) r.s Q ⟨⟩
 | .ret => nx AP d mk fs .ret r.s Q ⟨⟩
def Again (I : Nat → St → Prop) (k : Nat) (st : St) (_ : Ps (I, k)) : Prop := ∃ j, j < k ∧ I j st
theorem Again.intro {I : Nat → St → Prop} {k : Nat} {st : St} (j : Nat) (h : j < k) (hi : I j st) : Again I k st ⟨⟩ := ⟨j, h, hi⟩
section
variable {st : St} {Q : OS → Prop} {fs : List Fr} {b : Nat}
@[simp] theorem wk_skip : wk AP d mk .skip fs st Q ⟨⟩ = nx AP d mk fs .normal st Q ⟨⟩ := (rfl)
@[simp] theorem wk_ops {l : List Ins} : wk AP d mk (.ops l) fs st Q ⟨⟩ = wlS AP d mk l st.h.n fs st Q ⟨⟩ := (rfl)
@[simp] theorem wk_dops {na : Nat} {chk : List (Nat × Nat)} {l : List Ins} : wk AP d mk (.dops na chk l) fs st Q ⟨⟩ = wdS AP d mk l st.h.n chk l fs ⟨st.tm, st.h.grow na, st.defs, st.round⟩ [] Q ⟨⟩ := (rfl)
@[simp] theorem wk_seq {a b : IC} : wk AP d mk (.seq a b) fs st Q ⟨⟩ = wk AP d mk a (.seq b :: fs) st Q ⟨⟩ := (rfl)
@[simp] theorem wk_cond {c : Opd} {a b : IC} : wk AP d mk (.cond c a b) fs st Q ⟨⟩ = BrS (c.ev st.tm) (wk AP d mk a fs st Q ⟨⟩) (wk AP d mk b fs st Q ⟨⟩) ⟨⟩ := (rfl)
@[simp] theorem wk_block {id : Nat} {c : IC} : wk AP d mk (.block id c) fs st Q ⟨⟩ = wk AP d mk c (.block id :: fs) st Q ⟨⟩ := (rfl)
@[simp] theorem wk_exit {id : Nat} : wk AP d mk (.exit id) fs st Q ⟨⟩ = nx AP d mk fs (.exit id) st Q ⟨⟩ := (rfl)
@[simp] theorem wk_ret : wk AP d mk .ret fs st Q ⟨⟩ = nx AP d mk fs .ret st Q ⟨⟩ := (rfl)
@[simp] theorem wk_bad : wk AP d mk .bad fs st Q ⟨⟩ = False := (rfl)
@[simp] theorem nx_nil {o : Out} : nx AP d mk [] o st Q ⟨⟩ = Q ⟨o, st⟩ := (rfl)
@[simp] theorem nx_seq {b : IC} : nx AP d mk (.seq b :: fs) .normal st Q ⟨⟩ = wk AP d mk b fs st Q ⟨⟩ := (rfl)
@[simp] theorem nx_seqX {b : IC} {i : Nat} : nx AP d mk (.seq b :: fs) (.exit i) st Q ⟨⟩ = nx AP d mk fs (.exit i) st Q ⟨⟩ := (rfl)
@[simp] theorem nx_seqR {b : IC} : nx AP d mk (.seq b :: fs) .ret st Q ⟨⟩ = nx AP d mk fs .ret st Q ⟨⟩ := (rfl)
@[simp] theorem nx_block {i : Nat} : nx AP d mk (.block i :: fs) .normal st Q ⟨⟩ = nx AP d mk fs .normal st Q ⟨⟩ := (rfl)
@[simp] theorem nx_blockE {i : Nat} : nx AP d mk (.block i :: fs) (.exit i) st Q ⟨⟩ = nx AP d mk fs .normal st Q ⟨⟩ := by simp [nx, through]
@[simp] theorem nx_blockX {i j : Nat} (h : j ≠ i) : nx AP d mk (.block i :: fs) (.exit j) st Q ⟨⟩ = nx AP d mk fs (.exit j) st Q ⟨⟩ := by
 have : Nat.beq j i = false := by cases hb : Nat.beq j i <;> simp at hb ⊢; exact h hb
 simp [nx, through, this]
@[simp] theorem nx_blockR {i : Nat} : nx AP d mk (.block i :: fs) .ret st Q ⟨⟩ = nx AP d mk fs .ret st Q ⟨⟩ := (rfl)
@[simp] theorem loopQ_n {I : Nat → St → Prop} {k : Nat} : loopQ AP d mk I k fs Q ⟨⟩ ⟨.normal, st⟩ = Again I k st ⟨⟩ := (rfl)
@[simp] theorem loopQ_x {I : Nat → St → Prop} {k i : Nat} : loopQ AP d mk I k fs Q ⟨⟩ ⟨.exit i, st⟩ = nx AP d mk fs (.exit i) st Q ⟨⟩ := (rfl)
@[simp] theorem loopQ_r {I : Nat → St → Prop} {k : Nat} : loopQ AP d mk I k fs Q ⟨⟩ ⟨.ret, st⟩ = nx AP d mk fs .ret st Q ⟨⟩ := (rfl)
theorem wk_loop {c : IC} (I : Nat → St → Prop) (k : Nat) (h0 : I k st) (h : ∀ k st', I k st' → Keeps c st st' → wk AP d mk c [] st' (loopQ AP d mk I k fs Q ⟨⟩) ⟨⟩) : wk AP d mk (.loop c) fs st Q ⟨⟩ :=
 ⟨I, ⟨k, h0⟩, fun k st' h1 h2 => by
  have := h k st' h1 h2
  have e : (through AP d mk [] (loopQ AP d mk I k fs Q ⟨⟩)) = fun r => match r.o with
   | .normal => ∃ j, j < k ∧ I j r.s
   | .exit i => through AP d mk fs Q ⟨.exit i, r.s⟩
   | .ret => through AP d mk fs Q ⟨.ret, r.s⟩ := by
   funext r; rfl
  unfold wk at this
  rw [e] at this
  exact this⟩
theorem wk_abs {c : IC} (P : St → Prop) (hP : P st) (h : ∀ st, P st → wk AP d mk c fs st Q ⟨⟩) : wk AP d mk c fs st Q ⟨⟩ := h st hP
theorem wk_mid {c : IC} (M : Out → St → Prop) (h1 : wk AP d mk c [] st (fun r => M r.o r.s) ⟨⟩) (h2 : ∀ o s, M o s → nx AP d mk fs o s Q ⟨⟩) : wk AP d mk c fs st Q ⟨⟩ := wc_mono c h1 fun r h => h2 r.o r.s h
end
section
variable {st : St} {Q : OS → Prop} {fs : List Fr} {b : Nat}
@[simp] theorem wl_nil : wlS AP d mk [] b fs st Q ⟨⟩ = nx AP d mk fs .normal st Q ⟨⟩ := (rfl)
@[simp] theorem wl_cons {x : Ins} {l : List Ins} : wlS AP d mk (x :: l) b fs st Q ⟨⟩ = winsS AP d mk x b st (fun st => wlS AP d mk l b fs st Q ⟨⟩) ⟨⟩ := (rfl)
@[simp] theorem wd_nil {chk : List (Nat × Nat)} {l0 : List Ins} {hs : List Heap} : wdS AP d mk [] b chk l0 fs st hs Q ⟨⟩ = OpS (cond (chk.all (recheck l0 st.tm (st.h :: hs).reverse)) (some ()) none) (fun _ => nx AP d mk fs .normal st Q ⟨⟩) ⟨⟩ := (rfl)
@[simp] theorem wd_cons {chk : List (Nat × Nat)} {l0 : List Ins} {x : Ins} {l : List Ins} {hs : List Heap} : wdS AP d mk (x :: l) b chk l0 fs st hs Q ⟨⟩ = winsS AP true mk x b st (fun st' => wdS AP d mk l b chk l0 fs st' (st.h :: hs) Q ⟨⟩) ⟨⟩ := (rfl)
end
section
variable {st : St} {Q : St → Prop} {b : Nat} {t : Option Nat}
@[simp] theorem wins_i {t : Nat} {o : IOp} : winsS AP d mk (Pr.i t o) b st Q ⟨⟩ = wopS AP d mk (some t) o b st Q ⟨⟩ := (rfl)
@[simp] theorem wins_n {o : IOp} : winsS AP d mk (Pr.n o) b st Q ⟨⟩ = wopS AP d mk none o b st Q ⟨⟩ := (rfl)
@[simp] theorem wins_g {g : Nat × Bool} {o : IOp} : winsS AP d mk ⟨t, some g, o⟩ b st Q ⟨⟩ = GdS ((gK g.1).run st.tm) g.2 (wopS AP d mk t o b st Q ⟨⟩) (Q ((putK t).run (.tup []) st.h st)) ⟨⟩ := (rfl)
@[simp] theorem put_some {t : Nat} {v : V} {h : Heap} : (putK (some t)).run v h st = ⟨(sK t).run v st.tm, h, st.defs, st.round⟩ := (rfl)
@[simp] theorem put_none {v : V} {h : Heap} : (putK none).run v h st = ⟨st.tm, h, st.defs, st.round⟩ := (rfl)
@[simp] theorem wop_p {o : PO} : wopS AP d mk t (.p o) b st Q ⟨⟩ = OpS ((compP o).run st.tm) (fun v => Q ((putK t).run v st.h st)) ⟨⟩ := (rfl)
@[simp] theorem wop_r {o : RdO} : wopS AP d mk t (.r o) b st Q ⟨⟩ = OpS ((compR o).run st.tm st.h) (fun v => Q ((putK t).run v st.h st)) ⟨⟩ := (rfl)
@[simp] theorem wop_a {o : AO} {hole : Option Nat} : wopS AP d mk t (.a o hole) b st Q ⟨⟩ = OpS ((compA o).run st.tm) (fun m => match m with
  | .val v => Q ((putK t).run v st.h st)
  | .obj o f => (match hole with
   | none => Q ((putK t).run (f st.h.n) (st.h.push o) st)
   | some j => Q ((putK t).run (f (b + j)) (st.h.set (b + j) o) st))) ⟨⟩ := (rfl)
@[simp] theorem wop_w {o : WO} : wopS AP d mk t (.w o) b st Q ⟨⟩ = OpS ((compW o).run mk st.tm st.h) (fun r => Q ((putK t).run r.v r.h st)) ⟨⟩ := (rfl)
@[simp] theorem wop_call {c : Cal} {args : List Opd} : wopS AP d mk t (.call c args false) b st Q ⟨⟩ = wcalS AP d mk c ((opdsK args).run st.tm) st.tm st.h (fun r => Q ((putK t).run r.v r.h st)) ⟨⟩ := (rfl)
@[simp] theorem wop_callF {c : Cal} {args : List Opd} : wopS AP d mk t (.call c args true) b st Q ⟨⟩ = wcalS AP d mk c ((opdsK args).run st.tm) st.tm st.h (fun r => OpS (frzV mk r) (fun r => Q ((putK t).run r.v r.h st)) ⟨⟩) ⟨⟩ := (rfl)
@[simp] theorem wop_nxtM {x : Opd} : wopS AP d mk t (.nxtM x) b st Q ⟨⟩ = OpS (nextM mk (x.ev st.tm) st.h) (fun l => d = false ∧ l ≠ [] ∧ ∀ r ∈ l, Q ((putK t).run r.v r.h st)) ⟨⟩ := (rfl)
@[simp] theorem wop_defer {x : Opd} : wopS AP d mk t (.defer x) b st Q ⟨⟩ = OpS (match x.ev st.tm with | .fn f a c => some (V.fn f a c) | _ => none) (fun v => st.round = false ∧ Q ((putK t).run .any st.h ⟨st.tm, st.h, .call v :: st.defs, st.round⟩)) ⟨⟩ := (rfl)
@[simp] theorem wop_recover : wopS AP d mk t .recover b st Q ⟨⟩ = (st.round = false ∧ Q ((putK t).run .nili st.h st)) := (rfl)
end
section
variable {args : List V} {tm : Tm} {h : Heap} {Q : VH → Prop}
@[simp] theorem wcal_dir {f : Nat} : wcalS AP d mk (.dir f) args tm h Q ⟨⟩ = WFS AP d mk (.fn f [] []) args h Q ⟨⟩ := (rfl)
@[simp] theorem wcal_val {x : Opd} : wcalS AP d mk (.val x) args tm h Q ⟨⟩ = WFS AP d mk (x.ev tm) args h Q ⟨⟩ := (rfl)
@[simp] theorem wcal_inv {x : Opd} {m : String} : wcalS AP d mk (.inv x m) args tm h Q ⟨⟩ = OpS (match x.ev tm with | .iface t v => some (t, v) | _ => none) (fun p => OpS (AP.meth p.1 m) (fun f => WFS AP d mk (.fn f [] []) (p.2 :: args) h Q ⟨⟩) ⟨⟩) ⟨⟩ := (rfl)
theorem WFS.by {fv : V} {R : VH → Prop} (h1 : WF AP d mk fv args h R) (h2 : ∀ v h', R ⟨v, h'⟩ → Q ⟨v, h'⟩) : WFS AP d mk fv args h Q ⟨⟩ := W.mono h1 fun r => h2 r.v r.h
@[simp] theorem wun_nil {Q : Heap → Prop} : wunS AP d mk [] h Q ⟨⟩ = Q h := (rfl)
@[simp] theorem wun_mark {i : Nat} {r : List DefI} {Q : Heap → Prop} : wunS AP d mk (.mark i :: r) h Q ⟨⟩ = (h.get i = some .dfr ∧ mk ≤ i ∧ wunS AP d mk r (h.kill i) Q ⟨⟩) := (rfl)
def bodyQ (AP : Prog) (d : Bool) (mk : Nat) (rs : List Res) (Q : VH → Prop) (_ : Ps (rs, Q)) (r : OS) : Prop := match r.o with
 | .exit _ => False
 | _ => wunS AP d mk r.s.defs r.s.h (fun h' => OpS (results r.s.tm h' rs) (fun v => Q ⟨v, h'⟩) ⟨⟩) ⟨⟩
@[simp] theorem bodyQ_n {rs : List Res} {st : St} : bodyQ AP d mk rs Q ⟨⟩ ⟨.normal, st⟩ = wunS AP d mk st.defs st.h (fun h' => OpS (results st.tm h' rs) (fun v => Q ⟨v, h'⟩) ⟨⟩) ⟨⟩ := (rfl)
@[simp] theorem bodyQ_r {rs : List Res} {st : St} : bodyQ AP d mk rs Q ⟨⟩ ⟨.ret, st⟩ = wunS AP d mk st.defs st.h (fun h' => OpS (results st.tm h' rs) (fun v => Q ⟨v, h'⟩) ⟨⟩) ⟨⟩ := (rfl)
theorem wbodyS {F : IFn} (c : IC) (rs : List Res) (hc : F.body = c) (hr : F.res = rs) (h1 : wk AP d mk c [] ⟨Tm.ofL 0 args .e, h, [], false⟩ (bodyQ AP d mk rs Q ⟨⟩) ⟨⟩) : wbody AP d mk F args h Q := by
 subst hc hr
 refine wc_mono F.body h1 fun r h => ?_
 unfold through bodyQ at h
 split at h
 ·exact h.elim
 ·rename_i hx
  refine ⟨?_, h⟩
  cases e : r.o with
  | exit i => exact (hx i e).elim
  | normal => trivial
  | ret => trivial
end
@[simp] theorem ev_t {i : Nat} {tm : Tm} : (Opd.t i).ev tm = (gK i).run tm := (rfl)
@[simp] theorem ev_c {v : V} {tm : Tm} : (Opd.c v).ev tm = v := (rfl)
@[simp] theorem opds_nil {tm : Tm} : (opdsK []).run tm = [] := (rfl)
@[simp] theorem opds_cons {x : Opd} {l : List Opd} {tm : Tm} : (opdsK (x :: l)).run tm = x.ev tm :: (opdsK l).run tm := (rfl)
attribute [simp] gK_sK gK_e
@[simp] theorem ofL_nil {i : Nat} {tm : Tm} : Tm.ofL i [] tm = tm := (rfl)
@[simp] theorem ofL_cons {i : Nat} {v : V} {l : List V} {tm : Tm} : Tm.ofL i (v :: l) tm = Tm.ofL (i + 1) l ((sK i).run v tm) := (rfl)
@[simp] theorem zipPut_cons {p : Nat} {ps : List Nat} {a : V} {l : List V} {tm : Tm} : zipPut tm (p :: ps) (a :: l) = zipPut ((sK p).run a tm) ps l := (rfl)
@[simp] theorem zipPut_nil {l : List V} {tm : Tm} : zipPut tm [] l = tm := by cases l <;> rfl
attribute [simp] Nat.add_assoc
attribute [simp] Heap.get_set Heap.get_kill Heap.get_push
theorem fw64 {n : Int} (h : -9223372036854775808 ≤ n) (h' : n ≤ 9223372036854775807) : fw .i64 n = n := by
 rw [fw_eq]; exact wrap_of _ _ h h'
theorem fw8 {n : Int} (h : 0 ≤ n) (h' : n ≤ 255) : fw .u8 n = n := by
 rw [fw_eq]; exact wrap_of _ _ h h'
theorem fw32 {n : Int} (h : -2147483648 ≤ n) (h' : n ≤ 2147483647) : fw .i32 n = n := by
 rw [fw_eq]; exact wrap_of _ _ h h'
attribute [simp] leB_eq ltB_eq eqB_eq ikB_eq
theorem blt_true {a b : Nat} (h : a < b) : Nat.blt a b = true := by rw [Nat.blt_eq]; exact h
theorem ble_true {a b : Nat} (h : a ≤ b) : Nat.ble a b = true := by rw [Nat.ble_eq]; exact h
theorem cond_min (m n : Int) : cond (ltB m n) m n = min m n := by rw [ltB_eq, cond_eq_ite, Int.min_def]; simp only [decide_eq_true_eq]; split <;> split <;> omega
theorem cond_max (m n : Int) : cond (ltB n m) m n = max n m := by rw [ltB_eq, cond_eq_ite, Int.max_def]; simp only [decide_eq_true_eq]; split <;> split <;> omega
@[simp] theorem blt_dec {a b : Nat} : Nat.blt a b = decide (a < b) := by rw [Bool.eq_iff_iff, Nat.blt_eq]; simp
@[simp] theorem ble_dec {a b : Nat} : Nat.ble a b = decide (a ≤ b) := by rw [Bool.eq_iff_iff, Nat.ble_eq]; simp
@[simp] theorem beq_dec {a b : Nat} : Nat.beq a b = decide (a = b) := by rw [Bool.eq_iff_iff, Nat.beq_eq]; simp
theorem idx_int {k : IntKind} {n : Int} {len : Nat} (h : 0 ≤ n) (h' : n < len) : idx (.int k n) len = some n.toNat := by
 obtain ⟨m, rfl⟩ := Int.eq_ofNat_of_zero_le h
 have : m < len := by omega
 show cond (Nat.blt m len) (some m) none = _
 rw [blt_true this]; rfl
theorem bnd_int {n : Int} {top : Nat} (h : 0 ≤ n) (h' : n ≤ top) : bnd n top = some n.toNat := by
 obtain ⟨m, rfl⟩ := Int.eq_ofNat_of_zero_le h
 have : m ≤ top := by omega
 show cond (Nat.ble m top) (some m) none = _
 rw [ble_true this]; rfl
section
variable {k l : IntKind} {a b : Int}
@[simp] theorem bin_add {k : IntKind} {a b : Int} : (binK .add).run (.int k a) (.int k b) = some (.int k (fw k (a + b))) := by
 simp [binK, addV]
@[simp] theorem bin_sub : (binK .sub).run (.int k a) (.int k b) = some (.int k (fw k (a - b))) := by
 simp [binK, ariV]
@[simp] theorem bin_mul : (binK .mul).run (.int k a) (.int k b) = some (.int k (fw k (a * b))) := by
 simp [binK, ariV]
theorem bin_quo (h : b ≠ 0) : (binK .quo).run (.int k a) (.int k b) = some (.int k (fw k (a.tdiv b))) := by
 simp [binK, ariV, h]
theorem bin_rem (h : b ≠ 0) : (binK .rem).run (.int k a) (.int k b) = some (.int k (a.tmod b)) := by
 simp [binK, ariV, h]
@[simp] theorem bin_and : (binK .and).run (.int k a) (.int k b) = some (.int k (fw k (BitVec.ofInt k.bits a &&& BitVec.ofInt k.bits b).toNat)) := by
 simp [binK, ariV]
@[simp] theorem bin_or : (binK .or).run (.int k a) (.int k b) = some (.int k (fw k (BitVec.ofInt k.bits a ||| BitVec.ofInt k.bits b).toNat)) := by
 simp [binK, ariV]
@[simp] theorem bin_andNot : (binK .andNot).run (.int k a) (.int k b) = some (.int k (fw k (BitVec.ofInt k.bits a &&& ~~~ BitVec.ofInt k.bits b).toNat)) := by
 simp [binK, ariV]
@[simp] theorem bin_eql : (binK .eql).run (.int k a) (.int k b) = some (.bool (decide (a = b))) := by
 simp [binK, eqV]
@[simp] theorem bin_neq : (binK .neq).run (.int k a) (.int k b) = some (.bool (decide (a ≠ b))) := by
 simp [binK, eqV]
@[simp] theorem bin_lss : (binK .lss).run (.int k a) (.int k b) = some (.bool (decide (a < b))) := by
 simp [binK, cmpV]
@[simp] theorem bin_leq : (binK .leq).run (.int k a) (.int k b) = some (.bool (decide (a ≤ b))) := by
 simp [binK, cmpV]
@[simp] theorem bin_gtr : (binK .gtr).run (.int k a) (.int k b) = some (.bool (decide (b < a))) := by
 simp [binK, cmpV]
@[simp] theorem bin_geq : (binK .geq).run (.int k a) (.int k b) = some (.bool (decide (b ≤ a))) := by
 simp [binK, cmpV]
@[simp] theorem un_not {c : Bool} : unV .not (.bool c) = some (.bool !c) := (rfl)
@[simp] theorem un_neg : unV .neg (.int k a) = some (.int k (fw k (0 - a))) := (rfl)
end
section
variable {x y i c a : Opd} {tm : Tm} {h : Heap}
def pickV (c a b : V) : Option V := match c with
 | .bool t => cond t (some a) (some b)
 | _ => none
@[simp] theorem pickV_bool {t : Bool} {u v : V} : pickV (.bool t) u v = some (cond t u v) := by cases t <;> rfl
def ciV (k : IntKind) (v : V) : Option V := match v with
 | .int _ n => some (.int k (fw k n))
 | _ => none
@[simp] theorem ciV_int {k l : IntKind} {n : Int} : ciV k (.int l n) = some (.int k (fw k n)) := (rfl)
def faddrV (off : Nat) (v : V) : Option V := match v with
 | .ptr i r o => some (.ptr i r (o + off))
 | .ptrR r o => some (.ptrR r (o + off))
 | _ => none
@[simp] theorem faddrV_ptr {off i r o : Nat} : faddrV off (.ptr i r o) = some (.ptr i r (o + off)) := (rfl)
@[simp] theorem faddrV_ptrR {off o : Nat} {r : List V} : faddrV off (.ptrR r o) = some (.ptrR r (o + off)) := (rfl)
def fldV (off : Nat) (n : Option Nat) (v : V) : Option V := match v with
 | .agg cs => loadN cs off n
 | _ => none
@[simp] theorem fldV_agg {off : Nat} {n : Option Nat} {cs : List V} : fldV off n (.agg cs) = loadN cs off n := (rfl)
def iaddrV (esz : Nat) (v i : V) : Option V := match v with
 | .sl id lo len e _ => cond (Nat.beq e esz) (match idx i len with
  | some j => some (.ptr id (lo + j) 0)
  | none => none) none
 | .slR rows _ => (match idx i rows.length with
  | some j => (match nthR j rows with
   | some r => cond (Nat.beq r.length esz) (some (.ptrR r 0)) none
   | none => none)
  | none => none)
 | _ => none
def iaddrAV (len esz : Nat) (v i : V) : Option V := match idx i len with
 | some j => (match v with
  | .ptr id r o => some (.ptr id r (o + j * esz))
  | .ptrR r o => some (.ptrR r (o + j * esz))
  | _ => none)
 | none => none
def idxAV (len esz : Nat) (ag : Bool) (v i : V) : Option V := match v with
 | .agg cs => (match idx i len with
  | some j => loadN cs (j * esz) (cond ag (some esz) none)
  | none => none)
 | _ => none
def idxSV (v i : V) : Option V := match v with
 | .str s => (match idx i s.length with
  | some j => (match s[j]? with
   | some c => some (.int .u8 (.ofNat c.toNat))
   | none => none)
  | none => none)
 | _ => none
def extV (i : Nat) (v : V) : Option V := match v with
 | .tup vs => nth i vs
 | _ => none
@[simp] theorem extV_tup {i : Nat} {vs : List V} : extV i (.tup vs) = nth i vs := (rfl)
def asrtV (t : Nat) (ok : Bool) (zero v : V) : Option V := match v with
 | .iface u v => cond (Nat.beq t u) (some (cond ok (.tup [v, .bool true]) v)) (cond ok (some (.tup [zero, .bool false])) none)
 | .nili => cond ok (some (.tup [zero, .bool false])) none
 | _ => none
@[simp] theorem asrtV_iface {t u : Nat} {ok : Bool} {zero v : V} : asrtV t ok zero (.iface u v) = cond (Nat.beq t u) (some (cond ok (.tup [v, .bool true]) v)) (cond ok (some (.tup [zero, .bool false])) none) := (rfl)
def eqoV (neg : Bool) (o : Option Bool) : Option V := match o with
 | some b => some (.bool (neg != b))
 | none => none
@[simp] theorem eqoV_some {neg b : Bool} : eqoV neg (some b) = some (.bool (neg != b)) := (rfl)
def buildV (o : Option (List V)) : Option V := match o with
 | some l => some (.agg l)
 | none => none
@[simp] theorem buildV_some {l : List V} : buildV (some l) = some (.agg l) := (rfl)
def minV (v : V) (tm : Tm) (xs : List Opd) : Option V := match v with
 | .int k n => minInt k tm n xs
 | _ => none
@[simp] theorem minV_int {k : IntKind} {n : Int} {xs : List Opd} : minV (.int k n) tm xs = minInt k tm n xs := (rfl)
def maxV (v : V) (tm : Tm) (xs : List Opd) : Option V := match v with
 | .int k n => maxInt k tm n xs
 | _ => none
@[simp] theorem maxV_int {k : IntKind} {n : Int} {xs : List Opd} : maxV (.int k n) tm xs = maxInt k tm n xs := (rfl)
@[simp] theorem minInt_nil {k : IntKind} {n : Int} : minInt k tm n [] = some (.int k n) := (rfl)
@[simp] theorem maxInt_nil {k : IntKind} {n : Int} : maxInt k tm n [] = some (.int k n) := (rfl)
def intOf (v : V) : Option Int := match v with
 | .int _ n => some n
 | _ => none
@[simp] theorem intOf_int {k : IntKind} {n : Int} : intOf (.int k n) = some n := (rfl)
theorem minInt_cons {k : IntKind} {n m : Int} {y : Opd} {r : List Opd} (h : intOf (y.ev tm) = some m) : minInt k tm n (y :: r) = minInt k tm (min m n) r := by
 show (match y.ev tm with | .int _ m => minInt k tm (cond (ltB m n) m n) r | _ => none) = _
 split
 ·rename_i e; rw [e] at h; cases h
  rw [cond_min]
 ·rename_i h1; exfalso; revert h h1; cases (y.ev tm) <;> simp [intOf]
theorem maxInt_cons {k : IntKind} {n m : Int} {y : Opd} {r : List Opd} (h : intOf (y.ev tm) = some m) : maxInt k tm n (y :: r) = maxInt k tm (max n m) r := by
 show (match y.ev tm with | .int _ m => maxInt k tm (cond (ltB n m) m n) r | _ => none) = _
 split
 ·rename_i e; rw [e] at h; cases h
  rw [cond_max]
 ·rename_i h1; exfalso; revert h h1; cases (y.ev tm) <;> simp [intOf]
@[simp] theorem P_mov : (compP (.mov x)).run tm = some (x.ev tm) := (rfl)
@[simp] theorem P_pick {b : Opd} : (compP (.pick c a b)).run tm = pickV (c.ev tm) (a.ev tm) (b.ev tm) := (rfl)
@[simp] theorem P_build {z : List V} {ps : List (Nat × Nat × Opd)} : (compP (.build z ps)).run tm = buildV (fillRow z tm ps) := (rfl)
@[simp] theorem P_nilc : (compP (.nilc x)).run tm = nilcV (x.ev tm) := (rfl)
@[simp] theorem P_bin {op : BinOp} : (compP (.bin op x y)).run tm = (binK op).run (x.ev tm) (y.ev tm) := (rfl)
@[simp] theorem P_eqo {neg : Bool} {k : EqK} : (compP (.eqo neg k x y)).run tm = eqoV neg (eqv k (x.ev tm) (y.ev tm)) := (rfl)
@[simp] theorem P_un {op : UnOp} : (compP (.un op x)).run tm = unV op (x.ev tm) := (rfl)
@[simp] theorem P_ci {k : IntKind} : (compP (.ci k x)).run tm = ciV k (x.ev tm) := (rfl)
@[simp] theorem P_mki {t : Nat} : (compP (.mki t x)).run tm = some (.iface t (x.ev tm)) := (rfl)
@[simp] theorem P_asrt {t : Nat} {ok : Bool} {z : V} : (compP (.asrt t ok z x)).run tm = asrtV t ok z (x.ev tm) := (rfl)
@[simp] theorem P_mkf {f : Nat} {p q : List Opd} : (compP (.mkf f p q)).run tm = some (.fn f ((opdsK p).run tm) ((opdsK q).run tm)) := (rfl)
@[simp] theorem P_slice {esz : Nat} {lo hi mx : Option Opd} : (compP (.slice esz x lo hi mx)).run tm = sliceV esz (cutK lo hi mx) tm (x.ev tm) := (rfl)
@[simp] theorem P_faddr {off : Nat} : (compP (.faddr off a)).run tm = faddrV off (a.ev tm) := (rfl)
@[simp] theorem P_fld {off : Nat} {n : Option Nat} : (compP (.fld off n x)).run tm = fldV off n (x.ev tm) := (rfl)
@[simp] theorem P_iaddr {esz : Nat} : (compP (.iaddr esz x i)).run tm = iaddrV esz (x.ev tm) (i.ev tm) := (rfl)
@[simp] theorem P_iaddrA {len esz : Nat} : (compP (.iaddrA len esz x i)).run tm = iaddrAV len esz (x.ev tm) (i.ev tm) := (rfl)
@[simp] theorem P_idxA {len esz : Nat} {ag : Bool} : (compP (.idxA len esz ag x i)).run tm = idxAV len esz ag (x.ev tm) (i.ev tm) := (rfl)
@[simp] theorem P_idxS : (compP (.idxS x i)).run tm = idxSV (x.ev tm) (i.ev tm) := (rfl)
@[simp] theorem P_ext {j : Nat} : (compP (.ext j x)).run tm = extV j (x.ev tm) := (rfl)
@[simp] theorem P_min {xs : List Opd} : (compP (.min x xs)).run tm = minV (x.ev tm) tm xs := (rfl)
@[simp] theorem P_max {xs : List Opd} : (compP (.max x xs)).run tm = maxV (x.ev tm) tm xs := (rfl)
def loadV (n : Option Nat) (v : V) (h : Heap) : Option V := match v with
 | .ptr i r o => (match h.get i with
  | some (.rows rs) => (match nthR r rs with
   | some row => loadN row o n
   | none => none)
  | _ => none)
 | .ptrR row o => loadN row o n
 | _ => none
@[simp] theorem loadV_ptrR {n : Option Nat} {row : List V} {o : Nat} : loadV n (.ptrR row o) h = loadN row o n := (rfl)
def rowN (n : Option Nat) (o : Nat) (x : Option (List V)) : Option V := match x with
 | some row => loadN row o n
 | none => none
@[simp] theorem rowN_some {n : Option Nat} {o : Nat} {row : List V} : rowN n o (some row) = loadN row o n := (rfl)
def loadAt (n : Option Nat) (r o : Nat) (x : Option Obj) : Option V := match x with
 | some (.rows rs) => rowN n o rs[r]?
 | _ => none
@[simp] theorem loadAt_rows {n : Option Nat} {r o : Nat} {rs : List (List V)} : loadAt n r o (some (.rows rs)) = rowN n o rs[r]? := (rfl)
@[simp] theorem loadV_ptr {n : Option Nat} {i r o : Nat} : loadV n (.ptr i r o) h = loadAt n r o (h.get i) := by
 simp only [loadV]
 cases h.get i with
 | none => rfl
 | some x => cases x with
  | rows rs => simp only [loadAt, nthR_eq]; rfl
  | _ => rfl
def lenV (k : LK) (v : V) (h : Heap) : Option V := match k with
 | .str => (match v with
  | .str s => some (.int .i64 (.ofNat s.length))
  | _ => none)
 | .sl => (match v with
  | .nils => some (.int .i64 0)
  | .sl _ _ n _ _ => some (.int .i64 (.ofNat n))
  | .slR r _ => some (.int .i64 (.ofNat r.length))
  | _ => none)
 | .map => (match v with
  | .nilm => some (.int .i64 0)
  | .map i => (match h.get i with
   | some (.map es _) => some (.int .i64 (.ofNat es.length))
   | _ => none)
  | _ => none)
@[simp] theorem lenV_nils : lenV .sl .nils h = some (.int .i64 0) := (rfl)
@[simp] theorem lenV_sl {id lo n e : Nat} {f : Bool} : lenV .sl (.sl id lo n e f) h = some (.int .i64 n) := (rfl)
@[simp] theorem lenV_slR {rs : List (List V)} {f : Bool} : lenV .sl (.slR rs f) h = some (.int .i64 rs.length) := (rfl)
@[simp] theorem lenV_str {s : List UInt8} : lenV .str (.str s) h = some (.int .i64 s.length) := (rfl)
def lookV (kn : KK) (zero : V) (ok : Bool) (m k : V) (h : Heap) : Option V := cond (keyOk kn k) (match m with
  | .nilm => some (cond ok (.tup [zero, .bool false]) zero)
  | .map i => (match h.get i with
   | some (.map es _) => (match findK k es 0 with
    | some (some r) => some (cond ok (.tup [r.2, .bool true]) r.2)
    | some none => some (cond ok (.tup [zero, .bool false]) zero)
    | none => none)
   | _ => none)
  | _ => none) none
@[simp] theorem R_load {n : Option Nat} : (compR (.load n a)).run tm h = loadV n (a.ev tm) h := (rfl)
@[simp] theorem R_len {k : LK} : (compR (.len k x)).run tm h = lenV k (x.ev tm) h := (rfl)
@[simp] theorem R_lookup {kn : KK} {z : V} {ok : Bool} {m k : Opd} : (compR (.lookup kn z ok m k)).run tm h = lookV kn z ok (m.ev tm) (k.ev tm) h := (rfl)
end
section
variable {tm : Tm}
@[simp] def boxM (n : Nat) (vs : List V) : Option Made := cond (decide (vs.length = n) && decide (0 < n)) (some (.obj (.rows [vs]) fun i => .ptr i 0 0)) none
@[simp] theorem A_alloc {cells : List V} : (compA (.alloc cells)).run tm = some (.obj (.rows [cells]) fun i => .ptr i 0 0) := (rfl)
@[simp] theorem A_box {n : Nat} {x : Opd} : (compA (.box n x)).run tm = boxM n (x.ev tm).cells := by simp [compA, boxM]
theorem boxM_some {n : Nat} {vs : List V} (h : vs.length = n) (h0 : 0 < n) : boxM n vs = some (.obj (.rows [vs]) fun i => .ptr i 0 0) := by
 simp [boxM, h, h0]
@[simp] theorem A_mkm : (compA .mkm).run tm = some (.obj (.map [] 0) .map) := (rfl)
@[simp] theorem A_bslice {ro : Bool} {zero : List V} {len : Nat} {ps : List (Nat × Opd)} : (compA (.bslice ro zero len ps)).run tm = (match fillRows zero.length (List.replicate len zero) tm ps with
  | some rows => cond ro (some (.val (.slR rows true))) (some (.obj (.rows rows) fun i => .sl i 0 len zero.length true))
  | none => none) := (rfl)
end
section
variable {tm : Tm} {h : Heap} {mk : Nat} {a x : Opd}
def storeRow (mk n i r o : Nat) (vs : List V) (h : Heap) (rs : List (List V)) (row : Option (List V)) : Option VH := match row with
 | some row => cond (decide (mk ≤ i) && decide (vs.length = n) && decide (0 < n) && decide (o + n ≤ row.length) && ones vs) (some ⟨.any, h.set i (.rows (rs.set r (putAt row o vs)))⟩) none
 | none => none
@[simp] theorem storeRow_some {n i r o : Nat} {vs : List V} {rs : List (List V)} {row : List V} : storeRow mk n i r o vs h rs (some row) = cond (decide (mk ≤ i) && decide (vs.length = n) && decide (0 < n) && decide (o + n ≤ row.length) && ones vs) (some ⟨.any, h.set i (.rows (rs.set r (putAt row o vs)))⟩) none := (rfl)
def storeAt (mk n i r o : Nat) (vs : List V) (h : Heap) (ob : Option Obj) : Option VH := match ob with
 | some (.rows rs) => storeRow mk n i r o vs h rs rs[r]?
 | _ => none
@[simp] theorem storeAt_rows {n i r o : Nat} {vs : List V} {rs : List (List V)} : storeAt mk n i r o vs h (some (.rows rs)) = storeRow mk n i r o vs h rs rs[r]? := (rfl)
def storeV (mk n : Nat) (a : V) (vs : List V) (h : Heap) : Option VH := match a with
 | .ptr i r o => storeAt mk n i r o vs h (h.get i)
 | _ => none
@[simp] theorem storeV_ptr {n i r o : Nat} {vs : List V} : storeV mk n (.ptr i r o) vs h = storeAt mk n i r o vs h (h.get i) := (rfl)
@[simp] theorem W_store {n : Nat} : (compW (.store n a x)).run mk tm h = storeV mk n (a.ev tm) (x.ev tm).cells h := by
 simp only [compW]
 cases a.ev tm with
 | ptr i r o =>
  simp only [storeV_ptr]
  cases h.get i with
  | none => rfl
  | some ob => cases ob with
   | rows rs =>
    simp only [storeAt, nthR_eq, blt_dec, ble_dec, beq_dec]
    cases rs[r]? <;> rfl
   | _ => rfl
 | _ => rfl
@[simp] theorem ones_nil : ones [] = true := (rfl)
@[simp] theorem ones_cons {v : V} {l : List V} : ones (v :: l) = (v.one && ones l) := (rfl)
@[simp] theorem one_int {k : IntKind} {n : Int} : (V.int k n).one = true := (rfl)
@[simp] theorem one_bool {b : Bool} : (V.bool b).one = true := (rfl)
@[simp] theorem one_str {b : List UInt8} : (V.str b).one = true := (rfl)
@[simp] theorem one_nils : V.nils.one = true := (rfl)
@[simp] theorem one_sl {id lo n e : Nat} {f : Bool} : (V.sl id lo n e f).one = true := (rfl)
@[simp] theorem one_slR {rs : List (List V)} {f : Bool} : (V.slR rs f).one = true := (rfl)
@[simp] theorem one_ptr {i r o : Nat} : (V.ptr i r o).one = true := (rfl)
@[simp] theorem one_map {i : Nat} : (V.map i).one = true := (rfl)
@[simp] theorem one_fn {f : Nat} {p q : List V} : (V.fn f p q).one = true := (rfl)
@[simp] theorem one_yld {i : Nat} : (V.yld i).one = true := (rfl)
@[simp] theorem one_nilf : V.nilf.one = true := (rfl)
end
@[simp] theorem nth_zero {v : V} {l : List V} : nth 0 (v :: l) = some v := (rfl)
@[simp] theorem nth_succ {i : Nat} {v : V} {l : List V} : nth (i + 1) (v :: l) = nth i l := (rfl)
@[simp] theorem loadN_none {row : List V} {o : Nat} : loadN row o none = nth o row := (rfl)
@[simp] theorem loadN_some {row : List V} {o n : Nat} : loadN row o (some n) = cond (decide (o + n ≤ row.length)) (some (.agg ((row.drop o).take n))) none := by
 simp [loadN]
@[simp] theorem fillRow_nil {cells : List V} {tm : Tm} : fillRow cells tm [] = some cells := (rfl)
@[simp] theorem fillRow_cons {cells : List V} {tm : Tm} {off size : Nat} {x : Opd} {r : List (Nat × Nat × Opd)} : fillRow cells tm ((off, size, x) :: r) = cond (decide ((x.ev tm).cells.length = size) && decide (0 < size) && decide (off + size ≤ cells.length)) (fillRow (putAt cells off (x.ev tm).cells) tm r) none := by simp [fillRow]
@[simp] theorem cells_agg {cs : List V} : (V.agg cs).cells = cs := (rfl)
@[simp] theorem cells_int {k : IntKind} {n : Int} : (V.int k n).cells = [.int k n] := (rfl)
@[simp] theorem cells_bool {b : Bool} : (V.bool b).cells = [.bool b] := (rfl)
@[simp] theorem cells_str {s : List UInt8} : (V.str s).cells = [.str s] := (rfl)
@[simp] theorem cells_nils : V.nils.cells = [.nils] := (rfl)
@[simp] theorem cells_sl {id lo n e : Nat} {f : Bool} : (V.sl id lo n e f).cells = [.sl id lo n e f] := (rfl)
@[simp] theorem cells_slR {rs : List (List V)} {f : Bool} : (V.slR rs f).cells = [.slR rs f] := (rfl)
@[simp] theorem cells_ptr {i r o : Nat} : (V.ptr i r o).cells = [.ptr i r o] := (rfl)
@[simp] theorem cells_map {i : Nat} : (V.map i).cells = [.map i] := (rfl)
@[simp] theorem cells_fn {f : Nat} {a b : List V} : (V.fn f a b).cells = [.fn f a b] := (rfl)
@[simp] theorem cells_yld {i : Nat} : (V.yld i).cells = [.yld i] := (rfl)
@[simp] theorem cells_iface {t : Nat} {v : V} : (V.iface t v).cells = [.iface t v] := (rfl)
@[simp] theorem putAt_nil {row : List V} {o : Nat} : putAt row o [] = row := by cases row <;> rfl
@[simp] theorem putAt_cons {row : List V} {o : Nat} {v : V} {vs : List V} : putAt row o (v :: vs) = putAt (row.set o v) (o + 1) vs := by cases row <;> rfl
def sameV (o : Option V) (w : V) : Bool := match o with
 | some v => V.beq v w
 | none => false
@[simp] theorem sameV_some {v w : V} : sameV (some v) w = V.beq v w := (rfl)
def recheckI (i : Option Ins) (h : Option Heap) (tm : Tm) : Bool := match i, h with
 | some i, some h =>
  match i.op, i.dst with
  | .r o, some d =>
   let same := match (compR o).run tm h with
    | some v => V.beq v ((gK d).run tm)
    | none => false
   (match i.guard with
   | none => same
   | some g => match (gK g.1).run tm with
    | .bool c => cond (c == g.2) same true
    | .tup [] => true
    | _ => false)
  | _, _ => false
 | _, _ => false
@[simp] theorem recheck_eq {l : List Ins} {tm : Tm} {hs : List Heap} {c : Nat × Nat} : recheck l tm hs c = recheckI l[c.1]? hs[c.2]? tm := (rfl)
@[simp] theorem recheckI_r {d : Nat} {o : RdO} {h : Heap} {tm : Tm} : recheckI (some (Pr.i d (.r o))) (some h) tm = sameV ((compR o).run tm h) ((gK d).run tm) := (rfl)
attribute [simp] V.beq_refl
section
variable {tm : Tm} {h : Heap} {mk : Nat}
@[simp] theorem results_nil : results tm h [] = some (.tup []) := (rfl)
@[simp] theorem results_one {t : Nat} : results tm h [.tm t] = some ((gK t).run tm) := (rfl)
@[simp] theorem results_two {t s : Nat} : results tm h [.tm t, .tm s] = some (.tup [(gK t).run tm, (gK s).run tm]) := (rfl)
@[simp] theorem results_three {t s u : Nat} : results tm h [.tm t, .tm s, .tm u] = some (.tup [(gK t).run tm, (gK s).run tm, (gK u).run tm]) := (rfl)
@[simp] theorem freeze_bool {b : Bool} : freeze mk h depthMax (.bool b) = some (.bool b) := (rfl)
@[simp] theorem freeze_int {k : IntKind} {n : Int} : freeze mk h depthMax (.int k n) = some (.int k n) := (rfl)
@[simp] theorem freeze_str {s : List UInt8} : freeze mk h depthMax (.str s) = some (.str s) := (rfl)
@[simp] theorem freeze_nils : freeze mk h depthMax .nils = some .nils := (rfl)
@[simp] theorem freeze_unit : freeze mk h depthMax (.tup []) = some (.tup []) := (rfl)
@[simp] theorem freeze_int2 {k l : IntKind} {n m : Int} : freeze mk h depthMax (.tup [.int k n, .int l m]) = some (.tup [.int k n, .int l m]) := (rfl)
@[simp] theorem freeze_intb {k : IntKind} {n : Int} {b : Bool} : freeze mk h depthMax (.tup [.int k n, .bool b]) = some (.tup [.int k n, .bool b]) := (rfl)
end
end Go.Abs
namespace Go.Abs
open Go
def lat {α : Type} [Inhabited α] (l : List α) (i : Nat) : α := l[i]!
inductive Sl (α : Type) where
 | nil
 | of (l : List α)
 | full (l : List α)
def Sl.l {α : Type} : Sl α → List α
 | .nil => []
 | .of l => l
 | .full l => l
def Sl.enc {α : Type} (f : α → List V) : Sl α → V
 | .nil => .nils
 | .of l => .slR (l.map f) false
 | .full l => .slR (l.map f) true
instance {α : Type} : Inhabited (Sl α) := ⟨.nil⟩
structure Rg where
 lo : Int
 hi : Int
instance : Inhabited Rg := ⟨0, 0⟩
def Rg.cells (r : Rg) : List V := [.int .i64 r.lo, .int .i64 r.hi]
structure Sy where
 kind : Int
 r : Sl Rg
 n : Int
instance : Inhabited Sy := ⟨0, .nil, 0⟩
def Sy.cells (s : Sy) : List V := [.int .i64 s.kind, s.r.enc Rg.cells, .int .i64 s.n]
structure Pd where
 a : Sl (Sl Sy)
 marks : Int
 no : Sl Rg
instance : Inhabited Pd := ⟨.nil, 0, .nil⟩
def altCells (l : Sl Sy) : List V := [l.enc Sy.cells]
def Pd.cells (p : Pd) : List V := [p.a.enc altCells, .int .i64 p.marks, p.no.enc Rg.cells]
structure Gr where
 p : Sl Pd
 keys : Sl (List UInt8)
def keyCells (s : List UInt8) : List V := [.str s]
def Gr.cells (g : Gr) : List V := [g.p.enc Pd.cells, g.keys.enc keyCells]
def byteCells (c : UInt8) : List V := [.int .u8 c.toNat]
def intCells (n : Int) : List V := [.int .i64 n]
@[simp] theorem len_Rg {r : Rg} : r.cells.length = 2 := (rfl)
@[simp] theorem len_Sy {r : Sy} : r.cells.length = 3 := (rfl)
@[simp] theorem len_alt {r : Sl Sy} : (altCells r).length = 1 := (rfl)
@[simp] theorem len_Pd {r : Pd} : r.cells.length = 3 := (rfl)
@[simp] theorem len_Gr {r : Gr} : r.cells.length = 2 := (rfl)
@[simp] theorem len_byte {r : UInt8} : (byteCells r).length = 1 := (rfl)
@[simp] theorem len_int {r : Int} : (intCells r).length = 1 := (rfl)
@[simp] theorem cells_enc {α : Type} {f : α → List V} {s : Sl α} : (s.enc f).cells = [s.enc f] := by cases s <;> rfl
@[simp] theorem one_enc {α : Type} {f : α → List V} {s : Sl α} : (s.enc f).one = true := by cases s <;> rfl
@[simp] theorem l_nil {α : Type} : (Sl.nil : Sl α).l = [] := (rfl)
@[simp] theorem l_of {α : Type} {l : List α} : (Sl.of l).l = l := (rfl)
@[simp] theorem l_full {α : Type} {l : List α} : (Sl.full l).l = l := (rfl)
theorem enc_of {α : Type} {f : α → List V} {l : List α} : (Sl.of l).enc f = .slR (l.map f) false := rfl
@[simp] theorem lenV_enc {α : Type} {f : α → List V} {s : Sl α} {h : Heap} : lenV .sl (s.enc f) h = some (.int .i64 s.l.length) := by
 cases s <;> simp [Sl.enc]
theorem iaddr_enc {α : Type} [Inhabited α] {f : α → List V} {s : Sl α} {k : IntKind} {n : Int} {esz : Nat} (h0 : 0 ≤ n) (h1 : n < s.l.length) (he : ∀ a, (f a).length = esz) :
  iaddrV esz (s.enc f) (.int k n) = some (.ptrR (f (lat s.l n.toNat)) 0) := by
 cases s with
 | nil => simp at h1; omega
 | of l =>
  simp only [l_of] at h1
  have h2 : n.toNat < l.length := by omega
  have h3 : idx (.int k n) l.length = some n.toNat := idx_int h0 h1
  simp only [Sl.enc, iaddrV, List.length_map, h3, nthR_eq, List.getElem?_map, l_of]
  rw [List.getElem?_eq_getElem h2]
  simp [he, lat, getElem!_pos, h2]
 | full l =>
  simp only [l_full] at h1
  have h2 : n.toNat < l.length := by omega
  have h3 : idx (.int k n) l.length = some n.toNat := idx_int h0 h1
  simp only [Sl.enc, iaddrV, List.length_map, h3, nthR_eq, List.getElem?_map, l_full]
  rw [List.getElem?_eq_getElem h2]
  simp [he, lat, getElem!_pos, h2]
@[simp] theorem rows_enc {α : Type} {f : α → List V} {s : Sl α} {h : Heap} : rowsOf h (s.enc f) = some (s.l.map f) := by
 cases s <;> simp [Sl.enc, rowsOf]
section
variable {k : IntKind} {n : Int}
@[simp] theorem iaddr_Rg {s : Sl Rg} (h0 : 0 ≤ n) (h1 : n < s.l.length) : iaddrV 2 (s.enc Rg.cells) (.int k n) = some (.ptrR (lat s.l n.toNat).cells 0) := iaddr_enc h0 h1 fun _ => rfl
@[simp] theorem iaddr_Sy {s : Sl Sy} (h0 : 0 ≤ n) (h1 : n < s.l.length) : iaddrV 3 (s.enc Sy.cells) (.int k n) = some (.ptrR (lat s.l n.toNat).cells 0) := iaddr_enc h0 h1 fun _ => rfl
@[simp] theorem iaddr_alt {s : Sl (Sl Sy)} (h0 : 0 ≤ n) (h1 : n < s.l.length) : iaddrV 1 (s.enc altCells) (.int k n) = some (.ptrR (altCells (lat s.l n.toNat)) 0) := iaddr_enc h0 h1 fun _ => rfl
@[simp] theorem iaddr_Pd {s : Sl Pd} (h0 : 0 ≤ n) (h1 : n < s.l.length) : iaddrV 3 (s.enc Pd.cells) (.int k n) = some (.ptrR (lat s.l n.toNat).cells 0) := iaddr_enc h0 h1 fun _ => rfl
@[simp] theorem iaddr_byte {s : Sl UInt8} (h0 : 0 ≤ n) (h1 : n < s.l.length) : iaddrV 1 (s.enc byteCells) (.int k n) = some (.ptrR (byteCells (lat s.l n.toNat)) 0) := iaddr_enc h0 h1 fun _ => rfl
@[simp] theorem iaddr_int {s : Sl Int} (h0 : 0 ≤ n) (h1 : n < s.l.length) : iaddrV 1 (s.enc intCells) (.int k n) = some (.ptrR (intCells (lat s.l n.toNat)) 0) := iaddr_enc h0 h1 fun _ => rfl
end
theorem lat_mem {α : Type} [Inhabited α] {l : List α} {i : Nat} (h : i < l.length) : lat l i ∈ l := by
 unfold lat; rw [getElem!_pos l i h]; exact List.getElem_mem h
theorem lat_eq {α : Type} [Inhabited α] {l : List α} {i : Nat} (h : i < l.length) : lat l i = l[i] := by
 unfold lat; rw [getElem!_pos l i h]
theorem lat_get {α : Type} [Inhabited α] {l : List α} {i : Nat} (h : i < l.length) : l[i]? = some (lat l i) := by
 rw [lat_eq h, List.getElem?_eq_getElem h]
def IsI (v : V) : Prop := ∃ n, v = .int .i64 n
@[simp] theorem isI_int {n : Int} : IsI (.int .i64 n) := ⟨n, rfl⟩
end Go.Abs
namespace Go.Abs.Pr
open Go Go.Abs
def b3 : IC :=
  (.seq (.ops [i 3 (.a (.box 5 (.t 0)) none), i 6 (.p (.mov (.c (.bool false))))])
  (.seq (.ops [i 11 (.call (.dir 5) [] false), i 7 (.p (.mov (.t 11)))])
   (.seq (.ops [i 12 (.r (.load (some 5) (.t 3))), i 13 (.call (.dir 6) [(.t 12)] false), i 8 (.p (.mov (.t 13)))])
    (.seq (.seq (.ops [i 14 (.p (.mov (.t 7))), i 15 (.p (.un .not (.t 14))), i 16 (.p (.mov (.t 15))), ⟨some 17, some (16, false), .p (.mov (.t 8))⟩, ⟨some 18, some (16, false), .p (.un .not (.t 17))⟩, i 19 (.p (.pick (.t 16) (.c (.bool true)) (.t 18))), i 20 (.p (.mov (.t 19))), ⟨some 21, some (20, false), .p (.mov (.t 2))⟩, ⟨some 22, some (20, false), .r (.len .sl (.t 21))⟩, ⟨some 23, some (20, false), .p (.bin .gtr (.t 22) (.c (.int .i64 16)))⟩, i 24 (.p (.pick (.t 20) (.c (.bool true)) (.t 23))), i 25 (.p (.mov (.t 24))), ⟨some 26, some (25, false), .p (.mov (.t 1))⟩, ⟨some 27, some (25, false), .p (.bin .lss (.t 26) (.c (.int .i64 0)))⟩, i 28 (.p (.pick (.t 25) (.c (.bool true)) (.t 27))), i 29 (.p (.mov (.t 28))), ⟨some 30, some (29, false), .p (.mov (.t 1))⟩, ⟨some 31, some (29, false), .p (.faddr 2 (.t 3))⟩, ⟨some 32, some (29, false), .r (.load none (.t 31))⟩, ⟨some 33, some (29, false), .r (.len .sl (.t 32))⟩, ⟨some 34, some (29, false), .p (.bin .gtr (.t 30) (.t 33))⟩, i 35 (.p (.pick (.t 29) (.c (.bool true)) (.t 34)))])
      (.cond (.t 35)
       (.seq (.ops [i 36 (.p (.mov (.t 7))), i 6 (.p (.mov (.t 36)))])
        .ret)
       .skip))
     (.seq (.ops [i 37 (.p (.faddr 0 (.t 3))), i 38 (.r (.load (some 2) (.t 37))), i 39 (.p (.faddr 2 (.t 3))), i 40 (.r (.load none (.t 39))), i 41 (.call (.dir 7) [(.t 38), (.t 40)] false), i 9 (.p (.mov (.t 41)))])
      (.seq (.seq (.ops [i 42 (.p (.mov (.t 9))), i 43 (.p (.bin .lss (.t 42) (.c (.int .i64 0)))), i 44 (.p (.mov (.t 43))), ⟨some 45, some (44, false), .p (.mov (.t 9))⟩, ⟨some 46, some (44, false), .p (.faddr 2 (.t 3))⟩, ⟨some 47, some (44, false), .r (.load none (.t 46))⟩, ⟨some 48, some (44, false), .r (.len .sl (.t 47))⟩, ⟨some 49, some (44, false), .p (.bin .gtr (.t 45) (.t 48))⟩, i 50 (.p (.pick (.t 44) (.c (.bool true)) (.t 49)))])
        (.cond (.t 50)
         (.seq (.ops [i 6 (.p (.mov (.c (.bool false))))])
          .ret)
         .skip))
       (.seq (.ops [i 51 (.p (.mov (.t 1))), i 10 (.p (.mov (.t 51)))])
        (.seq (.seq (.ops [i 52 (.p (.mov (.t 9))), i 53 (.p (.mov (.t 1))), i 54 (.p (.bin .lss (.t 52) (.t 53)))])
          (.cond (.t 54)
           (.ops [i 55 (.p (.mov (.t 9))), i 10 (.p (.mov (.t 55)))])
           .skip))
         (.seq (.seq (.dops 0 [] [i 56 (.p (.faddr 0 (.t 3))), i 57 (.r (.load (some 2) (.t 56))), i 58 (.p (.faddr 2 (.t 3))), i 59 (.r (.load none (.t 58))), i 60 (.p (.mov (.t 1))), i 61 (.p (.slice 1 (.t 59) none (some (.t 60)) none)), i 62 (.call (.dir 7) [(.t 57), (.t 61)] false), i 63 (.p (.mov (.t 10))), i 64 (.p (.bin .neq (.t 62) (.t 63)))])
           (.cond (.t 64)
            (.seq (.ops [i 6 (.p (.mov (.c (.bool false))))])
             .ret)
            .skip))
          (.seq (.dops 0 [(1, 5), (1, 7)] [i 65 (.p (.faddr 0 (.t 3))), i 66 (.r (.load (some 2) (.t 65))), i 67 (.p (.faddr 2 (.t 3))), i 68 (.r (.load none (.t 67))), i 69 (.w (.append 1 1 (.c .nils) (.t 68))), i 70 (.p (.mov (.t 2))), i 71 (.w (.append 1 1 (.t 69) (.t 70))), i 72 (.call (.dir 7) [(.t 66), (.t 71)] false), i 73 (.p (.mov (.t 9))), i 74 (.p (.bin .geq (.t 72) (.t 73))), i 6 (.p (.mov (.t 74)))])
           .ret))))))))))
def f3 : IFn := ⟨false, 75, [.tm 6], b3⟩
def b5 : IC :=
  (.seq (.ops [i 0 (.p (.mov (.c (.bool false))))])
  (.seq (.ops [i 6 (.call (.dir 10) [(.c (.str [97, 32, 61, 32, 34, 105, 102, 34, 32, 124, 32, 34, 105, 110, 34, 59]))] false), i 5 (.p (.mov (.t 6))), i 7 (.p (.ext 0 (.t 5))), i 8 (.p (.ext 1 (.t 5))), i 9 (.p (.ext 2 (.t 5))), i 1 (.a (.alloc [.nils, .nils]) none), n (.w (.store 2 (.t 1) (.t 7))), i 2 (.p (.mov (.t 8))), i 3 (.p (.mov (.t 9)))])
   (.seq (.ops [i 10 (.r (.load (some 2) (.t 1))), i 11 (.call (.dir 9) [(.t 10), (.c .nils), (.c (.int .i64 0))] false), i 12 (.a (.bslice false [.int .i64 0] 1 [(0, (.c (.int .i64 0)))]) none), i 13 (.call (.dir 11) [(.t 11), (.t 12)] false), i 4 (.p (.mov (.t 13)))])
    (.seq (.ops [i 14 (.p (.mov (.t 4))), i 15 (.p (.mov (.t 14))), ⟨some 16, some (15, true), .r (.load (some 2) (.t 1))⟩, ⟨some 17, some (15, true), .a (.bslice false [.int .u8 0] 2 [(0, (.c (.int .u8 105))), (1, (.c (.int .u8 120)))]) none⟩, ⟨some 18, some (15, true), .w (.same (.t 17))⟩, ⟨some 19, some (15, true), .call (.dir 7) [(.t 16), (.t 18)] false⟩, ⟨some 20, some (15, true), .p (.bin .eql (.t 19) (.c (.int .i64 1)))⟩, i 21 (.p (.pick (.t 15) (.t 20) (.c (.bool false)))), i 22 (.p (.mov (.t 21))), ⟨some 23, some (22, true), .r (.load (some 2) (.t 1))⟩, ⟨some 24, some (22, true), .a (.bslice false [.int .u8 0] 2 [(0, (.c (.int .u8 105))), (1, (.c (.int .u8 110)))]) none⟩, ⟨some 25, some (22, true), .w (.same (.t 24))⟩, ⟨some 26, some (22, true), .call (.dir 7) [(.t 23), (.t 25)] false⟩, ⟨some 27, some (22, true), .p (.bin .eql (.t 26) (.c (.int .i64 2)))⟩, i 28 (.p (.pick (.t 22) (.t 27) (.c (.bool false)))), i 29 (.p (.mov (.t 28))), ⟨some 30, some (29, true), .r (.load (some 2) (.t 1))⟩, ⟨some 31, some (29, true), .a (.bslice false [.int .u8 0] 2 [(0, (.c (.int .u8 120))), (1, (.c (.int .u8 120)))]) none⟩, ⟨some 32, some (29, true), .w (.same (.t 31))⟩, ⟨some 33, some (29, true), .call (.dir 7) [(.t 30), (.t 32)] false⟩, ⟨some 34, some (29, true), .p (.bin .eql (.t 33) (.c (.int .i64 0)))⟩, i 35 (.p (.pick (.t 29) (.t 34) (.c (.bool false)))), i 0 (.p (.mov (.t 35)))])
     .ret))))
def f5 : IFn := ⟨true, 36, [.tm 0], b5⟩
def b6 : IC :=
  (.seq (.ops [i 1 (.a (.box 5 (.t 0)) none), i 2 (.p (.mov (.c (.bool false))))])
  (.seq (.ops [i 4 (.p (.faddr 0 (.t 1))), i 5 (.r (.load (some 2) (.t 4))), i 6 (.call (.dir 12) [(.t 5)] false), i 3 (.p (.mov (.t 6)))])
   (.seq (.ops [i 7 (.p (.mov (.t 3))), i 8 (.p (.mov (.t 7))), ⟨some 9, some (8, true), .p (.faddr 0 (.t 1))⟩, ⟨some 10, some (8, true), .p (.faddr 0 (.t 9))⟩, ⟨some 11, some (8, true), .r (.load none (.t 10))⟩, ⟨some 12, some (8, true), .r (.len .sl (.t 11))⟩, ⟨some 13, some (8, true), .p (.bin .leq (.t 12) (.c (.int .i64 16)))⟩, i 14 (.p (.pick (.t 8) (.t 13) (.c (.bool false)))), i 15 (.p (.mov (.t 14))), ⟨some 16, some (15, true), .p (.faddr 2 (.t 1))⟩, ⟨some 17, some (15, true), .r (.load none (.t 16))⟩, ⟨some 18, some (15, true), .r (.len .sl (.t 17))⟩, ⟨some 19, some (15, true), .p (.bin .leq (.t 18) (.c (.int .i64 16)))⟩, i 20 (.p (.pick (.t 15) (.t 19) (.c (.bool false)))), i 2 (.p (.mov (.t 20)))])
    .ret)))
def f6 : IFn := ⟨true, 21, [.tm 2], b6⟩
def b11 : IC :=
  (.seq (.ops [i 4 (.p (.mov (.c (.bool false))))])
  (.seq (.seq (.ops [i 6 (.p (.mov (.t 0))), i 7 (.r (.len .sl (.t 6))), i 8 (.p (.mov (.t 1))), i 9 (.r (.len .sl (.t 8))), i 10 (.p (.bin .neq (.t 7) (.t 9)))])
    (.cond (.t 10)
     (.seq (.ops [i 4 (.p (.mov (.c (.bool false))))])
      .ret)
     .skip))
   (.seq (.seq (.ops [i 5 (.p (.mov (.c (.int .i64 0))))])
     (.block 0
      (.loop
       (.seq (.seq (.ops [i 11 (.p (.mov (.t 5))), i 12 (.p (.mov (.t 0))), i 13 (.r (.len .sl (.t 12))), i 14 (.p (.bin .lss (.t 11) (.t 13)))])
         (.cond (.t 14)
          .skip
          (.exit 0)))
        (.seq (.block 1
          (.seq (.dops 0 [] [i 17 (.p (.mov (.t 0))), i 18 (.p (.mov (.t 5))), i 19 (.p (.iaddr 1 (.t 17) (.t 18))), i 20 (.r (.load none (.t 19))), i 21 (.p (.mov (.t 1))), i 22 (.p (.mov (.t 5))), i 23 (.p (.iaddr 1 (.t 21) (.t 22))), i 24 (.r (.load none (.t 23))), i 25 (.p (.bin .neq (.t 20) (.t 24)))])
           (.cond (.t 25)
            (.seq (.ops [i 4 (.p (.mov (.c (.bool false))))])
             .ret)
            .skip)))
         (.ops [i 15 (.p (.mov (.t 5))), i 16 (.p (.bin .add (.t 15) (.c (.int .i64 1)))), i 5 (.p (.mov (.t 16)))]))))))
    (.seq (.ops [i 4 (.p (.mov (.c (.bool true))))])
     .ret))))
def f11 : IFn := ⟨false, 26, [.tm 4], b11⟩
def b9 : IC :=
  (.seq (.ops [i 3 (.a (.box 2 (.t 0)) none), i 6 (.p (.mov (.c .nils)))])
  (.seq (.ops [i 10 (.r (.load (some 2) (.t 3))), i 11 (.p (.mov (.t 1))), i 12 (.call (.dir 13) [(.t 10), (.t 11)] false), i 7 (.p (.mov (.t 12)))])
   (.seq (.ops [i 8 (.p (.mov (.c .nils)))])
    (.seq (.seq (.ops [i 13 (.p (.faddr 0 (.t 3))), i 14 (.r (.load none (.t 13))), i 15 (.r (.len .sl (.t 14))), i 16 (.p (.mov (.c (.int .i64 0))))])
      (.block 0
       (.loop
        (.seq (.ops [i 17 (.p (.bin .lss (.t 16) (.t 15)))])
         (.seq (.cond (.t 17)
           .skip
           (.exit 0))
          (.seq (.block 1
            (.seq (.ops [i 18 (.p (.mov (.t 16))), i 9 (.p (.mov (.t 18)))])
             (.seq (.ops [i 19 (.p (.mov (.t 7))), i 20 (.p (.nilc (.t 19))), i 21 (.p (.faddr 4 (.t 20))), i 22 (.r (.load none (.t 21))), i 23 (.p (.mov (.t 9))), i 24 (.p (.mov (.t 2))), i 25 (.p (.build [.int .i64 0, .int .i64 0] [(0, 1, (.t 23)), (1, 1, (.t 24))])), i 26 (.r (.lookup (.agg [.int, .int]) (.bool false) false (.t 22) (.t 25)))])
              (.cond (.t 26)
               (.ops [i 27 (.p (.mov (.t 8))), i 28 (.p (.mov (.t 9))), i 29 (.a (.bslice true [.int .i64 0] 1 [(0, (.t 28))]) none), i 30 (.w (.append 1 8 (.t 27) (.t 29))), i 8 (.p (.mov (.t 30)))])
               .skip))))
           (.ops [i 31 (.p (.bin .add (.t 16) (.c (.int .i64 1)))), i 16 (.p (.mov (.t 31)))])))))))
     (.seq (.ops [i 32 (.p (.mov (.t 8))), i 6 (.p (.mov (.t 32)))])
      .ret)))))
def f9 : IFn := ⟨true, 33, [.tm 6], b9⟩
def b7 : IC :=
  (.seq (.ops [i 2 (.a (.box 2 (.t 0)) none), i 4 (.p (.mov (.c (.int .i64 0))))])
  (.seq (.ops [i 5 (.r (.load (some 2) (.t 2))), i 6 (.p (.mov (.t 1))), i 7 (.call (.dir 13) [(.t 5), (.t 6)] false), i 8 (.p (.nilc (.t 7))), i 9 (.p (.faddr 5 (.t 8))), i 10 (.r (.load none (.t 9))), i 4 (.p (.mov (.t 10)))])
   .ret))
def f7 : IFn := ⟨true, 11, [.tm 4], b7⟩
def b10 : IC :=
  (.seq (.ops [i 2 (.a (.alloc [.nils, .nils]) none), i 3 (.p (.mov (.c (.int .i64 0)))), i 4 (.p (.mov (.c (.int .i64 0))))])
  (.seq (.ops [i 11 (.p (.mov (.t 0))), i 12 (.call (.dir 15) [(.t 11)] false), i 10 (.p (.mov (.t 12))), i 13 (.p (.ext 0 (.t 10))), i 14 (.p (.ext 1 (.t 10))), i 15 (.p (.ext 2 (.t 10))), i 5 (.a (.alloc [.nils, .nils]) none), n (.w (.store 2 (.t 5) (.t 13))), i 6 (.p (.mov (.t 14))), i 7 (.p (.mov (.t 15)))])
   (.seq (.seq (.ops [i 16 (.p (.mov (.t 7))), i 17 (.p (.bin .neq (.t 16) (.c (.int .i64 0))))])
     (.cond (.t 17)
      (.seq (.ops [i 18 (.p (.build [.nils, .nils] [])), i 19 (.p (.mov (.t 6))), i 20 (.p (.mov (.t 7))), n (.w (.store 2 (.t 2) (.t 18))), i 3 (.p (.mov (.t 19))), i 4 (.p (.mov (.t 20)))])
       .ret)
      .skip))
    (.seq (.ops [i 22 (.r (.load (some 2) (.t 5))), i 23 (.call (.dir 16) [(.t 22)] false), i 21 (.p (.mov (.t 23))), i 24 (.p (.ext 0 (.t 21))), i 25 (.p (.ext 1 (.t 21))), i 26 (.p (.ext 2 (.t 21))), i 8 (.a (.alloc [.nils, .nils]) none), n (.w (.store 2 (.t 8) (.t 24))), i 6 (.p (.mov (.t 25))), i 7 (.p (.mov (.t 26)))])
     (.seq (.seq (.ops [i 27 (.p (.mov (.t 7))), i 28 (.p (.bin .neq (.t 27) (.c (.int .i64 0))))])
       (.cond (.t 28)
        (.seq (.ops [i 29 (.p (.build [.nils, .nils] [])), i 30 (.p (.mov (.t 6))), i 31 (.p (.mov (.t 7))), n (.w (.store 2 (.t 2) (.t 29))), i 3 (.p (.mov (.t 30))), i 4 (.p (.mov (.t 31)))])
         .ret)
        .skip))
      (.seq (.ops [i 33 (.r (.load (some 2) (.t 8))), i 34 (.call (.dir 17) [(.t 33)] false), i 32 (.p (.mov (.t 34))), i 35 (.p (.ext 0 (.t 32))), i 36 (.p (.ext 1 (.t 32))), i 9 (.p (.mov (.t 35))), i 7 (.p (.mov (.t 36)))])
       (.seq (.block 0
         (.seq (.ops [i 38 (.p (.mov (.t 7))), i 39 (.p (.bin .eql (.t 38) (.c (.int .i64 0)))), i 37 (.p (.mov (.t 39)))])
          (.cond (.t 37)
           (.seq (.ops [i 40 (.r (.load (some 2) (.t 8))), i 41 (.p (.mov (.t 0))), i 42 (.r (.len .str (.t 41))), n (.w (.store 2 (.t 2) (.t 40))), i 3 (.p (.mov (.t 42))), i 4 (.p (.mov (.c (.int .i64 0))))])
            .ret)
           (.seq (.ops [i 44 (.p (.mov (.t 9))), i 45 (.p (.faddr 1 (.t 5))), i 46 (.r (.load none (.t 45))), i 47 (.r (.len .sl (.t 46))), i 48 (.p (.bin .lss (.t 44) (.t 47))), i 43 (.p (.mov (.t 48)))])
            (.cond (.t 43)
             (.seq (.dops 0 [(2, 9), (6, 9)] [i 49 (.p (.build [.nils, .nils] [])), i 50 (.p (.faddr 1 (.t 5))), i 51 (.r (.load none (.t 50))), i 52 (.p (.mov (.t 9))), i 53 (.p (.iaddr 9 (.t 51) (.t 52))), i 54 (.p (.faddr 8 (.t 53))), i 55 (.r (.load none (.t 54))), i 56 (.p (.mov (.t 7))), n (.w (.store 2 (.t 2) (.t 49))), i 3 (.p (.mov (.t 55))), i 4 (.p (.mov (.t 56)))])
              .ret)
             .skip)))))
        (.seq (.ops [i 57 (.p (.build [.nils, .nils] [])), i 58 (.p (.mov (.t 7))), n (.w (.store 2 (.t 2) (.t 57))), i 3 (.p (.mov (.c (.int .i64 0)))), i 4 (.p (.mov (.t 58)))])
         .ret))))))))
def f10 : IFn := ⟨false, 59, [.cell (some 2) 2, .tm 3, .tm 4], b10⟩
def b12 : IC :=
  (.seq (.ops [i 1 (.a (.box 2 (.t 0)) none), i 2 (.p (.mov (.c (.bool false))))])
  (.seq (.seq (.ops [i 7 (.p (.faddr 0 (.t 1))), i 8 (.r (.load none (.t 7))), i 9 (.r (.len .sl (.t 8))), i 10 (.p (.bin .gtr (.t 9) (.c (.int .i64 62)))), i 11 (.p (.mov (.t 10))), ⟨some 12, some (11, false), .p (.faddr 1 (.t 1))⟩, ⟨some 13, some (11, false), .r (.load none (.t 12))⟩, ⟨some 14, some (11, false), .r (.len .sl (.t 13))⟩, ⟨some 15, some (11, false), .p (.bin .gtr (.t 14) (.c (.int .i64 12)))⟩, i 16 (.p (.pick (.t 11) (.c (.bool true)) (.t 15)))])
    (.cond (.t 16)
     (.seq (.ops [i 2 (.p (.mov (.c (.bool false))))])
      .ret)
     .skip))
   (.seq (.ops [i 3 (.p (.mov (.c (.int .i64 0))))])
    (.seq (.seq (.ops [i 4 (.p (.mov (.c (.int .i64 0))))])
      (.block 0
       (.loop
        (.seq (.seq (.ops [i 17 (.p (.mov (.t 4))), i 18 (.p (.faddr 0 (.t 1))), i 19 (.r (.load none (.t 18))), i 20 (.r (.len .sl (.t 19))), i 21 (.p (.bin .lss (.t 17) (.t 20)))])
          (.cond (.t 21)
           .skip
           (.exit 0)))
         (.seq (.block 1
           (.seq (.seq (.ops [i 5 (.p (.mov (.c (.int .i64 0))))])
             (.block 2
              (.loop
               (.seq (.seq (.ops [i 24 (.p (.mov (.t 5))), i 25 (.p (.faddr 0 (.t 1))), i 26 (.r (.load none (.t 25))), i 27 (.p (.mov (.t 4))), i 28 (.p (.iaddr 3 (.t 26) (.t 27))), i 29 (.p (.faddr 0 (.t 28))), i 30 (.r (.load none (.t 29))), i 31 (.r (.len .sl (.t 30))), i 32 (.p (.bin .lss (.t 24) (.t 31)))])
                 (.cond (.t 32)
                  .skip
                  (.exit 2)))
                (.seq (.block 3
                  (.seq (.ops [i 35 (.p (.mov (.t 3))), i 36 (.p (.bin .add (.t 35) (.c (.int .i64 1)))), i 37 (.p (.faddr 0 (.t 1))), i 38 (.r (.load none (.t 37))), i 39 (.p (.mov (.t 4))), i 40 (.p (.iaddr 3 (.t 38) (.t 39))), i 41 (.p (.faddr 0 (.t 40))), i 42 (.r (.load none (.t 41))), i 43 (.p (.mov (.t 5))), i 44 (.p (.iaddr 1 (.t 42) (.t 43))), i 45 (.r (.load none (.t 44))), i 46 (.r (.len .sl (.t 45))), i 47 (.p (.bin .add (.t 36) (.t 46))), i 3 (.p (.mov (.t 47)))])
                   (.seq (.ops [i 6 (.p (.mov (.c (.int .i64 0))))])
                    (.block 4
                     (.loop
                      (.seq (.seq (.ops [i 48 (.p (.mov (.t 6))), i 49 (.p (.faddr 0 (.t 1))), i 50 (.r (.load none (.t 49))), i 51 (.p (.mov (.t 4))), i 52 (.p (.iaddr 3 (.t 50) (.t 51))), i 53 (.p (.faddr 0 (.t 52))), i 54 (.r (.load none (.t 53))), i 55 (.p (.mov (.t 5))), i 56 (.p (.iaddr 1 (.t 54) (.t 55))), i 57 (.r (.load none (.t 56))), i 58 (.r (.len .sl (.t 57))), i 59 (.p (.bin .lss (.t 48) (.t 58))), i 60 (.p (.mov (.t 59))), ⟨some 61, some (60, true), .p (.mov (.t 3))⟩, ⟨some 62, some (60, true), .p (.bin .lss (.t 61) (.c (.int .i64 1000)))⟩, i 63 (.p (.pick (.t 60) (.t 62) (.c (.bool false))))])
                        (.cond (.t 63)
                         .skip
                         (.exit 4)))
                       (.seq (.block 5
                         (.ops [i 66 (.p (.mov (.t 3))), i 67 (.p (.faddr 0 (.t 1))), i 68 (.r (.load none (.t 67))), i 69 (.p (.mov (.t 4))), i 70 (.p (.iaddr 3 (.t 68) (.t 69))), i 71 (.p (.faddr 0 (.t 70))), i 72 (.r (.load none (.t 71))), i 73 (.p (.mov (.t 5))), i 74 (.p (.iaddr 1 (.t 72) (.t 73))), i 75 (.r (.load none (.t 74))), i 76 (.p (.mov (.t 6))), i 77 (.p (.iaddr 3 (.t 75) (.t 76))), i 78 (.p (.faddr 1 (.t 77))), i 79 (.r (.load none (.t 78))), i 80 (.r (.len .sl (.t 79))), i 81 (.p (.bin .add (.t 66) (.t 80))), i 3 (.p (.mov (.t 81)))]))
                        (.ops [i 64 (.p (.mov (.t 6))), i 65 (.p (.bin .add (.t 64) (.c (.int .i64 1)))), i 6 (.p (.mov (.t 65)))]))))))))
                 (.ops [i 33 (.p (.mov (.t 5))), i 34 (.p (.bin .add (.t 33) (.c (.int .i64 1)))), i 5 (.p (.mov (.t 34)))]))))))
            (.seq (.ops [i 82 (.p (.mov (.t 3))), i 83 (.p (.faddr 0 (.t 1))), i 84 (.r (.load none (.t 83))), i 85 (.p (.mov (.t 4))), i 86 (.p (.iaddr 3 (.t 84) (.t 85))), i 87 (.p (.faddr 2 (.t 86))), i 88 (.r (.load none (.t 87))), i 89 (.r (.len .sl (.t 88))), i 90 (.p (.bin .add (.t 82) (.t 89))), i 3 (.p (.mov (.t 90)))])
             (.seq (.ops [i 91 (.p (.mov (.t 3))), i 92 (.p (.bin .geq (.t 91) (.c (.int .i64 1000))))])
              (.cond (.t 92)
               (.seq (.ops [i 2 (.p (.mov (.c (.bool false))))])
                .ret)
               .skip)))))
          (.ops [i 22 (.p (.mov (.t 4))), i 23 (.p (.bin .add (.t 22) (.c (.int .i64 1)))), i 4 (.p (.mov (.t 23)))]))))))
     (.seq (.ops [i 2 (.p (.mov (.c (.bool true))))])
      .ret)))))
def f12 : IFn := ⟨true, 93, [.tm 2], b12⟩
def b13 : IC :=
  (.seq (.ops [i 2 (.a (.box 2 (.t 0)) none), i 4 (.p (.mov (.c .nilp)))])
  (.seq (.ops [i 8 (.r (.load (some 2) (.t 2))), i 9 (.p (.mov (.t 1))), i 10 (.a (.mkm) none), i 11 (.a (.mkm) none), i 12 (.p (.build [.nils, .nils, .nils, .nilm, .nilm, .int .i64 0] [(0, 2, (.t 8)), (2, 1, (.t 9)), (3, 1, (.t 10)), (4, 1, (.t 11)), (5, 1, (.c (.int .i64 0)))])), i 13 (.a (.box 6 (.t 12)) none), i 5 (.p (.mov (.t 13)))])
   (.seq (.seq (.ops [i 15 (.r (.load (some 2) (.t 2))), i 16 (.call (.dir 17) [(.t 15)] false), i 14 (.p (.mov (.t 16))), i 17 (.p (.ext 0 (.t 14))), i 18 (.p (.ext 1 (.t 14))), i 6 (.p (.mov (.t 17))), i 7 (.p (.mov (.t 18)))])
     (.seq (.ops [i 19 (.p (.mov (.t 7))), i 20 (.p (.bin .eql (.t 19) (.c (.int .i64 0)))), i 21 (.p (.mov (.t 20))), ⟨some 22, some (21, true), .p (.mov (.t 1))⟩, ⟨some 23, some (21, true), .r (.len .sl (.t 22))⟩, ⟨some 24, some (21, true), .p (.bin .leq (.t 23) (.c (.int .i64 200)))⟩, i 25 (.p (.pick (.t 21) (.t 24) (.c (.bool false))))])
      (.cond (.t 25)
       (.ops [i 26 (.p (.mov (.t 5))), i 27 (.p (.build [.int .i64 0, .int .i64 0] [])), i 28 (.call (.dir 18) [(.t 26), (.t 27)] false)])
       .skip)))
    (.seq (.ops [i 29 (.p (.mov (.t 5))), i 4 (.p (.mov (.t 29)))])
     .ret))))
def f13 : IFn := ⟨false, 30, [.tm 4], b13⟩
def b15 : IC :=
  (.seq (.ops [i 2 (.a (.alloc [.nils, .nils]) none), i 3 (.a (.alloc [.int .i64 0]) none), i 4 (.a (.alloc [.int .i64 0]) none)])
  (.seq (.ops [i 8 (.p (.mov (.t 0))), i 9 (.call (.dir 25) [(.t 8)] false), i 7 (.p (.mov (.t 9))), i 10 (.p (.ext 0 (.t 7))), i 11 (.p (.ext 1 (.t 7))), i 12 (.p (.ext 2 (.t 7))), i 5 (.p (.mov (.t 10))), n (.w (.store 1 (.t 3) (.t 11))), n (.w (.store 1 (.t 4) (.t 12)))])
   (.seq (.seq (.ops [i 13 (.r (.load none (.t 4))), i 14 (.p (.bin .neq (.t 13) (.c (.int .i64 0))))])
     (.cond (.t 14)
      (.seq (.dops 0 [(1, 4), (2, 4), (2, 5)] [i 15 (.r (.load (some 2) (.t 2))), i 16 (.r (.load none (.t 3))), i 17 (.r (.load none (.t 4))), n (.w (.store 2 (.t 2) (.t 15))), n (.w (.store 1 (.t 3) (.t 16))), n (.w (.store 1 (.t 4) (.t 17)))])
       .ret)
      .skip))
    (.seq (.ops [i 18 (.p (.mkf 26 [] [(.t 2), (.t 3), (.t 4)])), n (.defer (.t 18))])
     (.seq (.ops [i 19 (.p (.mov (.t 5))), i 20 (.p (.mov (.t 0))), i 21 (.r (.len .str (.t 20))), i 22 (.p (.build [.nils, .int .i64 0, .int .i64 0] [(0, 1, (.t 19)), (1, 1, (.t 21))])), i 23 (.a (.box 3 (.t 22)) none), i 6 (.p (.mov (.t 23)))])
      (.seq (.ops [i 24 (.p (.mov (.t 6))), i 25 (.call (.dir 27) [(.t 24)] false), i 26 (.p (.faddr 0 (.t 2))), n (.w (.store 1 (.t 26) (.t 25)))])
       (.seq (.block 0
         (.loop
          (.seq (.seq (.ops [i 27 (.p (.faddr 1 (.t 2))), i 28 (.r (.load none (.t 27))), i 29 (.r (.len .sl (.t 28))), i 30 (.p (.bin .eql (.t 29) (.c (.int .i64 0)))), i 31 (.p (.mov (.t 30))), ⟨some 32, some (31, false), .p (.mov (.t 6))⟩, ⟨some 33, some (31, false), .p (.nilc (.t 32))⟩, ⟨some 34, some (31, false), .p (.faddr 0 (.t 33))⟩, ⟨some 35, some (31, false), .r (.load none (.t 34))⟩, ⟨some 36, some (31, false), .r (.len .sl (.t 35))⟩, ⟨some 37, some (31, false), .p (.bin .gtr (.t 36) (.c (.int .i64 0)))⟩, i 38 (.p (.pick (.t 31) (.c (.bool true)) (.t 37)))])
            (.cond (.t 38)
             .skip
             (.exit 0)))
           (.block 1
            (.dops 0 [(1, 7)] [i 39 (.p (.faddr 1 (.t 2))), i 40 (.r (.load none (.t 39))), i 41 (.p (.mov (.t 6))), i 42 (.p (.faddr 1 (.t 2))), i 43 (.r (.load none (.t 42))), i 44 (.r (.len .sl (.t 43))), i 45 (.call (.dir 28) [(.t 41), (.t 44)] false), i 46 (.a (.bslice true [.str [], .int .i64 0, .int .i64 0, .str [], .nils, .nils, .int .i64 0, .nils, .int .i64 0] 1 [(0, (.t 45))]) none), i 47 (.w (.append 9 136 (.t 40) (.t 46))), i 48 (.p (.faddr 1 (.t 2))), n (.w (.store 1 (.t 48) (.t 47)))])))))
        (.seq (.ops [i 49 (.r (.load (some 2) (.t 2))), i 50 (.p (.mov (.t 0))), i 51 (.r (.len .str (.t 50))), n (.w (.store 2 (.t 2) (.t 49))), n (.w (.store 1 (.t 3) (.t 51))), n (.w (.store 1 (.t 4) (.c (.int .i64 0))))])
         .ret))))))))
def f15 : IFn := ⟨false, 52, [.cell (some 2) 2, .cell none 3, .cell none 4], b15⟩
def b16 : IC :=
  (.seq (.ops [i 1 (.a (.box 2 (.t 0)) none), i 2 (.a (.alloc [.nils, .nils]) none), i 3 (.p (.mov (.c (.int .i64 0)))), i 4 (.p (.mov (.c (.int .i64 0))))])
  (.seq (.ops [i 12 (.a (.mkm) none), i 13 (.p (.build [.nilm, .nils, .nilp] [(0, 1, (.t 12))])), i 14 (.a (.box 3 (.t 13)) none), i 5 (.p (.mov (.t 14)))])
   (.seq (.seq (.ops [i 15 (.p (.faddr 1 (.t 1))), i 16 (.r (.load none (.t 15))), i 17 (.r (.len .sl (.t 16))), i 18 (.p (.mov (.c (.int .i64 0))))])
     (.block 0
      (.loop
       (.seq (.ops [i 19 (.p (.bin .lss (.t 18) (.t 17)))])
        (.seq (.cond (.t 19)
          .skip
          (.exit 0))
         (.seq (.block 1
           (.seq (.ops [i 20 (.p (.mov (.t 18))), i 21 (.p (.iaddr 9 (.t 16) (.t 18))), i 22 (.r (.load (some 9) (.t 21))), i 7 (.a (.alloc [.str [], .int .i64 0, .int .i64 0, .str [], .nils, .nils, .int .i64 0, .nils, .int .i64 0]) none), i 6 (.p (.mov (.t 20))), n (.w (.store 9 (.t 7) (.t 22)))])
            (.seq (.seq (.dops 0 [] [i 24 (.p (.mov (.t 5))), i 25 (.p (.nilc (.t 24))), i 26 (.p (.faddr 0 (.t 25))), i 27 (.r (.load none (.t 26))), i 28 (.p (.faddr 0 (.t 7))), i 29 (.r (.load none (.t 28))), i 30 (.r (.lookup (.one .str) (.int .i64 0) true (.t 27) (.t 29))), i 23 (.p (.mov (.t 30))), i 31 (.p (.ext 0 (.t 23))), i 32 (.p (.ext 1 (.t 23))), i 8 (.p (.mov (.t 31))), i 9 (.p (.mov (.t 32)))])
              (.seq (.ops [i 33 (.p (.mov (.t 9)))])
               (.cond (.t 33)
                (.seq (.dops 0 [(2, 4)] [i 34 (.p (.build [.nils, .nils] [])), i 35 (.p (.faddr 8 (.t 7))), i 36 (.r (.load none (.t 35))), n (.w (.store 2 (.t 2) (.t 34))), i 3 (.p (.mov (.t 36))), i 4 (.p (.mov (.c (.int .i64 6))))])
                 .ret)
                .skip)))
             (.seq (.dops 0 [] [i 37 (.p (.mov (.t 5))), i 38 (.p (.nilc (.t 37))), i 39 (.p (.faddr 0 (.t 38))), i 40 (.r (.load none (.t 39))), i 41 (.p (.faddr 0 (.t 7))), i 42 (.r (.load none (.t 41))), i 43 (.p (.mov (.t 6))), n (.w (.mupd (.one .str) (.t 40) (.t 42) (.t 43)))])
              (.dops 0 [(4, 10), (6, 10)] [i 44 (.p (.mov (.t 5))), i 45 (.p (.mov (.t 5))), i 46 (.p (.nilc (.t 45))), i 47 (.p (.faddr 1 (.t 46))), i 48 (.r (.load none (.t 47))), i 49 (.p (.faddr 1 (.t 7))), i 50 (.r (.load none (.t 49))), i 51 (.p (.faddr 7 (.t 7))), i 52 (.r (.load none (.t 51))), i 53 (.call (.dir 29) [(.t 52)] false), i 54 (.p (.build [.nils, .int .i64 0, .nils] [(1, 1, (.t 50)), (2, 1, (.t 53))])), i 55 (.a (.bslice true [.nils, .int .i64 0, .nils] 1 [(0, (.t 54))]) none), i 56 (.w (.append 3 56 (.t 48) (.t 55))), i 57 (.p (.nilc (.t 44))), i 58 (.p (.faddr 1 (.t 57))), n (.w (.store 1 (.t 58) (.t 56)))])))))
          (.ops [i 59 (.p (.bin .add (.t 18) (.c (.int .i64 1)))), i 18 (.p (.mov (.t 59)))])))))))
    (.seq (.seq (.ops [i 60 (.p (.faddr 1 (.t 1))), i 61 (.r (.load none (.t 60))), i 62 (.r (.len .sl (.t 61))), i 63 (.p (.bin .eql (.t 62) (.c (.int .i64 0)))), i 64 (.p (.mov (.t 63))), ⟨some 65, some (64, false), .p (.faddr 1 (.t 1))⟩, ⟨some 66, some (64, false), .r (.load none (.t 65))⟩, ⟨some 67, some (64, false), .r (.len .sl (.t 66))⟩, ⟨some 68, some (64, false), .p (.bin .gtr (.t 67) (.c (.int .i64 60)))⟩, i 69 (.p (.pick (.t 64) (.c (.bool true)) (.t 68)))])
      (.cond (.t 69)
       (.seq (.ops [i 70 (.p (.build [.nils, .nils] [])), n (.w (.store 2 (.t 2) (.t 70))), i 3 (.p (.mov (.c (.int .i64 0)))), i 4 (.p (.mov (.c (.int .i64 7))))])
        .ret)
       .skip))
     (.seq (.seq (.ops [i 71 (.p (.faddr 1 (.t 1))), i 72 (.r (.load none (.t 71))), i 73 (.r (.len .sl (.t 72))), i 74 (.p (.mov (.c (.int .i64 0))))])
       (.block 2
        (.loop
         (.seq (.ops [i 75 (.p (.bin .lss (.t 74) (.t 73)))])
          (.seq (.cond (.t 75)
            .skip
            (.exit 2))
           (.seq (.block 3
             (.seq (.ops [i 76 (.p (.mov (.t 74))), i 77 (.p (.iaddr 9 (.t 72) (.t 74))), i 78 (.r (.load (some 9) (.t 77))), i 11 (.a (.alloc [.str [], .int .i64 0, .int .i64 0, .str [], .nils, .nils, .int .i64 0, .nils, .int .i64 0]) none), i 10 (.p (.mov (.t 76))), n (.w (.store 9 (.t 11) (.t 78)))])
              (.seq (.ops [i 79 (.p (.mov (.t 5))), i 80 (.p (.nilc (.t 79))), i 81 (.p (.faddr 2 (.t 80))), i 82 (.r (.load none (.t 81))), i 83 (.p (.eqo false .ptr (.t 82) (.c .nilp)))])
               (.cond (.t 83)
                (.ops [i 84 (.p (.mov (.t 5))), i 85 (.p (.mov (.t 10))), i 86 (.p (.faddr 2 (.t 11))), i 87 (.r (.load (some 5) (.t 86))), i 88 (.call (.dir 30) [(.t 84), (.t 85), (.t 87)] false)])
                .skip))))
            (.ops [i 89 (.p (.bin .add (.t 74) (.c (.int .i64 1)))), i 74 (.p (.mov (.t 89)))])))))))
      (.seq (.seq (.ops [i 90 (.p (.mov (.t 5))), i 91 (.p (.nilc (.t 90))), i 92 (.p (.faddr 2 (.t 91))), i 93 (.r (.load none (.t 92))), i 94 (.p (.eqo true .ptr (.t 93) (.c .nilp)))])
        (.cond (.t 94)
         (.seq (.dops 0 [(4, 16), (7, 16), (11, 16), (14, 16)] [i 95 (.p (.build [.nils, .nils] [])), i 96 (.p (.mov (.t 5))), i 97 (.p (.nilc (.t 96))), i 98 (.p (.faddr 2 (.t 97))), i 99 (.r (.load none (.t 98))), i 100 (.p (.nilc (.t 99))), i 101 (.p (.faddr 1 (.t 100))), i 102 (.r (.load none (.t 101))), i 103 (.p (.mov (.t 5))), i 104 (.p (.nilc (.t 103))), i 105 (.p (.faddr 2 (.t 104))), i 106 (.r (.load none (.t 105))), i 107 (.p (.nilc (.t 106))), i 108 (.p (.faddr 0 (.t 107))), i 109 (.r (.load none (.t 108))), n (.w (.store 2 (.t 2) (.t 95))), i 3 (.p (.mov (.t 102))), i 4 (.p (.mov (.t 109)))])
          .ret)
         .skip))
       (.seq (.dops 0 [(3, 7)] [i 110 (.p (.mov (.t 5))), i 111 (.p (.nilc (.t 110))), i 112 (.p (.faddr 1 (.t 111))), i 113 (.r (.load none (.t 112))), i 114 (.p (.faddr 0 (.t 1))), i 115 (.r (.load none (.t 114))), i 116 (.call (.dir 31) [(.t 115)] false), i 117 (.p (.build [.nils, .nils] [(0, 1, (.t 113)), (1, 1, (.t 116))])), n (.w (.store 2 (.t 2) (.t 117))), i 3 (.p (.mov (.c (.int .i64 0)))), i 4 (.p (.mov (.c (.int .i64 0))))])
        .ret)))))))
def f16 : IFn := ⟨false, 118, [.cell (some 2) 2, .tm 3, .tm 4], b16⟩
def b17 : IC :=
  (.seq (.ops [i 1 (.a (.box 2 (.t 0)) none), i 2 (.a (.alloc [.int .i64 0]) none), i 3 (.a (.alloc [.int .i64 0]) none)])
  (.seq (.seq (.ops [i 6 (.r (.load (some 2) (.t 1))), i 7 (.call (.dir 32) [(.t 6)] false), i 8 (.p (.un .not (.t 7)))])
    (.cond (.t 8)
     (.seq (.ops [n (.w (.store 1 (.t 2) (.c (.int .i64 0)))), n (.w (.store 1 (.t 3) (.c (.int .i64 1))))])
      .ret)
     .skip))
   (.seq (.seq (.ops [i 9 (.r (.load (some 2) (.t 1))), i 10 (.call (.dir 33) [(.t 9)] false)])
     (.block 0
      (.rangeF (.t 10) [11, 12]
       (.seq (.ops [i 4 (.p (.mov (.t 11)))])
        (.ops [i 5 (.p (.mov (.t 12)))]))
       (.block 1
        (.seq (.ops [i 13 (.p (.mov (.t 4))), i 14 (.p (.mov (.t 5))), n (.w (.store 1 (.t 2) (.t 13))), n (.w (.store 1 (.t 3) (.t 14)))])
         .ret)))))
    (.seq (.ops [n (.w (.store 1 (.t 2) (.c (.int .i64 (-1))))), n (.w (.store 1 (.t 3) (.c (.int .i64 0))))])
     .ret))))
def f17 : IFn := ⟨true, 15, [.cell none 2, .cell none 3], b17⟩
def b18 : IC :=
  (.seq (.ops [i 2 (.a (.box 1 (.t 0)) none), i 3 (.a (.box 2 (.t 1)) none)])
  (.seq (.seq (.dops 0 [] [i 5 (.r (.load none (.t 2))), i 6 (.p (.nilc (.t 5))), i 7 (.p (.faddr 4 (.t 6))), i 8 (.r (.load none (.t 7))), i 9 (.r (.load (some 2) (.t 3))), i 10 (.r (.lookup (.agg [.int, .int]) (.bool false) false (.t 8) (.t 9)))])
    (.cond (.t 10)
     .ret
     .skip))
   (.seq (.dops 0 [] [i 11 (.r (.load none (.t 2))), i 12 (.p (.nilc (.t 11))), i 13 (.p (.faddr 4 (.t 12))), i 14 (.r (.load none (.t 13))), i 15 (.r (.load (some 2) (.t 3))), n (.w (.mupd (.agg [.int, .int]) (.t 14) (.t 15) (.c (.bool true))))])
    (.seq (.ops [i 16 (.r (.load none (.t 2))), i 17 (.r (.load (some 2) (.t 3))), i 18 (.call (.dir 34) [(.t 16), (.t 17)] false)])
     (.block 0
      (.rangeF (.t 18) [19]
       (.ops [i 4 (.a (.alloc [.int .i64 0, .int .i64 0]) none), n (.w (.store 2 (.t 4) (.t 19)))])
       (.block 1
        (.ops [i 20 (.r (.load none (.t 2))), i 21 (.r (.load (some 2) (.t 4))), i 22 (.call (.dir 18) [(.t 20), (.t 21)] false)]))))))))
def f18 : IFn := ⟨false, 23, [], b18⟩
def b25 : IC :=
  (.seq (.ops [i 2 (.p (.mov (.c .nils))), i 3 (.p (.mov (.c (.int .i64 0)))), i 4 (.p (.mov (.c (.int .i64 0))))])
  (.seq (.seq (.ops [i 12 (.p (.mov (.t 0))), i 13 (.r (.len .str (.t 12))), i 14 (.p (.bin .gtr (.t 13) (.c (.int .i64 3000))))])
    (.cond (.t 14)
     (.seq (.ops [i 2 (.p (.mov (.c .nils))), i 3 (.p (.mov (.c (.int .i64 0)))), i 4 (.p (.mov (.c (.int .i64 7))))])
      .ret)
     .skip))
   (.seq (.ops [i 15 (.p (.mov (.t 0))), i 16 (.p (.build [.str [], .int .i64 0] [(0, 1, (.t 15))])), i 17 (.a (.box 2 (.t 16)) none), i 5 (.p (.mov (.t 17)))])
    (.seq (.ops [i 18 (.call (.dir 44) [] false), i 6 (.p (.mov (.t 18)))])
     (.seq (.ops [i 7 (.p (.mov (.c .nils)))])
      (.block 0
       (.loop
        (.block 1
         (.seq (.ops [i 19 (.p (.mov (.t 5))), i 20 (.p (.mov (.t 0))), i 21 (.r (.len .str (.t 20))), i 22 (.p (.mov (.t 0))), i 23 (.p (.mov (.t 5))), i 24 (.p (.nilc (.t 23))), i 25 (.p (.faddr 1 (.t 24))), i 26 (.r (.load none (.t 25))), i 27 (.p (.sliceS (.t 22) (some (.t 26)) none)), i 28 (.call (.dir 45) [(.t 27), (.c (.str [32, 9, 10, 13]))] false), i 29 (.r (.len .str (.t 28))), i 30 (.p (.bin .sub (.t 21) (.t 29))), i 31 (.p (.nilc (.t 19))), i 32 (.p (.faddr 1 (.t 31))), n (.w (.store 1 (.t 32) (.t 30)))])
          (.seq (.ops [i 33 (.p (.mov (.t 5))), i 34 (.p (.nilc (.t 33))), i 35 (.p (.faddr 1 (.t 34))), i 36 (.r (.load none (.t 35))), i 8 (.p (.mov (.t 36)))])
           (.seq (.seq (.ops [i 37 (.p (.mov (.t 8))), i 38 (.p (.mov (.t 0))), i 39 (.r (.len .str (.t 38))), i 40 (.p (.bin .eql (.t 37) (.t 39)))])
             (.cond (.t 40)
              (.seq (.ops [i 41 (.p (.mov (.t 7))), i 42 (.p (.mov (.t 0))), i 43 (.r (.len .str (.t 42))), i 2 (.p (.mov (.t 41))), i 3 (.p (.mov (.t 43))), i 4 (.p (.mov (.c (.int .i64 0))))])
               .ret)
              .skip))
            (.seq (.ops [i 44 (.p (.mov (.t 6))), i 45 (.p (.mov (.t 0))), i 46 (.p (.mov (.t 8))), i 47 (.p (.idxS (.t 45) (.t 46))), i 48 (.r (.lookup (.one .int) .nilf false (.t 44) (.t 47))), i 9 (.p (.mov (.t 48)))])
             (.seq (.seq (.ops [i 49 (.p (.mov (.t 9))), i 50 (.p (.eqo false .func (.t 49) (.c .nilf)))])
               (.cond (.t 50)
                (.ops [i 9 (.p (.mov (.c (.fn 46 [] []))))])
                .skip))
              (.seq (.ops [i 52 (.p (.mov (.t 9))), i 53 (.p (.mov (.t 5))), i 54 (.call (.val (.t 52)) [(.t 53)] false), i 51 (.p (.mov (.t 54))), i 55 (.p (.ext 0 (.t 51))), i 56 (.p (.ext 1 (.t 51))), i 10 (.a (.alloc [.int .i64 0, .str [], .nils, .int .i64 0]) none), n (.w (.store 4 (.t 10) (.t 55))), i 11 (.p (.mov (.t 56)))])
               (.seq (.block 2
                 (.seq (.ops [i 58 (.p (.mov (.t 11))), i 59 (.p (.un .not (.t 58))), i 57 (.p (.mov (.t 59)))])
                  (.cond (.t 57)
                   (.seq (.ops [i 60 (.p (.mov (.t 8))), i 2 (.p (.mov (.c .nils))), i 3 (.p (.mov (.t 60))), i 4 (.p (.mov (.c (.int .i64 2))))])
                    .ret)
                   (.seq (.ops [i 62 (.p (.mov (.t 7))), i 63 (.r (.len .sl (.t 62))), i 64 (.p (.bin .eql (.t 63) (.c (.int .i64 600)))), i 61 (.p (.mov (.t 64)))])
                    (.cond (.t 61)
                     (.seq (.ops [i 65 (.p (.mov (.t 8))), i 2 (.p (.mov (.c .nils))), i 3 (.p (.mov (.t 65))), i 4 (.p (.mov (.c (.int .i64 7))))])
                      .ret)
                     .skip)))))
                (.seq (.ops [i 66 (.p (.mov (.t 8))), i 67 (.p (.faddr 3 (.t 10))), n (.w (.store 1 (.t 67) (.t 66)))])
                 (.ops [i 68 (.p (.mov (.t 7))), i 69 (.r (.load (some 4) (.t 10))), i 70 (.a (.bslice true [.int .i64 0, .str [], .nils, .int .i64 0] 1 [(0, (.t 69))]) none), i 71 (.w (.append 4 56 (.t 68) (.t 70))), i 7 (.p (.mov (.t 71)))])))))))))))))))))
def f25 : IFn := ⟨false, 72, [.tm 2, .tm 3, .tm 4], b25⟩
def b26 : IC :=
  (.seq (.ops [i 6 (.recover)])
  (.block 0
   (.seq (.ops [i 8 (.p (.eqo false .iface (.t 6) (.c .nili)))])
    (.cond (.t 8)
     (.ops [i 3 (.p (.mov (.t 6)))])
     (.seq (.ops [i 9 (.p (.asrt 0 true (.agg [.int .i64 0, .int .i64 0]) (.t 6))), i 10 (.p (.ext 1 (.t 9))), i 11 (.p (.ext 0 (.t 9)))])
      (.cond (.t 10)
       (.seq (.ops [i 4 (.a (.alloc [.int .i64 0, .int .i64 0]) none), n (.w (.store 2 (.t 4) (.t 11)))])
        (.dops 0 [(2, 6), (4, 6), (4, 7)] [i 12 (.p (.build [.nils, .nils] [])), i 13 (.p (.faddr 1 (.t 4))), i 14 (.r (.load none (.t 13))), i 15 (.p (.faddr 0 (.t 4))), i 16 (.r (.load none (.t 15))), n (.w (.store 2 (.t 0) (.t 12))), n (.w (.store 1 (.t 1) (.t 14))), n (.w (.store 1 (.t 2) (.t 16)))]))
       (.seq (.ops [i 5 (.p (.mov (.t 6)))])
        (.ops [i 7 (.p (.mov (.t 5))), n (.bad)]))))))))
def f26 : IFn := ⟨false, 17, [], b26⟩
def b27 : IC :=
  (.seq (.ops [i 2 (.p (.mov (.c .nils)))])
  (.seq (.ops [i 3 (.p (.mov (.c .nils)))])
   (.seq (.seq (.ops [i 4 (.p (.mov (.t 0))), i 5 (.call (.dir 47) [(.t 4), (.c (.str [37]))] false), i 6 (.p (.un .not (.t 5)))])
     (.cond (.t 6)
      (.seq (.ops [i 7 (.p (.mov (.t 3))), i 2 (.p (.mov (.t 7)))])
       .ret)
      .skip))
    (.seq (.ops [i 8 (.p (.mov (.t 3))), i 9 (.p (.mov (.t 0))), i 10 (.call (.dir 48) [(.t 9), (.c (.int .i64 1)), (.c (.str []))] false), i 11 (.p (.fld 1 none (.t 10))), i 12 (.a (.bslice true [.str []] 1 [(0, (.t 11))]) none), i 13 (.w (.append 1 16 (.t 8) (.t 12))), i 3 (.p (.mov (.t 13)))])
     (.seq (.block 0
       (.loop
        (.seq (.seq (.ops [i 14 (.p (.mov (.t 0))), i 15 (.call (.dir 49) [(.t 14), (.c (.int .i64 1)), (.c (.str []))] false)])
          (.cond (.t 15)
           .skip
           (.exit 0)))
         (.block 1
          (.seq (.seq (.ops [i 16 (.p (.mov (.t 3))), i 17 (.r (.len .sl (.t 16))), i 18 (.p (.bin .eql (.t 17) (.c (.int .i64 8))))])
            (.cond (.t 18)
             (.ops [i 19 (.p (.mov (.t 0))), i 20 (.call (.dir 50) [(.t 19), (.c (.int .i64 7))] false)])
             .skip))
           (.ops [i 21 (.p (.mov (.t 3))), i 22 (.p (.mov (.t 0))), i 23 (.call (.dir 48) [(.t 22), (.c (.int .i64 1)), (.c (.str []))] false), i 24 (.p (.fld 1 none (.t 23))), i 25 (.a (.bslice true [.str []] 1 [(0, (.t 24))]) none), i 26 (.w (.append 1 16 (.t 21) (.t 25))), i 3 (.p (.mov (.t 26)))]))))))
      (.seq (.ops [i 27 (.p (.mov (.t 0))), i 28 (.call (.dir 48) [(.t 27), (.c (.int .i64 4)), (.c (.str [59]))] false)])
       (.seq (.ops [i 29 (.p (.mov (.t 3))), i 2 (.p (.mov (.t 29)))])
        .ret)))))))
def f27 : IFn := ⟨false, 30, [.tm 2], b27⟩
def b28 : IC :=
  (.seq (.ops [i 4 (.a (.alloc [.str [], .int .i64 0, .int .i64 0, .str [], .nils, .nils, .int .i64 0, .nils, .int .i64 0]) none)])
  (.seq (.ops [i 5 (.a (.alloc [.str [], .int .i64 0, .int .i64 0, .str [], .nils, .nils, .int .i64 0, .nils, .int .i64 0]) none)])
   (.seq (.block 0
     (.loop
      (.seq (.seq (.ops [i 7 (.p (.mov (.t 0))), i 8 (.call (.dir 49) [(.t 7), (.c (.int .i64 5)), (.c (.str []))] false)])
        (.cond (.t 8)
         .skip
         (.exit 0)))
       (.block 1
        (.dops 0 [(1, 3), (1, 5)] [i 9 (.p (.faddr 1 (.t 5))), i 10 (.r (.load none (.t 9))), i 11 (.call (.dir 51) [] false), i 12 (.p (.mov (.t 0))), i 13 (.call (.dir 48) [(.t 12), (.c (.int .i64 5)), (.c (.str []))] false), i 14 (.p (.fld 1 none (.t 13))), i 15 (.r (.lookup (.one .str) (.int .i64 0) false (.t 11) (.t 14))), i 16 (.p (.bin .or (.t 10) (.t 15))), i 17 (.p (.faddr 1 (.t 5))), n (.w (.store 1 (.t 17) (.t 16)))])))))
    (.seq (.seq (.ops [i 18 (.p (.mov (.t 0))), i 19 (.call (.dir 49) [(.t 18), (.c (.int .i64 0)), (.c (.str []))] false), i 20 (.p (.mov (.t 19))), ⟨some 21, some (20, true), .p (.mov (.t 1))⟩, ⟨some 22, some (20, true), .p (.bin .eql (.t 21) (.c (.int .i64 16)))⟩, i 23 (.p (.pick (.t 20) (.t 22) (.c (.bool false))))])
      (.cond (.t 23)
       (.ops [i 24 (.p (.mov (.t 0))), i 25 (.call (.dir 50) [(.t 24), (.c (.int .i64 7))] false)])
       .skip))
     (.seq (.ops [i 26 (.p (.mov (.t 0))), i 27 (.call (.dir 48) [(.t 26), (.c (.int .i64 0)), (.c (.str []))] false), i 6 (.a (.alloc [.int .i64 0, .str [], .nils, .int .i64 0]) none), n (.w (.store 4 (.t 6) (.t 27)))])
      (.seq (.dops 0 [(3, 6)] [i 28 (.p (.faddr 1 (.t 6))), i 29 (.r (.load none (.t 28))), i 30 (.p (.faddr 3 (.t 6))), i 31 (.r (.load none (.t 30))), i 32 (.p (.faddr 0 (.t 5))), n (.w (.store 1 (.t 32) (.t 29))), i 33 (.p (.faddr 8 (.t 5))), n (.w (.store 1 (.t 33) (.t 31)))])
       (.seq (.ops [i 34 (.p (.mov (.t 0))), i 35 (.call (.dir 48) [(.t 34), (.c (.int .i64 4)), (.c (.str [61]))] false)])
        (.seq (.ops [i 36 (.p (.mov (.t 0))), i 37 (.call (.dir 52) [(.t 36)] false), i 38 (.p (.faddr 2 (.t 5))), n (.w (.store 5 (.t 38) (.t 37)))])
         (.seq (.seq (.ops [i 39 (.p (.mov (.t 0))), i 40 (.call (.dir 47) [(.t 39), (.c (.str [47]))] false)])
           (.cond (.t 40)
            (.ops [i 41 (.p (.mov (.t 0))), i 42 (.call (.dir 48) [(.t 41), (.c (.int .i64 2)), (.c (.str []))] false), i 43 (.p (.fld 2 none (.t 42))), i 44 (.p (.faddr 7 (.t 5))), n (.w (.store 1 (.t 44) (.t 43)))])
            .skip))
          (.seq (.ops [i 45 (.p (.mov (.t 0))), i 46 (.call (.dir 48) [(.t 45), (.c (.int .i64 4)), (.c (.str [59]))] false)])
           (.seq (.ops [i 47 (.r (.load (some 9) (.t 5))), n (.w (.store 9 (.t 4) (.t 47)))])
            .ret)))))))))))
def f28 : IFn := ⟨false, 48, [.cell (some 9) 4], b28⟩
def b29 : IC :=
  (.seq (.ops [i 2 (.p (.mov (.c .nils)))])
  (.seq (.seq (.ops [i 3 (.p (.mov (.t 0))), i 4 (.p (.eqo false .slice (.t 3) (.c .nils)))])
    (.cond (.t 4)
     (.seq (.ops [i 2 (.p (.mov (.c .nils)))])
      .ret)
     .skip))
   (.seq (.ops [i 5 (.a (.bslice true [.int .i64 0, .int .i64 0] 0 []) none), i 6 (.p (.mov (.t 0))), i 7 (.w (.append 2 16 (.t 5) (.t 6))), i 2 (.p (.mov (.t 7)))])
    .ret)))
def f29 : IFn := ⟨false, 8, [.tm 2], b29⟩
def b30 : IC :=
  (.seq (.ops [i 5 (.a (.box 5 (.t 2)) none)])
  (.seq (.seq (.ops [i 6 (.p (.faddr 0 (.t 5))), i 7 (.r (.load none (.t 6))), i 8 (.p (.bin .neq (.t 7) (.c (.int .i64 5))))])
    (.cond (.t 8)
     (.ops [i 9 (.r (.load (some 5) (.t 5))), i 10 (.a (.bslice true [.int .i64 0, .str [], .nils, .nils, .int .i64 0] 1 [(0, (.t 9))]) none), i 11 (.p (.faddr 4 (.t 5))), i 12 (.r (.load none (.t 11))), i 13 (.p (.build [.int .i64 0, .str [], .nils, .nils, .int .i64 0] [(0, 1, (.c (.int .i64 5))), (3, 1, (.t 10)), (4, 1, (.t 12))])), n (.w (.store 5 (.t 5) (.t 13)))])
     .skip))
   (.ops [i 14 (.p (.mov (.t 0))), i 15 (.p (.mov (.t 1))), i 16 (.r (.load (some 5) (.t 5))), i 17 (.call (.dir 53) [(.t 14), (.t 15), (.t 16)] false)])))
def f30 : IFn := ⟨false, 18, [], b30⟩
def b31 : IC :=
  (.seq (.ops [i 2 (.p (.mov (.c .nils)))])
  (.seq (.seq (.ops [i 3 (.p (.mov (.t 0))), i 4 (.p (.eqo false .slice (.t 3) (.c .nils)))])
    (.cond (.t 4)
     (.seq (.ops [i 2 (.p (.mov (.c .nils)))])
      .ret)
     .skip))
   (.seq (.ops [i 5 (.a (.bslice true [.str []] 0 []) none), i 6 (.p (.mov (.t 0))), i 7 (.w (.append 1 16 (.t 5) (.t 6))), i 2 (.p (.mov (.t 7)))])
    .ret)))
def f31 : IFn := ⟨false, 8, [.tm 2], b31⟩
def b32 : IC :=
  (.seq (.ops [i 1 (.a (.box 2 (.t 0)) none), i 2 (.p (.mov (.c (.bool false))))])
  (.seq (.ops [i 8 (.p (.faddr 0 (.t 1))), i 9 (.r (.load none (.t 8))), i 10 (.r (.len .sl (.t 9))), i 3 (.a (.alloc [.int .i64 0]) none), n (.w (.store 1 (.t 3) (.t 10)))])
   (.seq (.ops [i 11 (.p (.mkf 54 [] [(.t 3)])), i 4 (.a (.alloc [.nilf]) none), n (.w (.store 1 (.t 4) (.t 11)))])
    (.seq (.ops [i 12 (.p (.mkf 56 [] [(.t 4)])), i 5 (.p (.mov (.t 12)))])
     (.seq (.seq (.ops [i 13 (.p (.faddr 0 (.t 1))), i 14 (.r (.load none (.t 13))), i 15 (.r (.len .sl (.t 14))), i 16 (.p (.mov (.c (.int .i64 0))))])
       (.block 0
        (.loop
         (.seq (.ops [i 17 (.p (.bin .lss (.t 16) (.t 15)))])
          (.seq (.cond (.t 17)
            .skip
            (.exit 0))
           (.seq (.block 1
             (.seq (.ops [i 18 (.p (.iaddr 3 (.t 14) (.t 16))), i 19 (.r (.load (some 3) (.t 18))), i 7 (.a (.alloc [.nils, .int .i64 0, .nils]) none), n (.w (.store 3 (.t 7) (.t 19)))])
              (.seq (.ops [i 20 (.p (.faddr 0 (.t 7))), i 21 (.r (.load none (.t 20))), i 22 (.r (.len .sl (.t 21))), i 23 (.p (.bin .eql (.t 22) (.c (.int .i64 0)))), i 24 (.p (.mov (.t 23))), ⟨some 25, some (24, false), .p (.faddr 0 (.t 7))⟩, ⟨some 26, some (24, false), .r (.load none (.t 25))⟩, ⟨some 27, some (24, false), .r (.len .sl (.t 26))⟩, ⟨some 28, some (24, false), .p (.bin .gtr (.t 27) (.c (.int .i64 8)))⟩, i 29 (.p (.pick (.t 24) (.c (.bool true)) (.t 28))), i 30 (.p (.mov (.t 29))), ⟨some 31, some (30, false), .p (.faddr 1 (.t 7))⟩, ⟨some 32, some (30, false), .r (.load none (.t 31))⟩, ⟨some 33, some (30, false), .p (.bin .lss (.t 32) (.c (.int .i64 0)))⟩, i 34 (.p (.pick (.t 30) (.c (.bool true)) (.t 33))), i 35 (.p (.mov (.t 34))), ⟨some 36, some (35, false), .p (.faddr 1 (.t 7))⟩, ⟨some 37, some (35, false), .r (.load none (.t 36))⟩, ⟨some 38, some (35, false), .p (.bin .gtr (.t 37) (.c (.int .i64 63)))⟩, i 39 (.p (.pick (.t 35) (.c (.bool true)) (.t 38))), i 40 (.p (.mov (.t 39))), ⟨some 41, some (40, false), .p (.faddr 2 (.t 7))⟩, ⟨some 42, some (40, false), .r (.load none (.t 41))⟩, ⟨some 43, some (40, false), .call (.dir 58) [(.t 42)] false⟩, ⟨some 44, some (40, false), .p (.un .not (.t 43))⟩, i 45 (.p (.pick (.t 40) (.c (.bool true)) (.t 44))), i 46 (.p (.mov (.t 45))), ⟨some 47, some (46, false), .p (.faddr 0 (.t 7))⟩, ⟨some 48, some (46, false), .r (.load none (.t 47))⟩, ⟨some 49, some (46, false), .p (.mov (.t 5))⟩, ⟨some 50, some (46, false), .call (.dir 59) [(.t 48), (.t 49)] false⟩, i 51 (.p (.pick (.t 46) (.c (.bool true)) (.t 50)))])
               (.cond (.t 51)
                (.seq (.ops [i 2 (.p (.mov (.c (.bool false))))])
                 .ret)
                .skip))))
            (.ops [i 52 (.p (.bin .add (.t 16) (.c (.int .i64 1)))), i 16 (.p (.mov (.t 52)))])))))))
      (.seq (.ops [i 53 (.r (.load none (.t 3))), i 54 (.p (.bin .gtr (.t 53) (.c (.int .i64 0)))), i 55 (.p (.mov (.t 54))), ⟨some 56, some (55, true), .r (.load none (.t 3))⟩, ⟨some 57, some (55, true), .p (.bin .leq (.t 56) (.c (.int .i64 60)))⟩, i 58 (.p (.pick (.t 55) (.t 57) (.c (.bool false)))), i 2 (.p (.mov (.t 58)))])
       .ret))))))
def f32 : IFn := ⟨true, 59, [.tm 2], b32⟩
def b33 : IC :=
  (.seq (.ops [i 1 (.a (.box 2 (.t 0)) none), i 2 (.p (.mov (.c .nilf)))])
  (.seq (.ops [i 4 (.p (.build [.nilf, .int .i64 0] [(0, 1, (.c (.fn 60 [] []))), (1, 1, (.c (.int .i64 8)))])), i 5 (.p (.build [.nilf, .int .i64 0] [(0, 1, (.c (.fn 61 [] []))), (1, 1, (.c (.int .i64 9)))])), i 6 (.p (.build [.nilf, .int .i64 0] [(0, 1, (.c (.fn 62 [] []))), (1, 1, (.c (.int .i64 10)))])), i 7 (.p (.build [.nilf, .int .i64 0] [(0, 1, (.c (.fn 63 [] []))), (1, 1, (.c (.int .i64 11)))])), i 8 (.p (.build [.nilf, .int .i64 0] [(0, 1, (.c (.fn 64 [] []))), (1, 1, (.c (.int .i64 12)))])), i 9 (.a (.bslice true [.nilf, .int .i64 0] 5 [(0, (.t 4)), (1, (.t 5)), (2, (.t 6)), (3, (.t 7)), (4, (.t 8))]) none), i 3 (.a (.alloc [.nils]) none), n (.w (.store 1 (.t 3) (.t 9)))])
   (.seq (.ops [i 10 (.p (.mkf 65 [] [(.t 3), (.t 1)])), i 2 (.p (.mov (.t 10)))])
    .ret)))
def f33 : IFn := ⟨false, 11, [.tm 2], b33⟩
def b34 : IC :=
  (.seq (.ops [i 2 (.a (.box 1 (.t 0)) none), i 3 (.a (.box 2 (.t 1)) none), i 4 (.p (.mov (.c .nilf)))])
  (.seq (.ops [i 5 (.p (.mkf 66 [] [(.t 2), (.t 3)])), i 4 (.p (.mov (.t 5)))])
   .ret))
def f34 : IFn := ⟨false, 6, [.tm 4], b34⟩
def b44 : IC :=
  (.seq (.ops [i 0 (.p (.mov (.c .nilm)))])
  (.seq (.ops [i 3 (.a (.mkm) none), n (.w (.mupd (.one .int) (.t 3) (.c (.int .u8 64)) (.c (.fn 71 [] [])))), n (.w (.mupd (.one .int) (.t 3) (.c (.int .u8 34)) (.c (.fn 72 [] [])))), n (.w (.mupd (.one .int) (.t 3) (.c (.int .u8 91)) (.c (.fn 73 [] [])))), n (.w (.mupd (.one .int) (.t 3) (.c (.int .u8 60)) (.c (.fn 74 [] [])))), i 4 (.p (.mov (.t 3))), i 1 (.p (.mov (.t 4)))])
   (.seq (.seq (.ops [i 5 (.p (.mov (.c (.int .i64 0))))])
     (.block 0
      (.loop
       (.seq (.ops [i 6 (.p (.bin .lss (.t 5) (.c (.int .i64 10))))])
        (.seq (.cond (.t 6)
          .skip
          (.exit 0))
         (.seq (.block 1
           (.seq (.ops [i 7 (.p (.mov (.t 5))), i 2 (.p (.mov (.t 7)))])
            (.ops [i 8 (.p (.mov (.t 1))), i 9 (.p (.mov (.t 2))), i 10 (.p (.idxS (.c (.str [61, 124, 59, 40, 41, 42, 43, 63, 47, 37])) (.t 9))), n (.w (.mupd (.one .int) (.t 8) (.t 10) (.c (.fn 75 [] []))))])))
          (.ops [i 11 (.p (.bin .add (.t 5) (.c (.int .i64 1)))), i 5 (.p (.mov (.t 11)))])))))))
    (.seq (.ops [i 12 (.p (.mov (.t 1))), i 0 (.p (.mov (.t 12)))])
     .ret))))
def f44 : IFn := ⟨false, 13, [.tm 0], b44⟩
def b45 : IC :=
  (.seq (.ops [i 4 (.p (.mov (.c (.str []))))])
  (.seq (.seq (.ops [i 7 (.p (.mov (.t 0))), i 8 (.p (.bin .eql (.t 7) (.c (.str [])))), i 9 (.p (.mov (.t 8))), ⟨some 10, some (9, false), .p (.mov (.t 1))⟩, ⟨some 11, some (9, false), .p (.bin .eql (.t 10) (.c (.str [])))⟩, i 12 (.p (.pick (.t 9) (.c (.bool true)) (.t 11)))])
    (.cond (.t 12)
     (.seq (.ops [i 13 (.p (.mov (.t 0))), i 4 (.p (.mov (.t 13)))])
      .ret)
     .skip))
   (.seq (.seq (.ops [i 14 (.p (.mov (.t 1))), i 15 (.r (.len .str (.t 14))), i 16 (.p (.bin .eql (.t 15) (.c (.int .i64 1)))), i 17 (.p (.mov (.t 16))), ⟨some 18, some (17, true), .p (.mov (.t 1))⟩, ⟨some 19, some (17, true), .p (.idxS (.t 18) (.c (.int .i64 0)))⟩, ⟨some 20, some (17, true), .p (.bin .lss (.t 19) (.c (.int .u8 128)))⟩, i 21 (.p (.pick (.t 17) (.t 20) (.c (.bool false))))])
     (.cond (.t 21)
      (.seq (.ops [i 22 (.p (.mov (.t 0))), i 23 (.p (.mov (.t 1))), i 24 (.p (.idxS (.t 23) (.c (.int .i64 0)))), i 25 (.call (.dir 76) [(.t 22), (.t 24)] false), i 4 (.p (.mov (.t 25)))])
       .ret)
      .skip))
    (.seq (.seq (.ops [i 27 (.p (.mov (.t 1))), i 28 (.call (.dir 77) [(.t 27)] false), i 26 (.p (.mov (.t 28))), i 29 (.p (.ext 0 (.t 26))), i 30 (.p (.ext 1 (.t 26))), i 5 (.a (.alloc [.bool false, .bool false, .bool false, .bool false, .bool false, .bool false, .bool false, .bool false, .bool false, .bool false, .bool false, .bool false, .bool false, .bool false, .bool false, .bool false, .bool false, .bool false, .bool false, .bool false, .bool false, .bool false, .bool false, .bool false, .bool false, .bool false, .bool false, .bool false, .bool false, .bool false, .bool false, .bool false, .bool false, .bool false, .bool false, .bool false, .bool false, .bool false, .bool false, .bool false, .bool false, .bool false, .bool false, .bool false, .bool false, .bool false, .bool false, .bool false, .bool false, .bool false, .bool false, .bool false, .bool false, .bool false, .bool false, .bool false, .bool false, .bool false, .bool false, .bool false, .bool false, .bool false, .bool false, .bool false, .bool false, .bool false, .bool false, .bool false, .bool false, .bool false, .bool false, .bool false, .bool false, .bool false, .bool false, .bool false, .bool false, .bool false, .bool false, .bool false, .bool false, .bool false, .bool false, .bool false, .bool false, .bool false, .bool false, .bool false, .bool false, .bool false, .bool false, .bool false, .bool false, .bool false, .bool false, .bool false, .bool false, .bool false, .bool false, .bool false, .bool false, .bool false, .bool false, .bool false, .bool false, .bool false, .bool false, .bool false, .bool false, .bool false, .bool false, .bool false, .bool false, .bool false, .bool false, .bool false, .bool false, .bool false, .bool false, .bool false, .bool false, .bool false, .bool false, .bool false, .bool false, .bool false, .bool false, .bool false, .bool false, .bool false, .bool false, .bool false, .bool false, .bool false, .bool false, .bool false, .bool false, .bool false, .bool false, .bool false, .bool false, .bool false, .bool false, .bool false, .bool false, .bool false, .bool false, .bool false, .bool false, .bool false, .bool false, .bool false, .bool false, .bool false, .bool false, .bool false, .bool false, .bool false, .bool false, .bool false, .bool false, .bool false, .bool false, .bool false, .bool false, .bool false, .bool false, .bool false, .bool false, .bool false, .bool false, .bool false, .bool false, .bool false, .bool false, .bool false, .bool false, .bool false, .bool false, .bool false, .bool false, .bool false, .bool false, .bool false, .bool false, .bool false, .bool false, .bool false, .bool false, .bool false, .bool false, .bool false, .bool false, .bool false, .bool false, .bool false, .bool false, .bool false, .bool false, .bool false, .bool false, .bool false, .bool false, .bool false, .bool false, .bool false, .bool false, .bool false, .bool false, .bool false, .bool false, .bool false, .bool false, .bool false, .bool false, .bool false, .bool false, .bool false, .bool false, .bool false, .bool false, .bool false, .bool false, .bool false, .bool false, .bool false, .bool false, .bool false, .bool false, .bool false, .bool false, .bool false, .bool false, .bool false, .bool false, .bool false, .bool false, .bool false, .bool false, .bool false, .bool false, .bool false, .bool false, .bool false, .bool false, .bool false, .bool false, .bool false, .bool false, .bool false, .bool false, .bool false, .bool false, .bool false, .bool false, .bool false]) none), n (.w (.store 256 (.t 5) (.t 29))), i 6 (.p (.mov (.t 30)))])
      (.seq (.ops [i 31 (.p (.mov (.t 6)))])
       (.cond (.t 31)
        (.seq (.ops [i 32 (.p (.mov (.t 0))), i 33 (.call (.dir 78) [(.t 32), (.t 5)] false), i 4 (.p (.mov (.t 33)))])
         .ret)
        .skip)))
     (.seq (.ops [i 34 (.p (.mov (.t 0))), i 35 (.p (.mov (.t 1))), i 36 (.call (.dir 79) [(.t 34), (.t 35)] false), i 4 (.p (.mov (.t 36)))])
      .ret)))))
def f45 : IFn := ⟨false, 37, [.tm 4], b45⟩
def b46 : IC :=
  (.seq (.ops [i 2 (.a (.alloc [.int .i64 0, .str [], .nils, .int .i64 0]) none), i 3 (.p (.mov (.c (.bool false))))])
  (.seq (.ops [i 5 (.p (.mov (.t 0))), i 6 (.call (.dir 80) [(.t 5)] false), i 4 (.p (.mov (.t 6)))])
   (.seq (.ops [i 7 (.p (.mov (.t 4))), i 8 (.p (.build [.int .i64 0, .str [], .nils, .int .i64 0] [(0, 1, (.c (.int .i64 0))), (1, 1, (.t 7))])), i 9 (.p (.mov (.t 4))), i 10 (.p (.bin .neq (.t 9) (.c (.str [])))), i 11 (.p (.mov (.t 10))), ⟨some 12, some (11, true), .p (.mov (.t 4))⟩, ⟨some 13, some (11, true), .r (.len .str (.t 12))⟩, ⟨some 14, some (11, true), .p (.bin .leq (.t 13) (.c (.int .i64 12)))⟩, i 15 (.p (.pick (.t 11) (.t 14) (.c (.bool false)))), n (.w (.store 4 (.t 2) (.t 8))), i 3 (.p (.mov (.t 15)))])
    .ret)))
def f46 : IFn := ⟨false, 16, [.cell (some 4) 2, .tm 3], b46⟩
def b47 : IC :=
  (.seq (.ops [i 4 (.p (.mov (.c (.bool false))))])
  (.seq (.ops [i 6 (.p (.mov (.t 0))), i 7 (.p (.mov (.t 1))), i 8 (.call (.dir 49) [(.t 6), (.c (.int .i64 4)), (.t 7)] false), i 5 (.p (.mov (.t 8)))])
   (.seq (.seq (.ops [i 9 (.p (.mov (.t 5)))])
     (.cond (.t 9)
      (.ops [i 10 (.p (.mov (.t 0))), i 11 (.p (.mov (.t 0))), i 12 (.p (.nilc (.t 11))), i 13 (.p (.faddr 0 (.t 12))), i 14 (.r (.load none (.t 13))), i 15 (.p (.slice 4 (.t 14) (some (.c (.int .i64 1))) none none)), i 16 (.p (.nilc (.t 10))), i 17 (.p (.faddr 0 (.t 16))), n (.w (.store 1 (.t 17) (.t 15)))])
      .skip))
    (.seq (.ops [i 18 (.p (.mov (.t 5))), i 4 (.p (.mov (.t 18)))])
     .ret))))
def f47 : IFn := ⟨false, 19, [.tm 4], b47⟩
def b48 : IC :=
  (.seq (.ops [i 6 (.a (.alloc [.int .i64 0, .str [], .nils, .int .i64 0]) none)])
  (.seq (.seq (.ops [i 8 (.p (.mov (.t 0))), i 9 (.p (.mov (.t 1))), i 10 (.p (.mov (.t 2))), i 11 (.call (.dir 49) [(.t 8), (.t 9), (.t 10)] false), i 12 (.p (.un .not (.t 11)))])
    (.cond (.t 12)
     (.ops [i 13 (.p (.mov (.t 0))), i 14 (.call (.dir 50) [(.t 13), (.c (.int .i64 3))] false)])
     .skip))
   (.seq (.ops [i 15 (.p (.mov (.t 0))), i 16 (.p (.nilc (.t 15))), i 17 (.p (.faddr 0 (.t 16))), i 18 (.r (.load none (.t 17))), i 19 (.p (.iaddr 4 (.t 18) (.c (.int .i64 0)))), i 20 (.r (.load (some 4) (.t 19))), i 7 (.a (.alloc [.int .i64 0, .str [], .nils, .int .i64 0]) none), n (.w (.store 4 (.t 7) (.t 20)))])
    (.seq (.ops [i 21 (.p (.mov (.t 0))), i 22 (.p (.mov (.t 0))), i 23 (.p (.nilc (.t 22))), i 24 (.p (.faddr 0 (.t 23))), i 25 (.r (.load none (.t 24))), i 26 (.p (.slice 4 (.t 25) (some (.c (.int .i64 1))) none none)), i 27 (.p (.nilc (.t 21))), i 28 (.p (.faddr 0 (.t 27))), n (.w (.store 1 (.t 28) (.t 26)))])
     (.seq (.ops [i 29 (.r (.load (some 4) (.t 7))), n (.w (.store 4 (.t 6) (.t 29)))])
      .ret)))))
def f48 : IFn := ⟨false, 30, [.cell (some 4) 6], b48⟩
def b49 : IC :=
  (.seq (.ops [i 6 (.p (.mov (.c (.bool false))))])
  (.seq (.ops [i 7 (.p (.mov (.t 0))), i 8 (.p (.nilc (.t 7))), i 9 (.p (.faddr 0 (.t 8))), i 10 (.r (.load none (.t 9))), i 11 (.r (.len .sl (.t 10))), i 12 (.p (.bin .gtr (.t 11) (.c (.int .i64 0)))), i 13 (.p (.mov (.t 12))), ⟨some 14, some (13, true), .p (.mov (.t 0))⟩, ⟨some 15, some (13, true), .p (.nilc (.t 14))⟩, ⟨some 16, some (13, true), .p (.faddr 0 (.t 15))⟩, ⟨some 17, some (13, true), .r (.load none (.t 16))⟩, ⟨some 18, some (13, true), .p (.iaddr 4 (.t 17) (.c (.int .i64 0)))⟩, ⟨some 19, some (13, true), .p (.faddr 0 (.t 18))⟩, ⟨some 20, some (13, true), .r (.load none (.t 19))⟩, ⟨some 21, some (13, true), .p (.mov (.t 1))⟩, ⟨some 22, some (13, true), .p (.bin .eql (.t 20) (.t 21))⟩, i 23 (.p (.pick (.t 13) (.t 22) (.c (.bool false)))), i 24 (.p (.mov (.t 23))), ⟨some 25, some (24, true), .p (.mov (.t 2))⟩, ⟨some 26, some (24, true), .p (.bin .eql (.t 25) (.c (.str [])))⟩, ⟨some 27, some (24, true), .p (.mov (.t 26))⟩, ⟨some 28, some (27, false), .p (.mov (.t 0))⟩, ⟨some 29, some (27, false), .p (.nilc (.t 28))⟩, ⟨some 30, some (27, false), .p (.faddr 0 (.t 29))⟩, ⟨some 31, some (27, false), .r (.load none (.t 30))⟩, ⟨some 32, some (27, false), .p (.iaddr 4 (.t 31) (.c (.int .i64 0)))⟩, ⟨some 33, some (27, false), .p (.faddr 1 (.t 32))⟩, ⟨some 34, some (27, false), .r (.load none (.t 33))⟩, ⟨some 35, some (27, false), .p (.mov (.t 2))⟩, ⟨some 36, some (27, false), .p (.bin .eql (.t 34) (.t 35))⟩, ⟨some 37, some (24, true), .p (.pick (.t 27) (.c (.bool true)) (.t 36))⟩, i 38 (.p (.pick (.t 24) (.t 37) (.c (.bool false)))), i 6 (.p (.mov (.t 38)))])
   .ret))
def f49 : IFn := ⟨false, 39, [.tm 6], b49⟩
def b50 : IC :=
  (.ops [i 4 (.p (.mov (.t 1))), i 5 (.p (.mov (.t 0))), i 6 (.call (.dir 81) [(.t 5)] false), i 7 (.p (.build [.int .i64 0, .int .i64 0] [(0, 1, (.t 4)), (1, 1, (.t 6))])), i 8 (.p (.mki 0 (.t 7))), n (.bad)])
def f50 : IFn := ⟨false, 9, [], b50⟩
def b51 : IC :=
  (.seq (.ops [i 0 (.p (.mov (.c .nilm)))])
  (.seq (.ops [i 1 (.a (.mkm) none), n (.w (.mupd (.one .str) (.t 1) (.c (.str [108, 111, 110, 103])) (.c (.int .i64 1)))), n (.w (.mupd (.one .str) (.t 1) (.c (.str [114, 101, 115])) (.c (.int .i64 2)))), n (.w (.mupd (.one .str) (.t 1) (.c (.str [111, 102, 102])) (.c (.int .i64 4)))), n (.w (.mupd (.one .str) (.t 1) (.c (.str [98, 108, 111, 99, 107])) (.c (.int .i64 8)))), n (.w (.mupd (.one .str) (.t 1) (.c (.str [97, 108, 105, 103, 110])) (.c (.int .i64 16)))), n (.w (.mupd (.one .str) (.t 1) (.c (.str [115, 121, 110, 99])) (.c (.int .i64 32)))), i 2 (.p (.mov (.t 1))), i 0 (.p (.mov (.t 2)))])
   .ret))
def f51 : IFn := ⟨false, 3, [.tm 0], b51⟩
def b52 : IC :=
  (.seq (.ops [i 2 (.a (.alloc [.int .i64 0, .str [], .nils, .nils, .int .i64 0]) none)])
  (.seq (.ops [i 4 (.p (.mov (.t 0))), i 5 (.call (.dir 82) [(.t 4)] false), i 6 (.a (.bslice true [.int .i64 0, .str [], .nils, .nils, .int .i64 0] 1 [(0, (.t 5))]) none), i 3 (.p (.mov (.t 6)))])
   (.seq (.block 0
     (.loop
      (.seq (.seq (.ops [i 7 (.p (.mov (.t 0))), i 8 (.call (.dir 47) [(.t 7), (.c (.str [124]))] false)])
        (.cond (.t 8)
         .skip
         (.exit 0)))
       (.block 1
        (.ops [i 9 (.p (.mov (.t 3))), i 10 (.p (.mov (.t 0))), i 11 (.call (.dir 82) [(.t 10)] false), i 12 (.a (.bslice true [.int .i64 0, .str [], .nils, .nils, .int .i64 0] 1 [(0, (.t 11))]) none), i 13 (.w (.append 5 80 (.t 9) (.t 12))), i 3 (.p (.mov (.t 13)))])))))
    (.seq (.ops [i 14 (.p (.mov (.t 3))), i 15 (.p (.iaddr 5 (.t 14) (.c (.int .i64 0)))), i 16 (.p (.faddr 4 (.t 15))), i 17 (.r (.load none (.t 16))), i 18 (.p (.mov (.t 3))), i 19 (.call (.dir 83) [(.c (.int .i64 5)), (.t 17), (.t 18)] false), n (.w (.store 5 (.t 2) (.t 19)))])
     .ret))))
def f52 : IFn := ⟨false, 20, [.cell (some 5) 2], b52⟩
def b53 : IC :=
  (.seq (.ops [i 3 (.a (.box 1 (.t 0)) none), i 5 (.a (.box 5 (.t 2)) none)])
  (.seq (.ops [i 6 (.p (.mov (.c .nils)))])
   (.seq (.ops [i 12 (.p (.mov (.t 1))), i 13 (.p (.build [.int .i64 0, .nils, .int .i64 0] [(0, 1, (.c (.int .i64 2))), (2, 1, (.t 12))])), i 7 (.a (.alloc [.int .i64 0, .nils, .int .i64 0]) none), n (.w (.store 3 (.t 7) (.t 13)))])
    (.seq (.ops [i 14 (.p (.mkf 84 [] [(.t 3), (.t 5)])), i 8 (.p (.mov (.t 14)))])
     (.seq (.seq (.ops [i 15 (.p (.faddr 0 (.t 5))), i 16 (.r (.load none (.t 15)))])
       (.block 0
        (.seq (.ops [i 22 (.p (.bin .eql (.t 16) (.c (.int .i64 5)))), i 21 (.p (.mov (.t 22)))])
         (.cond (.t 21)
          (.seq (.ops [i 23 (.p (.faddr 3 (.t 5))), i 24 (.r (.load none (.t 23))), i 25 (.r (.len .sl (.t 24))), i 26 (.p (.mov (.c (.int .i64 0))))])
           (.block 1
            (.loop
             (.seq (.ops [i 27 (.p (.bin .lss (.t 26) (.t 25)))])
              (.seq (.cond (.t 27)
                .skip
                (.exit 1))
               (.seq (.block 2
                 (.seq (.ops [i 28 (.p (.mov (.t 26))), i 9 (.p (.mov (.t 28)))])
                  (.ops [i 29 (.p (.mov (.t 6))), i 30 (.p (.mov (.t 8))), i 31 (.p (.mov (.t 9))), i 32 (.call (.val (.t 30)) [(.t 31)] false), i 33 (.a (.bslice true [.nils] 1 [(0, (.t 32))]) none), i 34 (.w (.append 1 24 (.t 29) (.t 33))), i 6 (.p (.mov (.t 34)))])))
                (.ops [i 35 (.p (.bin .add (.t 26) (.c (.int .i64 1)))), i 26 (.p (.mov (.t 35)))])))))))
          (.seq (.ops [i 37 (.p (.bin .eql (.t 16) (.c (.int .i64 6)))), i 36 (.p (.mov (.t 37)))])
           (.cond (.t 36)
            (.dops 0 [(2, 1)] [i 38 (.p (.mov (.t 8))), i 39 (.call (.val (.t 38)) [(.c (.int .i64 0))] false), i 40 (.r (.load (some 3) (.t 7))), i 41 (.a (.bslice true [.int .i64 0, .nils, .int .i64 0] 1 [(0, (.t 40))]) none), i 42 (.w (.append 3 40 (.t 39) (.t 41))), i 43 (.a (.bslice true [.nils] 2 [(0, (.t 42)), (1, (.c .nils))]) none), i 6 (.p (.mov (.t 43)))])
            (.seq (.ops [i 45 (.p (.bin .eql (.t 16) (.c (.int .i64 7)))), i 44 (.p (.mov (.t 45)))])
             (.cond (.t 44)
              (.seq (.ops [i 46 (.p (.mov (.t 8))), i 47 (.call (.val (.t 46)) [(.c (.int .i64 0))] false), i 10 (.p (.mov (.t 47)))])
               (.dops 0 [(2, 1)] [i 48 (.p (.mov (.t 10))), i 49 (.call (.dir 86) [(.t 48)] false), i 50 (.r (.load (some 3) (.t 7))), i 51 (.a (.bslice true [.int .i64 0, .nils, .int .i64 0] 1 [(0, (.t 50))]) none), i 52 (.w (.append 3 40 (.t 49) (.t 51))), i 53 (.p (.mov (.t 10))), i 54 (.a (.bslice true [.nils] 2 [(0, (.t 52)), (1, (.t 53))]) none), i 6 (.p (.mov (.t 54)))]))
              (.seq (.ops [i 56 (.p (.bin .eql (.t 16) (.c (.int .i64 8)))), i 55 (.p (.mov (.t 56)))])
               (.cond (.t 55)
                (.ops [i 57 (.p (.mov (.t 8))), i 58 (.call (.val (.t 57)) [(.c (.int .i64 0))] false), i 59 (.a (.bslice true [.nils] 2 [(0, (.t 58)), (1, (.c .nils))]) none), i 6 (.p (.mov (.t 59)))])
                (.ops [i 17 (.r (.load none (.t 3))), i 18 (.r (.load (some 5) (.t 5))), i 19 (.call (.dir 85) [(.t 17), (.c .nils), (.t 18)] false), i 20 (.a (.bslice true [.nils] 1 [(0, (.t 19))]) none), i 6 (.p (.mov (.t 20)))])))))))))))
      (.seq (.ops [i 60 (.p (.mov (.t 6))), i 61 (.call (.dir 59) [(.t 60), (.c (.fn 87 [] []))] false), i 11 (.p (.mov (.t 61)))])
       (.seq (.ops [i 62 (.r (.load none (.t 3))), i 63 (.p (.mov (.t 6))), i 64 (.r (.len .sl (.t 63))), i 65 (.p (.bin .eql (.t 64) (.c (.int .i64 0)))), i 66 (.p (.mov (.t 65))), ⟨some 67, some (66, false), .p (.mov (.t 6))⟩, ⟨some 68, some (66, false), .r (.len .sl (.t 67))⟩, ⟨some 69, some (66, false), .p (.bin .gtr (.t 68) (.c (.int .i64 8)))⟩, i 70 (.p (.pick (.t 66) (.c (.bool true)) (.t 69))), i 71 (.p (.mov (.t 70))), ⟨some 72, some (71, false), .p (.mov (.t 11))⟩, i 73 (.p (.pick (.t 71) (.c (.bool true)) (.t 72))), i 74 (.p (.faddr 4 (.t 5))), i 75 (.r (.load none (.t 74))), i 76 (.call (.dir 88) [(.t 62), (.t 73), (.c (.int .i64 7)), (.t 75)] false)])
        (.ops [i 77 (.r (.load none (.t 3))), i 78 (.p (.nilc (.t 77))), i 79 (.p (.faddr 1 (.t 78))), i 80 (.r (.load none (.t 79))), i 81 (.p (.mov (.t 1))), i 82 (.p (.mov (.t 6))), i 83 (.p (.iaddr 3 (.t 80) (.t 81))), i 84 (.p (.faddr 0 (.t 83))), n (.w (.store 1 (.t 84) (.t 82)))]))))))))
def f53 : IFn := ⟨false, 85, [], b53⟩
def b54 : IC :=
  (.seq (.ops [i 2 (.a (.box 3 (.t 0)) none), i 3 (.p (.mov (.c (.bool false))))])
  (.seq (.seq (.ops [i 4 (.p (.faddr 0 (.t 2))), i 5 (.r (.load none (.t 4)))])
    (.block 0
     (.seq (.seq (.ops [i 7 (.p (.bin .eql (.t 5) (.c (.int .i64 0)))), i 6 (.p (.mov (.t 7)))])
       (.cond (.t 6)
        .skip
        (.ops [i 8 (.p (.bin .eql (.t 5) (.c (.int .i64 1)))), i 6 (.p (.mov (.t 8)))])))
      (.cond (.t 6)
       (.seq (.ops [i 9 (.r (.load (some 3) (.t 2))), i 10 (.call (.dir 55) [(.t 9)] false), i 11 (.p (.un .not (.t 10))), i 3 (.p (.mov (.t 11)))])
        .ret)
       (.seq (.ops [i 13 (.p (.bin .eql (.t 5) (.c (.int .i64 2)))), i 12 (.p (.mov (.t 13)))])
        (.cond (.t 12)
         (.seq (.ops [i 14 (.p (.faddr 2 (.t 2))), i 15 (.r (.load none (.t 14))), i 16 (.p (.bin .lss (.t 15) (.c (.int .i64 0)))), i 17 (.p (.mov (.t 16))), ⟨some 18, some (17, false), .p (.faddr 2 (.t 2))⟩, ⟨some 19, some (17, false), .r (.load none (.t 18))⟩, ⟨some 20, some (17, false), .r (.load none (.t 1))⟩, ⟨some 21, some (17, false), .p (.bin .geq (.t 19) (.t 20))⟩, i 22 (.p (.pick (.t 17) (.c (.bool true)) (.t 21))), i 23 (.p (.mov (.t 22))), ⟨some 24, some (23, false), .p (.faddr 1 (.t 2))⟩, ⟨some 25, some (23, false), .r (.load none (.t 24))⟩, ⟨some 26, some (23, false), .r (.len .sl (.t 25))⟩, ⟨some 27, some (23, false), .p (.bin .gtr (.t 26) (.c (.int .i64 0)))⟩, i 28 (.p (.pick (.t 23) (.c (.bool true)) (.t 27))), i 3 (.p (.mov (.t 28)))])
          .ret)
         .skip))))))
   (.seq (.ops [i 3 (.p (.mov (.c (.bool true))))])
    .ret)))
def f54 : IFn := ⟨true, 29, [.tm 3], b54⟩
def b55 : IC :=
  (.seq (.ops [i 1 (.a (.box 3 (.t 0)) none), i 2 (.p (.mov (.c (.bool false))))])
  (.seq (.ops [i 4 (.p (.faddr 1 (.t 1))), i 5 (.r (.load none (.t 4))), i 6 (.p (.mkf 90 [] [(.t 1)])), i 7 (.call (.dir 89) [(.t 5), (.t 6)] false), i 3 (.p (.mov (.t 7)))])
   (.seq (.ops [i 8 (.p (.faddr 2 (.t 1))), i 9 (.r (.load none (.t 8))), i 10 (.p (.bin .eql (.t 9) (.c (.int .i64 0)))), i 11 (.p (.mov (.t 10))), ⟨some 12, some (11, true), .p (.mov (.t 3))⟩, ⟨some 13, some (11, true), .p (.un .not (.t 12))⟩, i 14 (.p (.pick (.t 11) (.t 13) (.c (.bool false)))), i 15 (.p (.mov (.t 14))), ⟨some 16, some (15, true), .p (.faddr 1 (.t 1))⟩, ⟨some 17, some (15, true), .r (.load none (.t 16))⟩, ⟨some 18, some (15, true), .call (.dir 58) [(.t 17)] false⟩, i 19 (.p (.pick (.t 15) (.t 18) (.c (.bool false)))), i 2 (.p (.mov (.t 19)))])
    .ret)))
def f55 : IFn := ⟨true, 20, [.tm 2], b55⟩
def b56 : IC :=
  (.seq (.ops [i 3 (.p (.mov (.c (.bool false))))])
  (.seq (.ops [i 4 (.p (.mov (.t 0))), i 5 (.r (.len .sl (.t 4))), i 6 (.p (.bin .gtr (.t 5) (.c (.int .i64 40)))), i 7 (.p (.mov (.t 6))), ⟨some 8, some (7, false), .p (.mov (.t 0))⟩, ⟨some 9, some (7, false), .r (.load none (.t 1))⟩, ⟨some 10, some (7, false), .call (.dir 57) [(.t 8), (.t 9)] false⟩, i 11 (.p (.pick (.t 7) (.c (.bool true)) (.t 10))), i 3 (.p (.mov (.t 11)))])
   .ret))
def f56 : IFn := ⟨true, 12, [.tm 3], b56⟩
def b57 : IC :=
  (.seq (.ops [i 4 (.p (.mov (.c (.bool false))))])
  (.seq (.ops [i 5 (.p (.mov (.t 0))), i 6 (.p (.mov (.t 1))), i 7 (.call (.dir 91) [(.t 5), (.t 6)] false), i 8 (.p (.bin .geq (.t 7) (.c (.int .i64 0)))), i 4 (.p (.mov (.t 8)))])
   .ret))
def f57 : IFn := ⟨true, 9, [.tm 4], b57⟩
def b58 : IC :=
  (.seq (.ops [i 2 (.p (.mov (.c (.bool false))))])
  (.seq (.seq (.ops [i 5 (.p (.mov (.t 0))), i 6 (.r (.len .sl (.t 5))), i 7 (.p (.mov (.c (.int .i64 0))))])
    (.block 0
     (.loop
      (.seq (.ops [i 8 (.p (.bin .lss (.t 7) (.t 6)))])
       (.seq (.cond (.t 8)
         .skip
         (.exit 0))
        (.seq (.block 1
          (.seq (.ops [i 9 (.p (.mov (.t 7))), i 10 (.p (.iaddr 2 (.t 5) (.t 7))), i 11 (.r (.load (some 2) (.t 10))), i 4 (.a (.alloc [.int .i64 0, .int .i64 0]) none), i 3 (.p (.mov (.t 9))), n (.w (.store 2 (.t 4) (.t 11)))])
           (.seq (.dops 0 [] [i 12 (.p (.faddr 0 (.t 4))), i 13 (.r (.load none (.t 12))), i 14 (.p (.bin .lss (.t 13) (.c (.int .i64 0)))), i 15 (.p (.mov (.t 14))), ⟨some 16, some (15, false), .p (.faddr 0 (.t 4))⟩, ⟨some 17, some (15, false), .r (.load none (.t 16))⟩, ⟨some 18, some (15, false), .p (.faddr 1 (.t 4))⟩, ⟨some 19, some (15, false), .r (.load none (.t 18))⟩, ⟨some 20, some (15, false), .p (.bin .gtr (.t 17) (.t 19))⟩, i 21 (.p (.pick (.t 15) (.c (.bool true)) (.t 20))), i 22 (.p (.mov (.t 21))), ⟨some 23, some (22, false), .p (.faddr 1 (.t 4))⟩, ⟨some 24, some (22, false), .r (.load none (.t 23))⟩, ⟨some 25, some (22, false), .p (.bin .gtr (.t 24) (.c (.int .i64 1114111)))⟩, i 26 (.p (.pick (.t 22) (.c (.bool true)) (.t 25))), i 27 (.p (.mov (.t 26))), ⟨some 28, some (27, false), .p (.mov (.t 3))⟩, ⟨some 29, some (27, false), .p (.bin .gtr (.t 28) (.c (.int .i64 0)))⟩, ⟨some 30, some (27, false), .p (.mov (.t 29))⟩, ⟨some 31, some (30, true), .p (.faddr 0 (.t 4))⟩, ⟨some 32, some (30, true), .r (.load none (.t 31))⟩, ⟨some 33, some (30, true), .p (.bin .sub (.t 32) (.c (.int .i64 1)))⟩, ⟨some 34, some (30, true), .p (.mov (.t 0))⟩, ⟨some 35, some (30, true), .p (.mov (.t 3))⟩, ⟨some 36, some (30, true), .p (.bin .sub (.t 35) (.c (.int .i64 1)))⟩, ⟨some 37, some (30, true), .p (.iaddr 2 (.t 34) (.t 36))⟩, ⟨some 38, some (30, true), .p (.faddr 1 (.t 37))⟩, ⟨some 39, some (30, true), .r (.load none (.t 38))⟩, ⟨some 40, some (30, true), .p (.bin .leq (.t 33) (.t 39))⟩, ⟨some 41, some (27, false), .p (.pick (.t 30) (.t 40) (.c (.bool false)))⟩, i 42 (.p (.pick (.t 27) (.c (.bool true)) (.t 41)))])
            (.cond (.t 42)
             (.seq (.ops [i 2 (.p (.mov (.c (.bool false))))])
              .ret)
             .skip))))
         (.ops [i 43 (.p (.bin .add (.t 7) (.c (.int .i64 1)))), i 7 (.p (.mov (.t 43)))])))))))
   (.seq (.ops [i 2 (.p (.mov (.c (.bool true))))])
    .ret)))
def f58 : IFn := ⟨true, 44, [.tm 2], b58⟩
def b59 : IC :=
  (.seq (.ops [i 4 (.p (.mov (.c (.bool false))))])
  (.seq (.ops [i 5 (.p (.mov (.t 0))), i 6 (.p (.mov (.t 1))), i 7 (.call (.dir 92) [(.t 5), (.t 6)] false), i 8 (.p (.bin .geq (.t 7) (.c (.int .i64 0)))), i 4 (.p (.mov (.t 8)))])
   .ret))
def f59 : IFn := ⟨true, 9, [.tm 4], b59⟩
def b60 : IC :=
  (.seq (.ops [i 1 (.a (.box 2 (.t 0)) none), i 2 (.p (.mov (.c (.int .i64 0))))])
  (.seq (.seq (.ops [i 7 (.r (.load (some 2) (.t 1))), i 8 (.call (.dir 93) [(.t 7)] false), i 6 (.p (.mov (.t 8))), i 9 (.p (.ext 0 (.t 6))), i 10 (.p (.ext 1 (.t 6))), i 3 (.p (.mov (.t 9))), i 4 (.p (.mov (.t 10)))])
    (.seq (.ops [i 11 (.p (.mov (.t 4))), i 12 (.p (.mov (.t 11))), ⟨some 13, some (12, false), .r (.load (some 2) (.t 1))⟩, ⟨some 14, some (12, false), .call (.dir 32) [(.t 13)] false⟩, ⟨some 15, some (12, false), .p (.un .not (.t 14))⟩, i 16 (.p (.pick (.t 12) (.c (.bool true)) (.t 15)))])
     (.cond (.t 16)
      (.seq (.ops [i 2 (.p (.mov (.c (.int .i64 (-1)))))])
       .ret)
      .skip)))
   (.seq (.seq (.ops [i 17 (.p (.faddr 0 (.t 1))), i 18 (.r (.load none (.t 17))), i 19 (.r (.len .sl (.t 18))), i 20 (.p (.mov (.c (.int .i64 0))))])
     (.block 0
      (.loop
       (.seq (.ops [i 21 (.p (.bin .lss (.t 20) (.t 19)))])
        (.seq (.cond (.t 21)
          .skip
          (.exit 0))
         (.seq (.block 1
           (.seq (.ops [i 22 (.p (.mov (.t 20))), i 5 (.p (.mov (.t 22)))])
            (.seq (.ops [i 23 (.r (.load (some 2) (.t 1))), i 24 (.p (.mov (.t 5))), i 25 (.p (.mov (.t 5))), i 26 (.call (.dir 94) [(.t 23), (.t 24), (.t 25)] false)])
             (.cond (.t 26)
              (.seq (.ops [i 27 (.p (.mov (.t 5))), i 2 (.p (.mov (.t 27)))])
               .ret)
              .skip))))
          (.ops [i 28 (.p (.bin .add (.t 20) (.c (.int .i64 1)))), i 20 (.p (.mov (.t 28)))])))))))
    (.seq (.ops [i 2 (.p (.mov (.c (.int .i64 (-1)))))])
     .ret))))
def f60 : IFn := ⟨true, 29, [.tm 2], b60⟩
def b61 : IC :=
  (.seq (.ops [i 1 (.a (.box 2 (.t 0)) none), i 2 (.p (.mov (.c (.int .i64 0))))])
  (.seq (.ops [i 4 (.r (.load (some 2) (.t 1))), i 5 (.call (.dir 95) [(.t 4), (.c (.int .i64 0))] false), i 3 (.p (.mov (.t 5)))])
   (.seq (.seq (.ops [i 6 (.p (.mov (.t 3))), i 7 (.r (.len .sl (.t 6))), i 8 (.p (.bin .eql (.t 7) (.c (.int .i64 0))))])
     (.cond (.t 8)
      (.seq (.ops [i 2 (.p (.mov (.c (.int .i64 (-1)))))])
       .ret)
      .skip))
    (.seq (.ops [i 9 (.p (.mov (.t 3))), i 10 (.p (.iaddr 1 (.t 9) (.c (.int .i64 0)))), n (.w (.store 1 (.t 10) (.c (.bool true))))])
     (.seq (.ops [i 11 (.p (.mov (.t 3))), i 12 (.call (.dir 96) [(.t 11), (.c (.bool false))] false), i 2 (.p (.mov (.t 12)))])
      .ret)))))
def f61 : IFn := ⟨true, 13, [.tm 2], b61⟩
def b62 : IC :=
  (.seq (.ops [i 1 (.a (.box 2 (.t 0)) none), i 2 (.p (.mov (.c (.int .i64 0))))])
  (.seq (.ops [i 3 (.r (.load (some 2) (.t 1))), i 4 (.call (.dir 97) [(.t 3)] false), i 5 (.call (.dir 96) [(.t 4), (.c (.bool false))] false), i 2 (.p (.mov (.t 5)))])
   .ret))
def f62 : IFn := ⟨true, 6, [.tm 2], b62⟩
def b63 : IC :=
  (.seq (.ops [i 1 (.a (.box 2 (.t 0)) none), i 2 (.p (.mov (.c (.int .i64 0))))])
  (.seq (.ops [i 3 (.r (.load (some 2) (.t 1))), i 4 (.p (.mkf 99 [] [(.t 1)])), i 5 (.call (.dir 98) [(.t 3), (.t 4)] false), i 2 (.p (.mov (.t 5)))])
   .ret))
def f63 : IFn := ⟨true, 6, [.tm 2], b63⟩
def b64 : IC :=
  (.seq (.ops [i 1 (.a (.box 2 (.t 0)) none), i 2 (.p (.mov (.c (.int .i64 0))))])
  (.seq (.ops [i 3 (.r (.load (some 2) (.t 1))), i 4 (.p (.mkf 101 [] [(.t 1)])), i 5 (.call (.dir 98) [(.t 3), (.t 4)] false), i 2 (.p (.mov (.t 5)))])
   .ret))
def f64 : IFn := ⟨true, 6, [.tm 2], b64⟩
def b65 : IC :=
  (.seq (.ops [i 7 (.r (.load none (.t 1))), i 8 (.r (.len .sl (.t 7))), i 9 (.p (.mov (.c (.int .i64 0))))])
  (.block 0
   (.loop
    (.seq (.ops [i 10 (.p (.bin .lss (.t 9) (.t 8)))])
     (.seq (.cond (.t 10)
       .skip
       (.exit 0))
      (.seq (.block 1
        (.seq (.ops [i 11 (.p (.iaddr 2 (.t 7) (.t 9))), i 12 (.r (.load (some 2) (.t 11))), i 5 (.a (.alloc [.nilf, .int .i64 0]) none), n (.w (.store 2 (.t 5) (.t 12)))])
         (.seq (.ops [i 13 (.p (.faddr 0 (.t 5))), i 14 (.r (.load none (.t 13))), i 15 (.r (.load (some 2) (.t 2))), i 16 (.call (.val (.t 14)) [(.t 15)] false), i 6 (.p (.mov (.t 16)))])
          (.seq (.ops [i 17 (.p (.mov (.t 6))), i 18 (.p (.bin .neq (.t 17) (.c (.int .i64 (-1))))), i 19 (.p (.mov (.t 18))), ⟨some 20, some (19, true), .p (.mov (.t 0))⟩, ⟨some 21, some (19, true), .p (.mov (.t 6))⟩, ⟨some 22, some (19, true), .p (.faddr 1 (.t 5))⟩, ⟨some 23, some (19, true), .r (.load none (.t 22))⟩, ⟨some 24, some (19, true), .call (.val (.t 20)) [(.t 21), (.t 23)] false⟩, ⟨some 25, some (19, true), .p (.un .not (.t 24))⟩, i 26 (.p (.pick (.t 19) (.t 25) (.c (.bool false))))])
           (.cond (.t 26)
            .ret
            .skip)))))
       (.ops [i 27 (.p (.bin .add (.t 9) (.c (.int .i64 1)))), i 9 (.p (.mov (.t 27)))])))))))
def f65 : IFn := ⟨false, 28, [], b65⟩
def b66 : IC :=
  (.seq (.dops 0 [] [i 10 (.r (.load none (.t 1))), i 11 (.p (.nilc (.t 10))), i 12 (.p (.faddr 0 (.t 11))), i 13 (.p (.faddr 0 (.t 12))), i 14 (.r (.load none (.t 13))), i 15 (.p (.faddr 0 (.t 2))), i 16 (.r (.load none (.t 15))), i 17 (.p (.iaddr 3 (.t 14) (.t 16))), i 18 (.p (.faddr 0 (.t 17))), i 19 (.r (.load none (.t 18))), i 20 (.r (.len .sl (.t 19))), i 21 (.p (.mov (.c (.int .i64 0))))])
  (.block 0
   (.loop
    (.seq (.ops [i 22 (.p (.bin .lss (.t 21) (.t 20)))])
     (.seq (.cond (.t 22)
       .skip
       (.exit 0))
      (.seq (.block 1
        (.seq (.ops [i 23 (.p (.iaddr 1 (.t 19) (.t 21))), i 24 (.r (.load none (.t 23))), i 5 (.p (.mov (.t 24)))])
         (.seq (.ops [i 25 (.p (.mov (.t 5))), i 26 (.r (.len .sl (.t 25))), i 27 (.p (.mov (.c (.int .i64 0))))])
          (.block 2
           (.loop
            (.seq (.ops [i 28 (.p (.bin .lss (.t 27) (.t 26)))])
             (.seq (.cond (.t 28)
               .skip
               (.exit 2))
              (.seq (.block 3
                (.seq (.ops [i 29 (.p (.mov (.t 27))), i 30 (.p (.iaddr 3 (.t 25) (.t 27))), i 31 (.r (.load (some 3) (.t 30))), i 7 (.a (.alloc [.int .i64 0, .nils, .int .i64 0]) none), i 6 (.p (.mov (.t 29))), n (.w (.store 3 (.t 7) (.t 31)))])
                 (.seq (.dops 0 [] [i 32 (.r (.load none (.t 1))), i 33 (.p (.mov (.t 5))), i 34 (.p (.mov (.t 6))), i 35 (.p (.slice 3 (.t 33) none (some (.t 34)) none)), i 36 (.p (.faddr 1 (.t 2))), i 37 (.r (.load none (.t 36))), i 38 (.call (.dir 67) [(.t 32), (.t 35), (.t 37)] false), i 39 (.r (.len .sl (.t 38))), i 40 (.p (.mov (.c (.int .i64 0))))])
                  (.block 4
                   (.loop
                    (.seq (.ops [i 41 (.p (.bin .lss (.t 40) (.t 39)))])
                     (.seq (.cond (.t 41)
                       .skip
                       (.exit 4))
                      (.seq (.block 5
                        (.seq (.ops [i 42 (.p (.iaddr 1 (.t 38) (.t 40))), i 43 (.r (.load none (.t 42))), i 9 (.p (.mov (.t 43)))])
                         (.seq (.ops [i 44 (.p (.faddr 0 (.t 7))), i 45 (.r (.load none (.t 44))), i 46 (.p (.bin .neq (.t 45) (.c (.int .i64 2))))])
                          (.cond (.t 46)
                           (.dops 0 [(0, 13), (1, 13), (4, 13)] [i 47 (.r (.load none (.t 1))), i 48 (.r (.load none (.t 1))), i 49 (.p (.nilc (.t 48))), i 50 (.p (.faddr 5 (.t 49))), i 51 (.r (.load none (.t 50))), i 52 (.p (.mov (.t 9))), i 53 (.r (.load (some 3) (.t 7))), i 54 (.r (.load none (.t 1))), i 55 (.p (.nilc (.t 54))), i 56 (.p (.faddr 2 (.t 55))), i 57 (.r (.load none (.t 56))), i 58 (.p (.mov (.t 9))), i 59 (.call (.dir 68) [(.t 53), (.t 57), (.t 58)] false), i 60 (.p (.bin .add (.t 52) (.t 59))), i 61 (.p (.max (.t 51) [(.t 60)])), i 62 (.p (.nilc (.t 47))), i 63 (.p (.faddr 5 (.t 62))), n (.w (.store 1 (.t 63) (.t 61)))])
                           (.seq (.ops [i 64 (.p (.mov (.t 0))), i 65 (.p (.faddr 2 (.t 7))), i 66 (.r (.load none (.t 65))), i 67 (.p (.mov (.t 9))), i 68 (.p (.build [.int .i64 0, .int .i64 0] [(0, 1, (.t 66)), (1, 1, (.t 67))])), i 69 (.call (.val (.t 64)) [(.t 68)] false), i 70 (.p (.un .not (.t 69)))])
                            (.cond (.t 70)
                             .ret
                             .skip))))))
                       (.ops [i 71 (.p (.bin .add (.t 40) (.c (.int .i64 1)))), i 40 (.p (.mov (.t 71)))])))))))))
               (.ops [i 72 (.p (.bin .add (.t 27) (.c (.int .i64 1)))), i 27 (.p (.mov (.t 72)))])))))))))
       (.ops [i 73 (.p (.bin .add (.t 21) (.c (.int .i64 1)))), i 21 (.p (.mov (.t 73)))])))))))
def f66 : IFn := ⟨false, 74, [], b66⟩
def b67 : IC :=
  (.seq (.ops [i 6 (.p (.mov (.c .nils)))])
  (.seq (.ops [i 15 (.p (.mov (.t 2))), i 16 (.a (.bslice true [.int .i64 0] 1 [(0, (.t 15))]) none), i 7 (.p (.mov (.t 16)))])
   (.seq (.seq (.ops [i 17 (.p (.mov (.t 1))), i 18 (.r (.len .sl (.t 17))), i 19 (.p (.mov (.c (.int .i64 0))))])
     (.block 0
      (.loop
       (.seq (.ops [i 20 (.p (.bin .lss (.t 19) (.t 18)))])
        (.seq (.cond (.t 20)
          .skip
          (.exit 0))
         (.seq (.block 1
           (.seq (.ops [i 21 (.p (.iaddr 3 (.t 17) (.t 19))), i 22 (.r (.load (some 3) (.t 21))), i 9 (.a (.alloc [.int .i64 0, .nils, .int .i64 0]) none), n (.w (.store 3 (.t 9) (.t 22)))])
            (.seq (.ops [i 10 (.p (.mov (.c .nils)))])
             (.seq (.seq (.ops [i 23 (.p (.mov (.t 7))), i 24 (.r (.len .sl (.t 23))), i 25 (.p (.mov (.c (.int .i64 0))))])
               (.block 2
                (.loop
                 (.seq (.ops [i 26 (.p (.bin .lss (.t 25) (.t 24)))])
                  (.seq (.cond (.t 26)
                    .skip
                    (.exit 2))
                   (.seq (.block 3
                     (.seq (.ops [i 27 (.p (.iaddr 1 (.t 23) (.t 25))), i 28 (.r (.load none (.t 27))), i 12 (.p (.mov (.t 28)))])
                      (.seq (.ops [i 29 (.p (.faddr 0 (.t 9))), i 30 (.r (.load none (.t 29))), i 31 (.p (.bin .eql (.t 30) (.c (.int .i64 2))))])
                       (.cond (.t 31)
                        (.ops [i 32 (.p (.mov (.t 10))), i 33 (.p (.mov (.t 0))), i 34 (.p (.faddr 2 (.t 9))), i 35 (.r (.load none (.t 34))), i 36 (.p (.mov (.t 12))), i 37 (.p (.build [.int .i64 0, .int .i64 0] [(0, 1, (.t 35)), (1, 1, (.t 36))])), i 38 (.call (.dir 103) [(.t 33), (.t 37)] false), i 39 (.w (.append 1 8 (.t 32) (.t 38))), i 10 (.p (.mov (.t 39)))])
                        (.seq (.dops 0 [] [i 41 (.r (.load (some 3) (.t 9))), i 42 (.p (.mov (.t 0))), i 43 (.p (.nilc (.t 42))), i 44 (.p (.faddr 2 (.t 43))), i 45 (.r (.load none (.t 44))), i 46 (.p (.mov (.t 12))), i 47 (.call (.dir 104) [(.t 41), (.t 45), (.t 46)] false), i 40 (.p (.mov (.t 47))), i 48 (.p (.ext 0 (.t 40))), i 49 (.p (.ext 1 (.t 40))), i 13 (.p (.mov (.t 48))), i 14 (.p (.mov (.t 49)))])
                         (.seq (.ops [i 50 (.p (.mov (.t 14)))])
                          (.cond (.t 50)
                           (.ops [i 51 (.p (.mov (.t 10))), i 52 (.p (.mov (.t 12))), i 53 (.p (.mov (.t 13))), i 54 (.p (.bin .add (.t 52) (.t 53))), i 55 (.a (.bslice true [.int .i64 0] 1 [(0, (.t 54))]) none), i 56 (.w (.append 1 8 (.t 51) (.t 55))), i 10 (.p (.mov (.t 56)))])
                           .skip)))))))
                    (.ops [i 57 (.p (.bin .add (.t 25) (.c (.int .i64 1)))), i 25 (.p (.mov (.t 57)))])))))))
              (.seq (.ops [i 58 (.p (.mov (.t 10))), i 59 (.call (.dir 105) [(.t 58)] false)])
               (.ops [i 60 (.p (.mov (.t 10))), i 61 (.call (.dir 106) [(.t 60)] true), i 7 (.p (.mov (.t 61)))]))))))
          (.ops [i 62 (.p (.bin .add (.t 19) (.c (.int .i64 1)))), i 19 (.p (.mov (.t 62)))])))))))
    (.seq (.ops [i 63 (.p (.mov (.t 7))), i 6 (.p (.mov (.t 63)))])
     .ret))))
def f67 : IFn := ⟨false, 64, [.tm 6], b67⟩
def b68 : IC :=
  (.seq (.ops [i 3 (.a (.box 3 (.t 0)) none), i 6 (.p (.mov (.c (.int .i64 0))))])
  (.seq (.ops [i 7 (.p (.build [.nilf, .nilf, .nilf] [(0, 1, (.c (.fn 107 [] []))), (1, 1, (.c (.fn 108 [] []))), (2, 1, (.c (.fn 109 [] [])))])), i 8 (.r (.load (some 3) (.t 3))), i 9 (.p (.mov (.t 1))), i 10 (.p (.mov (.t 2))), i 11 (.call (.dir 110) [(.t 7), (.t 8), (.t 9), (.t 10)] false), i 6 (.p (.mov (.t 11)))])
   .ret))
def f68 : IFn := ⟨true, 12, [.tm 6], b68⟩
def b71 : IC :=
  (.seq (.ops [i 2 (.a (.alloc [.int .i64 0, .str [], .nils, .int .i64 0]) none), i 3 (.p (.mov (.c (.bool false))))])
  (.seq (.ops [i 5 (.p (.mov (.t 0))), i 6 (.p (.nilc (.t 5))), i 7 (.p (.faddr 1 (.t 6))), i 8 (.r (.load none (.t 7))), i 9 (.p (.bin .add (.t 8) (.c (.int .i64 1)))), i 10 (.p (.nilc (.t 5))), i 11 (.p (.faddr 1 (.t 10))), n (.w (.store 1 (.t 11) (.t 9)))])
   (.seq (.ops [i 12 (.p (.mov (.t 0))), i 13 (.call (.dir 80) [(.t 12)] false), i 4 (.p (.mov (.t 13)))])
    (.seq (.ops [i 14 (.p (.mov (.t 4))), i 15 (.p (.build [.int .i64 0, .str [], .nils, .int .i64 0] [(0, 1, (.c (.int .i64 5))), (1, 1, (.t 14))])), i 16 (.call (.dir 116) [] false), i 17 (.p (.mov (.t 4))), i 18 (.call (.dir 115) [(.t 16), (.t 17)] false), n (.w (.store 4 (.t 2) (.t 15))), i 3 (.p (.mov (.t 18)))])
     .ret))))
def f71 : IFn := ⟨false, 19, [.cell (some 4) 2, .tm 3], b71⟩
def b72 : IC :=
  (.seq (.ops [i 2 (.a (.alloc [.int .i64 0, .str [], .nils, .int .i64 0]) none), i 3 (.p (.mov (.c (.bool false))))])
  (.seq (.ops [i 8 (.p (.mov (.t 0))), i 9 (.p (.nilc (.t 8))), i 10 (.p (.faddr 1 (.t 9))), i 11 (.r (.load none (.t 10))), i 12 (.p (.bin .add (.t 11) (.c (.int .i64 1)))), i 13 (.p (.nilc (.t 8))), i 14 (.p (.faddr 1 (.t 13))), n (.w (.store 1 (.t 14) (.t 12)))])
   (.seq (.ops [i 4 (.p (.mov (.c .nils)))])
    (.seq (.block 0
      (.loop
       (.seq (.seq (.ops [i 15 (.p (.mov (.t 0))), i 16 (.call (.dir 117) [(.t 15), (.c (.int .u8 34))] false), i 17 (.p (.un .not (.t 16)))])
         (.cond (.t 17)
          .skip
          (.exit 0)))
        (.block 1
         (.seq (.seq (.dops 0 [] [i 18 (.p (.mov (.t 0))), i 19 (.p (.nilc (.t 18))), i 20 (.p (.faddr 1 (.t 19))), i 21 (.r (.load none (.t 20))), i 22 (.p (.mov (.t 0))), i 23 (.p (.nilc (.t 22))), i 24 (.p (.faddr 0 (.t 23))), i 25 (.r (.load none (.t 24))), i 26 (.r (.len .str (.t 25))), i 27 (.p (.bin .eql (.t 21) (.t 26)))])
           (.cond (.t 27)
            (.seq (.ops [i 28 (.p (.build [.int .i64 0, .str [], .nils, .int .i64 0] [])), n (.w (.store 4 (.t 2) (.t 28))), i 3 (.p (.mov (.c (.bool false))))])
             .ret)
            .skip))
          (.seq (.dops 0 [] [i 29 (.p (.mov (.t 0))), i 30 (.p (.nilc (.t 29))), i 31 (.p (.faddr 0 (.t 30))), i 32 (.r (.load none (.t 31))), i 33 (.p (.mov (.t 0))), i 34 (.p (.nilc (.t 33))), i 35 (.p (.faddr 1 (.t 34))), i 36 (.r (.load none (.t 35))), i 37 (.p (.idxS (.t 32) (.t 36))), i 5 (.p (.mov (.t 37)))])
           (.seq (.ops [i 38 (.p (.mov (.t 0))), i 39 (.p (.nilc (.t 38))), i 40 (.p (.faddr 1 (.t 39))), i 41 (.r (.load none (.t 40))), i 42 (.p (.bin .add (.t 41) (.c (.int .i64 1)))), i 43 (.p (.nilc (.t 38))), i 44 (.p (.faddr 1 (.t 43))), n (.w (.store 1 (.t 44) (.t 42)))])
            (.seq (.seq (.ops [i 45 (.p (.mov (.t 5))), i 46 (.p (.bin .eql (.t 45) (.c (.int .u8 92))))])
              (.cond (.t 46)
               (.seq (.seq (.ops [i 47 (.p (.mov (.t 0))), i 48 (.call (.dir 117) [(.t 47), (.c (.int .u8 120))] false), i 49 (.p (.un .not (.t 48)))])
                 (.cond (.t 49)
                  (.seq (.ops [i 50 (.p (.build [.int .i64 0, .str [], .nils, .int .i64 0] [])), n (.w (.store 4 (.t 2) (.t 50))), i 3 (.p (.mov (.c (.bool false))))])
                   .ret)
                  .skip))
                (.seq (.ops [i 52 (.p (.mov (.t 0))), i 53 (.call (.dir 118) [(.t 52)] false), i 51 (.p (.mov (.t 53))), i 54 (.p (.ext 0 (.t 51))), i 55 (.p (.ext 1 (.t 51))), i 6 (.p (.mov (.t 54))), i 7 (.p (.mov (.t 55)))])
                 (.seq (.seq (.ops [i 56 (.p (.mov (.t 7))), i 57 (.p (.un .not (.t 56)))])
                   (.cond (.t 57)
                    (.seq (.ops [i 58 (.p (.build [.int .i64 0, .str [], .nils, .int .i64 0] [])), n (.w (.store 4 (.t 2) (.t 58))), i 3 (.p (.mov (.c (.bool false))))])
                     .ret)
                    .skip))
                  (.seq (.ops [i 59 (.p (.mov (.t 4))), i 60 (.p (.mov (.t 6))), i 61 (.p (.ci .u8 (.t 60))), i 62 (.a (.bslice true [.int .u8 0] 1 [(0, (.t 61))]) none), i 63 (.w (.append 1 1 (.t 59) (.t 62))), i 4 (.p (.mov (.t 63)))])
                   (.exit 1)))))
               .skip))
             (.seq (.seq (.ops [i 64 (.p (.mov (.t 5))), i 65 (.p (.bin .lss (.t 64) (.c (.int .u8 32)))), i 66 (.p (.mov (.t 65))), ⟨some 67, some (66, false), .p (.mov (.t 5))⟩, ⟨some 68, some (66, false), .p (.bin .gtr (.t 67) (.c (.int .u8 126)))⟩, i 69 (.p (.pick (.t 66) (.c (.bool true)) (.t 68)))])
               (.cond (.t 69)
                (.seq (.ops [i 70 (.p (.build [.int .i64 0, .str [], .nils, .int .i64 0] [])), n (.w (.store 4 (.t 2) (.t 70))), i 3 (.p (.mov (.c (.bool false))))])
                 .ret)
                .skip))
              (.ops [i 71 (.p (.mov (.t 4))), i 72 (.p (.mov (.t 5))), i 73 (.a (.bslice true [.int .u8 0] 1 [(0, (.t 72))]) none), i 74 (.w (.append 1 1 (.t 71) (.t 73))), i 4 (.p (.mov (.t 74)))]))))))))))
     (.seq (.ops [i 75 (.p (.mov (.t 4))), i 76 (.r (.b2s (.t 75))), i 77 (.p (.build [.int .i64 0, .str [], .nils, .int .i64 0] [(0, 1, (.c (.int .i64 1))), (1, 1, (.t 76))])), i 78 (.p (.mov (.t 4))), i 79 (.r (.len .sl (.t 78))), i 80 (.p (.bin .gtr (.t 79) (.c (.int .i64 0)))), n (.w (.store 4 (.t 2) (.t 77))), i 3 (.p (.mov (.t 80)))])
      .ret)))))
def f72 : IFn := ⟨false, 81, [.cell (some 4) 2, .tm 3], b72⟩
def b73 : IC :=
  (.seq (.ops [i 2 (.a (.alloc [.int .i64 0, .str [], .nils, .int .i64 0]) none), i 3 (.p (.mov (.c (.bool false))))])
  (.seq (.ops [i 7 (.p (.mov (.t 0))), i 8 (.p (.nilc (.t 7))), i 9 (.p (.faddr 1 (.t 8))), i 10 (.r (.load none (.t 9))), i 11 (.p (.bin .add (.t 10) (.c (.int .i64 1)))), i 12 (.p (.nilc (.t 7))), i 13 (.p (.faddr 1 (.t 12))), n (.w (.store 1 (.t 13) (.t 11)))])
   (.seq (.ops [i 14 (.p (.mov (.t 0))), i 15 (.call (.dir 117) [(.t 14), (.c (.int .u8 94))] false), i 4 (.p (.mov (.t 15)))])
    (.seq (.ops [i 17 (.p (.mov (.t 0))), i 18 (.call (.dir 119) [(.t 17), (.c (.int .u8 93)), (.c (.fn 120 [] []))] false), i 16 (.p (.mov (.t 18))), i 19 (.p (.ext 0 (.t 16))), i 20 (.p (.ext 1 (.t 16))), i 5 (.p (.mov (.t 19))), i 6 (.p (.mov (.t 20)))])
     (.seq (.seq (.ops [i 21 (.p (.mov (.t 4)))])
       (.cond (.t 21)
        (.ops [i 22 (.p (.mov (.t 5))), i 23 (.call (.dir 121) [(.t 22), (.c (.int .i64 1114111))] false), i 5 (.p (.mov (.t 23)))])
        .skip))
      (.seq (.ops [i 24 (.p (.mov (.t 5))), i 25 (.p (.build [.int .i64 0, .int .i64 0] [(0, 1, (.c (.int .i64 55296))), (1, 1, (.c (.int .i64 57343)))])), i 26 (.a (.bslice true [.int .i64 0, .int .i64 0] 1 [(0, (.t 25))]) none), i 27 (.call (.dir 122) [(.t 24), (.t 26)] false), i 28 (.p (.build [.int .i64 0, .str [], .nils, .int .i64 0] [(0, 1, (.c (.int .i64 2))), (2, 1, (.t 27))])), i 29 (.p (.mov (.t 6))), n (.w (.store 4 (.t 2) (.t 28))), i 3 (.p (.mov (.t 29)))])
       .ret))))))
def f73 : IFn := ⟨false, 30, [.cell (some 4) 2, .tm 3], b73⟩
def b74 : IC :=
  (.seq (.ops [i 2 (.a (.alloc [.int .i64 0, .str [], .nils, .int .i64 0]) none), i 3 (.p (.mov (.c (.bool false))))])
  (.seq (.ops [i 6 (.p (.mov (.t 0))), i 7 (.p (.nilc (.t 6))), i 8 (.p (.faddr 1 (.t 7))), i 9 (.r (.load none (.t 8))), i 10 (.p (.bin .add (.t 9) (.c (.int .i64 1)))), i 11 (.p (.nilc (.t 6))), i 12 (.p (.faddr 1 (.t 11))), n (.w (.store 1 (.t 12) (.t 10)))])
   (.seq (.ops [i 14 (.p (.mov (.t 0))), i 15 (.call (.dir 119) [(.t 14), (.c (.int .u8 62)), (.c (.fn 118 [] []))] false), i 13 (.p (.mov (.t 15))), i 16 (.p (.ext 0 (.t 13))), i 17 (.p (.ext 1 (.t 13))), i 4 (.p (.mov (.t 16))), i 5 (.p (.mov (.t 17)))])
    (.seq (.ops [i 18 (.p (.mov (.t 4))), i 19 (.p (.build [.int .i64 0, .str [], .nils, .int .i64 0] [(0, 1, (.c (.int .i64 3))), (2, 1, (.t 18))])), i 20 (.p (.mov (.t 5))), n (.w (.store 4 (.t 2) (.t 19))), i 3 (.p (.mov (.t 20)))])
     .ret))))
def f74 : IFn := ⟨false, 21, [.cell (some 4) 2, .tm 3], b74⟩
def b75 : IC :=
  (.seq (.ops [i 2 (.a (.alloc [.int .i64 0, .str [], .nils, .int .i64 0]) none), i 3 (.p (.mov (.c (.bool false))))])
  (.seq (.ops [i 4 (.p (.mov (.t 0))), i 5 (.p (.nilc (.t 4))), i 6 (.p (.faddr 1 (.t 5))), i 7 (.r (.load none (.t 6))), i 8 (.p (.bin .add (.t 7) (.c (.int .i64 1)))), i 9 (.p (.nilc (.t 4))), i 10 (.p (.faddr 1 (.t 9))), n (.w (.store 1 (.t 10) (.t 8)))])
   (.seq (.dops 0 [] [i 11 (.p (.mov (.t 0))), i 12 (.p (.nilc (.t 11))), i 13 (.p (.faddr 0 (.t 12))), i 14 (.r (.load none (.t 13))), i 15 (.p (.mov (.t 0))), i 16 (.p (.nilc (.t 15))), i 17 (.p (.faddr 1 (.t 16))), i 18 (.r (.load none (.t 17))), i 19 (.p (.bin .sub (.t 18) (.c (.int .i64 1)))), i 20 (.p (.mov (.t 0))), i 21 (.p (.nilc (.t 20))), i 22 (.p (.faddr 1 (.t 21))), i 23 (.r (.load none (.t 22))), i 24 (.p (.sliceS (.t 14) (some (.t 19)) (some (.t 23)))), i 25 (.p (.build [.int .i64 0, .str [], .nils, .int .i64 0] [(0, 1, (.c (.int .i64 4))), (1, 1, (.t 24))])), n (.w (.store 4 (.t 2) (.t 25))), i 3 (.p (.mov (.c (.bool true))))])
    .ret)))
def f75 : IFn := ⟨false, 26, [.cell (some 4) 2, .tm 3], b75⟩
def b76 : IC :=
  (.seq (.ops [i 4 (.p (.mov (.c (.str []))))])
  (.seq (.block 0
    (.loop
     (.seq (.seq (.ops [i 5 (.p (.mov (.t 0))), i 6 (.r (.len .str (.t 5))), i 7 (.p (.bin .gtr (.t 6) (.c (.int .i64 0)))), i 8 (.p (.mov (.t 7))), ⟨some 9, some (8, true), .p (.mov (.t 0))⟩, ⟨some 10, some (8, true), .p (.idxS (.t 9) (.c (.int .i64 0)))⟩, ⟨some 11, some (8, true), .p (.mov (.t 1))⟩, ⟨some 12, some (8, true), .p (.bin .eql (.t 10) (.t 11))⟩, i 13 (.p (.pick (.t 8) (.t 12) (.c (.bool false))))])
       (.cond (.t 13)
        .skip
        (.exit 0)))
      (.block 1
       (.ops [i 14 (.p (.mov (.t 0))), i 15 (.p (.sliceS (.t 14) (some (.c (.int .i64 1))) none)), i 0 (.p (.mov (.t 15)))])))))
   (.seq (.ops [i 16 (.p (.mov (.t 0))), i 4 (.p (.mov (.t 16)))])
    .ret)))
def f76 : IFn := ⟨false, 17, [.tm 4], b76⟩
def b77 : IC :=
  (.seq (.ops [i 2 (.a (.alloc [.bool false, .bool false, .bool false, .bool false, .bool false, .bool false, .bool false, .bool false, .bool false, .bool false, .bool false, .bool false, .bool false, .bool false, .bool false, .bool false, .bool false, .bool false, .bool false, .bool false, .bool false, .bool false, .bool false, .bool false, .bool false, .bool false, .bool false, .bool false, .bool false, .bool false, .bool false, .bool false, .bool false, .bool false, .bool false, .bool false, .bool false, .bool false, .bool false, .bool false, .bool false, .bool false, .bool false, .bool false, .bool false, .bool false, .bool false, .bool false, .bool false, .bool false, .bool false, .bool false, .bool false, .bool false, .bool false, .bool false, .bool false, .bool false, .bool false, .bool false, .bool false, .bool false, .bool false, .bool false, .bool false, .bool false, .bool false, .bool false, .bool false, .bool false, .bool false, .bool false, .bool false, .bool false, .bool false, .bool false, .bool false, .bool false, .bool false, .bool false, .bool false, .bool false, .bool false, .bool false, .bool false, .bool false, .bool false, .bool false, .bool false, .bool false, .bool false, .bool false, .bool false, .bool false, .bool false, .bool false, .bool false, .bool false, .bool false, .bool false, .bool false, .bool false, .bool false, .bool false, .bool false, .bool false, .bool false, .bool false, .bool false, .bool false, .bool false, .bool false, .bool false, .bool false, .bool false, .bool false, .bool false, .bool false, .bool false, .bool false, .bool false, .bool false, .bool false, .bool false, .bool false, .bool false, .bool false, .bool false, .bool false, .bool false, .bool false, .bool false, .bool false, .bool false, .bool false, .bool false, .bool false, .bool false, .bool false, .bool false, .bool false, .bool false, .bool false, .bool false, .bool false, .bool false, .bool false, .bool false, .bool false, .bool false, .bool false, .bool false, .bool false, .bool false, .bool false, .bool false, .bool false, .bool false, .bool false, .bool false, .bool false, .bool false, .bool false, .bool false, .bool false, .bool false, .bool false, .bool false, .bool false, .bool false, .bool false, .bool false, .bool false, .bool false, .bool false, .bool false, .bool false, .bool false, .bool false, .bool false, .bool false, .bool false, .bool false, .bool false, .bool false, .bool false, .bool false, .bool false, .bool false, .bool false, .bool false, .bool false, .bool false, .bool false, .bool false, .bool false, .bool false, .bool false, .bool false, .bool false, .bool false, .bool false, .bool false, .bool false, .bool false, .bool false, .bool false, .bool false, .bool false, .bool false, .bool false, .bool false, .bool false, .bool false, .bool false, .bool false, .bool false, .bool false, .bool false, .bool false, .bool false, .bool false, .bool false, .bool false, .bool false, .bool false, .bool false, .bool false, .bool false, .bool false, .bool false, .bool false, .bool false, .bool false, .bool false, .bool false, .bool false, .bool false, .bool false, .bool false, .bool false, .bool false, .bool false, .bool false, .bool false, .bool false, .bool false, .bool false, .bool false, .bool false, .bool false, .bool false, .bool false, .bool false, .bool false, .bool false]) none), i 3 (.p (.mov (.c (.bool false))))])
  (.seq (.seq (.ops [i 4 (.p (.mov (.c (.int .i64 0))))])
    (.block 0
     (.loop
      (.seq (.seq (.ops [i 6 (.p (.mov (.t 4))), i 7 (.p (.mov (.t 0))), i 8 (.r (.len .str (.t 7))), i 9 (.p (.bin .lss (.t 6) (.t 8)))])
        (.cond (.t 9)
         .skip
         (.exit 0)))
       (.seq (.block 1
         (.seq (.ops [i 12 (.p (.mov (.t 0))), i 13 (.p (.mov (.t 4))), i 14 (.p (.idxS (.t 12) (.t 13))), i 5 (.p (.mov (.t 14)))])
          (.seq (.seq (.ops [i 15 (.p (.mov (.t 5))), i 16 (.p (.bin .geq (.t 15) (.c (.int .u8 128))))])
            (.cond (.t 16)
             (.seq (.ops [i 17 (.r (.load (some 256) (.t 2))), n (.w (.store 256 (.t 2) (.t 17))), i 3 (.p (.mov (.c (.bool false))))])
              .ret)
             .skip))
           (.ops [i 18 (.p (.mov (.t 5))), i 19 (.p (.iaddrA 256 1 (.t 2) (.t 18))), n (.w (.store 1 (.t 19) (.c (.bool true))))]))))
        (.ops [i 10 (.p (.mov (.t 4))), i 11 (.p (.bin .add (.t 10) (.c (.int .i64 1)))), i 4 (.p (.mov (.t 11)))]))))))
   (.seq (.ops [i 20 (.r (.load (some 256) (.t 2))), n (.w (.store 256 (.t 2) (.t 20))), i 3 (.p (.mov (.c (.bool true))))])
    .ret)))
def f77 : IFn := ⟨false, 21, [.cell (some 256) 2, .tm 3], b77⟩
def b78 : IC :=
  (.seq (.ops [i 4 (.p (.mov (.c (.str []))))])
  (.seq (.block 0
    (.loop
     (.seq (.seq (.ops [i 5 (.p (.mov (.t 0))), i 6 (.r (.len .str (.t 5))), i 7 (.p (.bin .gtr (.t 6) (.c (.int .i64 0))))])
       (.cond (.t 7)
        .skip
        (.exit 0)))
      (.block 1
       (.seq (.seq (.ops [i 8 (.p (.mov (.t 1))), i 9 (.p (.mov (.t 0))), i 10 (.p (.idxS (.t 9) (.c (.int .i64 0)))), i 11 (.call (.dir 123) [(.t 8), (.t 10)] false), i 12 (.p (.un .not (.t 11)))])
         (.cond (.t 12)
          (.exit 0)
          .skip))
        (.ops [i 13 (.p (.mov (.t 0))), i 14 (.p (.sliceS (.t 13) (some (.c (.int .i64 1))) none)), i 0 (.p (.mov (.t 14)))]))))))
   (.seq (.ops [i 15 (.p (.mov (.t 0))), i 4 (.p (.mov (.t 15)))])
    .ret)))
def f78 : IFn := ⟨false, 16, [.tm 4], b78⟩
def b79 : IC :=
  (.seq (.ops [i 4 (.p (.mov (.c (.str []))))])
  (.seq (.block 0
    (.loop
     (.seq (.seq (.ops [i 7 (.p (.mov (.t 0))), i 8 (.r (.len .str (.t 7))), i 9 (.p (.bin .gtr (.t 8) (.c (.int .i64 0))))])
       (.cond (.t 9)
        .skip
        (.exit 0)))
      (.block 1
       (.seq (.ops [i 11 (.p (.mov (.t 0))), i 12 (.call (.dir 124) [(.t 11)] false), i 10 (.p (.mov (.t 12))), i 13 (.p (.ext 0 (.t 10))), i 14 (.p (.ext 1 (.t 10))), i 5 (.p (.mov (.t 13))), i 6 (.p (.mov (.t 14)))])
        (.seq (.seq (.ops [i 15 (.p (.mov (.t 1))), i 16 (.p (.mov (.t 5))), i 17 (.call (.dir 125) [(.t 15), (.t 16)] false), i 18 (.p (.un .not (.t 17)))])
          (.cond (.t 18)
           (.exit 0)
           .skip))
         (.ops [i 19 (.p (.mov (.t 0))), i 20 (.p (.mov (.t 6))), i 21 (.p (.sliceS (.t 19) (some (.t 20)) none)), i 0 (.p (.mov (.t 21)))])))))))
   (.seq (.ops [i 22 (.p (.mov (.t 0))), i 4 (.p (.mov (.t 22)))])
    .ret)))
def f79 : IFn := ⟨false, 23, [.tm 4], b79⟩
def b80 : IC :=
  (.seq (.ops [i 2 (.p (.mov (.c (.str []))))])
  (.seq (.dops 0 [] [i 7 (.p (.mov (.t 0))), i 8 (.p (.nilc (.t 7))), i 9 (.p (.faddr 0 (.t 8))), i 10 (.r (.load none (.t 9))), i 11 (.p (.mov (.t 0))), i 12 (.p (.nilc (.t 11))), i 13 (.p (.faddr 1 (.t 12))), i 14 (.r (.load none (.t 13))), i 15 (.p (.sliceS (.t 10) (some (.t 14)) none)), i 3 (.p (.mov (.t 15)))])
   (.seq (.ops [i 16 (.p (.mov (.t 3))), i 17 (.r (.len .str (.t 16))), i 4 (.p (.mov (.t 17)))])
    (.seq (.seq (.ops [i 18 (.p (.mov (.t 3))), i 19 (.a (.rngS (.t 18)) none)])
      (.block 0
       (.loop
        (.seq (.ops [i 20 (.w (.nxtS (.t 19))), i 21 (.p (.ext 0 (.t 20)))])
         (.seq (.cond (.t 21)
           .skip
           (.exit 0))
          (.block 1
           (.seq (.ops [i 22 (.p (.ext 1 (.t 20))), i 23 (.p (.ext 2 (.t 20))), i 5 (.p (.mov (.t 22))), i 6 (.p (.mov (.t 23)))])
            (.seq (.ops [i 24 (.p (.mov (.t 6))), i 25 (.p (.mov (.t 5))), i 26 (.p (.bin .gtr (.t 25) (.c (.int .i64 0)))), i 27 (.call (.dir 126) [(.t 24), (.t 26)] false), i 28 (.p (.un .not (.t 27)))])
             (.cond (.t 28)
              (.seq (.ops [i 29 (.p (.mov (.t 5))), i 4 (.p (.mov (.t 29)))])
               (.exit 0))
              .skip)))))))))
     (.seq (.ops [i 30 (.p (.mov (.t 0))), i 31 (.p (.nilc (.t 30))), i 32 (.p (.faddr 1 (.t 31))), i 33 (.r (.load none (.t 32))), i 34 (.p (.mov (.t 4))), i 35 (.p (.bin .add (.t 33) (.t 34))), i 36 (.p (.nilc (.t 30))), i 37 (.p (.faddr 1 (.t 36))), n (.w (.store 1 (.t 37) (.t 35)))])
      (.seq (.ops [i 38 (.p (.mov (.t 3))), i 39 (.p (.mov (.t 4))), i 40 (.p (.sliceS (.t 38) none (some (.t 39)))), i 2 (.p (.mov (.t 40)))])
       .ret))))))
def f80 : IFn := ⟨false, 41, [.tm 2], b80⟩
def b81 : IC :=
  (.seq (.ops [i 2 (.p (.mov (.c (.int .i64 0))))])
  (.seq (.seq (.ops [i 3 (.p (.mov (.t 0))), i 4 (.p (.nilc (.t 3))), i 5 (.p (.faddr 0 (.t 4))), i 6 (.r (.load none (.t 5))), i 7 (.r (.len .sl (.t 6))), i 8 (.p (.bin .gtr (.t 7) (.c (.int .i64 0))))])
    (.cond (.t 8)
     (.seq (.ops [i 9 (.p (.mov (.t 0))), i 10 (.p (.nilc (.t 9))), i 11 (.p (.faddr 0 (.t 10))), i 12 (.r (.load none (.t 11))), i 13 (.p (.iaddr 4 (.t 12) (.c (.int .i64 0)))), i 14 (.p (.faddr 3 (.t 13))), i 15 (.r (.load none (.t 14))), i 2 (.p (.mov (.t 15)))])
      .ret)
     .skip))
   (.seq (.ops [i 16 (.p (.mov (.t 0))), i 17 (.p (.nilc (.t 16))), i 18 (.p (.faddr 1 (.t 17))), i 19 (.r (.load none (.t 18))), i 2 (.p (.mov (.t 19)))])
    .ret)))
def f81 : IFn := ⟨false, 20, [.tm 2], b81⟩
def b82 : IC :=
  (.seq (.ops [i 2 (.a (.alloc [.int .i64 0, .str [], .nils, .nils, .int .i64 0]) none)])
  (.seq (.ops [i 7 (.p (.mov (.t 0))), i 8 (.call (.dir 81) [(.t 7)] false), i 3 (.p (.mov (.t 8)))])
   (.seq (.ops [i 4 (.p (.mov (.c .nils)))])
    (.block 0
     (.loop
      (.block 1
       (.seq (.ops [i 10 (.p (.mov (.t 0))), i 11 (.call (.dir 127) [(.t 10)] false), i 9 (.p (.mov (.t 11))), i 12 (.p (.ext 0 (.t 9))), i 13 (.p (.ext 1 (.t 9))), i 5 (.a (.alloc [.int .i64 0, .str [], .nils, .nils, .int .i64 0]) none), n (.w (.store 5 (.t 5) (.t 12))), i 6 (.p (.mov (.t 13)))])
        (.seq (.seq (.ops [i 14 (.p (.mov (.t 6))), i 15 (.p (.un .not (.t 14)))])
          (.cond (.t 15)
           (.seq (.ops [i 16 (.p (.mov (.t 3))), i 17 (.p (.mov (.t 4))), i 18 (.call (.dir 83) [(.c (.int .i64 4)), (.t 16), (.t 17)] false), n (.w (.store 5 (.t 2) (.t 18)))])
            .ret)
           .skip))
         (.ops [i 19 (.p (.mov (.t 4))), i 20 (.p (.mov (.t 0))), i 21 (.r (.load (some 5) (.t 5))), i 22 (.call (.dir 128) [(.t 20), (.t 21)] false), i 23 (.a (.bslice true [.int .i64 0, .str [], .nils, .nils, .int .i64 0] 1 [(0, (.t 22))]) none), i 24 (.w (.append 5 80 (.t 19) (.t 23))), i 4 (.p (.mov (.t 24)))])))))))))
def f82 : IFn := ⟨false, 25, [.cell (some 5) 2], b82⟩
def b83 : IC :=
  (.seq (.ops [i 6 (.a (.alloc [.int .i64 0, .str [], .nils, .nils, .int .i64 0]) none)])
  (.seq (.seq (.ops [i 7 (.p (.mov (.t 2))), i 8 (.r (.len .sl (.t 7))), i 9 (.p (.bin .eql (.t 8) (.c (.int .i64 1))))])
    (.cond (.t 9)
     (.seq (.ops [i 10 (.p (.mov (.t 2))), i 11 (.p (.iaddr 5 (.t 10) (.c (.int .i64 0)))), i 12 (.r (.load (some 5) (.t 11))), n (.w (.store 5 (.t 6) (.t 12)))])
      .ret)
     .skip))
   (.seq (.ops [i 13 (.p (.mov (.t 0))), i 14 (.p (.mov (.t 2))), i 15 (.p (.mov (.t 1))), i 16 (.p (.build [.int .i64 0, .str [], .nils, .nils, .int .i64 0] [(0, 1, (.t 13)), (3, 1, (.t 14)), (4, 1, (.t 15))])), n (.w (.store 5 (.t 6) (.t 16)))])
    .ret)))
def f83 : IFn := ⟨false, 17, [.cell (some 5) 6], b83⟩
def b84 : IC :=
  (.seq (.ops [i 4 (.p (.mov (.c .nils)))])
  (.seq (.seq (.ops [i 5 (.r (.load none (.t 1))), i 6 (.p (.nilc (.t 5))), i 7 (.p (.faddr 2 (.t 6))), i 8 (.r (.load none (.t 7))), i 9 (.p (.eqo true .ptr (.t 8) (.c .nilp))), i 10 (.p (.mov (.t 9))), ⟨some 11, some (10, false), .p (.mov (.t 0))⟩, ⟨some 12, some (10, false), .p (.faddr 3 (.t 2))⟩, ⟨some 13, some (10, false), .r (.load none (.t 12))⟩, ⟨some 14, some (10, false), .r (.len .sl (.t 13))⟩, ⟨some 15, some (10, false), .p (.bin .geq (.t 11) (.t 14))⟩, i 16 (.p (.pick (.t 10) (.c (.bool true)) (.t 15)))])
    (.cond (.t 16)
     (.seq (.ops [i 4 (.p (.mov (.c .nils)))])
      .ret)
     .skip))
   (.seq (.dops 0 [] [i 17 (.r (.load none (.t 1))), i 18 (.p (.faddr 3 (.t 2))), i 19 (.r (.load none (.t 18))), i 20 (.p (.mov (.t 0))), i 21 (.p (.iaddr 5 (.t 19) (.t 20))), i 22 (.r (.load (some 5) (.t 21))), i 23 (.call (.dir 85) [(.t 17), (.c .nils), (.t 22)] false), i 4 (.p (.mov (.t 23)))])
    .ret)))
def f84 : IFn := ⟨false, 24, [.tm 4], b84⟩
def b85 : IC :=
  (.seq (.ops [i 5 (.a (.box 5 (.t 2)) none), i 6 (.p (.mov (.c .nils)))])
  (.seq (.ops [i 16 (.p (.mov (.t 0))), i 17 (.p (.mkf 85 [(.t 16)] [])), i 7 (.p (.mov (.t 17)))])
   (.seq (.seq (.ops [i 18 (.p (.faddr 0 (.t 5))), i 19 (.r (.load none (.t 18)))])
     (.block 0
      (.seq (.ops [i 21 (.p (.bin .eql (.t 19) (.c (.int .i64 0)))), i 20 (.p (.mov (.t 21)))])
       (.cond (.t 20)
        (.seq (.dops 0 [] [i 23 (.p (.mov (.t 0))), i 24 (.p (.nilc (.t 23))), i 25 (.p (.faddr 0 (.t 24))), i 26 (.r (.load none (.t 25))), i 27 (.p (.faddr 1 (.t 5))), i 28 (.r (.load none (.t 27))), i 29 (.r (.lookup (.one .str) (.int .i64 0) true (.t 26) (.t 28))), i 22 (.p (.mov (.t 29))), i 30 (.p (.ext 0 (.t 22))), i 31 (.p (.ext 1 (.t 22))), i 8 (.p (.mov (.t 30))), i 9 (.p (.mov (.t 31)))])
         (.seq (.seq (.ops [i 32 (.p (.mov (.t 0))), i 33 (.p (.mov (.t 9))), i 34 (.p (.un .not (.t 33))), i 35 (.p (.faddr 4 (.t 5))), i 36 (.r (.load none (.t 35))), i 37 (.call (.dir 88) [(.t 32), (.t 34), (.c (.int .i64 5)), (.t 36)] false)])
           (.cond (.t 37)
            (.seq (.ops [i 38 (.p (.mov (.t 1))), i 6 (.p (.mov (.t 38)))])
             .ret)
            .skip))
          (.seq (.ops [i 39 (.p (.mov (.t 1))), i 40 (.p (.mov (.t 8))), i 41 (.p (.build [.int .i64 0, .nils, .int .i64 0] [(0, 1, (.c (.int .i64 2))), (2, 1, (.t 40))])), i 42 (.a (.bslice true [.int .i64 0, .nils, .int .i64 0] 1 [(0, (.t 41))]) none), i 43 (.w (.append 3 40 (.t 39) (.t 42))), i 6 (.p (.mov (.t 43)))])
           .ret)))
        (.seq (.ops [i 45 (.p (.bin .eql (.t 19) (.c (.int .i64 1)))), i 44 (.p (.mov (.t 45)))])
         (.cond (.t 44)
          (.seq (.seq (.ops [i 46 (.p (.faddr 1 (.t 5))), i 47 (.r (.load none (.t 46))), i 48 (.r (.len .str (.t 47))), i 49 (.p (.mov (.c (.int .i64 0))))])
            (.block 1
             (.loop
              (.seq (.ops [i 50 (.p (.bin .lss (.t 49) (.t 48)))])
               (.seq (.cond (.t 50)
                 .skip
                 (.exit 1))
                (.seq (.block 2
                  (.seq (.ops [i 51 (.p (.mov (.t 49))), i 10 (.p (.mov (.t 51)))])
                   (.seq (.ops [i 52 (.p (.faddr 1 (.t 5))), i 53 (.r (.load none (.t 52))), i 54 (.p (.mov (.t 10))), i 55 (.p (.idxS (.t 53) (.t 54))), i 56 (.p (.ci .i64 (.t 55))), i 11 (.p (.mov (.t 56)))])
                    (.ops [i 57 (.p (.mov (.t 1))), i 58 (.p (.mov (.t 11))), i 59 (.p (.mov (.t 11))), i 60 (.p (.build [.int .i64 0, .int .i64 0] [(0, 1, (.t 58)), (1, 1, (.t 59))])), i 61 (.a (.bslice true [.int .i64 0, .int .i64 0] 1 [(0, (.t 60))]) none), i 62 (.call (.dir 129) [(.c (.int .i64 0)), (.t 61)] false), i 63 (.a (.bslice true [.int .i64 0, .nils, .int .i64 0] 1 [(0, (.t 62))]) none), i 64 (.w (.append 3 40 (.t 57) (.t 63))), i 1 (.p (.mov (.t 64)))]))))
                 (.ops [i 65 (.p (.bin .add (.t 49) (.c (.int .i64 1)))), i 49 (.p (.mov (.t 65)))])))))))
           (.seq (.ops [i 66 (.p (.mov (.t 1))), i 6 (.p (.mov (.t 66)))])
            .ret))
          (.seq (.ops [i 68 (.p (.bin .eql (.t 19) (.c (.int .i64 2)))), i 67 (.p (.mov (.t 68)))])
           (.cond (.t 67)
            (.seq (.ops [i 69 (.p (.mov (.t 1))), i 70 (.p (.faddr 2 (.t 5))), i 71 (.r (.load none (.t 70))), i 72 (.call (.dir 129) [(.c (.int .i64 1)), (.t 71)] false), i 73 (.a (.bslice true [.int .i64 0, .nils, .int .i64 0] 1 [(0, (.t 72))]) none), i 74 (.w (.append 3 40 (.t 69) (.t 73))), i 6 (.p (.mov (.t 74)))])
             .ret)
            (.seq (.ops [i 76 (.p (.bin .eql (.t 19) (.c (.int .i64 3)))), i 75 (.p (.mov (.t 76)))])
             (.cond (.t 75)
              (.seq (.ops [i 77 (.p (.mov (.t 1))), i 78 (.p (.faddr 2 (.t 5))), i 79 (.r (.load none (.t 78))), i 80 (.call (.dir 129) [(.c (.int .i64 0)), (.t 79)] false), i 81 (.a (.bslice true [.int .i64 0, .nils, .int .i64 0] 1 [(0, (.t 80))]) none), i 82 (.w (.append 3 40 (.t 77) (.t 81))), i 6 (.p (.mov (.t 82)))])
               .ret)
              (.seq (.ops [i 84 (.p (.bin .eql (.t 19) (.c (.int .i64 4)))), i 83 (.p (.mov (.t 84)))])
               (.cond (.t 83)
                (.seq (.seq (.ops [i 85 (.p (.faddr 3 (.t 5))), i 86 (.r (.load none (.t 85))), i 87 (.r (.len .sl (.t 86))), i 88 (.p (.mov (.c (.int .i64 0))))])
                  (.block 3
                   (.loop
                    (.seq (.ops [i 89 (.p (.bin .lss (.t 88) (.t 87)))])
                     (.seq (.cond (.t 89)
                       .skip
                       (.exit 3))
                      (.seq (.block 4
                        (.seq (.ops [i 90 (.p (.iaddr 5 (.t 86) (.t 88))), i 91 (.r (.load (some 5) (.t 90))), i 13 (.a (.alloc [.int .i64 0, .str [], .nils, .nils, .int .i64 0]) none), n (.w (.store 5 (.t 13) (.t 91)))])
                         (.seq (.ops [i 92 (.p (.mov (.t 0))), i 93 (.p (.nilc (.t 92))), i 94 (.p (.faddr 2 (.t 93))), i 95 (.r (.load none (.t 94))), i 96 (.p (.eqo false .ptr (.t 95) (.c .nilp)))])
                          (.cond (.t 96)
                           (.ops [i 97 (.p (.mov (.t 7))), i 98 (.p (.mov (.t 1))), i 99 (.r (.load (some 5) (.t 13))), i 100 (.call (.val (.t 97)) [(.t 98), (.t 99)] false), i 1 (.p (.mov (.t 100)))])
                           .skip))))
                       (.ops [i 101 (.p (.bin .add (.t 88) (.c (.int .i64 1)))), i 88 (.p (.mov (.t 101)))])))))))
                 (.seq (.ops [i 102 (.p (.mov (.t 1))), i 6 (.p (.mov (.t 102)))])
                  .ret))
                .skip))))))))))))
    (.seq (.ops [i 103 (.p (.faddr 0 (.t 5))), i 104 (.r (.load none (.t 103))), i 105 (.p (.bin .lss (.t 104) (.c (.int .i64 0)))), i 106 (.p (.mov (.t 105))), ⟨some 107, some (106, false), .p (.faddr 0 (.t 5))⟩, ⟨some 108, some (106, false), .r (.load none (.t 107))⟩, ⟨some 109, some (106, false), .p (.bin .gtr (.t 108) (.c (.int .i64 8)))⟩, i 110 (.p (.pick (.t 106) (.c (.bool true)) (.t 109))), i 111 (.p (.mov (.t 110))), ⟨some 112, some (111, false), .p (.faddr 0 (.t 5))⟩, ⟨some 113, some (111, false), .r (.load none (.t 112))⟩, ⟨some 114, some (111, false), .p (.bin .neq (.t 113) (.c (.int .i64 5)))⟩, ⟨some 115, some (111, false), .p (.mov (.t 114))⟩, ⟨some 116, some (115, true), .p (.faddr 3 (.t 5))⟩, ⟨some 117, some (115, true), .r (.load none (.t 116))⟩, ⟨some 118, some (115, true), .r (.len .sl (.t 117))⟩, ⟨some 119, some (115, true), .p (.bin .neq (.t 118) (.c (.int .i64 1)))⟩, ⟨some 120, some (111, false), .p (.pick (.t 115) (.t 119) (.c (.bool false)))⟩, i 121 (.p (.pick (.t 111) (.c (.bool true)) (.t 120))), i 14 (.p (.mov (.t 121)))])
     (.seq (.seq (.dops 0 [] [i 122 (.p (.mov (.t 0))), i 123 (.p (.mov (.t 14))), i 124 (.p (.mov (.t 123))), ⟨some 125, some (124, false), .p (.mov (.t 0))⟩, ⟨some 126, some (124, false), .p (.nilc (.t 125))⟩, ⟨some 127, some (124, false), .p (.faddr 1 (.t 126))⟩, ⟨some 128, some (124, false), .r (.load none (.t 127))⟩, ⟨some 129, some (124, false), .r (.len .sl (.t 128))⟩, ⟨some 130, some (124, false), .p (.bin .eql (.t 129) (.c (.int .i64 60)))⟩, i 131 (.p (.pick (.t 124) (.c (.bool true)) (.t 130))), i 132 (.p (.faddr 4 (.t 5))), i 133 (.r (.load none (.t 132))), i 134 (.call (.dir 88) [(.t 122), (.t 131), (.c (.int .i64 7)), (.t 133)] false)])
       (.cond (.t 134)
        (.seq (.ops [i 135 (.p (.mov (.t 1))), i 6 (.p (.mov (.t 135)))])
         .ret)
        .skip))
      (.seq (.ops [i 136 (.p (.mov (.t 0))), i 137 (.p (.nilc (.t 136))), i 138 (.p (.faddr 1 (.t 137))), i 139 (.r (.load none (.t 138))), i 140 (.r (.len .sl (.t 139))), i 15 (.p (.mov (.t 140)))])
       (.seq (.ops [i 141 (.p (.mov (.t 0))), i 142 (.p (.mov (.t 0))), i 143 (.p (.nilc (.t 142))), i 144 (.p (.faddr 1 (.t 143))), i 145 (.r (.load none (.t 144))), i 146 (.p (.build [.nils, .int .i64 0, .nils] [])), i 147 (.a (.bslice true [.nils, .int .i64 0, .nils] 1 [(0, (.t 146))]) none), i 148 (.w (.append 3 56 (.t 145) (.t 147))), i 149 (.p (.nilc (.t 141))), i 150 (.p (.faddr 1 (.t 149))), n (.w (.store 1 (.t 150) (.t 148)))])
        (.seq (.ops [i 151 (.p (.mov (.t 0))), i 152 (.p (.mov (.t 15))), i 153 (.r (.load (some 5) (.t 5))), i 154 (.call (.dir 53) [(.t 151), (.t 152), (.t 153)] false)])
         (.seq (.ops [i 155 (.p (.mov (.t 1))), i 156 (.p (.mov (.t 15))), i 157 (.p (.build [.int .i64 0, .nils, .int .i64 0] [(0, 1, (.c (.int .i64 2))), (2, 1, (.t 156))])), i 158 (.a (.bslice true [.int .i64 0, .nils, .int .i64 0] 1 [(0, (.t 157))]) none), i 159 (.w (.append 3 40 (.t 155) (.t 158))), i 6 (.p (.mov (.t 159)))])
          .ret)))))))))
def f85 : IFn := ⟨false, 160, [.tm 6], b85⟩
def b86 : IC :=
  (.seq (.ops [i 2 (.p (.mov (.c .nils)))])
  (.seq (.seq (.ops [i 3 (.p (.mov (.t 0))), i 4 (.p (.eqo false .slice (.t 3) (.c .nils)))])
    (.cond (.t 4)
     (.seq (.ops [i 2 (.p (.mov (.c .nils)))])
      .ret)
     .skip))
   (.seq (.ops [i 5 (.a (.bslice true [.int .i64 0, .nils, .int .i64 0] 0 []) none), i 6 (.p (.mov (.t 0))), i 7 (.w (.append 3 40 (.t 5) (.t 6))), i 2 (.p (.mov (.t 7)))])
    .ret)))
def f86 : IFn := ⟨false, 8, [.tm 2], b86⟩
def b87 : IC :=
  (.seq (.ops [i 2 (.p (.mov (.c (.bool false))))])
  (.seq (.ops [i 3 (.p (.mov (.t 0))), i 4 (.r (.len .sl (.t 3))), i 5 (.p (.bin .gtr (.t 4) (.c (.int .i64 40)))), i 2 (.p (.mov (.t 5)))])
   .ret))
def f87 : IFn := ⟨false, 6, [.tm 2], b87⟩
def b88 : IC :=
  (.seq (.ops [i 8 (.p (.mov (.c (.bool false))))])
  (.seq (.seq (.ops [i 9 (.p (.mov (.t 1))), i 10 (.p (.mov (.t 9))), ⟨some 11, some (10, true), .p (.mov (.t 0))⟩, ⟨some 12, some (10, true), .p (.nilc (.t 11))⟩, ⟨some 13, some (10, true), .p (.faddr 2 (.t 12))⟩, ⟨some 14, some (10, true), .r (.load none (.t 13))⟩, ⟨some 15, some (10, true), .p (.eqo false .ptr (.t 14) (.c .nilp))⟩, i 16 (.p (.pick (.t 10) (.t 15) (.c (.bool false))))])
    (.cond (.t 16)
     (.ops [i 17 (.p (.mov (.t 0))), i 18 (.p (.mov (.t 2))), i 19 (.p (.mov (.t 3))), i 20 (.p (.build [.int .i64 0, .int .i64 0] [(0, 1, (.t 18)), (1, 1, (.t 19))])), i 21 (.a (.box 2 (.t 20)) none), i 22 (.p (.nilc (.t 17))), i 23 (.p (.faddr 2 (.t 22))), n (.w (.store 1 (.t 23) (.t 21)))])
     .skip))
   (.seq (.ops [i 24 (.p (.mov (.t 1))), i 8 (.p (.mov (.t 24)))])
    .ret)))
def f88 : IFn := ⟨false, 25, [.tm 8], b88⟩
def b89 : IC :=
  (.seq (.ops [i 4 (.p (.mov (.c (.bool false))))])
  (.seq (.ops [i 5 (.p (.mov (.t 0))), i 6 (.p (.mov (.t 1))), i 7 (.call (.dir 130) [(.t 5), (.t 6)] false), i 8 (.p (.bin .geq (.t 7) (.c (.int .i64 0)))), i 4 (.p (.mov (.t 8)))])
   .ret))
def f89 : IFn := ⟨true, 9, [.tm 4], b89⟩
def b90 : IC :=
  (.seq (.ops [i 2 (.a (.box 2 (.t 0)) none), i 3 (.p (.mov (.c (.bool false))))])
  (.seq (.ops [i 4 (.p (.faddr 0 (.t 1))), i 5 (.r (.load none (.t 4))), i 6 (.p (.bin .eql (.t 5) (.c (.int .i64 0)))), i 7 (.p (.mov (.t 6))), ⟨some 8, some (7, true), .p (.faddr 1 (.t 2))⟩, ⟨some 9, some (7, true), .r (.load none (.t 8))⟩, ⟨some 10, some (7, true), .p (.bin .gtr (.t 9) (.c (.int .i64 255)))⟩, i 11 (.p (.pick (.t 7) (.t 10) (.c (.bool false)))), i 3 (.p (.mov (.t 11)))])
   .ret))
def f90 : IFn := ⟨true, 12, [.tm 3], b90⟩
def b91 : IC :=
  (.seq (.ops [i 4 (.p (.mov (.c (.int .i64 0))))])
  (.seq (.seq (.ops [i 6 (.p (.mov (.t 0))), i 7 (.r (.len .sl (.t 6))), i 8 (.p (.mov (.c (.int .i64 0))))])
    (.block 0
     (.loop
      (.seq (.ops [i 9 (.p (.bin .lss (.t 8) (.t 7)))])
       (.seq (.cond (.t 9)
         .skip
         (.exit 0))
        (.seq (.block 1
          (.seq (.ops [i 10 (.p (.mov (.t 8))), i 5 (.p (.mov (.t 10)))])
           (.seq (.ops [i 11 (.p (.mov (.t 1))), i 12 (.p (.mov (.t 0))), i 13 (.p (.mov (.t 5))), i 14 (.p (.iaddr 3 (.t 12) (.t 13))), i 15 (.r (.load (some 3) (.t 14))), i 16 (.call (.val (.t 11)) [(.t 15)] false)])
            (.cond (.t 16)
             (.seq (.ops [i 17 (.p (.mov (.t 5))), i 4 (.p (.mov (.t 17)))])
              .ret)
             .skip))))
         (.ops [i 18 (.p (.bin .add (.t 8) (.c (.int .i64 1)))), i 8 (.p (.mov (.t 18)))])))))))
   (.seq (.ops [i 4 (.p (.mov (.c (.int .i64 (-1)))))])
    .ret)))
def f91 : IFn := ⟨true, 19, [.tm 4], b91⟩
def b92 : IC :=
  (.seq (.ops [i 4 (.p (.mov (.c (.int .i64 0))))])
  (.seq (.seq (.ops [i 6 (.p (.mov (.t 0))), i 7 (.r (.len .sl (.t 6))), i 8 (.p (.mov (.c (.int .i64 0))))])
    (.block 0
     (.loop
      (.seq (.ops [i 9 (.p (.bin .lss (.t 8) (.t 7)))])
       (.seq (.cond (.t 9)
         .skip
         (.exit 0))
        (.seq (.block 1
          (.seq (.ops [i 10 (.p (.mov (.t 8))), i 5 (.p (.mov (.t 10)))])
           (.seq (.ops [i 11 (.p (.mov (.t 1))), i 12 (.p (.mov (.t 0))), i 13 (.p (.mov (.t 5))), i 14 (.p (.iaddr 1 (.t 12) (.t 13))), i 15 (.r (.load none (.t 14))), i 16 (.call (.val (.t 11)) [(.t 15)] false)])
            (.cond (.t 16)
             (.seq (.ops [i 17 (.p (.mov (.t 5))), i 4 (.p (.mov (.t 17)))])
              .ret)
             .skip))))
         (.ops [i 18 (.p (.bin .add (.t 8) (.c (.int .i64 1)))), i 8 (.p (.mov (.t 18)))])))))))
   (.seq (.ops [i 4 (.p (.mov (.c (.int .i64 (-1)))))])
    .ret)))
def f92 : IFn := ⟨true, 19, [.tm 4], b92⟩
def b93 : IC :=
  (.seq (.ops [i 1 (.a (.box 2 (.t 0)) none), i 2 (.p (.mov (.c .nils))), i 3 (.p (.mov (.c (.bool false))))])
  (.seq (.seq (.ops [i 5 (.r (.load (some 2) (.t 1))), i 6 (.call (.dir 32) [(.t 5)] false), i 7 (.p (.un .not (.t 6)))])
    (.cond (.t 7)
     (.seq (.ops [i 2 (.p (.mov (.c .nils))), i 3 (.p (.mov (.c (.bool false))))])
      .ret)
     .skip))
   (.seq (.ops [i 8 (.r (.load (some 2) (.t 1))), i 9 (.call (.dir 131) [(.t 8)] false), i 10 (.call (.dir 132) [(.t 9)] false), i 4 (.p (.mov (.t 10)))])
    (.seq (.seq (.ops [i 11 (.p (.mov (.t 4))), i 12 (.r (.len .sl (.t 11))), i 13 (.p (.faddr 0 (.t 1))), i 14 (.r (.load none (.t 13))), i 15 (.r (.len .sl (.t 14))), i 16 (.p (.bin .lss (.t 12) (.t 15)))])
      (.cond (.t 16)
       (.seq (.ops [i 2 (.p (.mov (.c .nils))), i 3 (.p (.mov (.c (.bool false))))])
        .ret)
       .skip))
     (.seq (.ops [i 17 (.p (.mov (.t 4))), i 2 (.p (.mov (.t 17))), i 3 (.p (.mov (.c (.bool true))))])
      .ret)))))
def f93 : IFn := ⟨true, 18, [.tm 2, .tm 3], b93⟩
def b94 : IC :=
  (.seq (.ops [i 3 (.a (.box 2 (.t 0)) none), i 6 (.p (.mov (.c (.bool false))))])
  (.seq (.ops [i 12 (.a (.mkm) none), i 7 (.p (.mov (.t 12)))])
   (.seq (.ops [i 13 (.p (.mov (.t 1))), i 14 (.a (.bslice true [.int .i64 0] 1 [(0, (.t 13))]) none), i 8 (.p (.mov (.t 14)))])
    (.seq (.block 0
      (.loop
       (.seq (.seq (.ops [i 15 (.p (.mov (.t 8))), i 16 (.r (.len .sl (.t 15))), i 17 (.p (.bin .gtr (.t 16) (.c (.int .i64 0))))])
         (.cond (.t 17)
          .skip
          (.exit 0)))
        (.block 1
         (.seq (.ops [i 18 (.p (.mov (.t 8))), i 19 (.p (.iaddr 1 (.t 18) (.c (.int .i64 0)))), i 20 (.r (.load none (.t 19))), i 9 (.p (.mov (.t 20)))])
          (.seq (.ops [i 21 (.p (.mov (.t 8))), i 22 (.p (.slice 1 (.t 21) (some (.c (.int .i64 1))) none none)), i 8 (.p (.mov (.t 22)))])
           (.seq (.ops [i 23 (.r (.load (some 2) (.t 3))), i 24 (.p (.mov (.t 9))), i 25 (.call (.dir 133) [(.t 23), (.t 24)] false), i 26 (.r (.len .sl (.t 25))), i 27 (.p (.mov (.c (.int .i64 0))))])
            (.block 2
             (.loop
              (.seq (.ops [i 28 (.p (.bin .lss (.t 27) (.t 26)))])
               (.seq (.cond (.t 28)
                 .skip
                 (.exit 2))
                (.seq (.block 3
                  (.seq (.ops [i 29 (.p (.iaddr 1 (.t 25) (.t 27))), i 30 (.r (.load none (.t 29))), i 11 (.p (.mov (.t 30)))])
                   (.seq (.seq (.ops [i 31 (.p (.mov (.t 11))), i 32 (.p (.mov (.t 2))), i 33 (.p (.bin .eql (.t 31) (.t 32)))])
                     (.cond (.t 33)
                      (.seq (.ops [i 6 (.p (.mov (.c (.bool true))))])
                       .ret)
                      .skip))
                    (.seq (.ops [i 34 (.p (.mov (.t 7))), i 35 (.p (.mov (.t 11))), i 36 (.r (.lookup (.one .int) (.bool false) false (.t 34) (.t 35))), i 37 (.p (.un .not (.t 36)))])
                     (.cond (.t 37)
                      (.seq (.ops [i 38 (.p (.mov (.t 7))), i 39 (.p (.mov (.t 11))), n (.w (.mupd (.one .int) (.t 38) (.t 39) (.c (.bool true))))])
                       (.ops [i 40 (.p (.mov (.t 8))), i 41 (.p (.mov (.t 11))), i 42 (.a (.bslice true [.int .i64 0] 1 [(0, (.t 41))]) none), i 43 (.w (.append 1 8 (.t 40) (.t 42))), i 8 (.p (.mov (.t 43)))]))
                      .skip)))))
                 (.ops [i 44 (.p (.bin .add (.t 27) (.c (.int .i64 1)))), i 27 (.p (.mov (.t 44)))])))))))))))))
     (.seq (.ops [i 6 (.p (.mov (.c (.bool false))))])
      .ret)))))
def f94 : IFn := ⟨true, 45, [.tm 6], b94⟩
def b95 : IC :=
  (.seq (.ops [i 2 (.a (.box 2 (.t 0)) none), i 4 (.p (.mov (.c .nils)))])
  (.seq (.seq (.ops [i 9 (.r (.load (some 2) (.t 2))), i 10 (.call (.dir 32) [(.t 9)] false), i 11 (.p (.un .not (.t 10))), i 12 (.p (.mov (.t 11))), ⟨some 13, some (12, false), .p (.mov (.t 1))⟩, ⟨some 14, some (12, false), .p (.bin .lss (.t 13) (.c (.int .i64 0)))⟩, i 15 (.p (.pick (.t 12) (.c (.bool true)) (.t 14))), i 16 (.p (.mov (.t 15))), ⟨some 17, some (16, false), .p (.mov (.t 1))⟩, ⟨some 18, some (16, false), .p (.faddr 0 (.t 2))⟩, ⟨some 19, some (16, false), .r (.load none (.t 18))⟩, ⟨some 20, some (16, false), .r (.len .sl (.t 19))⟩, ⟨some 21, some (16, false), .p (.bin .geq (.t 17) (.t 20))⟩, i 22 (.p (.pick (.t 16) (.c (.bool true)) (.t 21)))])
    (.cond (.t 22)
     (.seq (.ops [i 4 (.p (.mov (.c .nils)))])
      .ret)
     .skip))
   (.seq (.ops [i 23 (.p (.faddr 0 (.t 2))), i 24 (.r (.load none (.t 23))), i 25 (.r (.len .sl (.t 24))), i 26 (.a (.mks [.bool false] 1 (.t 25) (.t 25)) none), i 5 (.a (.alloc [.nils]) none), n (.w (.store 1 (.t 5) (.t 26)))])
    (.seq (.ops [i 27 (.a (.mkm) none), i 28 (.p (.mov (.t 1))), n (.w (.mupd (.one .int) (.t 27) (.t 28) (.c (.bool true)))), i 29 (.p (.mov (.t 27))), i 6 (.a (.alloc [.nilm]) none), n (.w (.store 1 (.t 6) (.t 29)))])
     (.seq (.ops [i 30 (.p (.mkf 134 [] [(.t 6), (.t 2), (.t 5)])), i 7 (.p (.mov (.t 30)))])
      (.seq (.block 0
        (.loop
         (.seq (.seq (.ops [i 31 (.r (.load none (.t 6))), i 32 (.r (.len .map (.t 31))), i 33 (.p (.bin .gtr (.t 32) (.c (.int .i64 0))))])
           (.cond (.t 33)
            .skip
            (.exit 0)))
          (.block 1
           (.seq (.ops [i 34 (.p (.faddr 0 (.t 2))), i 35 (.r (.load none (.t 34))), i 36 (.r (.len .sl (.t 35))), i 37 (.p (.mov (.c (.int .i64 0))))])
            (.block 2
             (.loop
              (.seq (.ops [i 38 (.p (.bin .lss (.t 37) (.t 36)))])
               (.seq (.cond (.t 38)
                 .skip
                 (.exit 2))
                (.seq (.block 3
                  (.seq (.ops [i 39 (.p (.mov (.t 37))), i 8 (.p (.mov (.t 39)))])
                   (.seq (.ops [i 40 (.r (.load none (.t 6))), i 41 (.p (.mov (.t 8))), i 42 (.r (.lookup (.one .int) (.bool false) false (.t 40) (.t 41)))])
                    (.cond (.t 42)
                     (.ops [i 43 (.p (.mov (.t 7))), i 44 (.p (.mov (.t 8))), i 45 (.call (.val (.t 43)) [(.t 44)] false)])
                     .skip))))
                 (.ops [i 46 (.p (.bin .add (.t 37) (.c (.int .i64 1)))), i 37 (.p (.mov (.t 46)))])))))))))))
       (.seq (.ops [i 47 (.r (.load none (.t 5))), i 4 (.p (.mov (.t 47)))])
        .ret)))))))
def f95 : IFn := ⟨false, 48, [.tm 4], b95⟩
def b96 : IC :=
  (.seq (.ops [i 4 (.p (.mov (.c (.int .i64 0))))])
  (.seq (.seq (.ops [i 6 (.p (.mov (.t 0))), i 7 (.r (.len .sl (.t 6))), i 8 (.p (.mov (.c (.int .i64 0))))])
    (.block 0
     (.loop
      (.seq (.ops [i 9 (.p (.bin .lss (.t 8) (.t 7)))])
       (.seq (.cond (.t 9)
         .skip
         (.exit 0))
        (.seq (.block 1
          (.seq (.ops [i 10 (.p (.mov (.t 8))), i 5 (.p (.mov (.t 10)))])
           (.seq (.ops [i 11 (.p (.mov (.t 1))), i 12 (.p (.mov (.t 0))), i 13 (.p (.mov (.t 5))), i 14 (.p (.iaddr 1 (.t 12) (.t 13))), i 15 (.r (.load none (.t 14))), i 16 (.p (.eqo false .bool (.t 11) (.t 15)))])
            (.cond (.t 16)
             (.seq (.ops [i 17 (.p (.mov (.t 5))), i 4 (.p (.mov (.t 17)))])
              .ret)
             .skip))))
         (.ops [i 18 (.p (.bin .add (.t 8) (.c (.int .i64 1)))), i 8 (.p (.mov (.t 18)))])))))))
   (.seq (.ops [i 4 (.p (.mov (.c (.int .i64 (-1)))))])
    .ret)))
def f96 : IFn := ⟨true, 19, [.tm 4], b96⟩
def b97 : IC :=
  (.seq (.ops [i 1 (.a (.box 2 (.t 0)) none), i 2 (.p (.mov (.c .nils)))])
  (.seq (.seq (.ops [i 9 (.r (.load (some 2) (.t 1))), i 10 (.call (.dir 32) [(.t 9)] false), i 11 (.p (.un .not (.t 10)))])
    (.cond (.t 11)
     (.seq (.ops [i 2 (.p (.mov (.c .nils)))])
      .ret)
     .skip))
   (.seq (.ops [i 12 (.p (.faddr 0 (.t 1))), i 13 (.r (.load none (.t 12))), i 14 (.r (.len .sl (.t 13))), i 15 (.a (.mks [.bool false] 1 (.t 14) (.t 14)) none), i 3 (.a (.alloc [.nils]) none), n (.w (.store 1 (.t 3) (.t 15)))])
    (.seq (.ops [i 16 (.p (.mkf 136 [] [(.t 3)])), i 4 (.a (.alloc [.nilf]) none), n (.w (.store 1 (.t 4) (.t 16)))])
     (.seq (.ops [i 17 (.p (.mkf 138 [] [(.t 4)])), i 5 (.p (.mov (.t 17)))])
      (.seq (.seq (.ops [i 6 (.p (.mov (.c (.bool true))))])
        (.block 0
         (.loop
          (.seq (.seq (.ops [i 18 (.p (.mov (.t 6)))])
            (.cond (.t 18)
             .skip
             (.exit 0)))
           (.block 1
            (.seq (.ops [i 6 (.p (.mov (.c (.bool false))))])
             (.seq (.ops [i 19 (.p (.faddr 0 (.t 1))), i 20 (.r (.load none (.t 19))), i 21 (.r (.len .sl (.t 20))), i 22 (.p (.mov (.c (.int .i64 0))))])
              (.block 2
               (.loop
                (.seq (.ops [i 23 (.p (.bin .lss (.t 22) (.t 21)))])
                 (.seq (.cond (.t 23)
                   .skip
                   (.exit 2))
                  (.seq (.block 3
                    (.seq (.ops [i 24 (.p (.mov (.t 22))), i 25 (.p (.iaddr 3 (.t 20) (.t 22))), i 26 (.r (.load (some 3) (.t 25))), i 8 (.a (.alloc [.nils, .int .i64 0, .nils]) none), i 7 (.p (.mov (.t 24))), n (.w (.store 3 (.t 8) (.t 26)))])
                     (.seq (.ops [i 27 (.r (.load none (.t 3))), i 28 (.p (.mov (.t 7))), i 29 (.p (.iaddr 1 (.t 27) (.t 28))), i 30 (.r (.load none (.t 29))), i 31 (.p (.un .not (.t 30))), i 32 (.p (.mov (.t 31))), ⟨some 33, some (32, true), .p (.faddr 0 (.t 8))⟩, ⟨some 34, some (32, true), .r (.load none (.t 33))⟩, ⟨some 35, some (32, true), .p (.mov (.t 5))⟩, ⟨some 36, some (32, true), .call (.dir 59) [(.t 34), (.t 35)] false⟩, i 37 (.p (.pick (.t 32) (.t 36) (.c (.bool false))))])
                      (.cond (.t 37)
                       (.ops [i 38 (.r (.load none (.t 3))), i 39 (.p (.mov (.t 7))), i 40 (.p (.iaddr 1 (.t 38) (.t 39))), n (.w (.store 1 (.t 40) (.c (.bool true)))), i 6 (.p (.mov (.c (.bool true))))])
                       .skip))))
                   (.ops [i 41 (.p (.bin .add (.t 22) (.c (.int .i64 1)))), i 22 (.p (.mov (.t 41)))])))))))))))))
       (.seq (.ops [i 42 (.r (.load none (.t 3))), i 2 (.p (.mov (.t 42)))])
        .ret)))))))
def f97 : IFn := ⟨true, 43, [.tm 2], b97⟩
def b98 : IC :=
  (.seq (.ops [i 2 (.a (.box 2 (.t 0)) none), i 4 (.p (.mov (.c (.int .i64 0))))])
  (.seq (.ops [i 5 (.p (.mov (.c (.int .i64 (-1)))))])
   (.seq (.seq (.ops [i 8 (.r (.load (some 2) (.t 2))), i 9 (.call (.dir 32) [(.t 8)] false), i 10 (.p (.un .not (.t 9)))])
     (.cond (.t 10)
      (.seq (.ops [i 11 (.p (.mov (.t 5))), i 4 (.p (.mov (.t 11)))])
       .ret)
      .skip))
    (.seq (.seq (.ops [i 12 (.r (.load (some 2) (.t 2))), i 13 (.call (.dir 139) [(.t 12)] false), i 14 (.w (.rngM (.t 13)))])
      (.block 0
       (.loop
        (.seq (.ops [i 15 (.nxtM (.t 14)), i 16 (.p (.ext 0 (.t 15)))])
         (.seq (.cond (.t 16)
           .skip
           (.exit 0))
          (.block 1
           (.seq (.ops [i 17 (.r (.entry (.t 14))), i 18 (.p (.ext 0 (.t 17))), i 19 (.p (.ext 1 (.t 17))), i 6 (.p (.mov (.t 18))), i 7 (.p (.mov (.t 19)))])
            (.seq (.ops [i 20 (.p (.mov (.t 5))), i 21 (.p (.bin .eql (.t 20) (.c (.int .i64 (-1))))), i 22 (.p (.mov (.t 21))), ⟨some 23, some (22, false), .p (.mov (.t 6))⟩, ⟨some 24, some (22, false), .p (.mov (.t 5))⟩, ⟨some 25, some (22, false), .p (.bin .lss (.t 23) (.t 24))⟩, i 26 (.p (.pick (.t 22) (.c (.bool true)) (.t 25))), i 27 (.p (.mov (.t 26))), ⟨some 28, some (27, true), .p (.mov (.t 1))⟩, ⟨some 29, some (27, true), .p (.mov (.t 6))⟩, ⟨some 30, some (27, true), .p (.mov (.t 7))⟩, ⟨some 31, some (27, true), .call (.val (.t 28)) [(.t 29), (.t 30)] false⟩, i 32 (.p (.pick (.t 27) (.t 31) (.c (.bool false))))])
             (.cond (.t 32)
              (.ops [i 33 (.p (.mov (.t 6))), i 5 (.p (.mov (.t 33)))])
              .skip)))))))))
     (.seq (.ops [i 34 (.p (.mov (.t 5))), i 4 (.p (.mov (.t 34)))])
      .ret)))))
def f98 : IFn := ⟨true, 35, [.tm 4], b98⟩
def b99 : IC :=
  (.seq (.ops [i 5 (.p (.mov (.c (.bool false))))])
  (.seq (.ops [i 6 (.p (.mov (.t 1))), i 7 (.p (.mov (.t 0))), i 8 (.p (.iaddr 1 (.t 6) (.t 7))), i 9 (.r (.load none (.t 8))), i 10 (.p (.mov (.t 9))), ⟨some 11, some (10, false), .r (.load (some 2) (.t 2))⟩, ⟨some 12, some (10, false), .p (.mov (.t 1))⟩, ⟨some 13, some (10, false), .call (.dir 100) [(.t 11), (.t 12), (.c (.int .i64 2))] false⟩, i 14 (.p (.pick (.t 10) (.c (.bool true)) (.t 13))), i 5 (.p (.mov (.t 14)))])
   .ret))
def f99 : IFn := ⟨true, 15, [.tm 5], b99⟩
def b100 : IC :=
  (.seq (.ops [i 3 (.a (.box 2 (.t 0)) none), i 6 (.p (.mov (.c (.bool false))))])
  (.seq (.seq (.ops [i 9 (.p (.mov (.t 1))), i 10 (.r (.len .sl (.t 9))), i 11 (.p (.mov (.c (.int .i64 0))))])
    (.block 0
     (.loop
      (.seq (.ops [i 12 (.p (.bin .lss (.t 11) (.t 10)))])
       (.seq (.cond (.t 12)
         .skip
         (.exit 0))
        (.seq (.block 1
          (.seq (.ops [i 13 (.p (.mov (.t 11))), i 14 (.p (.iaddr 1 (.t 9) (.t 11))), i 15 (.r (.load none (.t 14))), i 7 (.p (.mov (.t 13))), i 8 (.p (.mov (.t 15)))])
           (.seq (.ops [i 16 (.p (.mov (.t 8))), i 17 (.p (.mov (.t 16))), ⟨some 18, some (17, true), .p (.faddr 0 (.t 3))⟩, ⟨some 19, some (17, true), .r (.load none (.t 18))⟩, ⟨some 20, some (17, true), .p (.mov (.t 7))⟩, ⟨some 21, some (17, true), .p (.iaddr 3 (.t 19) (.t 20))⟩, ⟨some 22, some (17, true), .r (.load (some 3) (.t 21))⟩, ⟨some 23, some (17, true), .p (.mov (.t 2))⟩, ⟨some 24, some (17, true), .call (.dir 102) [(.t 22), (.t 23)] false⟩, i 25 (.p (.pick (.t 17) (.t 24) (.c (.bool false))))])
            (.cond (.t 25)
             (.seq (.ops [i 6 (.p (.mov (.c (.bool true))))])
              .ret)
             .skip))))
         (.ops [i 26 (.p (.bin .add (.t 11) (.c (.int .i64 1)))), i 11 (.p (.mov (.t 26)))])))))))
   (.seq (.ops [i 6 (.p (.mov (.c (.bool false))))])
    .ret)))
def f100 : IFn := ⟨true, 27, [.tm 6], b100⟩
def b101 : IC :=
  (.seq (.ops [i 5 (.p (.mov (.c (.bool false))))])
  (.seq (.ops [i 6 (.p (.faddr 0 (.t 2))), i 7 (.r (.load none (.t 6))), i 8 (.p (.mov (.t 0))), i 9 (.p (.iaddr 3 (.t 7) (.t 8))), i 10 (.r (.load (some 3) (.t 9))), i 11 (.call (.dir 102) [(.t 10), (.c (.int .i64 1))] false), i 12 (.p (.mov (.t 11))), ⟨some 13, some (12, false), .r (.load (some 2) (.t 2))⟩, ⟨some 14, some (12, false), .p (.mov (.t 1))⟩, ⟨some 15, some (12, false), .call (.dir 100) [(.t 13), (.t 14), (.c (.int .i64 1))] false⟩, i 16 (.p (.pick (.t 12) (.c (.bool true)) (.t 15))), i 5 (.p (.mov (.t 16)))])
   .ret))
def f101 : IFn := ⟨true, 17, [.tm 5], b101⟩
def b102 : IC :=
  (.seq (.ops [i 2 (.a (.box 3 (.t 0)) none), i 4 (.p (.mov (.c (.bool false))))])
  (.seq (.dops 0 [(1, 3)] [i 5 (.p (.faddr 1 (.t 2))), i 6 (.r (.load none (.t 5))), i 7 (.call (.dir 140) [] false), i 8 (.p (.mov (.t 1))), i 9 (.p (.idxA 3 1 false (.t 7) (.t 8))), i 10 (.p (.bin .and (.t 6) (.t 9))), i 11 (.p (.bin .neq (.t 10) (.c (.int .i64 0)))), i 4 (.p (.mov (.t 11)))])
   .ret))
def f102 : IFn := ⟨true, 12, [.tm 4], b102⟩
def b103 : IC :=
  (.seq (.ops [i 3 (.a (.box 2 (.t 1)) none), i 4 (.p (.mov (.c .nils)))])
  (.seq (.seq (.dops 0 [] [i 11 (.p (.mov (.t 0))), i 12 (.p (.nilc (.t 11))), i 13 (.p (.faddr 3 (.t 12))), i 14 (.r (.load none (.t 13))), i 15 (.r (.load (some 2) (.t 3))), i 16 (.r (.lookup (.agg [.int, .int]) .nils true (.t 14) (.t 15))), i 10 (.p (.mov (.t 16))), i 17 (.p (.ext 0 (.t 10))), i 18 (.p (.ext 1 (.t 10))), i 5 (.p (.mov (.t 17))), i 6 (.p (.mov (.t 18)))])
    (.seq (.ops [i 19 (.p (.mov (.t 6)))])
     (.cond (.t 19)
      (.seq (.ops [i 20 (.p (.mov (.t 5))), i 4 (.p (.mov (.t 20)))])
       .ret)
      .skip)))
   (.seq (.ops [i 7 (.p (.mov (.c .nils)))])
    (.seq (.seq (.dops 0 [] [i 21 (.p (.mov (.t 0))), i 22 (.p (.nilc (.t 21))), i 23 (.p (.faddr 0 (.t 22))), i 24 (.p (.faddr 0 (.t 23))), i 25 (.r (.load none (.t 24))), i 26 (.p (.faddr 0 (.t 3))), i 27 (.r (.load none (.t 26))), i 28 (.p (.iaddr 3 (.t 25) (.t 27))), i 29 (.p (.faddr 0 (.t 28))), i 30 (.r (.load none (.t 29))), i 31 (.r (.len .sl (.t 30))), i 32 (.p (.mov (.c (.int .i64 0))))])
      (.block 0
       (.loop
        (.seq (.ops [i 33 (.p (.bin .lss (.t 32) (.t 31)))])
         (.seq (.cond (.t 33)
           .skip
           (.exit 0))
          (.seq (.block 1
            (.seq (.ops [i 34 (.p (.iaddr 1 (.t 30) (.t 32))), i 35 (.r (.load none (.t 34))), i 9 (.p (.mov (.t 35)))])
             (.ops [i 36 (.p (.mov (.t 7))), i 37 (.p (.mov (.t 0))), i 38 (.p (.mov (.t 9))), i 39 (.p (.faddr 1 (.t 3))), i 40 (.r (.load none (.t 39))), i 41 (.call (.dir 67) [(.t 37), (.t 38), (.t 40)] false), i 42 (.w (.append 1 8 (.t 36) (.t 41))), i 7 (.p (.mov (.t 42)))])))
           (.ops [i 43 (.p (.bin .add (.t 32) (.c (.int .i64 1)))), i 32 (.p (.mov (.t 43)))])))))))
     (.seq (.ops [i 44 (.p (.mov (.t 7))), i 45 (.call (.dir 105) [(.t 44)] false)])
      (.seq (.ops [i 46 (.p (.mov (.t 7))), i 47 (.call (.dir 106) [(.t 46)] true), i 7 (.p (.mov (.t 47)))])
       (.seq (.dops 0 [] [i 48 (.p (.mov (.t 0))), i 49 (.p (.nilc (.t 48))), i 50 (.p (.faddr 3 (.t 49))), i 51 (.r (.load none (.t 50))), i 52 (.r (.load (some 2) (.t 3))), i 53 (.p (.mov (.t 7))), n (.w (.mupd (.agg [.int, .int]) (.t 51) (.t 52) (.t 53)))])
        (.seq (.ops [i 54 (.p (.mov (.t 7))), i 4 (.p (.mov (.t 54)))])
         .ret))))))))
def f103 : IFn := ⟨false, 55, [.tm 4], b103⟩
def b104 : IC :=
  (.seq (.ops [i 3 (.a (.box 3 (.t 0)) none), i 6 (.p (.mov (.c (.int .i64 0)))), i 7 (.p (.mov (.c (.bool false))))])
  (.seq (.ops [i 9 (.p (.build [.nilf, .nilf, .nilf] [(0, 1, (.c (.fn 107 [] []))), (1, 1, (.c (.fn 141 [] []))), (2, 1, (.c (.fn 109 [] [])))])), i 10 (.r (.load (some 3) (.t 3))), i 11 (.p (.mov (.t 1))), i 12 (.p (.mov (.t 2))), i 13 (.call (.dir 110) [(.t 9), (.t 10), (.t 11), (.t 12)] false), i 8 (.p (.mov (.t 13)))])
   (.seq (.ops [i 14 (.p (.mov (.t 8))), i 15 (.p (.mov (.t 8))), i 16 (.p (.bin .gtr (.t 15) (.c (.int .i64 0)))), i 6 (.p (.mov (.t 14))), i 7 (.p (.mov (.t 16)))])
    .ret)))
def f104 : IFn := ⟨true, 17, [.tm 6, .tm 7], b104⟩
def b106 : IC :=
  (.seq (.ops [i 2 (.p (.mov (.c .nils)))])
  (.seq (.seq (.ops [i 6 (.p (.mov (.t 0))), i 7 (.r (.len .sl (.t 6))), i 8 (.p (.bin .lss (.t 7) (.c (.int .i64 2))))])
    (.cond (.t 8)
     (.seq (.ops [i 9 (.p (.mov (.t 0))), i 2 (.p (.mov (.t 9)))])
      .ret)
     .skip))
   (.seq (.seq (.ops [i 3 (.p (.mov (.c (.int .i64 1))))])
     (.block 0
      (.loop
       (.seq (.seq (.ops [i 10 (.p (.mov (.t 3))), i 11 (.p (.mov (.t 0))), i 12 (.r (.len .sl (.t 11))), i 13 (.p (.bin .lss (.t 10) (.t 12)))])
         (.cond (.t 13)
          .skip
          (.exit 0)))
        (.seq (.block 1
          (.seq (.dops 0 [] [i 16 (.p (.mov (.t 0))), i 17 (.p (.mov (.t 3))), i 18 (.p (.iaddr 1 (.t 16) (.t 17))), i 19 (.r (.load none (.t 18))), i 20 (.p (.mov (.t 0))), i 21 (.p (.mov (.t 3))), i 22 (.p (.bin .sub (.t 21) (.c (.int .i64 1)))), i 23 (.p (.iaddr 1 (.t 20) (.t 22))), i 24 (.r (.load none (.t 23))), i 25 (.p (.bin .eql (.t 19) (.t 24)))])
           (.cond (.t 25)
            (.seq (.ops [i 26 (.p (.mov (.t 0))), i 27 (.p (.mov (.t 3))), i 28 (.p (.slice 1 (.t 26) (some (.t 27)) none none)), i 4 (.p (.mov (.t 28)))])
             (.seq (.seq (.ops [i 5 (.p (.mov (.c (.int .i64 1))))])
               (.block 2
                (.loop
                 (.seq (.seq (.ops [i 29 (.p (.mov (.t 5))), i 30 (.p (.mov (.t 4))), i 31 (.r (.len .sl (.t 30))), i 32 (.p (.bin .lss (.t 29) (.t 31)))])
                   (.cond (.t 32)
                    .skip
                    (.exit 2)))
                  (.seq (.block 3
                    (.seq (.dops 0 [] [i 35 (.p (.mov (.t 4))), i 36 (.p (.mov (.t 5))), i 37 (.p (.iaddr 1 (.t 35) (.t 36))), i 38 (.r (.load none (.t 37))), i 39 (.p (.mov (.t 4))), i 40 (.p (.mov (.t 5))), i 41 (.p (.bin .sub (.t 40) (.c (.int .i64 1)))), i 42 (.p (.iaddr 1 (.t 39) (.t 41))), i 43 (.r (.load none (.t 42))), i 44 (.p (.bin .neq (.t 38) (.t 43)))])
                     (.cond (.t 44)
                      (.seq (.ops [i 45 (.p (.mov (.t 0))), i 46 (.p (.mov (.t 3))), i 47 (.p (.mov (.t 4))), i 48 (.p (.mov (.t 5))), i 49 (.p (.iaddr 1 (.t 47) (.t 48))), i 50 (.r (.load none (.t 49))), i 51 (.p (.iaddr 1 (.t 45) (.t 46))), n (.w (.store 1 (.t 51) (.t 50)))])
                       (.ops [i 52 (.p (.mov (.t 3))), i 53 (.p (.bin .add (.t 52) (.c (.int .i64 1)))), i 3 (.p (.mov (.t 53)))]))
                      .skip)))
                   (.ops [i 33 (.p (.mov (.t 5))), i 34 (.p (.bin .add (.t 33) (.c (.int .i64 1)))), i 5 (.p (.mov (.t 34)))]))))))
              (.seq (.ops [i 54 (.p (.mov (.t 0))), i 55 (.p (.mov (.t 3))), i 56 (.p (.slice 1 (.t 54) (some (.t 55)) none none)), n (.w (.clear [.int .i64 0] (.t 56)))])
               (.seq (.ops [i 57 (.p (.mov (.t 0))), i 58 (.p (.mov (.t 3))), i 59 (.p (.slice 1 (.t 57) none (some (.t 58)) none)), i 2 (.p (.mov (.t 59)))])
                .ret))))
            .skip)))
         (.ops [i 14 (.p (.mov (.t 3))), i 15 (.p (.bin .add (.t 14) (.c (.int .i64 1)))), i 3 (.p (.mov (.t 15)))]))))))
    (.seq (.ops [i 60 (.p (.mov (.t 0))), i 2 (.p (.mov (.t 60)))])
     .ret))))
def f106 : IFn := ⟨false, 61, [.tm 2], b106⟩
def b107 : IC :=
  (.seq (.ops [i 3 (.a (.box 3 (.t 0)) none), i 6 (.p (.mov (.c (.int .i64 0))))])
  (.seq (.seq (.dops 0 [] [i 7 (.p (.mov (.t 2))), i 8 (.p (.bin .geq (.t 7) (.c (.int .i64 0)))), i 9 (.p (.mov (.t 8))), ⟨some 10, some (9, true), .p (.mov (.t 2))⟩, ⟨some 11, some (9, true), .p (.mov (.t 1))⟩, ⟨some 12, some (9, true), .r (.len .sl (.t 11))⟩, ⟨some 13, some (9, true), .p (.bin .lss (.t 10) (.t 12))⟩, i 14 (.p (.pick (.t 9) (.t 13) (.c (.bool false)))), i 15 (.p (.mov (.t 14))), ⟨some 16, some (15, true), .p (.faddr 1 (.t 3))⟩, ⟨some 17, some (15, true), .r (.load none (.t 16))⟩, ⟨some 18, some (15, true), .p (.mov (.t 1))⟩, ⟨some 19, some (15, true), .p (.mov (.t 2))⟩, ⟨some 20, some (15, true), .p (.iaddr 1 (.t 18) (.t 19))⟩, ⟨some 21, some (15, true), .r (.load none (.t 20))⟩, ⟨some 22, some (15, true), .p (.ci .i64 (.t 21))⟩, ⟨some 23, some (15, true), .call (.dir 144) [(.t 17), (.t 22)] false⟩, i 24 (.p (.pick (.t 15) (.t 23) (.c (.bool false))))])
    (.cond (.t 24)
     (.seq (.ops [i 6 (.p (.mov (.c (.int .i64 1))))])
      .ret)
     .skip))
   (.seq (.ops [i 6 (.p (.mov (.c (.int .i64 0))))])
    .ret)))
def f107 : IFn := ⟨true, 25, [.tm 6], b107⟩
def b108 : IC :=
  (.seq (.ops [i 3 (.a (.box 3 (.t 0)) none), i 6 (.p (.mov (.c (.int .i64 0))))])
  (.seq (.ops [i 7 (.p (.faddr 1 (.t 3))), i 8 (.r (.load none (.t 7))), i 9 (.call (.dir 146) [(.t 8)] false), i 10 (.p (.mov (.t 1))), i 11 (.p (.mov (.t 2))), i 12 (.call (.dir 145) [(.t 9), (.t 10), (.t 11)] false), i 6 (.p (.mov (.t 12)))])
   .ret))
def f108 : IFn := ⟨true, 13, [.tm 6], b108⟩
def b109 : IC :=
  (.seq (.ops [i 3 (.a (.box 3 (.t 0)) none), i 6 (.p (.mov (.c (.int .i64 0))))])
  (.seq (.ops [i 6 (.p (.mov (.c (.int .i64 0))))])
   .ret))
def f109 : IFn := ⟨true, 7, [.tm 6], b109⟩
def b110 : IC :=
  (.seq (.ops [i 4 (.a (.box 3 (.t 0)) none), i 5 (.a (.box 3 (.t 1)) none), i 8 (.p (.mov (.c (.int .i64 0))))])
  (.seq (.ops [i 10 (.p (.iaddrA 3 1 (.t 4) (.c (.int .i64 2)))), i 11 (.r (.load none (.t 10))), i 9 (.p (.mov (.t 11)))])
   (.seq (.seq (.ops [i 12 (.p (.faddr 0 (.t 5))), i 13 (.r (.load none (.t 12))), i 14 (.p (.bin .eql (.t 13) (.c (.int .i64 0)))), i 15 (.p (.mov (.t 14))), ⟨some 16, some (15, false), .p (.faddr 0 (.t 5))⟩, ⟨some 17, some (15, false), .r (.load none (.t 16))⟩, ⟨some 18, some (15, false), .p (.bin .eql (.t 17) (.c (.int .i64 1)))⟩, i 19 (.p (.pick (.t 15) (.c (.bool true)) (.t 18)))])
     (.cond (.t 19)
      (.ops [i 20 (.p (.faddr 0 (.t 5))), i 21 (.r (.load none (.t 20))), i 22 (.p (.iaddrA 3 1 (.t 4) (.t 21))), i 23 (.r (.load none (.t 22))), i 9 (.p (.mov (.t 23)))])
      .skip))
    (.seq (.ops [i 24 (.p (.mov (.t 9))), i 25 (.r (.load (some 3) (.t 5))), i 26 (.p (.mov (.t 2))), i 27 (.p (.mov (.t 3))), i 28 (.call (.val (.t 24)) [(.t 25), (.t 26), (.t 27)] false), i 8 (.p (.mov (.t 28)))])
     .ret))))
def f110 : IFn := ⟨true, 29, [.tm 8], b110⟩
def b115 : IC :=
  (.seq (.ops [i 4 (.p (.mov (.c (.bool false))))])
  (.seq (.ops [i 5 (.p (.mov (.t 0))), i 6 (.p (.mov (.t 1))), i 7 (.call (.dir 149) [(.t 5), (.t 6)] false), i 8 (.p (.bin .geq (.t 7) (.c (.int .i64 0)))), i 4 (.p (.mov (.t 8)))])
   .ret))
def f115 : IFn := ⟨false, 9, [.tm 4], b115⟩
def b116 : IC :=
  (.seq (.ops [i 0 (.p (.mov (.c .nils)))])
  (.seq (.ops [i 1 (.a (.bslice true [.str []] 6 [(0, (.c (.str [108, 111, 110, 103]))), (1, (.c (.str [114, 101, 115]))), (2, (.c (.str [111, 102, 102]))), (3, (.c (.str [98, 108, 111, 99, 107]))), (4, (.c (.str [97, 108, 105, 103, 110]))), (5, (.c (.str [115, 121, 110, 99])))]) none), i 0 (.p (.mov (.t 1)))])
   .ret))
def f116 : IFn := ⟨false, 2, [.tm 0], b116⟩
def b117 : IC :=
  (.seq (.ops [i 4 (.p (.mov (.c (.bool false))))])
  (.seq (.seq (.dops 0 [] [i 5 (.p (.mov (.t 0))), i 6 (.p (.nilc (.t 5))), i 7 (.p (.faddr 1 (.t 6))), i 8 (.r (.load none (.t 7))), i 9 (.p (.mov (.t 0))), i 10 (.p (.nilc (.t 9))), i 11 (.p (.faddr 0 (.t 10))), i 12 (.r (.load none (.t 11))), i 13 (.r (.len .str (.t 12))), i 14 (.p (.bin .lss (.t 8) (.t 13))), i 15 (.p (.mov (.t 14))), ⟨some 16, some (15, true), .p (.mov (.t 0))⟩, ⟨some 17, some (15, true), .p (.nilc (.t 16))⟩, ⟨some 18, some (15, true), .p (.faddr 0 (.t 17))⟩, ⟨some 19, some (15, true), .r (.load none (.t 18))⟩, ⟨some 20, some (15, true), .p (.mov (.t 0))⟩, ⟨some 21, some (15, true), .p (.nilc (.t 20))⟩, ⟨some 22, some (15, true), .p (.faddr 1 (.t 21))⟩, ⟨some 23, some (15, true), .r (.load none (.t 22))⟩, ⟨some 24, some (15, true), .p (.idxS (.t 19) (.t 23))⟩, ⟨some 25, some (15, true), .p (.mov (.t 1))⟩, ⟨some 26, some (15, true), .p (.bin .eql (.t 24) (.t 25))⟩, i 27 (.p (.pick (.t 15) (.t 26) (.c (.bool false))))])
    (.cond (.t 27)
     (.seq (.ops [i 28 (.p (.mov (.t 0))), i 29 (.p (.nilc (.t 28))), i 30 (.p (.faddr 1 (.t 29))), i 31 (.r (.load none (.t 30))), i 32 (.p (.bin .add (.t 31) (.c (.int .i64 1)))), i 33 (.p (.nilc (.t 28))), i 34 (.p (.faddr 1 (.t 33))), n (.w (.store 1 (.t 34) (.t 32)))])
      (.seq (.ops [i 4 (.p (.mov (.c (.bool true))))])
       .ret))
     .skip))
   (.seq (.ops [i 4 (.p (.mov (.c (.bool false))))])
    .ret)))
def f117 : IFn := ⟨false, 35, [.tm 4], b117⟩
def b118 : IC :=
  (.seq (.ops [i 2 (.p (.mov (.c (.int .i64 0)))), i 3 (.p (.mov (.c (.bool false))))])
  (.seq (.ops [i 7 (.p (.mov (.t 0))), i 8 (.call (.dir 150) [(.t 7), (.c (.int .i64 2))] false), i 6 (.p (.mov (.t 8))), i 9 (.p (.ext 0 (.t 6))), i 10 (.p (.ext 1 (.t 6))), i 4 (.p (.mov (.t 9))), i 5 (.p (.mov (.t 10)))])
   (.seq (.ops [i 11 (.p (.mov (.t 4))), i 12 (.p (.mov (.t 5))), i 13 (.p (.bin .eql (.t 12) (.c (.int .i64 2)))), i 2 (.p (.mov (.t 11))), i 3 (.p (.mov (.t 13)))])
    .ret)))
def f118 : IFn := ⟨false, 14, [.tm 2, .tm 3], b118⟩
def b119 : IC :=
  (.seq (.ops [i 6 (.p (.mov (.c .nils))), i 7 (.p (.mov (.c (.bool false))))])
  (.seq (.ops [i 8 (.p (.mov (.c .nils)))])
   (.seq (.block 0
     (.loop
      (.seq (.seq (.ops [i 12 (.p (.mov (.t 0))), i 13 (.p (.mov (.t 1))), i 14 (.call (.dir 117) [(.t 12), (.t 13)] false), i 15 (.p (.un .not (.t 14)))])
        (.cond (.t 15)
         .skip
         (.exit 0)))
       (.block 1
        (.seq (.ops [i 17 (.p (.mov (.t 2))), i 18 (.p (.mov (.t 0))), i 19 (.call (.val (.t 17)) [(.t 18)] false), i 16 (.p (.mov (.t 19))), i 20 (.p (.ext 0 (.t 16))), i 21 (.p (.ext 1 (.t 16))), i 9 (.p (.mov (.t 20))), i 10 (.p (.mov (.t 21)))])
         (.seq (.ops [i 22 (.p (.mov (.t 9))), i 11 (.p (.mov (.t 22)))])
          (.seq (.seq (.ops [i 23 (.p (.mov (.t 10))), i 24 (.p (.mov (.t 23))), ⟨some 25, some (24, true), .p (.mov (.t 0))⟩, ⟨some 26, some (24, true), .call (.dir 117) [(.t 25), (.c (.int .u8 45))] false⟩, i 27 (.p (.pick (.t 24) (.t 26) (.c (.bool false))))])
            (.cond (.t 27)
             (.ops [i 29 (.p (.mov (.t 2))), i 30 (.p (.mov (.t 0))), i 31 (.call (.val (.t 29)) [(.t 30)] false), i 28 (.p (.mov (.t 31))), i 32 (.p (.ext 0 (.t 28))), i 33 (.p (.ext 1 (.t 28))), i 11 (.p (.mov (.t 32))), i 10 (.p (.mov (.t 33)))])
             .skip))
           (.seq (.seq (.ops [i 34 (.p (.mov (.t 10))), i 35 (.p (.un .not (.t 34))), i 36 (.p (.mov (.t 35))), ⟨some 37, some (36, false), .p (.mov (.t 11))⟩, ⟨some 38, some (36, false), .p (.mov (.t 9))⟩, ⟨some 39, some (36, false), .p (.bin .lss (.t 37) (.t 38))⟩, i 40 (.p (.pick (.t 36) (.c (.bool true)) (.t 39)))])
             (.cond (.t 40)
              (.seq (.ops [i 6 (.p (.mov (.c .nils))), i 7 (.p (.mov (.c (.bool false))))])
               .ret)
              .skip))
            (.ops [i 41 (.p (.mov (.t 8))), i 42 (.p (.mov (.t 9))), i 43 (.p (.mov (.t 11))), i 44 (.p (.build [.int .i64 0, .int .i64 0] [(0, 1, (.t 42)), (1, 1, (.t 43))])), i 45 (.a (.bslice true [.int .i64 0, .int .i64 0] 1 [(0, (.t 44))]) none), i 46 (.w (.append 2 16 (.t 41) (.t 45))), i 8 (.p (.mov (.t 46)))])))))))))
    (.seq (.ops [i 47 (.p (.mov (.t 8))), i 48 (.call (.dir 151) [(.t 47)] false), i 6 (.p (.mov (.t 48))), i 7 (.p (.mov (.c (.bool true))))])
     .ret))))
def f119 : IFn := ⟨false, 49, [.tm 6, .tm 7], b119⟩
def b120 : IC :=
  (.seq (.ops [i 2 (.p (.mov (.c (.int .i64 0)))), i 3 (.p (.mov (.c (.bool false))))])
  (.seq (.seq (.ops [i 8 (.p (.mov (.t 0))), i 9 (.call (.dir 117) [(.t 8), (.c (.int .u8 92))] false)])
    (.cond (.t 9)
     (.seq (.seq (.ops [i 10 (.p (.mov (.t 0))), i 11 (.call (.dir 117) [(.t 10), (.c (.int .u8 117))] false), i 12 (.p (.un .not (.t 11)))])
       (.cond (.t 12)
        (.seq (.ops [i 2 (.p (.mov (.c (.int .i64 0)))), i 3 (.p (.mov (.c (.bool false))))])
         .ret)
        .skip))
      (.seq (.ops [i 14 (.p (.mov (.t 0))), i 15 (.call (.dir 150) [(.t 14), (.c (.int .i64 6))] false), i 13 (.p (.mov (.t 15))), i 16 (.p (.ext 0 (.t 13))), i 17 (.p (.ext 1 (.t 13))), i 4 (.p (.mov (.t 16))), i 5 (.p (.mov (.t 17)))])
       (.seq (.ops [i 18 (.p (.mov (.t 4))), i 19 (.p (.mov (.t 5))), i 20 (.p (.bin .gtr (.t 19) (.c (.int .i64 0)))), i 21 (.p (.mov (.t 20))), ⟨some 22, some (21, true), .p (.mov (.t 4))⟩, ⟨some 23, some (21, true), .call (.dir 152) [(.t 22)] false⟩, i 24 (.p (.pick (.t 21) (.t 23) (.c (.bool false)))), i 25 (.p (.mov (.t 24))), ⟨some 26, some (25, true), .p (.mov (.t 0))⟩, ⟨some 27, some (25, true), .call (.dir 117) [(.t 26), (.c (.int .u8 59))] false⟩, i 28 (.p (.pick (.t 25) (.t 27) (.c (.bool false)))), i 2 (.p (.mov (.t 18))), i 3 (.p (.mov (.t 28)))])
        .ret)))
     .skip))
   (.seq (.dops 0 [] [i 30 (.p (.mov (.t 0))), i 31 (.p (.nilc (.t 30))), i 32 (.p (.faddr 0 (.t 31))), i 33 (.r (.load none (.t 32))), i 34 (.p (.mov (.t 0))), i 35 (.p (.nilc (.t 34))), i 36 (.p (.faddr 1 (.t 35))), i 37 (.r (.load none (.t 36))), i 38 (.p (.sliceS (.t 33) (some (.t 37)) none)), i 39 (.a (.s2b true (.t 38)) none), i 40 (.call (.dir 153) [(.t 39), (.c (.int .i64 0))] false), i 29 (.p (.mov (.t 40))), i 41 (.p (.ext 0 (.t 29))), i 42 (.p (.ext 1 (.t 29))), i 6 (.p (.mov (.t 41))), i 7 (.p (.mov (.t 42)))])
    (.seq (.ops [i 43 (.p (.mov (.t 0))), i 44 (.p (.nilc (.t 43))), i 45 (.p (.faddr 1 (.t 44))), i 46 (.r (.load none (.t 45))), i 47 (.p (.mov (.t 7))), i 48 (.p (.bin .add (.t 46) (.t 47))), i 49 (.p (.nilc (.t 43))), i 50 (.p (.faddr 1 (.t 49))), n (.w (.store 1 (.t 50) (.t 48)))])
     (.seq (.ops [i 51 (.p (.mov (.t 6))), i 52 (.p (.mov (.t 6))), i 53 (.p (.bin .geq (.t 52) (.c (.int .i64 32)))), i 54 (.p (.mov (.t 53))), ⟨some 55, some (54, true), .p (.mov (.t 6))⟩, ⟨some 56, some (54, true), .p (.ci .i32 (.t 55))⟩, ⟨some 57, some (54, true), .call (.dir 125) [(.c (.str [91, 93, 94, 45, 92])), (.t 56)] false⟩, ⟨some 58, some (54, true), .p (.un .not (.t 57))⟩, i 59 (.p (.pick (.t 54) (.t 58) (.c (.bool false)))), i 2 (.p (.mov (.t 51))), i 3 (.p (.mov (.t 59)))])
      .ret)))))
def f120 : IFn := ⟨false, 60, [.tm 2, .tm 3], b120⟩
def b121 : IC :=
  (.seq (.ops [i 4 (.p (.mov (.c .nils)))])
  (.seq (.seq (.ops [i 5 (.p (.mov (.t 1))), i 6 (.p (.bin .lss (.t 5) (.c (.int .i64 0))))])
    (.cond (.t 6)
     (.seq (.ops [i 4 (.p (.mov (.c .nils)))])
      .ret)
     .skip))
   (.seq (.ops [i 7 (.p (.mov (.t 1))), i 8 (.p (.min (.t 7) [(.c (.int .i64 1114111))])), i 9 (.p (.build [.int .i64 0, .int .i64 0] [(0, 1, (.c (.int .i64 0))), (1, 1, (.t 8))])), i 10 (.a (.bslice true [.int .i64 0, .int .i64 0] 1 [(0, (.t 9))]) none), i 11 (.p (.mov (.t 0))), i 12 (.call (.dir 122) [(.t 10), (.t 11)] false), i 4 (.p (.mov (.t 12)))])
    .ret)))
def f121 : IFn := ⟨false, 13, [.tm 4], b121⟩
def b122 : IC :=
  (.seq (.ops [i 4 (.p (.mov (.c .nils)))])
  (.seq (.ops [i 5 (.p (.mov (.t 0))), i 6 (.p (.mov (.t 1))), i 7 (.call (.dir 154) [(.t 5), (.t 6), (.c (.fn 155 [] []))] false), i 4 (.p (.mov (.t 7)))])
   .ret))
def f122 : IFn := ⟨true, 8, [.tm 4], b122⟩
def b123 : IC :=
  (.seq (.ops [i 4 (.p (.mov (.c (.bool false))))])
  (.seq (.ops [i 5 (.p (.mov (.t 0))), i 6 (.p (.mov (.t 1))), i 7 (.p (.nilc (.t 5))), i 8 (.p (.iaddrA 256 1 (.t 7) (.t 6))), i 9 (.r (.load none (.t 8))), i 4 (.p (.mov (.t 9)))])
   .ret))
def f123 : IFn := ⟨false, 10, [.tm 4], b123⟩
def b124 : IC :=
  (.seq (.ops [i 2 (.p (.mov (.c (.int .i32 0)))), i 3 (.p (.mov (.c (.int .i64 0))))])
  (.seq (.seq (.ops [i 4 (.p (.mov (.t 0))), i 5 (.p (.bin .neq (.t 4) (.c (.str [])))), i 6 (.p (.mov (.t 5))), ⟨some 7, some (6, true), .p (.mov (.t 0))⟩, ⟨some 8, some (6, true), .p (.idxS (.t 7) (.c (.int .i64 0)))⟩, ⟨some 9, some (6, true), .p (.bin .lss (.t 8) (.c (.int .u8 128)))⟩, i 10 (.p (.pick (.t 6) (.t 9) (.c (.bool false))))])
    (.cond (.t 10)
     (.seq (.ops [i 11 (.p (.mov (.t 0))), i 12 (.p (.idxS (.t 11) (.c (.int .i64 0)))), i 13 (.p (.ci .i32 (.t 12))), i 2 (.p (.mov (.t 13))), i 3 (.p (.mov (.c (.int .i64 1))))])
      .ret)
     (.ops [i 15 (.p (.mov (.t 0))), i 16 (.call (.dir 156) [(.t 15)] false), i 14 (.p (.mov (.t 16))), i 17 (.p (.ext 0 (.t 14))), i 18 (.p (.ext 1 (.t 14))), i 2 (.p (.mov (.t 17))), i 3 (.p (.mov (.t 18)))])))
   .ret))
def f124 : IFn := ⟨false, 19, [.tm 2, .tm 3], b124⟩
def b125 : IC :=
  (.seq (.ops [i 4 (.p (.mov (.c (.bool false))))])
  (.seq (.ops [i 5 (.p (.mov (.t 0))), i 6 (.p (.mov (.t 1))), i 7 (.call (.dir 157) [(.t 5), (.t 6)] false), i 8 (.p (.bin .geq (.t 7) (.c (.int .i64 0)))), i 4 (.p (.mov (.t 8)))])
   .ret))
def f125 : IFn := ⟨false, 9, [.tm 4], b125⟩
def b126 : IC :=
  (.seq (.ops [i 4 (.p (.mov (.c (.bool false))))])
  (.seq (.ops [i 5 (.p (.mov (.t 0))), i 6 (.p (.bin .geq (.t 5) (.c (.int .i32 97)))), i 7 (.p (.mov (.t 6))), ⟨some 8, some (7, true), .p (.mov (.t 0))⟩, ⟨some 9, some (7, true), .p (.bin .leq (.t 8) (.c (.int .i32 122)))⟩, i 10 (.p (.pick (.t 7) (.t 9) (.c (.bool false)))), i 11 (.p (.mov (.t 10))), ⟨some 12, some (11, false), .p (.mov (.t 1))⟩, ⟨some 13, some (11, false), .p (.mov (.t 12))⟩, ⟨some 14, some (13, true), .p (.mov (.t 0))⟩, ⟨some 15, some (13, true), .p (.bin .geq (.t 14) (.c (.int .i32 48)))⟩, ⟨some 16, some (13, true), .p (.mov (.t 15))⟩, ⟨some 17, some (16, true), .p (.mov (.t 0))⟩, ⟨some 18, some (16, true), .p (.bin .leq (.t 17) (.c (.int .i32 57)))⟩, ⟨some 19, some (13, true), .p (.pick (.t 16) (.t 18) (.c (.bool false)))⟩, ⟨some 20, some (13, true), .p (.mov (.t 19))⟩, ⟨some 21, some (20, false), .p (.mov (.t 0))⟩, ⟨some 22, some (20, false), .p (.bin .eql (.t 21) (.c (.int .i32 95)))⟩, ⟨some 23, some (13, true), .p (.pick (.t 20) (.c (.bool true)) (.t 22))⟩, ⟨some 24, some (11, false), .p (.pick (.t 13) (.t 23) (.c (.bool false)))⟩, i 25 (.p (.pick (.t 11) (.c (.bool true)) (.t 24))), i 4 (.p (.mov (.t 25)))])
   .ret))
def f126 : IFn := ⟨false, 26, [.tm 4], b126⟩
def b127 : IC :=
  (.seq (.ops [i 2 (.a (.alloc [.int .i64 0, .str [], .nils, .nils, .int .i64 0]) none), i 3 (.p (.mov (.c (.bool false))))])
  (.seq (.seq (.ops [i 6 (.p (.mov (.t 0))), i 7 (.p (.nilc (.t 6))), i 8 (.p (.faddr 0 (.t 7))), i 9 (.r (.load none (.t 8))), i 10 (.r (.len .sl (.t 9))), i 11 (.p (.bin .eql (.t 10) (.c (.int .i64 0))))])
    (.cond (.t 11)
     (.seq (.ops [i 12 (.p (.build [.int .i64 0, .str [], .nils, .nils, .int .i64 0] [])), n (.w (.store 5 (.t 2) (.t 12))), i 3 (.p (.mov (.c (.bool false))))])
      .ret)
     .skip))
   (.seq (.dops 0 [(4, 0), (7, 0)] [i 14 (.call (.dir 158) [] false), i 15 (.p (.mov (.t 0))), i 16 (.p (.nilc (.t 15))), i 17 (.p (.faddr 0 (.t 16))), i 18 (.r (.load none (.t 17))), i 19 (.p (.iaddr 4 (.t 18) (.c (.int .i64 0)))), i 20 (.p (.faddr 0 (.t 19))), i 21 (.r (.load none (.t 20))), i 22 (.r (.lookup (.one .int) .nilf true (.t 14) (.t 21))), i 13 (.p (.mov (.t 22))), i 23 (.p (.ext 0 (.t 13))), i 24 (.p (.ext 1 (.t 13))), i 4 (.p (.mov (.t 23))), i 5 (.p (.mov (.t 24)))])
    (.seq (.seq (.ops [i 25 (.p (.mov (.t 5))), i 26 (.p (.un .not (.t 25)))])
      (.cond (.t 26)
       (.seq (.ops [i 27 (.p (.build [.int .i64 0, .str [], .nils, .nils, .int .i64 0] [])), n (.w (.store 5 (.t 2) (.t 27))), i 3 (.p (.mov (.c (.bool false))))])
        .ret)
       .skip))
     (.seq (.ops [i 28 (.p (.mov (.t 4))), i 29 (.p (.mov (.t 0))), i 30 (.call (.val (.t 28)) [(.t 29)] false), i 31 (.p (.ext 0 (.t 30))), i 32 (.p (.ext 1 (.t 30))), n (.w (.store 5 (.t 2) (.t 31))), i 3 (.p (.mov (.t 32)))])
      .ret)))))
def f127 : IFn := ⟨false, 33, [.cell (some 5) 2, .tm 3], b127⟩
def b128 : IC :=
  (.seq (.ops [i 3 (.a (.box 5 (.t 1)) none), i 4 (.a (.alloc [.int .i64 0, .str [], .nils, .nils, .int .i64 0]) none)])
  (.seq (.seq (.ops [i 7 (.p (.build [.str [], .int .i64 0] [(0, 1, (.c (.str [42]))), (1, 1, (.c (.int .i64 6)))])), i 8 (.p (.build [.str [], .int .i64 0] [(0, 1, (.c (.str [43]))), (1, 1, (.c (.int .i64 7)))])), i 9 (.p (.build [.str [], .int .i64 0] [(0, 1, (.c (.str [63]))), (1, 1, (.c (.int .i64 8)))])), i 10 (.a (.bslice true [.str [], .int .i64 0] 3 [(0, (.t 7)), (1, (.t 8)), (2, (.t 9))]) none), i 11 (.r (.len .sl (.t 10))), i 12 (.p (.mov (.c (.int .i64 0))))])
    (.block 0
     (.loop
      (.seq (.ops [i 13 (.p (.bin .lss (.t 12) (.t 11)))])
       (.seq (.cond (.t 13)
         .skip
         (.exit 0))
        (.seq (.block 1
          (.seq (.ops [i 14 (.p (.iaddr 2 (.t 10) (.t 12))), i 15 (.r (.load (some 2) (.t 14))), i 6 (.a (.alloc [.str [], .int .i64 0]) none), n (.w (.store 2 (.t 6) (.t 15)))])
           (.seq (.ops [i 16 (.p (.mov (.t 0))), i 17 (.p (.faddr 0 (.t 6))), i 18 (.r (.load none (.t 17))), i 19 (.call (.dir 47) [(.t 16), (.t 18)] false)])
            (.cond (.t 19)
             (.seq (.ops [i 20 (.p (.faddr 1 (.t 6))), i 21 (.r (.load none (.t 20))), i 22 (.r (.load (some 5) (.t 3))), i 23 (.a (.bslice true [.int .i64 0, .str [], .nils, .nils, .int .i64 0] 1 [(0, (.t 22))]) none), i 24 (.p (.faddr 4 (.t 3))), i 25 (.r (.load none (.t 24))), i 26 (.p (.build [.int .i64 0, .str [], .nils, .nils, .int .i64 0] [(0, 1, (.t 21)), (3, 1, (.t 23)), (4, 1, (.t 25))])), n (.w (.store 5 (.t 4) (.t 26)))])
              .ret)
             .skip))))
         (.ops [i 27 (.p (.bin .add (.t 12) (.c (.int .i64 1)))), i 12 (.p (.mov (.t 27)))])))))))
   (.seq (.ops [i 28 (.r (.load (some 5) (.t 3))), n (.w (.store 5 (.t 4) (.t 28)))])
    .ret)))
def f128 : IFn := ⟨false, 29, [.cell (some 5) 4], b128⟩
def b129 : IC :=
  (.seq (.ops [i 4 (.a (.alloc [.int .i64 0, .nils, .int .i64 0]) none)])
  (.seq (.ops [i 5 (.p (.mov (.t 0))), i 6 (.p (.mov (.t 1))), i 7 (.call (.dir 29) [(.t 6)] false), i 8 (.p (.build [.int .i64 0, .nils, .int .i64 0] [(0, 1, (.t 5)), (1, 1, (.t 7))])), n (.w (.store 3 (.t 4) (.t 8)))])
   .ret))
def f129 : IFn := ⟨false, 9, [.cell (some 3) 4], b129⟩
def b130 : IC :=
  (.seq (.ops [i 4 (.p (.mov (.c (.int .i64 0))))])
  (.seq (.seq (.ops [i 6 (.p (.mov (.t 0))), i 7 (.r (.len .sl (.t 6))), i 8 (.p (.mov (.c (.int .i64 0))))])
    (.block 0
     (.loop
      (.seq (.ops [i 9 (.p (.bin .lss (.t 8) (.t 7)))])
       (.seq (.cond (.t 9)
         .skip
         (.exit 0))
        (.seq (.block 1
          (.seq (.ops [i 10 (.p (.mov (.t 8))), i 5 (.p (.mov (.t 10)))])
           (.seq (.ops [i 11 (.p (.mov (.t 1))), i 12 (.p (.mov (.t 0))), i 13 (.p (.mov (.t 5))), i 14 (.p (.iaddr 2 (.t 12) (.t 13))), i 15 (.r (.load (some 2) (.t 14))), i 16 (.call (.val (.t 11)) [(.t 15)] false)])
            (.cond (.t 16)
             (.seq (.ops [i 17 (.p (.mov (.t 5))), i 4 (.p (.mov (.t 17)))])
              .ret)
             .skip))))
         (.ops [i 18 (.p (.bin .add (.t 8) (.c (.int .i64 1)))), i 8 (.p (.mov (.t 18)))])))))))
   (.seq (.ops [i 4 (.p (.mov (.c (.int .i64 (-1)))))])
    .ret)))
def f130 : IFn := ⟨true, 19, [.tm 4], b130⟩
def b131 : IC :=
  (.seq (.ops [i 1 (.a (.box 2 (.t 0)) none), i 2 (.p (.mov (.c .nilp)))])
  (.seq (.dops 3 [(1, 0), (2, 0), (5, 0), (6, 0)] [i 8 (.p (.faddr 0 (.t 1))), i 9 (.r (.load none (.t 8))), i 10 (.r (.len .sl (.t 9))), i 11 (.a (.mks [.int .i64 0] 8 (.t 10) (.t 10)) (some 0)), i 12 (.p (.faddr 0 (.t 1))), i 13 (.r (.load none (.t 12))), i 14 (.r (.len .sl (.t 13))), i 15 (.a (.mks [.nils] 24 (.t 14) (.t 14)) (some 1)), i 16 (.p (.build [.nils, .nils] [(0, 1, (.t 11)), (1, 1, (.t 15))])), i 17 (.a (.box 2 (.t 16)) (some 2)), i 3 (.p (.mov (.t 17)))])
   (.seq (.seq (.ops [i 18 (.p (.faddr 0 (.t 1))), i 19 (.r (.load none (.t 18))), i 20 (.r (.len .sl (.t 19))), i 21 (.p (.mov (.c (.int .i64 0))))])
     (.block 0
      (.loop
       (.seq (.ops [i 22 (.p (.bin .lss (.t 21) (.t 20)))])
        (.seq (.cond (.t 22)
          .skip
          (.exit 0))
         (.seq (.block 1
           (.seq (.ops [i 23 (.p (.mov (.t 21))), i 4 (.p (.mov (.t 23)))])
            (.seq (.ops [i 24 (.r (.load (some 2) (.t 1))), i 25 (.p (.mov (.t 4))), i 26 (.call (.dir 133) [(.t 24), (.t 25)] false), i 5 (.p (.mov (.t 26)))])
             (.seq (.ops [i 27 (.p (.mov (.t 3))), i 28 (.p (.nilc (.t 27))), i 29 (.p (.faddr 0 (.t 28))), i 30 (.r (.load none (.t 29))), i 31 (.p (.mov (.t 4))), i 32 (.p (.mov (.t 5))), i 33 (.r (.len .sl (.t 32))), i 34 (.p (.iaddr 1 (.t 30) (.t 31))), n (.w (.store 1 (.t 34) (.t 33)))])
              (.seq (.ops [i 35 (.p (.mov (.t 5))), i 36 (.r (.len .sl (.t 35))), i 37 (.p (.mov (.c (.int .i64 0))))])
               (.block 2
                (.loop
                 (.seq (.ops [i 38 (.p (.bin .lss (.t 37) (.t 36)))])
                  (.seq (.cond (.t 38)
                    .skip
                    (.exit 2))
                   (.seq (.block 3
                     (.seq (.ops [i 39 (.p (.iaddr 1 (.t 35) (.t 37))), i 40 (.r (.load none (.t 39))), i 7 (.p (.mov (.t 40)))])
                      (.dops 0 [(3, 15)] [i 41 (.p (.mov (.t 3))), i 42 (.p (.nilc (.t 41))), i 43 (.p (.faddr 1 (.t 42))), i 44 (.r (.load none (.t 43))), i 45 (.p (.mov (.t 7))), i 46 (.p (.mov (.t 3))), i 47 (.p (.nilc (.t 46))), i 48 (.p (.faddr 1 (.t 47))), i 49 (.r (.load none (.t 48))), i 50 (.p (.mov (.t 7))), i 51 (.p (.iaddr 1 (.t 49) (.t 50))), i 52 (.r (.load none (.t 51))), i 53 (.p (.mov (.t 4))), i 54 (.a (.bslice true [.int .i64 0] 1 [(0, (.t 53))]) none), i 55 (.w (.append 1 8 (.t 52) (.t 54))), i 56 (.p (.iaddr 1 (.t 44) (.t 45))), n (.w (.store 1 (.t 56) (.t 55)))])))
                    (.ops [i 57 (.p (.bin .add (.t 37) (.c (.int .i64 1)))), i 37 (.p (.mov (.t 57)))])))))))))))
          (.ops [i 58 (.p (.bin .add (.t 21) (.c (.int .i64 1)))), i 21 (.p (.mov (.t 58)))])))))))
    (.seq (.ops [i 59 (.p (.mov (.t 3))), i 2 (.p (.mov (.t 59)))])
     .ret))))
def f131 : IFn := ⟨false, 60, [.tm 2], b131⟩
def b132 : IC :=
  (.seq (.ops [i 2 (.p (.mov (.c .nils)))])
  (.seq (.ops [i 3 (.a (.alloc [.nils]) none)])
   (.seq (.ops [i 11 (.p (.mkf 159 [(.t 3)] [])), i 4 (.p (.mov (.t 11)))])
    (.seq (.seq (.ops [i 12 (.p (.mov (.t 0))), i 13 (.p (.nilc (.t 12))), i 14 (.p (.faddr 0 (.t 13))), i 15 (.r (.load none (.t 14))), i 16 (.r (.len .sl (.t 15))), i 17 (.p (.mov (.c (.int .i64 0))))])
      (.block 0
       (.loop
        (.seq (.ops [i 18 (.p (.bin .lss (.t 17) (.t 16)))])
         (.seq (.cond (.t 18)
           .skip
           (.exit 0))
          (.seq (.block 1
            (.seq (.ops [i 19 (.p (.mov (.t 17))), i 20 (.p (.iaddr 1 (.t 15) (.t 17))), i 21 (.r (.load none (.t 20))), i 5 (.p (.mov (.t 19))), i 6 (.p (.mov (.t 21)))])
             (.seq (.ops [i 22 (.p (.mov (.t 6))), i 23 (.p (.bin .eql (.t 22) (.c (.int .i64 0))))])
              (.cond (.t 23)
               (.ops [i 24 (.p (.mov (.t 4))), i 25 (.p (.mov (.t 5))), i 26 (.call (.val (.t 24)) [(.t 25)] false)])
               .skip))))
           (.ops [i 27 (.p (.bin .add (.t 17) (.c (.int .i64 1)))), i 17 (.p (.mov (.t 27)))])))))))
     (.seq (.ops [i 7 (.p (.mov (.c .nils)))])
      (.seq (.block 2
        (.loop
         (.seq (.seq (.ops [i 28 (.call (.dir 160) [(.t 3)] false), i 29 (.p (.bin .gtr (.t 28) (.c (.int .i64 0))))])
           (.cond (.t 29)
            .skip
            (.exit 2)))
          (.block 3
           (.seq (.ops [i 30 (.call (.dir 161) [(.t 3)] false), i 8 (.p (.mov (.t 30)))])
            (.seq (.ops [i 31 (.p (.mov (.t 7))), i 32 (.p (.mov (.t 8))), i 33 (.a (.bslice true [.int .i64 0] 1 [(0, (.t 32))]) none), i 34 (.w (.append 1 8 (.t 31) (.t 33))), i 7 (.p (.mov (.t 34)))])
             (.seq (.ops [i 35 (.p (.mov (.t 0))), i 36 (.p (.nilc (.t 35))), i 37 (.p (.faddr 1 (.t 36))), i 38 (.r (.load none (.t 37))), i 39 (.p (.mov (.t 8))), i 40 (.p (.iaddr 1 (.t 38) (.t 39))), i 41 (.r (.load none (.t 40))), i 42 (.r (.len .sl (.t 41))), i 43 (.p (.mov (.c (.int .i64 0))))])
              (.block 4
               (.loop
                (.seq (.ops [i 44 (.p (.bin .lss (.t 43) (.t 42)))])
                 (.seq (.cond (.t 44)
                   .skip
                   (.exit 4))
                  (.seq (.block 5
                    (.seq (.ops [i 45 (.p (.iaddr 1 (.t 41) (.t 43))), i 46 (.r (.load none (.t 45))), i 10 (.p (.mov (.t 46)))])
                     (.seq (.ops [i 47 (.p (.mov (.t 0))), i 48 (.p (.nilc (.t 47))), i 49 (.p (.faddr 0 (.t 48))), i 50 (.r (.load none (.t 49))), i 51 (.p (.mov (.t 10))), i 52 (.p (.iaddr 1 (.t 50) (.t 51))), i 53 (.r (.load none (.t 52))), i 54 (.p (.bin .sub (.t 53) (.c (.int .i64 1)))), i 55 (.p (.iaddr 1 (.t 50) (.t 51))), n (.w (.store 1 (.t 55) (.t 54)))])
                      (.seq (.ops [i 56 (.p (.mov (.t 0))), i 57 (.p (.nilc (.t 56))), i 58 (.p (.faddr 0 (.t 57))), i 59 (.r (.load none (.t 58))), i 60 (.p (.mov (.t 10))), i 61 (.p (.iaddr 1 (.t 59) (.t 60))), i 62 (.r (.load none (.t 61))), i 63 (.p (.bin .eql (.t 62) (.c (.int .i64 0))))])
                       (.cond (.t 63)
                        (.ops [i 64 (.p (.mov (.t 4))), i 65 (.p (.mov (.t 10))), i 66 (.call (.val (.t 64)) [(.t 65)] false)])
                        .skip)))))
                   (.ops [i 67 (.p (.bin .add (.t 43) (.c (.int .i64 1)))), i 43 (.p (.mov (.t 67)))])))))))))))))
       (.seq (.ops [i 68 (.p (.mov (.t 7))), i 2 (.p (.mov (.t 68)))])
        .ret)))))))
def f132 : IFn := ⟨false, 69, [.tm 2], b132⟩
def b133 : IC :=
  (.seq (.ops [i 2 (.a (.box 2 (.t 0)) none), i 4 (.p (.mov (.c .nils)))])
  (.seq (.seq (.ops [i 11 (.r (.load (some 2) (.t 2))), i 12 (.call (.dir 32) [(.t 11)] false), i 13 (.p (.un .not (.t 12))), i 14 (.p (.mov (.t 13))), ⟨some 15, some (14, false), .p (.mov (.t 1))⟩, ⟨some 16, some (14, false), .p (.bin .lss (.t 15) (.c (.int .i64 0)))⟩, i 17 (.p (.pick (.t 14) (.c (.bool true)) (.t 16))), i 18 (.p (.mov (.t 17))), ⟨some 19, some (18, false), .p (.mov (.t 1))⟩, ⟨some 20, some (18, false), .p (.faddr 0 (.t 2))⟩, ⟨some 21, some (18, false), .r (.load none (.t 20))⟩, ⟨some 22, some (18, false), .r (.len .sl (.t 21))⟩, ⟨some 23, some (18, false), .p (.bin .geq (.t 19) (.t 22))⟩, i 24 (.p (.pick (.t 18) (.c (.bool true)) (.t 23)))])
    (.cond (.t 24)
     (.seq (.ops [i 4 (.p (.mov (.c .nils)))])
      .ret)
     .skip))
   (.seq (.ops [i 25 (.r (.load (some 2) (.t 2))), i 26 (.call (.dir 162) [(.t 25)] false), i 5 (.p (.mov (.t 26)))])
    (.seq (.ops [i 6 (.p (.mov (.c .nils)))])
     (.seq (.seq (.ops [i 27 (.p (.faddr 0 (.t 2))), i 28 (.r (.load none (.t 27))), i 29 (.p (.mov (.t 1))), i 30 (.p (.iaddr 3 (.t 28) (.t 29))), i 31 (.p (.faddr 0 (.t 30))), i 32 (.r (.load none (.t 31))), i 33 (.r (.len .sl (.t 32))), i 34 (.p (.mov (.c (.int .i64 0))))])
       (.block 0
        (.loop
         (.seq (.ops [i 35 (.p (.bin .lss (.t 34) (.t 33)))])
          (.seq (.cond (.t 35)
            .skip
            (.exit 0))
           (.seq (.block 1
             (.seq (.ops [i 36 (.p (.iaddr 1 (.t 32) (.t 34))), i 37 (.r (.load none (.t 36))), i 8 (.p (.mov (.t 37)))])
              (.seq (.ops [i 38 (.p (.mov (.t 8))), i 39 (.r (.len .sl (.t 38))), i 40 (.p (.mov (.c (.int .i64 0))))])
               (.block 2
                (.loop
                 (.seq (.ops [i 41 (.p (.bin .lss (.t 40) (.t 39)))])
                  (.seq (.cond (.t 41)
                    .skip
                    (.exit 2))
                   (.seq (.block 3
                     (.seq (.ops [i 42 (.p (.mov (.t 40))), i 43 (.p (.iaddr 3 (.t 38) (.t 40))), i 44 (.r (.load (some 3) (.t 43))), i 10 (.a (.alloc [.int .i64 0, .nils, .int .i64 0]) none), i 9 (.p (.mov (.t 42))), n (.w (.store 3 (.t 10) (.t 44)))])
                      (.seq (.ops [i 45 (.p (.faddr 0 (.t 10))), i 46 (.r (.load none (.t 45))), i 47 (.p (.bin .eql (.t 46) (.c (.int .i64 2)))), i 48 (.p (.mov (.t 47))), ⟨some 49, some (48, true), .p (.mov (.t 5))⟩, ⟨some 50, some (48, true), .p (.mov (.t 8))⟩, ⟨some 51, some (48, true), .p (.mov (.t 9))⟩, ⟨some 52, some (48, true), .p (.slice 3 (.t 50) none (some (.t 51)) none)⟩, ⟨some 53, some (48, true), .call (.dir 163) [(.t 49), (.t 52)] false⟩, i 54 (.p (.pick (.t 48) (.t 53) (.c (.bool false))))])
                       (.cond (.t 54)
                        (.ops [i 55 (.p (.mov (.t 6))), i 56 (.p (.faddr 2 (.t 10))), i 57 (.r (.load none (.t 56))), i 58 (.a (.bslice true [.int .i64 0] 1 [(0, (.t 57))]) none), i 59 (.w (.append 1 8 (.t 55) (.t 58))), i 6 (.p (.mov (.t 59)))])
                        .skip))))
                    (.ops [i 60 (.p (.bin .add (.t 40) (.c (.int .i64 1)))), i 40 (.p (.mov (.t 60)))])))))))))
            (.ops [i 61 (.p (.bin .add (.t 34) (.c (.int .i64 1)))), i 34 (.p (.mov (.t 61)))])))))))
      (.seq (.ops [i 62 (.p (.mov (.t 6))), i 63 (.call (.dir 105) [(.t 62)] false)])
       (.seq (.ops [i 64 (.p (.mov (.t 6))), i 65 (.call (.dir 106) [(.t 64)] false), i 4 (.p (.mov (.t 65)))])
        .ret)))))))
def f133 : IFn := ⟨true, 66, [.tm 4], b133⟩
def b134 : IC :=
  (.seq (.ops [i 7 (.r (.load none (.t 1))), i 8 (.p (.mov (.t 0))), n (.w (.del (.one .int) (.t 7) (.t 8)))])
  (.seq (.ops [i 9 (.p (.faddr 0 (.t 2))), i 10 (.r (.load none (.t 9))), i 11 (.p (.mov (.t 0))), i 12 (.p (.iaddr 3 (.t 10) (.t 11))), i 13 (.p (.faddr 0 (.t 12))), i 14 (.r (.load none (.t 13))), i 15 (.call (.dir 135) [(.t 14)] false), i 16 (.r (.len .sl (.t 15))), i 17 (.p (.mov (.c (.int .i64 0))))])
   (.block 0
    (.loop
     (.seq (.ops [i 18 (.p (.bin .lss (.t 17) (.t 16)))])
      (.seq (.cond (.t 18)
        .skip
        (.exit 0))
       (.seq (.block 1
         (.seq (.ops [i 19 (.p (.iaddr 3 (.t 15) (.t 17))), i 20 (.r (.load (some 3) (.t 19))), i 6 (.a (.alloc [.int .i64 0, .nils, .int .i64 0]) none), n (.w (.store 3 (.t 6) (.t 20)))])
          (.seq (.ops [i 21 (.p (.faddr 0 (.t 6))), i 22 (.r (.load none (.t 21))), i 23 (.p (.bin .eql (.t 22) (.c (.int .i64 2)))), i 24 (.p (.mov (.t 23))), ⟨some 25, some (24, true), .r (.load none (.t 3))⟩, ⟨some 26, some (24, true), .p (.faddr 2 (.t 6))⟩, ⟨some 27, some (24, true), .r (.load none (.t 26))⟩, ⟨some 28, some (24, true), .p (.iaddr 1 (.t 25) (.t 27))⟩, ⟨some 29, some (24, true), .r (.load none (.t 28))⟩, ⟨some 30, some (24, true), .p (.un .not (.t 29))⟩, i 31 (.p (.pick (.t 24) (.t 30) (.c (.bool false))))])
           (.cond (.t 31)
            (.dops 0 [(3, 8), (5, 8)] [i 32 (.r (.load none (.t 3))), i 33 (.p (.faddr 2 (.t 6))), i 34 (.r (.load none (.t 33))), i 35 (.r (.load none (.t 1))), i 36 (.p (.faddr 2 (.t 6))), i 37 (.r (.load none (.t 36))), i 38 (.p (.iaddr 1 (.t 32) (.t 34))), n (.w (.store 1 (.t 38) (.c (.bool true)))), n (.w (.mupd (.one .int) (.t 35) (.t 37) (.c (.bool true))))])
            .skip))))
        (.ops [i 39 (.p (.bin .add (.t 17) (.c (.int .i64 1)))), i 17 (.p (.mov (.t 39)))]))))))))
def f134 : IFn := ⟨false, 40, [], b134⟩
def b135 : IC :=
  (.seq (.ops [i 2 (.p (.mov (.c .nils)))])
  (.seq (.ops [i 3 (.p (.mov (.c (.int .i64 0))))])
   (.seq (.seq (.ops [i 9 (.p (.mov (.t 0))), i 10 (.r (.len .sl (.t 9))), i 11 (.p (.mov (.c (.int .i64 0))))])
     (.block 0
      (.loop
       (.seq (.ops [i 12 (.p (.bin .lss (.t 11) (.t 10)))])
        (.seq (.cond (.t 12)
          .skip
          (.exit 0))
         (.seq (.block 1
           (.seq (.ops [i 13 (.p (.iaddr 1 (.t 9) (.t 11))), i 14 (.r (.load none (.t 13))), i 5 (.p (.mov (.t 14)))])
            (.seq (.ops [i 15 (.p (.mov (.t 3))), i 16 (.p (.mov (.t 5))), i 17 (.r (.len .sl (.t 16))), i 18 (.p (.bin .add (.t 15) (.t 17))), i 3 (.p (.mov (.t 18)))])
             (.seq (.ops [i 19 (.p (.mov (.t 3))), i 20 (.p (.bin .lss (.t 19) (.c (.int .i64 0))))])
              (.cond (.t 20)
               (.ops [i 21 (.p (.mki 1 (.c (.str [108, 101, 110, 32, 111, 117, 116, 32, 111, 102, 32, 114, 97, 110, 103, 101])))), n (.bad)])
               .skip)))))
          (.ops [i 22 (.p (.bin .add (.t 11) (.c (.int .i64 1)))), i 11 (.p (.mov (.t 22)))])))))))
    (.seq (.ops [i 23 (.p (.mov (.t 3))), i 24 (.call (.dir 164) [(.c .nils), (.t 23)] false), i 6 (.p (.mov (.t 24)))])
     (.seq (.seq (.ops [i 25 (.p (.mov (.t 0))), i 26 (.r (.len .sl (.t 25))), i 27 (.p (.mov (.c (.int .i64 0))))])
       (.block 2
        (.loop
         (.seq (.ops [i 28 (.p (.bin .lss (.t 27) (.t 26)))])
          (.seq (.cond (.t 28)
            .skip
            (.exit 2))
           (.seq (.block 3
             (.seq (.ops [i 29 (.p (.iaddr 1 (.t 25) (.t 27))), i 30 (.r (.load none (.t 29))), i 8 (.p (.mov (.t 30)))])
              (.ops [i 31 (.p (.mov (.t 6))), i 32 (.p (.mov (.t 8))), i 33 (.w (.append 3 40 (.t 31) (.t 32))), i 6 (.p (.mov (.t 33)))])))
            (.ops [i 34 (.p (.bin .add (.t 27) (.c (.int .i64 1)))), i 27 (.p (.mov (.t 34)))])))))))
      (.seq (.ops [i 35 (.p (.mov (.t 6))), i 2 (.p (.mov (.t 35)))])
       .ret))))))
def f135 : IFn := ⟨false, 36, [.tm 2], b135⟩
def b136 : IC :=
  (.seq (.ops [i 2 (.a (.box 3 (.t 0)) none), i 3 (.p (.mov (.c (.bool false))))])
  (.seq (.seq (.ops [i 4 (.p (.faddr 0 (.t 2))), i 5 (.r (.load none (.t 4)))])
    (.block 0
     (.seq (.ops [i 7 (.p (.bin .eql (.t 5) (.c (.int .i64 2)))), i 6 (.p (.mov (.t 7)))])
      (.cond (.t 6)
       (.seq (.ops [i 8 (.r (.load none (.t 1))), i 9 (.p (.faddr 2 (.t 2))), i 10 (.r (.load none (.t 9))), i 11 (.p (.iaddr 1 (.t 8) (.t 10))), i 12 (.r (.load none (.t 11))), i 13 (.p (.un .not (.t 12))), i 3 (.p (.mov (.t 13)))])
        .ret)
       (.seq (.ops [i 15 (.p (.bin .eql (.t 5) (.c (.int .i64 0)))), i 14 (.p (.mov (.t 15)))])
        (.cond (.t 14)
         (.seq (.ops [i 16 (.p (.faddr 1 (.t 2))), i 17 (.r (.load none (.t 16))), i 18 (.r (.len .sl (.t 17))), i 19 (.p (.bin .eql (.t 18) (.c (.int .i64 0)))), i 3 (.p (.mov (.t 19)))])
          .ret)
         .skip))))))
   (.seq (.ops [i 20 (.p (.faddr 1 (.t 2))), i 21 (.r (.load none (.t 20))), i 22 (.call (.dir 137) [(.t 21)] false), i 23 (.p (.un .not (.t 22))), i 3 (.p (.mov (.t 23)))])
    .ret)))
def f136 : IFn := ⟨true, 24, [.tm 3], b136⟩
def b137 : IC :=
  (.seq (.ops [i 2 (.p (.mov (.c (.bool false))))])
  (.seq (.ops [i 3 (.p (.mov (.t 0))), i 4 (.p (.build [.int .i64 0, .int .i64 0] [(0, 1, (.c (.int .i64 55296))), (1, 1, (.c (.int .i64 57343)))])), i 5 (.a (.bslice true [.int .i64 0, .int .i64 0] 1 [(0, (.t 4))]) none), i 6 (.call (.dir 122) [(.t 3), (.t 5)] false), i 7 (.r (.len .sl (.t 6))), i 8 (.p (.bin .gtr (.t 7) (.c (.int .i64 0)))), i 2 (.p (.mov (.t 8)))])
   .ret))
def f137 : IFn := ⟨true, 9, [.tm 2], b137⟩
def b138 : IC :=
  (.seq (.ops [i 3 (.p (.mov (.c (.bool false))))])
  (.seq (.ops [i 4 (.p (.mov (.t 0))), i 5 (.r (.load none (.t 1))), i 6 (.call (.dir 57) [(.t 4), (.t 5)] false), i 7 (.p (.un .not (.t 6))), i 3 (.p (.mov (.t 7)))])
   .ret))
def f138 : IFn := ⟨true, 8, [.tm 3], b138⟩
def b139 : IC :=
  (.seq (.ops [i 1 (.a (.box 2 (.t 0)) none), i 2 (.p (.mov (.c .nilm)))])
  (.seq (.ops [i 6 (.a (.mkm) none), i 3 (.p (.mov (.t 6)))])
   (.seq (.seq (.ops [i 7 (.p (.faddr 0 (.t 1))), i 8 (.r (.load none (.t 7))), i 9 (.r (.len .sl (.t 8))), i 10 (.p (.mov (.c (.int .i64 0))))])
     (.block 0
      (.loop
       (.seq (.ops [i 11 (.p (.bin .lss (.t 10) (.t 9)))])
        (.seq (.cond (.t 11)
          .skip
          (.exit 0))
         (.seq (.block 1
           (.seq (.ops [i 12 (.p (.mov (.t 10))), i 13 (.p (.iaddr 3 (.t 8) (.t 10))), i 14 (.r (.load (some 3) (.t 13))), i 5 (.a (.alloc [.nils, .int .i64 0, .nils]) none), i 4 (.p (.mov (.t 12))), n (.w (.store 3 (.t 5) (.t 14)))])
            (.seq (.ops [i 15 (.r (.load (some 3) (.t 5))), i 16 (.call (.dir 165) [(.t 15)] false)])
             (.cond (.t 16)
              (.ops [i 17 (.p (.mov (.t 3))), i 18 (.p (.mov (.t 4))), i 19 (.r (.load (some 2) (.t 1))), i 20 (.p (.mov (.t 4))), i 21 (.call (.dir 95) [(.t 19), (.t 20)] true), n (.w (.mupd (.one .int) (.t 17) (.t 18) (.t 21)))])
              .skip))))
          (.ops [i 22 (.p (.bin .add (.t 10) (.c (.int .i64 1)))), i 10 (.p (.mov (.t 22)))])))))))
    (.seq (.ops [i 23 (.p (.mov (.t 3))), i 2 (.p (.mov (.t 23)))])
     .ret))))
def f139 : IFn := ⟨false, 24, [.tm 2], b139⟩
def b140 : IC :=
  (.seq (.ops [i 0 (.a (.alloc [.int .i64 0, .int .i64 0, .int .i64 0]) none)])
  (.seq (.ops [i 1 (.p (.build [.int .i64 0, .int .i64 0, .int .i64 0] [(0, 1, (.c (.int .i64 3))), (1, 1, (.c (.int .i64 28))), (2, 1, (.c (.int .i64 32)))])), n (.w (.store 3 (.t 0) (.t 1)))])
   .ret))
def f140 : IFn := ⟨true, 2, [.cell (some 3) 0], b140⟩
def b141 : IC :=
  (.seq (.ops [i 3 (.a (.box 3 (.t 0)) none), i 6 (.p (.mov (.c (.int .i64 0))))])
  (.seq (.ops [i 7 (.p (.faddr 1 (.t 3))), i 8 (.r (.load none (.t 7))), i 9 (.call (.dir 146) [(.t 8)] false), i 10 (.p (.mov (.t 1))), i 11 (.p (.mov (.t 2))), i 12 (.call (.dir 166) [(.t 9), (.t 10), (.t 11)] false), i 6 (.p (.mov (.t 12)))])
   .ret))
def f141 : IFn := ⟨true, 13, [.tm 6], b141⟩
def b144 : IC :=
  (.seq (.ops [i 4 (.p (.mov (.c (.bool false))))])
  (.seq (.ops [i 5 (.p (.mov (.t 0))), i 6 (.p (.mov (.t 1))), i 7 (.call (.dir 178) [(.t 5), (.t 6)] false), i 4 (.p (.mov (.t 7)))])
   .ret))
def f144 : IFn := ⟨true, 8, [.tm 4], b144⟩
def b145 : IC :=
  (.seq (.ops [i 6 (.p (.mov (.c (.int .i64 0))))])
  (.seq (.ops [i 7 (.p (.mov (.c (.int .i64 0))))])
   (.seq (.seq (.ops [i 10 (.p (.mov (.t 2))), i 11 (.p (.bin .lss (.t 10) (.c (.int .i64 0)))), i 12 (.p (.mov (.t 11))), ⟨some 13, some (12, false), .p (.mov (.t 2))⟩, ⟨some 14, some (12, false), .p (.mov (.t 1))⟩, ⟨some 15, some (12, false), .r (.len .sl (.t 14))⟩, ⟨some 16, some (12, false), .p (.bin .gtr (.t 13) (.t 15))⟩, i 17 (.p (.pick (.t 12) (.c (.bool true)) (.t 16)))])
     (.cond (.t 17)
      (.seq (.ops [i 18 (.p (.mov (.t 7))), i 6 (.p (.mov (.t 18)))])
       .ret)
      .skip))
    (.seq (.seq (.ops [i 19 (.p (.mov (.t 0))), i 20 (.r (.len .sl (.t 19))), i 21 (.p (.mov (.c (.int .i64 0))))])
      (.block 0
       (.loop
        (.seq (.ops [i 22 (.p (.bin .lss (.t 21) (.t 20)))])
         (.seq (.cond (.t 22)
           .skip
           (.exit 0))
          (.seq (.block 1
            (.seq (.ops [i 23 (.p (.iaddr 1 (.t 19) (.t 21))), i 24 (.r (.load none (.t 23))), i 9 (.p (.mov (.t 24)))])
             (.ops [i 25 (.p (.mov (.t 7))), i 26 (.p (.mov (.t 9))), i 27 (.p (.mov (.t 1))), i 28 (.p (.mov (.t 2))), i 29 (.p (.slice 1 (.t 27) (some (.t 28)) none none)), i 30 (.call (.dir 179) [(.t 26), (.t 29)] false), i 31 (.p (.max (.t 25) [(.t 30)])), i 7 (.p (.mov (.t 31)))])))
           (.ops [i 32 (.p (.bin .add (.t 21) (.c (.int .i64 1)))), i 21 (.p (.mov (.t 32)))])))))))
     (.seq (.ops [i 33 (.p (.mov (.t 7))), i 6 (.p (.mov (.t 33)))])
      .ret)))))
def f145 : IFn := ⟨true, 34, [.tm 6], b145⟩
def b146 : IC :=
  (.seq (.ops [i 2 (.p (.mov (.c .nils)))])
  (.seq (.ops [i 3 (.p (.mov (.c .nils)))])
   (.seq (.seq (.ops [i 12 (.p (.mov (.t 0))), i 13 (.call (.dir 151) [(.t 12)] false), i 14 (.r (.len .sl (.t 13))), i 15 (.p (.mov (.c (.int .i64 0))))])
     (.block 0
      (.loop
       (.seq (.ops [i 16 (.p (.bin .lss (.t 15) (.t 14)))])
        (.seq (.cond (.t 16)
          .skip
          (.exit 0))
         (.seq (.block 1
           (.seq (.ops [i 17 (.p (.iaddr 2 (.t 13) (.t 15))), i 18 (.r (.load (some 2) (.t 17))), i 5 (.a (.alloc [.int .i64 0, .int .i64 0]) none), n (.w (.store 2 (.t 5) (.t 18)))])
            (.seq (.ops [i 19 (.call (.dir 180) [] false), i 20 (.p (.mov (.c (.int .i64 0))))])
             (.block 2
              (.loop
               (.seq (.ops [i 21 (.p (.bin .lss (.t 20) (.c (.int .i64 5))))])
                (.seq (.cond (.t 21)
                  .skip
                  (.exit 2))
                 (.seq (.block 3
                   (.seq (.ops [i 22 (.p (.idxA 5 3 true (.t 19) (.t 20))), i 7 (.a (.alloc [.int .i64 0, .int .i64 0, .int .i64 0]) none), n (.w (.store 3 (.t 7) (.t 22)))])
                    (.seq (.ops [i 23 (.r (.load (some 2) (.t 5))), i 24 (.a (.bslice true [.int .i64 0, .int .i64 0] 1 [(0, (.t 23))]) none), i 25 (.p (.faddr 0 (.t 7))), i 26 (.r (.load (some 2) (.t 25))), i 27 (.a (.bslice true [.int .i64 0, .int .i64 0] 1 [(0, (.t 26))]) none), i 28 (.call (.dir 181) [(.t 24), (.t 27)] false), i 8 (.p (.mov (.t 28)))])
                     (.seq (.seq (.ops [i 29 (.p (.faddr 2 (.t 7))), i 30 (.r (.load none (.t 29))), i 9 (.p (.mov (.t 30)))])
                       (.block 4
                        (.loop
                         (.seq (.seq (.ops [i 31 (.p (.mov (.t 9))), i 32 (.p (.bin .gtr (.t 31) (.c (.int .i64 0))))])
                           (.cond (.t 32)
                            .skip
                            (.exit 4)))
                          (.seq (.block 5
                            (.ops [i 35 (.p (.mov (.t 9))), i 36 (.p (.bin .mul (.t 35) (.c (.int .i64 6)))), i 37 (.p (.mov (.t 8))), i 38 (.call (.dir 182) [(.t 36), (.t 37)] false), i 8 (.p (.mov (.t 38)))]))
                           (.ops [i 33 (.p (.mov (.t 9))), i 34 (.p (.bin .sub (.t 33) (.c (.int .i64 1)))), i 9 (.p (.mov (.t 34)))]))))))
                      (.seq (.ops [i 39 (.p (.mov (.t 8))), i 40 (.r (.len .sl (.t 39))), i 41 (.p (.mov (.c (.int .i64 0))))])
                       (.block 6
                        (.loop
                         (.seq (.ops [i 42 (.p (.bin .lss (.t 41) (.t 40)))])
                          (.seq (.cond (.t 42)
                            .skip
                            (.exit 6))
                           (.seq (.block 7
                             (.seq (.ops [i 43 (.p (.iaddr 2 (.t 39) (.t 41))), i 44 (.r (.load (some 2) (.t 43))), i 11 (.a (.alloc [.int .i64 0, .int .i64 0]) none), n (.w (.store 2 (.t 11) (.t 44)))])
                              (.ops [i 45 (.p (.mov (.t 3))), i 46 (.r (.load (some 2) (.t 11))), i 47 (.call (.dir 183) [(.t 46)] false), i 48 (.a (.bslice true [.nils] 1 [(0, (.t 47))]) none), i 49 (.w (.append 1 24 (.t 45) (.t 48))), i 3 (.p (.mov (.t 49)))])))
                            (.ops [i 50 (.p (.bin .add (.t 41) (.c (.int .i64 1)))), i 41 (.p (.mov (.t 50)))])))))))))))
                  (.ops [i 51 (.p (.bin .add (.t 20) (.c (.int .i64 1)))), i 20 (.p (.mov (.t 51)))])))))))))
          (.ops [i 52 (.p (.bin .add (.t 15) (.c (.int .i64 1)))), i 15 (.p (.mov (.t 52)))])))))))
    (.seq (.ops [i 53 (.p (.mov (.t 3))), i 2 (.p (.mov (.t 53)))])
     .ret))))
def f146 : IFn := ⟨true, 54, [.tm 2], b146⟩
def b149 : IC :=
  (.seq (.ops [i 4 (.p (.mov (.c (.int .i64 0))))])
  (.seq (.seq (.ops [i 6 (.p (.mov (.t 0))), i 7 (.r (.len .sl (.t 6))), i 8 (.p (.mov (.c (.int .i64 0))))])
    (.block 0
     (.loop
      (.seq (.ops [i 9 (.p (.bin .lss (.t 8) (.t 7)))])
       (.seq (.cond (.t 9)
         .skip
         (.exit 0))
        (.seq (.block 1
          (.seq (.ops [i 10 (.p (.mov (.t 8))), i 5 (.p (.mov (.t 10)))])
           (.seq (.ops [i 11 (.p (.mov (.t 1))), i 12 (.p (.mov (.t 0))), i 13 (.p (.mov (.t 5))), i 14 (.p (.iaddr 1 (.t 12) (.t 13))), i 15 (.r (.load none (.t 14))), i 16 (.p (.bin .eql (.t 11) (.t 15)))])
            (.cond (.t 16)
             (.seq (.ops [i 17 (.p (.mov (.t 5))), i 4 (.p (.mov (.t 17)))])
              .ret)
             .skip))))
         (.ops [i 18 (.p (.bin .add (.t 8) (.c (.int .i64 1)))), i 8 (.p (.mov (.t 18)))])))))))
   (.seq (.ops [i 4 (.p (.mov (.c (.int .i64 (-1)))))])
    .ret)))
def f149 : IFn := ⟨false, 19, [.tm 4], b149⟩
def b150 : IC :=
  (.seq (.ops [i 4 (.p (.mov (.c (.int .i64 0)))), i 5 (.p (.mov (.c (.int .i64 0))))])
  (.seq (.ops [i 6 (.p (.mov (.c (.int .i64 0))))])
   (.seq (.seq (.ops [i 9 (.p (.mov (.t 1))), i 10 (.p (.mov (.c (.int .i64 0))))])
     (.block 0
      (.loop
       (.seq (.ops [i 11 (.p (.bin .lss (.t 10) (.t 9)))])
        (.seq (.cond (.t 11)
          .skip
          (.exit 0))
         (.seq (.block 1
           (.seq (.ops [i 12 (.p (.mov (.t 10))), i 7 (.p (.mov (.t 12)))])
            (.seq (.seq (.dops 0 [] [i 13 (.p (.mov (.t 0))), i 14 (.p (.nilc (.t 13))), i 15 (.p (.faddr 1 (.t 14))), i 16 (.r (.load none (.t 15))), i 17 (.p (.mov (.t 0))), i 18 (.p (.nilc (.t 17))), i 19 (.p (.faddr 0 (.t 18))), i 20 (.r (.load none (.t 19))), i 21 (.r (.len .str (.t 20))), i 22 (.p (.bin .eql (.t 16) (.t 21)))])
              (.cond (.t 22)
               (.seq (.ops [i 23 (.p (.mov (.t 6))), i 24 (.p (.mov (.t 7))), i 4 (.p (.mov (.t 23))), i 5 (.p (.mov (.t 24)))])
                .ret)
               .skip))
             (.seq (.dops 0 [] [i 25 (.p (.mov (.t 0))), i 26 (.p (.nilc (.t 25))), i 27 (.p (.faddr 0 (.t 26))), i 28 (.r (.load none (.t 27))), i 29 (.p (.mov (.t 0))), i 30 (.p (.nilc (.t 29))), i 31 (.p (.faddr 1 (.t 30))), i 32 (.r (.load none (.t 31))), i 33 (.p (.idxS (.t 28) (.t 32))), i 34 (.call (.dir 186) [(.c (.str [48, 49, 50, 51, 52, 53, 54, 55, 56, 57, 97, 98, 99, 100, 101, 102])), (.t 33)] false), i 8 (.p (.mov (.t 34)))])
              (.seq (.seq (.ops [i 35 (.p (.mov (.t 8))), i 36 (.p (.bin .lss (.t 35) (.c (.int .i64 0))))])
                (.cond (.t 36)
                 (.seq (.ops [i 37 (.p (.mov (.t 6))), i 38 (.p (.mov (.t 7))), i 4 (.p (.mov (.t 37))), i 5 (.p (.mov (.t 38)))])
                  .ret)
                 .skip))
               (.seq (.ops [i 39 (.p (.mov (.t 6))), i 40 (.p (.bin .shl (.t 39) (.c (.int .u64 4)))), i 41 (.p (.mov (.t 8))), i 42 (.p (.bin .or (.t 40) (.t 41))), i 6 (.p (.mov (.t 42)))])
                (.ops [i 43 (.p (.mov (.t 0))), i 44 (.p (.nilc (.t 43))), i 45 (.p (.faddr 1 (.t 44))), i 46 (.r (.load none (.t 45))), i 47 (.p (.bin .add (.t 46) (.c (.int .i64 1)))), i 48 (.p (.nilc (.t 43))), i 49 (.p (.faddr 1 (.t 48))), n (.w (.store 1 (.t 49) (.t 47)))])))))))
          (.ops [i 50 (.p (.bin .add (.t 10) (.c (.int .i64 1)))), i 10 (.p (.mov (.t 50)))])))))))
    (.seq (.ops [i 51 (.p (.mov (.t 6))), i 52 (.p (.mov (.t 1))), i 4 (.p (.mov (.t 51))), i 5 (.p (.mov (.t 52)))])
     .ret))))
def f150 : IFn := ⟨false, 53, [.tm 4, .tm 5], b150⟩
def b151 : IC :=
  (.seq (.ops [i 2 (.p (.mov (.c .nils)))])
  (.seq (.ops [i 3 (.p (.mov (.t 0))), i 4 (.p (.mkf 178 [(.t 3)] [])), i 5 (.p (.mov (.t 0))), i 6 (.call (.dir 187) [(.t 4), (.t 5)] false), i 2 (.p (.mov (.t 6)))])
   .ret))
def f151 : IFn := ⟨true, 7, [.tm 2], b151⟩
def b152 : IC :=
  (.seq (.ops [i 2 (.p (.mov (.c (.bool false))))])
  (.seq (.ops [i 3 (.p (.mov (.t 0))), i 4 (.p (.bin .geq (.t 3) (.c (.int .i64 0)))), i 5 (.p (.mov (.t 4))), ⟨some 6, some (5, true), .p (.mov (.t 0))⟩, ⟨some 7, some (5, true), .p (.bin .leq (.t 6) (.c (.int .i64 1114111)))⟩, i 8 (.p (.pick (.t 5) (.t 7) (.c (.bool false)))), i 9 (.p (.mov (.t 8))), ⟨some 10, some (9, true), .p (.mov (.t 0))⟩, ⟨some 11, some (9, true), .p (.bin .lss (.t 10) (.c (.int .i64 55296)))⟩, ⟨some 12, some (9, true), .p (.mov (.t 11))⟩, ⟨some 13, some (12, false), .p (.mov (.t 0))⟩, ⟨some 14, some (12, false), .p (.bin .gtr (.t 13) (.c (.int .i64 57343)))⟩, ⟨some 15, some (9, true), .p (.pick (.t 12) (.c (.bool true)) (.t 14))⟩, i 16 (.p (.pick (.t 9) (.t 15) (.c (.bool false)))), i 2 (.p (.mov (.t 16)))])
   .ret))
def f152 : IFn := ⟨true, 17, [.tm 2], b152⟩
def b153 : IC :=
  (.seq (.ops [i 4 (.p (.mov (.c (.int .i64 0)))), i 5 (.p (.mov (.c (.int .i64 0))))])
  (.seq (.seq (.ops [i 10 (.p (.mov (.t 1))), i 11 (.p (.bin .lss (.t 10) (.c (.int .i64 0)))), i 12 (.p (.mov (.t 11))), ⟨some 13, some (12, false), .p (.mov (.t 1))⟩, ⟨some 14, some (12, false), .p (.mov (.t 0))⟩, ⟨some 15, some (12, false), .r (.len .sl (.t 14))⟩, ⟨some 16, some (12, false), .p (.bin .geq (.t 13) (.t 15))⟩, i 17 (.p (.pick (.t 12) (.c (.bool true)) (.t 16)))])
    (.cond (.t 17)
     (.seq (.ops [i 4 (.p (.mov (.c (.int .i64 (-1))))), i 5 (.p (.mov (.c (.int .i64 0))))])
      .ret)
     .skip))
   (.seq (.seq (.ops [i 18 (.p (.build [.nilf, .nilf, .nilf, .nilf] [(0, 1, (.c (.fn 188 [] []))), (1, 1, (.c (.fn 189 [] []))), (2, 1, (.c (.fn 190 [] []))), (3, 1, (.c (.fn 191 [] [])))])), i 19 (.p (.mov (.c (.int .i64 0))))])
     (.block 0
      (.loop
       (.seq (.ops [i 20 (.p (.bin .lss (.t 19) (.c (.int .i64 4))))])
        (.seq (.cond (.t 20)
          .skip
          (.exit 0))
         (.seq (.block 1
           (.seq (.ops [i 21 (.p (.mov (.t 19))), i 22 (.p (.idxA 4 1 false (.t 18) (.t 19))), i 6 (.p (.mov (.t 21))), i 7 (.p (.mov (.t 22)))])
            (.seq (.ops [i 24 (.p (.mov (.t 7))), i 25 (.p (.mov (.t 0))), i 26 (.p (.mov (.t 1))), i 27 (.p (.slice 1 (.t 25) (some (.t 26)) none none)), i 28 (.call (.val (.t 24)) [(.t 27)] false), i 23 (.p (.mov (.t 28))), i 29 (.p (.ext 0 (.t 23))), i 30 (.p (.ext 1 (.t 23))), i 8 (.p (.mov (.t 29))), i 9 (.p (.mov (.t 30)))])
             (.seq (.ops [i 31 (.p (.mov (.t 9)))])
              (.cond (.t 31)
               (.seq (.ops [i 32 (.p (.mov (.t 8))), i 33 (.p (.mov (.t 6))), i 34 (.p (.bin .add (.t 33) (.c (.int .i64 1)))), i 4 (.p (.mov (.t 32))), i 5 (.p (.mov (.t 34)))])
                .ret)
               .skip)))))
          (.ops [i 35 (.p (.bin .add (.t 19) (.c (.int .i64 1)))), i 19 (.p (.mov (.t 35)))])))))))
    (.seq (.ops [i 4 (.p (.mov (.c (.int .i64 (-1))))), i 5 (.p (.mov (.c (.int .i64 1))))])
     .ret))))
def f153 : IFn := ⟨true, 36, [.tm 4, .tm 5], b153⟩
def b154 : IC :=
  (.seq (.ops [i 5 (.a (.box 1 (.t 2)) none), i 6 (.p (.mov (.c .nils)))])
  (.seq (.ops [i 9 (.p (.mov (.t 0))), i 10 (.p (.mkf 178 [(.t 9)] [])), i 11 (.p (.mov (.t 1))), i 12 (.p (.mkf 178 [(.t 11)] [])), i 7 (.a (.alloc [.nilf]) none), i 8 (.a (.alloc [.nilf]) none), n (.w (.store 1 (.t 7) (.t 10))), n (.w (.store 1 (.t 8) (.t 12)))])
   (.seq (.ops [i 13 (.p (.mkf 192 [] [(.t 5), (.t 7), (.t 8)])), i 14 (.p (.mov (.t 0))), i 15 (.p (.mov (.t 1))), i 16 (.a (.bslice true [.nils] 2 [(0, (.t 14)), (1, (.t 15))]) none), i 17 (.call (.dir 193) [(.t 16)] false), i 18 (.call (.dir 187) [(.t 13), (.t 17)] false), i 6 (.p (.mov (.t 18)))])
    .ret)))
def f154 : IFn := ⟨true, 19, [.tm 6], b154⟩
def b155 : IC :=
  (.seq (.ops [i 4 (.p (.mov (.c (.bool false))))])
  (.seq (.ops [i 5 (.p (.mov (.t 0))), i 6 (.p (.mov (.t 5))), ⟨some 7, some (6, true), .p (.mov (.t 1))⟩, ⟨some 8, some (6, true), .p (.un .not (.t 7))⟩, i 9 (.p (.pick (.t 6) (.t 8) (.c (.bool false)))), i 4 (.p (.mov (.t 9)))])
   .ret))
def f155 : IFn := ⟨true, 10, [.tm 4], b155⟩
def b156 : IC :=
  (.seq (.ops [i 2 (.p (.mov (.c (.int .i32 0)))), i 3 (.p (.mov (.c (.int .i64 0))))])
  (.seq (.ops [i 13 (.p (.mov (.t 0))), i 14 (.r (.len .str (.t 13))), i 4 (.p (.mov (.t 14)))])
   (.seq (.seq (.ops [i 15 (.p (.mov (.t 4))), i 16 (.p (.bin .lss (.t 15) (.c (.int .i64 1))))])
     (.cond (.t 16)
      (.seq (.ops [i 2 (.p (.mov (.c (.int .i32 65533)))), i 3 (.p (.mov (.c (.int .i64 0))))])
       .ret)
      .skip))
    (.seq (.ops [i 17 (.p (.mov (.t 0))), i 18 (.p (.idxS (.t 17) (.c (.int .i64 0)))), i 5 (.p (.mov (.t 18)))])
     (.seq (.ops [i 19 (.p (.mov (.t 5))), i 20 (.p (.iaddrA 256 1 (.c .any) (.t 19))), i 21 (.r (.load none (.t 20))), i 6 (.p (.mov (.t 21)))])
      (.seq (.seq (.ops [i 22 (.p (.mov (.t 6))), i 23 (.p (.bin .geq (.t 22) (.c (.int .u8 240))))])
        (.cond (.t 23)
         (.seq (.ops [i 24 (.p (.mov (.t 6))), i 25 (.p (.ci .i32 (.t 24))), i 26 (.p (.bin .shl (.t 25) (.c (.int .u64 31)))), i 27 (.p (.bin .shr (.t 26) (.c (.int .u64 31)))), i 7 (.p (.mov (.t 27)))])
          (.seq (.ops [i 28 (.p (.mov (.t 0))), i 29 (.p (.idxS (.t 28) (.c (.int .i64 0)))), i 30 (.p (.ci .i32 (.t 29))), i 31 (.p (.mov (.t 7))), i 32 (.p (.bin .andNot (.t 30) (.t 31))), i 33 (.p (.mov (.t 7))), i 34 (.p (.bin .and (.c (.int .i32 65533)) (.t 33))), i 35 (.p (.bin .or (.t 32) (.t 34))), i 2 (.p (.mov (.t 35))), i 3 (.p (.mov (.c (.int .i64 1))))])
           .ret))
         .skip))
       (.seq (.ops [i 36 (.p (.mov (.t 6))), i 37 (.p (.bin .and (.t 36) (.c (.int .u8 7)))), i 38 (.p (.ci .i64 (.t 37))), i 8 (.p (.mov (.t 38)))])
        (.seq (.ops [i 39 (.p (.mov (.t 6))), i 40 (.p (.bin .shr (.t 39) (.c (.int .u64 4)))), i 41 (.p (.iaddrA 16 2 (.c .any) (.t 40))), i 42 (.r (.load (some 2) (.t 41))), i 9 (.a (.alloc [.int .u8 0, .int .u8 0]) none), n (.w (.store 2 (.t 9) (.t 42)))])
         (.seq (.seq (.ops [i 43 (.p (.mov (.t 4))), i 44 (.p (.mov (.t 8))), i 45 (.p (.bin .lss (.t 43) (.t 44)))])
           (.cond (.t 45)
            (.seq (.ops [i 2 (.p (.mov (.c (.int .i32 65533)))), i 3 (.p (.mov (.c (.int .i64 1))))])
             .ret)
            .skip))
          (.seq (.ops [i 46 (.p (.mov (.t 0))), i 47 (.p (.idxS (.t 46) (.c (.int .i64 1)))), i 10 (.p (.mov (.t 47)))])
           (.seq (.seq (.ops [i 48 (.p (.mov (.t 10))), i 49 (.p (.faddr 0 (.t 9))), i 50 (.r (.load none (.t 49))), i 51 (.p (.bin .lss (.t 48) (.t 50))), i 52 (.p (.mov (.t 51))), ⟨some 53, some (52, false), .p (.faddr 1 (.t 9))⟩, ⟨some 54, some (52, false), .r (.load none (.t 53))⟩, ⟨some 55, some (52, false), .p (.mov (.t 10))⟩, ⟨some 56, some (52, false), .p (.bin .lss (.t 54) (.t 55))⟩, i 57 (.p (.pick (.t 52) (.c (.bool true)) (.t 56)))])
             (.cond (.t 57)
              (.seq (.ops [i 2 (.p (.mov (.c (.int .i32 65533)))), i 3 (.p (.mov (.c (.int .i64 1))))])
               .ret)
              .skip))
            (.seq (.seq (.ops [i 58 (.p (.mov (.t 8))), i 59 (.p (.bin .leq (.t 58) (.c (.int .i64 2))))])
              (.cond (.t 59)
               (.seq (.ops [i 60 (.p (.mov (.t 5))), i 61 (.p (.bin .and (.t 60) (.c (.int .u8 31)))), i 62 (.p (.ci .i32 (.t 61))), i 63 (.p (.bin .shl (.t 62) (.c (.int .u64 6)))), i 64 (.p (.mov (.t 10))), i 65 (.p (.bin .and (.t 64) (.c (.int .u8 63)))), i 66 (.p (.ci .i32 (.t 65))), i 67 (.p (.bin .or (.t 63) (.t 66))), i 2 (.p (.mov (.t 67))), i 3 (.p (.mov (.c (.int .i64 2))))])
                .ret)
               .skip))
             (.seq (.ops [i 68 (.p (.mov (.t 0))), i 69 (.p (.idxS (.t 68) (.c (.int .i64 2)))), i 11 (.p (.mov (.t 69)))])
              (.seq (.seq (.ops [i 70 (.p (.mov (.t 11))), i 71 (.p (.bin .lss (.t 70) (.c (.int .u8 128)))), i 72 (.p (.mov (.t 71))), ⟨some 73, some (72, false), .p (.mov (.t 11))⟩, ⟨some 74, some (72, false), .p (.bin .lss (.c (.int .u8 191)) (.t 73))⟩, i 75 (.p (.pick (.t 72) (.c (.bool true)) (.t 74)))])
                (.cond (.t 75)
                 (.seq (.ops [i 2 (.p (.mov (.c (.int .i32 65533)))), i 3 (.p (.mov (.c (.int .i64 1))))])
                  .ret)
                 .skip))
               (.seq (.seq (.ops [i 76 (.p (.mov (.t 8))), i 77 (.p (.bin .leq (.t 76) (.c (.int .i64 3))))])
                 (.cond (.t 77)
                  (.seq (.ops [i 78 (.p (.mov (.t 5))), i 79 (.p (.bin .and (.t 78) (.c (.int .u8 15)))), i 80 (.p (.ci .i32 (.t 79))), i 81 (.p (.bin .shl (.t 80) (.c (.int .u64 12)))), i 82 (.p (.mov (.t 10))), i 83 (.p (.bin .and (.t 82) (.c (.int .u8 63)))), i 84 (.p (.ci .i32 (.t 83))), i 85 (.p (.bin .shl (.t 84) (.c (.int .u64 6)))), i 86 (.p (.bin .or (.t 81) (.t 85))), i 87 (.p (.mov (.t 11))), i 88 (.p (.bin .and (.t 87) (.c (.int .u8 63)))), i 89 (.p (.ci .i32 (.t 88))), i 90 (.p (.bin .or (.t 86) (.t 89))), i 2 (.p (.mov (.t 90))), i 3 (.p (.mov (.c (.int .i64 3))))])
                   .ret)
                  .skip))
                (.seq (.ops [i 91 (.p (.mov (.t 0))), i 92 (.p (.idxS (.t 91) (.c (.int .i64 3)))), i 12 (.p (.mov (.t 92)))])
                 (.seq (.seq (.ops [i 93 (.p (.mov (.t 12))), i 94 (.p (.bin .lss (.t 93) (.c (.int .u8 128)))), i 95 (.p (.mov (.t 94))), ⟨some 96, some (95, false), .p (.mov (.t 12))⟩, ⟨some 97, some (95, false), .p (.bin .lss (.c (.int .u8 191)) (.t 96))⟩, i 98 (.p (.pick (.t 95) (.c (.bool true)) (.t 97)))])
                   (.cond (.t 98)
                    (.seq (.ops [i 2 (.p (.mov (.c (.int .i32 65533)))), i 3 (.p (.mov (.c (.int .i64 1))))])
                     .ret)
                    .skip))
                  (.seq (.ops [i 99 (.p (.mov (.t 5))), i 100 (.p (.bin .and (.t 99) (.c (.int .u8 7)))), i 101 (.p (.ci .i32 (.t 100))), i 102 (.p (.bin .shl (.t 101) (.c (.int .u64 18)))), i 103 (.p (.mov (.t 10))), i 104 (.p (.bin .and (.t 103) (.c (.int .u8 63)))), i 105 (.p (.ci .i32 (.t 104))), i 106 (.p (.bin .shl (.t 105) (.c (.int .u64 12)))), i 107 (.p (.bin .or (.t 102) (.t 106))), i 108 (.p (.mov (.t 11))), i 109 (.p (.bin .and (.t 108) (.c (.int .u8 63)))), i 110 (.p (.ci .i32 (.t 109))), i 111 (.p (.bin .shl (.t 110) (.c (.int .u64 6)))), i 112 (.p (.bin .or (.t 107) (.t 111))), i 113 (.p (.mov (.t 12))), i 114 (.p (.bin .and (.t 113) (.c (.int .u8 63)))), i 115 (.p (.ci .i32 (.t 114))), i 116 (.p (.bin .or (.t 112) (.t 115))), i 2 (.p (.mov (.t 116))), i 3 (.p (.mov (.c (.int .i64 4))))])
                   .ret))))))))))))))))))
def f156 : IFn := ⟨false, 117, [.tm 2, .tm 3], b156⟩
def b158 : IC :=
  (.seq (.ops [i 0 (.p (.mov (.c .nilm)))])
  (.seq (.ops [i 1 (.a (.mkm) none), n (.w (.mupd (.one .int) (.t 1) (.c (.int .i64 0)) (.c (.fn 197 [] [])))), n (.w (.mupd (.one .int) (.t 1) (.c (.int .i64 1)) (.c (.fn 197 [] [])))), n (.w (.mupd (.one .int) (.t 1) (.c (.int .i64 2)) (.c (.fn 197 [] [])))), n (.w (.mupd (.one .int) (.t 1) (.c (.int .i64 3)) (.c (.fn 197 [] [])))), n (.w (.mupd (.one .int) (.t 1) (.c (.int .i64 4)) (.c (.fn 198 [] [])))), i 2 (.p (.mov (.t 1))), i 0 (.p (.mov (.t 2)))])
   .ret))
def f158 : IFn := ⟨false, 3, [.tm 0], b158⟩
end Go.Abs.Pr
