/- Regions whose order is open: each order comes to what the text's order comes to. -/
import Derived.Test.YtjdpfblmhahfkaaV8
import Derived.Orders
set_option linter.unusedVariables false
set_option linter.unusedSimpArgs false
namespace Go.V
section
variable {P : Program}

/-- An operation in a region whose order is open, by what it hangs on. -/
inductive DK (P : Program) where
  | p (x : PSim P)
  | q (x : QSim P)
  | m (x : MSim P)
  | pn (x : PSim P) (h : x.Nat)
  | qn (x : QSim P) (h : x.Nat)

def DK.oper : DK P → Oper
  | .p x => x.oper
  | .q x => x.oper
  | .m x => x.oper
  | .pn x _ => x.oper
  | .qn x _ => x.oper
def DK.xs : DK P → List Operand
  | .p x => x.xs
  | .q x => x.xs
  | .m x => x.xs
  | .pn x _ => x.xs
  | .qn x _ => x.xs
def DK.reads : DK P → Bool
  | .p _ => false
  | .pn _ _ => false
  | _ => true
def DK.eff : DK P → Bool
  | .m _ => true
  | _ => false

def DK.val : DK P → (Operand → AV) → St → Option (AV × St)
  | .p x, ev, st => match x.f ev fun r => some (.ret r, default) with
    | some (.ret r, _) => some (r, st)
    | _ => none
  | .q x, ev, st => match x.f ev st fun r => some (.ret r, default) with
    | some (.ret r, _) => some (r, st)
    | _ => none
  | .m x, ev, st => match x.f ev st fun r st' => some (.ret r, st') with
    | some (.ret r, st') => some (r, st')
    | _ => none
  | .pn x _, ev, st => match x.f ev fun r => some (.ret r, default) with
    | some (.ret r, _) => some (r, st)
    | _ => none
  | .qn x _, ev, st => match x.f ev st fun r => some (.ret r, default) with
    | some (.ret r, _) => some (r, st)
    | _ => none

/-- The same, with what goes on. -/
def DK.run : DK P → (Operand → AV) → St → (AV → St → Ans) → Ans
  | .pn x _, ev, st, k => x.f ev fun r => k r st
  | .qn x _, ev, st, k => x.f ev st fun r => k r st
  | .p x, ev, st, k => match DK.val (.p x) ev st with
    | some (r, st') => k r st'
    | none => none
  | .q x, ev, st, k => match DK.val (.q x) ev st with
    | some (r, st') => k r st'
    | none => none
  | .m x, ev, st, k => match DK.val (.m x) ev st with
    | some (r, st') => k r st'
    | none => none

theorem thenA_some {a : Ans} {k : AV → Ans} {fin : Fin × St} (h : thenA a k = some fin) : ∃ r s, a = some (.ret r, s) ∧ k r = some fin := by
  unfold thenA at h
  split at h
  · exact ⟨_, _, rfl, h⟩
  · cases h

theorem DK.run_val {x : DK P} {ev : Operand → AV} {st : St} {k : AV → St → Ans} {fin : Fin × St} (h : x.run ev st k = some fin) : ∃ r st', x.val ev st = some (r, st') ∧ k r st' = some fin := by
  cases x with
  | pn x hn =>
    simp only [DK.run] at h
    rw [hn] at h
    obtain ⟨r, s, h1, h2⟩ := thenA_some h
    refine ⟨r, st, ?_, h2⟩
    simp only [DK.val]
    rw [show (x.f ev fun r => some (Fin.ret r, default)) = some (.ret r, s) from h1]
  | qn x hn =>
    simp only [DK.run] at h
    rw [hn] at h
    obtain ⟨r, s, h1, h2⟩ := thenA_some h
    refine ⟨r, st, ?_, h2⟩
    simp only [DK.val]
    rw [show (x.f ev st fun r => some (Fin.ret r, default)) = some (.ret r, s) from h1]
  | p x =>
    simp only [DK.run] at h
    split at h
    · exact ⟨_, _, by assumption, h⟩
    · cases h
  | q x =>
    simp only [DK.run] at h
    split at h
    · exact ⟨_, _, by assumption, h⟩
    · cases h
  | m x =>
    simp only [DK.run] at h
    split at h
    · exact ⟨_, _, by assumption, h⟩
    · cases h

theorem DK.val_sound (x : DK P) {ev : Operand → AV} {st st' : St} {r : AV} (h : x.val ev st = some (r, st')) {g : Gh} {w : World} {a : Act} (he : EvR g w ev a x.xs) (hs : StRel g st w) : Told P x.oper a g w r st' := by
  cases x with
  | p x =>
    simp only [DK.val] at h
    split at h
    · rename_i r' z hx
      simp only [Option.some.injEq, Prod.mk.injEq] at h
      obtain ⟨rfl, rfl⟩ := h
      obtain ⟨r2, h1, h2⟩ := x.sound ev _ _ hx g w a st he hs
      simp only [Option.some.injEq, Prod.mk.injEq, Fin.ret.injEq] at h1
      rw [← h1.1]; exact h2
    · cases h
  | q x =>
    simp only [DK.val] at h
    split at h
    · rename_i r' z hx
      simp only [Option.some.injEq, Prod.mk.injEq] at h
      obtain ⟨rfl, rfl⟩ := h
      obtain ⟨r2, h1, h2⟩ := x.sound ev st _ _ hx g w a he hs
      simp only [Option.some.injEq, Prod.mk.injEq, Fin.ret.injEq] at h1
      rw [← h1.1]; exact h2
    · cases h
  | m x =>
    simp only [DK.val] at h
    split at h
    · rename_i r' st2 hx
      simp only [Option.some.injEq, Prod.mk.injEq] at h
      obtain ⟨rfl, rfl⟩ := h
      obtain ⟨r2, st3, h1, h2⟩ := x.sound ev st _ _ hx g w a he hs
      simp only [Option.some.injEq, Prod.mk.injEq, Fin.ret.injEq] at h1
      rw [← h1.1, ← h1.2]; exact h2
    · cases h
  | pn x _ =>
    simp only [DK.val] at h
    split at h
    · rename_i r' z hx
      simp only [Option.some.injEq, Prod.mk.injEq] at h
      obtain ⟨rfl, rfl⟩ := h
      obtain ⟨r2, h1, h2⟩ := x.sound ev _ _ hx g w a st he hs
      simp only [Option.some.injEq, Prod.mk.injEq, Fin.ret.injEq] at h1
      rw [← h1.1]; exact h2
    · cases h
  | qn x _ =>
    simp only [DK.val] at h
    split at h
    · rename_i r' z hx
      simp only [Option.some.injEq, Prod.mk.injEq] at h
      obtain ⟨rfl, rfl⟩ := h
      obtain ⟨r2, h1, h2⟩ := x.sound ev st _ _ hx g w a he hs
      simp only [Option.some.injEq, Prod.mk.injEq, Fin.ret.injEq] at h1
      rw [← h1.1]; exact h2
    · cases h

theorem DK.val_congr (x : DK P) {ev ev' : Operand → AV} (h : ∀ o ∈ x.xs, ev o = ev' o) (st : St) : x.val ev st = x.val ev' st := by
  cases x with
  | p x => simp only [DK.val, x.congr ev ev' _ h]
  | q x => simp only [DK.val, x.congr ev ev' st _ h]
  | m x => simp only [DK.val, x.congr ev ev' st _ h]
  | pn x _ => simp only [DK.val, x.congr ev ev' _ h]
  | qn x _ => simp only [DK.val, x.congr ev ev' st _ h]

/-- What doesn't change objects leaves them. -/
theorem DK.val_quiet (x : DK P) {ev : Operand → AV} {st st' : St} {r : AV} (h : x.val ev st = some (r, st')) (he : x.eff = false) : st' = st := by
  cases x with
  | p x =>
    simp only [DK.val] at h
    split at h
    · simp only [Option.some.injEq, Prod.mk.injEq] at h; exact h.2.symm
    · cases h
  | q x =>
    simp only [DK.val] at h
    split at h
    · simp only [Option.some.injEq, Prod.mk.injEq] at h; exact h.2.symm
    · cases h
  | m x => cases he
  | pn x _ =>
    simp only [DK.val] at h
    split at h
    · simp only [Option.some.injEq, Prod.mk.injEq] at h; exact h.2.symm
    · cases h
  | qn x _ =>
    simp only [DK.val] at h
    split at h
    · simp only [Option.some.injEq, Prod.mk.injEq] at h; exact h.2.symm
    · cases h

theorem DK.val_pure (x : DK P) {ev : Operand → AV} {st st' : St} {r : AV} (h : x.val ev st = some (r, st')) (he : x.reads = false) (st2 : St) : x.val ev st2 = some (r, st2) := by
  cases x with
  | p x =>
    simp only [DK.val] at h ⊢
    split at h
    · rename_i r' z hx
      simp only [Option.some.injEq, Prod.mk.injEq] at h
      rw [h.1]
    · cases h
  | q x => cases he
  | m x => cases he
  | pn x _ =>
    simp only [DK.val] at h ⊢
    split at h
    · rename_i r' z hx
      simp only [Option.some.injEq, Prod.mk.injEq] at h
      rw [h.1]
    · cases h
  | qn x _ => cases he

structure DOp (P : Program) where
  k : DK P
  grd : Option (Nat × Nat × Bool)

def DOp.oper (d : DOp P) : Oper := { d.k.oper with guard := d.grd.map fun x => (x.1, x.2.2) }
def DOp.dst (d : DOp P) : Option Tmp := d.k.oper.dst

def tmpsOf : List Operand → List Nat
  | [] => []
  | .tmp t :: r => t :: tmpsOf r
  | _ :: r => tmpsOf r

def DOp.names (d : DOp P) : List Nat :=
  match d.grd with
  | some (_, s, _) => s :: tmpsOf d.k.xs
  | none => tmpsOf d.k.xs

def evOf (ρ : Nat → AV) : Operand → AV
  | .tmp t => ρ t
  | .const v => ofLit v
  | .func f => .fn (.func f) [] []
  | .global _ => .dead

theorem evOf_look (e : Env) : e.eval = evOf (look e.m) := by
  funext x; cases x <;> rfl

theorem evOf_congr {ρ ρ' : Nat → AV} : ∀ {xs : List Operand}, (∀ t ∈ tmpsOf xs, ρ t = ρ' t) → ∀ x ∈ xs, evOf ρ x = evOf ρ' x
  | [], _, x, hx => by simp at hx
  | y :: xs, h, x, hx => by
    simp only [List.mem_cons] at hx
    rcases hx with rfl | hx
    · cases x with
      | tmp t => exact h t (by simp [tmpsOf])
      | const v => rfl
      | func f => rfl
      | global g => rfl
    · exact evOf_congr (fun t ht => h t (by cases y <;> simp [tmpsOf, ht])) x hx

def upd (ρ : Nat → AV) (d : Option Tmp) (r : AV) : Nat → AV :=
  match d with
  | none => ρ
  | some d => fun t => match Nat.beq d t with
    | true => r
    | false => ρ t

/-- An operation with its guard. -/
def DOp.ev (d : DOp P) (ρ : Nat → AV) (st : St) : Option (AV × St) :=
  match d.grd with
  | none => d.k.val (evOf ρ) st
  | some (_, s, b) => match ρ s with
    | .bool c => match c == b with
      | true => d.k.val (evOf ρ) st
      | false => some (.tup [], st)
    | .tup [] => some (.tup [], st)
    | _ => none

/-- The text's order: each operation's value, and the objects behind it. -/
def Tr : List (DOp P) → (Nat → AV) → St → List (AV × St) → Prop
  | [], _, _, rs => rs = []
  | o :: l, ρ, st, rs => ∃ r st' rs', rs = (r, st') :: rs' ∧ o.ev ρ st = some (r, st') ∧ Tr l (upd ρ o.dst r) st' rs'

/-- One operation, then what goes on. -/
def dstep (d : DK P) (env : Env) (st : St) (k : Env → St → Ans) : Ans :=
  d.run env.eval st fun r st' => k (env.putO d.oper.dst r) st'

def drun : List (DOp P) → (Env → St → Ans) → Env → St → Ans
  | [], k, env, st => k env st
  | o :: l, k, env, st =>
    match o.grd with
    | none => dstep o.k env st (drun l k)
    | some (_, d, b) => gate (look env.m d) b (dstep o.k (env.put d (.bool b)) st (drun l k)) (drun l k ((env.put d (.bool !b)).off o.dst) st) (drun l k (env.off o.dst) st)

/-- All slots lie in the frame. -/
def inFrame (n : Nat) (ops : List (DOp P)) : Bool :=
  ops.all fun o => (match o.dst with | some d => Nat.blt d n | none => true) && (match o.grd with | some (_, d, _) => Nat.blt d n | none => true)

theorem look_put {e : Env} {d : Nat} (h : Nat.blt d e.n = true) (v : AV) : look (e.put d v).m = upd (look e.m) (some d) v := by
  funext t
  unfold Env.put
  rw [h]
  simp only [look, upd]
  cases Nat.beq d t <;> rfl
theorem put_n (e : Env) (d : Nat) (v : AV) : (e.put d v).n = e.n := by unfold Env.put; split <;> rfl
theorem look_assume {e : Env} {d : Nat} (h : Nat.blt d e.n = true) {b : Bool} (hl : look e.m d = .bool b) : look (e.put d (.bool b)).m = look e.m := by
  rw [look_put h]
  funext t
  simp only [upd]
  split
  · rename_i ht
    have : d = t := by simpa using ht
    subst this; exact hl.symm
  · rfl

theorem drun_tr {k : Env → St → Ans} {fin : Fin × St} : ∀ (ops : List (DOp P)) (env : Env) (st : St), inFrame env.n ops = true → drun ops k env st = some fin →
    ∃ rs env' st', Tr ops (look env.m) st rs ∧ k env' st' = some fin ∧ env'.n = env.n ∧ look env'.m = (ops.zip rs).foldl (fun ρ x => upd ρ x.1.dst x.2.1) (look env.m) ∧ st' = ((rs.getLast?).map (·.2)).getD st
  | [], env, st, _, h => ⟨[], env, st, rfl, h, rfl, rfl, rfl⟩
  | o :: l, env, st, hn, h => by
    have hn' := hn
    simp only [inFrame, List.all_cons, Bool.and_eq_true] at hn'
    obtain ⟨⟨hd, hg⟩, hl⟩ := hn'
    have act : ∀ env1, env1.n = env.n → look env1.m = look env.m → (∀ st, o.ev (look env.m) st = o.k.val (evOf (look env.m)) st) → dstep o.k env1 st (drun l k) = some fin → ∃ rs env' st', Tr (o :: l) (look env.m) st rs ∧ k env' st' = some fin ∧ env'.n = env.n ∧ look env'.m = ((o :: l).zip rs).foldl (fun ρ x => upd ρ x.1.dst x.2.1) (look env.m) ∧ st' = ((rs.getLast?).map (·.2)).getD st := by
      intro env1 h1 h2 h3 h4
      unfold dstep at h4
      obtain ⟨r, st1, hv, h4⟩ := DK.run_val h4
      · have hp : (env1.putO o.k.oper.dst r).n = env.n ∧ look (env1.putO o.k.oper.dst r).m = upd (look env.m) o.dst r := by
          unfold Env.putO DOp.dst
          cases hdst : o.k.oper.dst with
          | none => exact ⟨h1, h2⟩
          | some d =>
            simp only [DOp.dst, hdst] at hd
            refine ⟨(put_n _ _ _).trans h1, ?_⟩
            simp only
            rw [look_put (by rw [h1]; exact hd), h2]
        obtain ⟨rs, env', st', k1, k2, k3, k4, k5⟩ := drun_tr l (env1.putO o.k.oper.dst r) st1 (by rw [hp.1]; exact hl) h4
        rw [hp.2] at k1 k4
        refine ⟨(r, st1) :: rs, env', st', ⟨r, st1, rs, rfl, ?_, k1⟩, k2, k3.trans hp.1, ?_, ?_⟩
        · rw [h3, ← h2, ← evOf_look]; exact hv
        · simpa using k4
        · rw [k5]; cases rs with
          | nil => rfl
          | cons x rs => simp [List.getLast?_cons]
    unfold drun at h
    cases hgr : o.grd with
    | none =>
      rw [hgr] at h
      exact act env rfl rfl (fun st => by simp [DOp.ev, hgr]) h
    | some x =>
      obtain ⟨j, d, b⟩ := x
      rw [hgr] at h hg
      have hg : Nat.blt d env.n = true := hg
      have yes : look env.m d = .bool b → dstep o.k (env.put d (.bool b)) st (drun l k) = some fin → _ := fun hb h4 =>
        act (env.put d (.bool b)) (put_n _ _ _) (look_assume hg hb) (fun st => by simp [DOp.ev, hgr, hb]) h4
      have no : look env.m d = .bool (!b) → drun l k ((env.put d (.bool !b)).off o.dst) st = some fin → ∃ rs env' st', Tr (o :: l) (look env.m) st rs ∧ k env' st' = some fin ∧ env'.n = env.n ∧ look env'.m = ((o :: l).zip rs).foldl (fun ρ x => upd ρ x.1.dst x.2.1) (look env.m) ∧ st' = ((rs.getLast?).map (·.2)).getD st := by
        intro hb h4
        have hp : ((env.put d (.bool !b)).off o.dst).n = env.n ∧ look ((env.put d (.bool !b)).off o.dst).m = upd (look env.m) o.dst (.tup []) := by
          unfold Env.off
          cases hdst : o.dst with
          | none => exact ⟨put_n _ _ _, look_assume hg hb⟩
          | some d' =>
            rw [hdst] at hd
            refine ⟨(put_n _ _ _).trans (put_n _ _ _), ?_⟩
            simp only
            rw [look_put (by rw [put_n]; exact hd), look_assume hg hb]
        obtain ⟨rs, env', st', k1, k2, k3, k4, k5⟩ := drun_tr l _ st (by rw [hp.1]; exact hl) h4
        rw [hp.2] at k1 k4
        refine ⟨(.tup [], st) :: rs, env', st', ⟨.tup [], st, rs, rfl, ?_, k1⟩, k2, k3.trans hp.1, ?_, ?_⟩
        · simp only [DOp.ev, hgr, hb]; cases b <;> rfl
        · simpa using k4
        · rw [k5]; cases rs with
          | nil => rfl
          | cons x rs => simp [List.getLast?_cons]
      have out : look env.m d = .tup [] → drun l k (env.off o.dst) st = some fin → ∃ rs env' st', Tr (o :: l) (look env.m) st rs ∧ k env' st' = some fin ∧ env'.n = env.n ∧ look env'.m = ((o :: l).zip rs).foldl (fun ρ x => upd ρ x.1.dst x.2.1) (look env.m) ∧ st' = ((rs.getLast?).map (·.2)).getD st := by
        intro hb h4
        have hp : (env.off o.dst).n = env.n ∧ look (env.off o.dst).m = upd (look env.m) o.dst (.tup []) := by
          unfold Env.off
          cases hdst : o.dst with
          | none => exact ⟨rfl, rfl⟩
          | some d' =>
            rw [hdst] at hd
            refine ⟨put_n _ _ _, ?_⟩
            simp only
            rw [look_put hd]
        obtain ⟨rs, env', st', k1, k2, k3, k4, k5⟩ := drun_tr l _ st (by rw [hp.1]; exact hl) h4
        rw [hp.2] at k1 k4
        refine ⟨(.tup [], st) :: rs, env', st', ⟨.tup [], st, rs, rfl, ?_, k1⟩, k2, k3.trans hp.1, ?_, ?_⟩
        · simp only [DOp.ev, hgr, hb]
        · simpa using k4
        · rw [k5]; cases rs with
          | nil => rfl
          | cons x rs => simp [List.getLast?_cons]
      simp only at h
      unfold gate at h
      split at h
      · rename_i c hc
        cases b with
        | true =>
          cases c with
          | true => exact yes hc h
          | false => exact no hc h
        | false =>
          cases c with
          | true => exact no hc h
          | false => exact yes hc h
      · rename_i hc; exact out hc h
      · cases h

/-! ### What the operations done so far have come to -/
def lv (ρ : Nat → AV) : List (DOp P × AV × St) → Nat → (Nat → Bool) → (Nat → AV)
  | [], _, _ => ρ
  | (o, r, _) :: l, k, S => lv (match S k with | true => upd ρ o.dst r | false => ρ) l (k + 1) S

def ls (st : St) : List (DOp P × AV × St) → Nat → (Nat → Bool) → St
  | [], _, _ => st
  | (o, _, s) :: l, k, S => ls (match S k && o.k.eff with | true => s | false => st) l (k + 1) S

theorem upd_other {ρ : Nat → AV} {d : Option Tmp} {r : AV} {t : Nat} (h : d ≠ some t) : upd ρ d r t = ρ t := by
  cases d with
  | none => rfl
  | some d =>
    simp only [upd]
    split
    · rename_i hd
      have : d = t := by simpa using hd
      subst this; exact absurd rfl h
    · rfl
theorem upd_same {ρ : Nat → AV} {t : Nat} {r : AV} : upd ρ (some t) r t = r := by simp [upd]

theorem lv_congr {t : Nat} : ∀ (l : List (DOp P × AV × St)) (k : Nat) (ρ ρ' : Nat → AV) (S S' : Nat → Bool), ρ t = ρ' t → (∀ i x, l[i]? = some x → x.1.dst = some t → S (k + i) = S' (k + i)) → lv ρ l k S t = lv ρ' l k S' t
  | [], k, ρ, ρ', S, S', h, _ => h
  | (o, r, s) :: l, k, ρ, ρ', S, S', h, hS => by
    simp only [lv]
    refine lv_congr l (k + 1) _ _ S S' ?_ fun i x hx hd => by have := hS (i + 1) x (by simpa using hx) hd; rwa [show k + (i + 1) = k + 1 + i by omega] at this
    by_cases hd : o.dst = some t
    · have h0 := hS 0 _ rfl hd
      rw [Nat.add_zero] at h0
      rw [h0]
      cases S' k with
      | true => simp only [hd, upd_same]
      | false => exact h
    · cases S k <;> cases S' k <;> simp only [upd_other hd] <;> exact h

theorem ls_congr : ∀ (l : List (DOp P × AV × St)) (k : Nat) (st st' : St) (S S' : Nat → Bool), st = st' → (∀ i x, l[i]? = some x → x.1.k.eff = true → S (k + i) = S' (k + i)) → ls st l k S = ls st' l k S'
  | [], k, st, st', S, S', h, _ => h
  | (o, r, s) :: l, k, st, st', S, S', h, hS => by
    simp only [ls]
    refine ls_congr l (k + 1) _ _ S S' ?_ fun i x hx hd => by have := hS (i + 1) x (by simpa using hx) hd; rwa [show k + (i + 1) = k + 1 + i by omega] at this
    cases he : o.k.eff with
    | true =>
      have h0 := hS 0 _ rfl he
      rw [Nat.add_zero] at h0
      rw [h0]
      cases S' k <;> simp [h]
    | false => simp [h]

theorem lv_none : ∀ (l : List (DOp P × AV × St)) (k : Nat) (ρ : Nat → AV) (S : Nat → Bool), (∀ i, S (k + i) = false) → lv ρ l k S = ρ
  | [], _, _, _, _ => rfl
  | (o, r, s) :: l, k, ρ, S, h => by
    simp only [lv]
    rw [show S k = false from h 0]
    exact lv_none l (k + 1) ρ S fun i => by have := h (i + 1); rwa [show k + (i + 1) = k + 1 + i by omega] at this
theorem ls_none : ∀ (l : List (DOp P × AV × St)) (k : Nat) (st : St) (S : Nat → Bool), (∀ i, S (k + i) = false) → ls st l k S = st
  | [], _, _, _, _ => rfl
  | (o, r, s) :: l, k, st, S, h => by
    simp only [ls]
    rw [show S k = false from h 0]
    exact ls_none l (k + 1) st S fun i => by have := h (i + 1); rwa [show k + (i + 1) = k + 1 + i by omega] at this

theorem lv_set {t : Nat} : ∀ (l : List (DOp P × AV × St)) (k i : Nat) (o : DOp P) (r : AV) (s : St) (ρ : Nat → AV) (S S' : Nat → Bool), l[i]? = some (o, r, s) → S (k + i) = false → S' (k + i) = true → (∀ j, j ≠ i → S' (k + j) = S (k + j)) →
    (∀ j x, i < j → l[j]? = some x → o.dst = some t → x.1.dst = some t → S (k + j) = false) → lv ρ l k S' t = upd (lv ρ l k S) o.dst r t
  | [], k, i, o, r, s, ρ, S, S', h, _, _, _, _ => by simp at h
  | (o', r', s') :: l, k, 0, o, r, s, ρ, S, S', h, h0, h1, h2, h3 => by
    simp only [List.getElem?_cons_zero, Option.some.injEq, Prod.mk.injEq] at h
    obtain ⟨rfl, rfl, rfl⟩ := h
    simp only [lv]
    rw [show S k = false from h0, show S' k = true from h1]
    have same : ∀ ρ', lv ρ' l (k + 1) S' t = lv ρ' l (k + 1) S t := fun ρ' => lv_congr l (k + 1) ρ' ρ' S' S rfl fun j x hx hd => by have := h2 (j + 1) (by omega); rwa [show k + (j + 1) = k + 1 + j by omega] at this
    simp only [same]
    by_cases hd : o'.dst = some t
    · rw [hd, upd_same]
      have hz : ∀ ρ', lv ρ' l (k + 1) S t = ρ' t := fun ρ' => by
        rw [lv_congr l (k + 1) ρ' ρ' S (fun _ => false) rfl fun j x hx hd' => by have := h3 (j + 1) x (by omega) (by simpa using hx) hd hd'; rwa [show k + (j + 1) = k + 1 + j by omega] at this]
        rw [lv_none l (k + 1) ρ' _ fun _ => rfl]
      rw [hz, upd_same]
    · rw [upd_other hd]
      exact lv_congr l (k + 1) _ _ S S (upd_other hd) fun _ _ _ _ => rfl
  | (o', r', s') :: l, k, i + 1, o, r, s, ρ, S, S', h, h0, h1, h2, h3 => by
    simp only [lv]
    rw [show S' k = S k from h2 0 (by omega)]
    refine lv_set l (k + 1) i o r s _ S S' (by simpa using h) ?_ ?_ ?_ ?_
    · rwa [show k + (i + 1) = k + 1 + i by omega] at h0
    · rwa [show k + (i + 1) = k + 1 + i by omega] at h1
    · intro j hj; have := h2 (j + 1) (by omega); rwa [show k + (j + 1) = k + 1 + j by omega] at this
    · intro j x hj hx hd hd'; have := h3 (j + 1) x (by omega) (by simpa using hx) hd hd'; rwa [show k + (j + 1) = k + 1 + j by omega] at this

theorem ls_set : ∀ (l : List (DOp P × AV × St)) (k i : Nat) (o : DOp P) (r : AV) (s : St) (st : St) (S S' : Nat → Bool), l[i]? = some (o, r, s) → S' (k + i) = true → (∀ j, j ≠ i → S' (k + j) = S (k + j)) → o.k.eff = true →
    (∀ j x, i < j → l[j]? = some x → x.1.k.eff = true → S (k + j) = false) → ls st l k S' = s
  | [], k, i, o, r, s, st, S, S', h, _, _, _, _ => by simp at h
  | (o', r', s') :: l, k, 0, o, r, s, st, S, S', h, h1, h2, he, h3 => by
    simp only [List.getElem?_cons_zero, Option.some.injEq, Prod.mk.injEq] at h
    obtain ⟨rfl, rfl, rfl⟩ := h
    simp only [ls]
    rw [show S' k = true from h1, he]
    simp only [Bool.and_self]
    rw [ls_congr l (k + 1) s' s' S' (fun _ => false) rfl fun j x hx hd => ?_]
    · exact ls_none l (k + 1) s' _ fun _ => rfl
    · have a := h2 (j + 1) (by omega)
      have b := h3 (j + 1) x (by omega) (by simpa using hx) hd
      rw [show k + (j + 1) = k + 1 + j by omega] at a b
      rw [a, b]
  | (o', r', s') :: l, k, i + 1, o, r, s, st, S, S', h, h1, h2, he, h3 => by
    simp only [ls]
    refine ls_set l (k + 1) i o r s _ S S' (by simpa using h) ?_ ?_ he ?_
    · rwa [show k + (i + 1) = k + 1 + i by omega] at h1
    · intro j hj; have := h2 (j + 1) (by omega); rwa [show k + (j + 1) = k + 1 + j by omega] at this
    · intro j x hj hx hd; have := h3 (j + 1) x (by omega) (by simpa using hx) hd; rwa [show k + (j + 1) = k + 1 + j by omega] at this

theorem DOp.ev_quiet (o : DOp P) {ρ : Nat → AV} {st st' : St} {r : AV} (h : o.ev ρ st = some (r, st')) (he : o.k.eff = false) : st' = st := by
  unfold DOp.ev at h
  split at h
  · exact o.k.val_quiet h he
  · split at h
    · split at h
      · exact o.k.val_quiet h he
      · simp only [Option.some.injEq, Prod.mk.injEq] at h; exact h.2.symm
    · simp only [Option.some.injEq, Prod.mk.injEq] at h; exact h.2.symm
    · cases h

theorem Tr.at : ∀ (L : List (DOp P)) (rs : List (AV × St)) (ρ : Nat → AV) (st : St) (k : Nat), Tr L ρ st rs → rs.length = L.length ∧ ∀ (i : Nat) (o : DOp P) (r : AV) (s : St), (L.zip rs)[i]? = some (o, r, s) →
    o.ev (lv ρ (L.zip rs) k fun j => decide (j < k + i)) (ls st (L.zip rs) k fun j => decide (j < k + i)) = some (r, s)
  | [], rs, ρ, st, k, h => by obtain rfl : rs = [] := h; exact ⟨rfl, fun i o r s hi => by simp at hi⟩
  | o' :: L, rs, ρ, st, k, ⟨r', s', rs', e, h1, h2⟩ => by
    subst e
    obtain ⟨k1, k2⟩ := Tr.at L rs' _ s' (k + 1) h2
    refine ⟨by simp [k1], fun i o r s hi => ?_⟩
    cases i with
    | zero =>
      simp only [List.zip_cons_cons, List.getElem?_cons_zero, Option.some.injEq, Prod.mk.injEq] at hi
      obtain ⟨rfl, rfl, rfl⟩ := hi
      rw [lv_none _ _ _ _ (fun i => by simp), ls_none _ _ _ _ (fun i => by simp)]
      exact h1
    | succ i =>
      have := k2 i o r s (by simpa using hi)
      simp only [List.zip_cons_cons, lv, ls]
      rw [show decide (k < k + (i + 1)) = true by simp]
      simp only [Bool.true_and]
      rw [show (match o'.k.eff with | true => s' | false => st) = s' by
        cases he : o'.k.eff with
        | true => rfl
        | false => exact (o'.ev_quiet h1 he).symm]
      rw [show (fun j => decide (j < k + (i + 1))) = (fun j => decide (j < k + 1 + i)) by funext j; congr 1; apply propext; omega]
      exact this

theorem lv_all : ∀ (L : List (DOp P)) (rs : List (AV × St)) (ρ : Nat → AV) (k : Nat) (S : Nat → Bool), (∀ i, i < L.length → S (k + i) = true) → lv ρ (L.zip rs) k S = (L.zip rs).foldl (fun ρ x => upd ρ x.1.dst x.2.1) ρ
  | [], rs, ρ, k, S, _ => rfl
  | o :: L, [], ρ, k, S, _ => rfl
  | o :: L, (r, s) :: rs, ρ, k, S, h => by
    simp only [List.zip_cons_cons, lv, List.foldl_cons]
    rw [show S k = true from h 0 (by simp)]
    exact lv_all L rs _ (k + 1) S fun i hi => by have := h (i + 1) (by simp; omega); rwa [show k + (i + 1) = k + 1 + i by omega] at this

theorem ls_all : ∀ (L : List (DOp P)) (rs : List (AV × St)) (ρ : Nat → AV) (st : St) (k : Nat) (S : Nat → Bool), Tr L ρ st rs → (∀ i, i < L.length → S (k + i) = true) → ls st (L.zip rs) k S = ((rs.getLast?).map (·.2)).getD st
  | [], rs, ρ, st, k, S, h, _ => by obtain rfl : rs = [] := h; rfl
  | o :: L, rs, ρ, st, k, S, ⟨r', s', rs', e, h1, h2⟩, hS => by
    subst e
    simp only [List.zip_cons_cons, ls]
    rw [show S k = true from hS 0 (by simp)]
    simp only [Bool.true_and]
    rw [show (match o.k.eff with | true => s' | false => st) = s' by
      cases he : o.k.eff with
      | true => rfl
      | false => exact (o.ev_quiet h1 he).symm]
    rw [ls_all L rs' _ s' (k + 1) S h2 fun i hi => by have := hS (i + 1) (by simp; omega); rwa [show k + (i + 1) = k + 1 + i by omega] at this]
    cases rs' with
    | nil => rfl
    | cons x rs => simp [List.getLast?_cons]

/-! ### What must be done ahead of what -/
def memB (x : Nat) : List Nat → Bool
  | [] => false
  | y :: l => Nat.beq y x || memB x l
theorem memB_mem {x : Nat} : ∀ {l : List Nat}, memB x l = true ↔ x ∈ l
  | [] => by simp [memB]
  | y :: l => by
    simp only [memB, Bool.or_eq_true, memB_mem (l := l), List.mem_cons]
    constructor
    · rintro (h | h)
      · exact .inl (by simpa using (show y = x by simpa using h).symm)
      · exact .inr h
    · rintro (h | h)
      · exact .inl (by subst h; simp)
      · exact .inr h

def addL (xs : List Nat) : List Nat → List Nat
  | [] => xs
  | y :: l => addL (match memB y xs with | true => xs | false => y :: xs) l
theorem mem_addL {i : Nat} : ∀ {ys xs : List Nat}, i ∈ addL xs ys → i ∈ xs ∨ i ∈ ys
  | [], xs, h => .inl h
  | y :: ys, xs, h => by
    rcases mem_addL (ys := ys) h with h | h
    · split at h
      · exact .inl h
      · simp only [List.mem_cons] at h ⊢; rcases h with h | h
        · exact .inr (.inl h)
        · exact .inl h
    · exact .inr (by simp [h])

def bef1 (acc : List (List Nat)) : List Edge → List Nat → List Nat
  | [], s => s
  | e :: es, s => bef1 acc es (match Region.binds .any e with | true => addL s (e.on :: acc.getD e.on []) | false => s)

def befs : List Oper → List (List Nat) → List (List Nat)
  | [], acc => acc
  | o :: r, acc => befs r (acc ++ [bef1 acc o.after.toList []])

theorem mem_bef1 {acc : List (List Nat)} {i : Nat} : ∀ {es : List Edge} {s : List Nat}, i ∈ bef1 acc es s → i ∈ s ∨ ∃ e ∈ es, Region.binds .any e = true ∧ (i = e.on ∨ i ∈ acc.getD e.on [])
  | [], s, h => .inl h
  | e :: es, s, h => by
    rcases mem_bef1 (es := es) h with h | ⟨e', h1, h2, h3⟩
    · split at h
      · rename_i hb
        rcases mem_addL h with h | h
        · exact .inl h
        · simp only [List.mem_cons] at h
          exact .inr ⟨e, by simp, hb, h⟩
      · exact .inl h
    · exact .inr ⟨e', by simp [h1], h2, h3⟩

theorem befs_at : ∀ (l : List Oper) (acc : List (List Nat)), (befs l acc).take acc.length = acc ∧ ∀ i o, l[i]? = some o → (befs l acc)[acc.length + i]? = some (bef1 ((befs l acc).take (acc.length + i)) o.after.toList [])
  | [], acc => ⟨by simp [befs], fun i o h => by simp at h⟩
  | o :: l, acc => by
    obtain ⟨h1, h2⟩ := befs_at l (acc ++ [bef1 acc o.after.toList []])
    simp only [List.length_append, List.length_singleton] at h1 h2
    have h3 : (befs (o :: l) acc).take acc.length = acc := by
      have := congrArg (List.take acc.length) h1
      rw [List.take_take, Nat.min_eq_left (by omega)] at this
      simpa [befs] using this
    refine ⟨h3, fun i o' hi => ?_⟩
    cases i with
    | zero =>
      simp only [List.getElem?_cons_zero, Option.some.injEq] at hi
      subst hi
      rw [Nat.add_zero, h3]
      have := congrArg (fun l => l[acc.length]?) h1
      simp only [List.getElem?_take, Nat.lt_succ_self, if_true] at this
      simpa [befs] using this
    | succ i =>
      have := h2 i o' (by simpa using hi)
      rw [show acc.length + (i + 1) = acc.length + 1 + i by omega]
      exact this

/-- A set that holds, with an operation, all that must be ahead of it. -/
def Down (ops : List Oper) (S : Nat → Bool) : Prop := ∀ (j : Nat) (o : Oper), ops[j]? = some o → S j = true → ∀ e ∈ o.after.toList, Region.binds .any e = true → S e.on = true

theorem befs_down {ops : List Oper} {S : Nat → Bool} (hS : Down ops S) : ∀ (n j : Nat) (o : Oper), j < n → ops[j]? = some o → (∀ e ∈ o.after.toList, Region.binds .any e = true → S e.on = true) → ∀ i ∈ (befs ops []).getD j [], S i = true
  | 0, j, o, hj, _, _, i, _ => by omega
  | n + 1, j, o, hj, ho, he, i, hi => by
    have h := (befs_at ops []).2 j o ho
    simp only [List.length_nil, Nat.zero_add] at h
    rw [List.getD_eq_getElem?_getD, h, Option.getD_some] at hi
    rcases mem_bef1 hi with hi | ⟨e, h1, h2, h3⟩
    · simp at hi
    · rcases h3 with rfl | h3
      · exact he e h1 h2
      · rw [List.getD_eq_getElem?_getD, List.getElem?_take] at h3
        by_cases hlt : e.on < j
        · rw [if_pos hlt] at h3
          cases ho' : ops[e.on]? with
          | none =>
            have hl : (befs ops [])[e.on]? = none ∨ True := .inr trivial
            have hge : ops.length ≤ e.on := by
              rcases Nat.lt_or_ge e.on ops.length with h' | h'
              · rw [List.getElem?_eq_getElem h'] at ho'; cases ho'
              · exact h'
            have := getElem?_lt ho
            omega
          | some o' => exact befs_down hS n e.on o' (by omega) ho' (fun e' h4 h5 => hS e.on o' ho' (he e h1 h2) e' h4 h5) i (by rw [List.getD_eq_getElem?_getD]; exact h3)
        · rw [if_neg hlt] at h3; simp at h3

def isMem (d : Option Tmp) (l : List Nat) : Bool :=
  match d with
  | some d => memB d l
  | none => false
def sameDst (x y : Option Tmp) : Bool :=
  match x, y with
  | some a, some b => Nat.beq a b
  | _, _ => false

/-- Two operations that must not change places. -/
def confl (x y : DOp P) : Bool :=
  isMem x.dst y.names || (isMem y.dst x.names || (sameDst x.dst y.dst || ((x.k.eff && y.k.reads) || (x.k.reads && y.k.eff))))

def chk : List (DOp P) → Nat → DOp P → List Nat → Bool
  | [], _, _, _ => true
  | x :: p, i, y, d => (!confl x y || memB i d) && chk p (i + 1) y d

theorem chk_spec {y : DOp P} {d : List Nat} : ∀ {p : List (DOp P)} {k : Nat}, chk p k y d = true → ∀ i x, p[i]? = some x → confl x y = true → k + i ∈ d
  | [], k, _, i, x, hx, _ => by simp at hx
  | z :: p, k, h, i, x, hx, hc => by
    simp only [chk, Bool.and_eq_true] at h
    cases i with
    | zero =>
      simp only [List.getElem?_cons_zero, Option.some.injEq] at hx
      subst hx
      have := h.1
      rw [hc] at this
      exact memB_mem.mp (by simpa using this)
    | succ i =>
      have := chk_spec h.2 i x (by simpa using hx) hc
      rwa [show k + 1 + i = k + (i + 1) by omega] at this

def backB (j : Nat) : List Edge → Bool
  | [] => true
  | e :: es => (!Region.binds .any e || Nat.blt e.on j) && backB j es
theorem backB_spec {j : Nat} : ∀ {es : List Edge}, backB j es = true → ∀ e ∈ es, Region.binds .any e = true → e.on < j
  | [], _, e, he, _ => by simp at he
  | x :: es, h, e, he, hb => by
    simp only [backB, Bool.and_eq_true] at h
    simp only [List.mem_cons] at he
    rcases he with rfl | he
    · have := h.1; rw [hb] at this; simpa using this
    · exact backB_spec h.2 e he hb

def okPairs (L : List (DOp P)) (D : List (List Nat)) : Nat → List (DOp P) → Bool
  | _, [] => true
  | j, y :: r => chk (L.take j) 0 y (D.getD j []) && (backB j y.oper.after.toList && okPairs L D (j + 1) r)

theorem okPairs_spec {L : List (DOp P)} {D : List (List Nat)} : ∀ {l : List (DOp P)} {k : Nat}, okPairs L D k l = true → ∀ j y, l[j]? = some y → chk (L.take (k + j)) 0 y (D.getD (k + j) []) = true ∧ backB (k + j) y.oper.after.toList = true
  | [], _, _, j, y, hy => by simp at hy
  | z :: l, k, h, j, y, hy => by
    simp only [okPairs, Bool.and_eq_true] at h
    cases j with
    | zero =>
      simp only [List.getElem?_cons_zero, Option.some.injEq] at hy
      subst hy
      exact ⟨h.1, h.2.1⟩
    | succ j =>
      have := okPairs_spec h.2.2 j y (by simpa using hy)
      rwa [show k + 1 + j = k + (j + 1) by omega] at this

def okGuardsD (ops : List (DOp P)) : Bool :=
  ops.all fun r => match r.grd with
    | none => true
    | some (j, d, _) => match (ops[j]?).bind (·.dst) with
      | some d' => Nat.beq d' d
      | none => false

/-- The order is open, but comes to the same. -/
def okDraw (L : List (DOp P)) : Bool := okGuardsD L && okPairs L (befs (L.map DOp.oper) []) 0 L

/-! ### Every order -/
def cnt : List Bool → Nat
  | [] => 0
  | true :: l => cnt l
  | false :: l => cnt l + 1

theorem cnt_set : ∀ (l : List Bool) (i : Nat), l[i]? = some false → cnt (l.set i true) + 1 = cnt l
  | [], i, h => by simp at h
  | b :: l, 0, h => by simp at h; subst h; simp [cnt]
  | b :: l, i + 1, h => by
    have := cnt_set l i (by simpa using h)
    cases b <;> simp [cnt] <;> omega
theorem cnt_zero : ∀ (l : List Bool) (i : Nat), cnt l = 0 → i < l.length → l[i]? = some true
  | [], i, _, h => by simp at h
  | true :: l, 0, h, _ => rfl
  | true :: l, i + 1, h, hi => by simpa using cnt_zero l i (by simpa [cnt] using h) (by simpa using hi)
  | false :: l, i, h, _ => by simp [cnt] at h

theorem isMem_spec {d : Option Tmp} {l : List Nat} {t : Nat} (hd : d = some t) (h : t ∈ l) : isMem d l = true := by subst hd; exact memB_mem.mpr h

theorem tmps_sub {xs : List Operand} {d : DOp P} (hx : xs = d.k.xs) : ∀ t ∈ tmpsOf xs, t ∈ d.names := by
  intro t ht
  subst hx
  unfold DOp.names
  split
  · exact List.mem_cons_of_mem _ ht
  · exact ht

theorem draw_any {L : List (DOp P)} (hok : okDraw L = true) {rs : List (AV × St)} {ρ0 : Nat → AV} {st0 : St} (htr : Tr L ρ0 st0 rs) {N : Nat} {g0 : Gh} {w0 : World} {ds : List Deferred} {Q : Exit → Act → World → Prop}
    (hQ : ∀ a g w, a.tmps.size = N → (∀ t, Rel g w ((L.zip rs).foldl (fun ρ x => upd ρ x.1.dst x.2.1) ρ0 t) (a.tmps.getD t undef)) → StRel g (((rs.getLast?).map (·.2)).getD st0) w → Ev g0 w0 g w → a.defers = ds → Q .normal a w)
    (hin : inFrame N L = true) : ∀ (fuel : Nat) (listed : Array Bool) (a : Act) (w : World) (g : Gh), listed.size = L.length → cnt listed.toList = fuel → Down (L.map DOp.oper) (fun i => listed.getD i false) →
      a.tmps.size = N → (∀ t, Rel g w (lv ρ0 (L.zip rs) 0 (fun i => listed.getD i false) t) (a.tmps.getD t undef)) → StRel g (ls st0 (L.zip rs) 0 (fun i => listed.getD i false)) w → Ev g0 w0 g w → a.defers = ds →
      wpAny P .any (L.map DOp.oper).toArray Q fuel listed a w := by
  obtain ⟨hlen, hat⟩ := Tr.at L rs ρ0 st0 0 htr
  simp only [okDraw, Bool.and_eq_true] at hok
  obtain ⟨hgd, hpairs⟩ := hok
  have hpair : ∀ (i j : Nat) (x y : DOp P), i < j → L[i]? = some x → L[j]? = some y → confl x y = true → i ∈ (befs (L.map DOp.oper) []).getD j [] := by
    intro i j x y hij hx hy hc
    have h1 := (okPairs_spec hpairs j y hy).1
    rw [Nat.zero_add] at h1
    have h2 := chk_spec h1 i x (by rw [List.getElem?_take, if_pos hij]; exact hx) hc
    rwa [Nat.zero_add] at h2
  have hback : ∀ (j : Nat) (y : DOp P), L[j]? = some y → ∀ e ∈ y.oper.after.toList, Region.binds .any e = true → e.on < j := by
    intro j y hy
    have h1 := (okPairs_spec hpairs j y hy).2
    rw [Nat.zero_add] at h1
    exact backB_spec h1
  intro fuel
  induction fuel with
  | zero =>
    intro listed a w g h1 h2 h3 h4 h5 h6 h7 h8
    have hall : ∀ i, i < L.length → listed.getD i false = true := by
      intro i hi
      have := cnt_zero listed.toList i h2 (by simpa [h1] using hi)
      rw [Array.getD_eq_getD_getElem?]
      rw [Array.getElem?_toList] at this
      rw [this]; rfl
    have hlv := lv_all L rs ρ0 0 (fun i => listed.getD i false) (fun i hi => by rw [Nat.zero_add]; exact hall i hi)
    have hls := ls_all L rs ρ0 st0 0 (fun i => listed.getD i false) htr (fun i hi => by rw [Nat.zero_add]; exact hall i hi)
    refine ⟨?_, hQ a g w h4 (fun t => by have := h5 t; rw [hlv] at this; exact this) (by rw [hls] at h6; exact h6) h7 h8⟩
    apply List.eq_nil_iff_forall_not_mem.mpr
    intro j hj
    obtain ⟨hf, o, ho, _⟩ := mem_ready.mp hj
    have hlt : j < L.length := by
      rw [List.getElem?_toArray] at ho
      simpa using getElem?_lt ho
    have := hall j hlt
    rw [Array.getD_eq_getD_getElem?] at this hf
    cases hx : listed[j]? with
    | none => rw [hx] at this; cases this
    | some b => rw [hx] at this hf; simp only [Option.getD_some] at this hf; rw [this] at hf; cases hf
  | succ fuel ih =>
    intro listed a w g h1 h2 h3 h4 h5 h6 h7 h8
    refine ⟨fun hr => ?_, fun i hi => ?_⟩
    · -- nothing is ready: all is done
      exfalso
      have hall : ∀ n i, i < n → i < L.length → listed.getD i false = true := by
        intro n
        induction n with
        | zero => intro i hi; omega
        | succ n ihn =>
          intro i hi hlt
          cases hb : listed.getD i false with
          | true => rfl
          | false =>
            exfalso
            have hx : L[i]? = some L[i] := List.getElem?_eq_getElem hlt
            have : i ∈ Region.ready .any (L.map DOp.oper).toArray listed := by
              refine mem_ready.mpr ⟨?_, L[i].oper, by rw [List.getElem?_toArray, List.getElem?_map, hx]; rfl, fun e he hbi => ?_⟩
              · rw [Array.getD_eq_getD_getElem?] at hb ⊢
                have : listed[i]? = some listed[i] := Array.getElem?_eq_getElem (by omega)
                rw [this] at hb ⊢; exact hb
              · have := hback i L[i] hx e (by simpa using he) hbi
                exact ihn e.on (by omega) (by omega)
            rw [hr] at this; simp at this
      have : ∀ (l : List Bool), (∀ i, i < l.length → l[i]? = some true) → cnt l = 0 := by
        intro l
        induction l with
        | nil => intro _; rfl
        | cons b l ihl =>
          intro hh
          have hb := hh 0 (by simp)
          simp only [List.getElem?_cons_zero, Option.some.injEq] at hb
          subst hb
          exact ihl fun i hi => by simpa using hh (i + 1) (by simpa using hi)
      have h0 := this listed.toList fun i hi => by
        have hlt : i < L.length := by simpa [h1] using hi
        have := hall (i + 1) i (by omega) hlt
        rw [Array.getD_eq_getD_getElem?] at this
        rw [Array.getElem?_toList]
        cases hx : listed[i]? with
        | none => rw [hx] at this; cases this
        | some b => rw [hx] at this; simp only [Option.getD_some] at this; rw [this]
      omega
    · obtain ⟨hf, oo, hoo, hedge⟩ := mem_ready.mp hi
      rw [List.getElem?_toArray, List.getElem?_map] at hoo
      cases hx : L[i]? with
      | none => rw [hx] at hoo; cases hoo
      | some o =>
        rw [hx] at hoo
        simp only [Option.map_some, Option.some.injEq] at hoo
        subst hoo
        have hlt : i < L.length := getElem?_lt hx
        have hli : listed[i]? = some false := by
          rw [Array.getD_eq_getD_getElem?] at hf
          have : listed[i]? = some listed[i] := Array.getElem?_eq_getElem (by omega)
          rw [this] at hf ⊢
          simpa using hf
        have hSi : listed.getD i false = false := by rw [Array.getD_eq_getD_getElem?, hli]; rfl
        -- what has been done, and what not
        have before : ∀ (j : Nat) (x : DOp P), j < i → L[j]? = some x → confl x o = true → listed.getD j false = true := by
          intro j x hj hx' hc
          exact befs_down h3 (i + 1) i o.oper (by omega) (by rw [List.getElem?_map, hx]; rfl) (fun e he hb => hedge e (by simpa using he) hb) j (hpair j i x o hj hx' hx hc)
        have behind : ∀ (j : Nat) (y : DOp P), i < j → L[j]? = some y → confl o y = true → listed.getD j false = false := by
          intro j y hj hy hc
          cases hb : listed.getD j false with
          | false => rfl
          | true =>
            have hd := h3 j y.oper (by rw [List.getElem?_map, hy]; rfl) hb
            have := befs_down h3 (j + 1) j y.oper (by omega) (by rw [List.getElem?_map, hy]; rfl) hd i (hpair i j o y hj hx hy hc)
            rw [hSi] at this; cases this
        obtain ⟨r, s, hz⟩ : ∃ r s, (L.zip rs)[i]? = some (o, r, s) := by
          have hr : i < rs.length := by omega
          refine ⟨rs[i].1, rs[i].2, ?_⟩
          rw [List.getElem?_zip_eq_some]
          exact ⟨hx, by rw [List.getElem?_eq_getElem hr]⟩
        have hzip : ∀ (j : Nat) (x : DOp P × AV × St), (L.zip rs)[j]? = some x → L[j]? = some x.1 := by
          intro j x hj
          exact (List.getElem?_zip_eq_some.mp hj).1
        have hev := hat i o r s hz
        rw [Nat.zero_add] at hev
        -- names read as in the text's order
        have hname : ∀ t ∈ o.names, lv ρ0 (L.zip rs) 0 (fun j => decide (j < i)) t = lv ρ0 (L.zip rs) 0 (fun j => listed.getD j false) t := by
          intro t ht
          refine lv_congr _ 0 _ _ _ _ rfl fun j x hj hd => ?_
          rw [Nat.zero_add]
          have hL := hzip j x hj
          by_cases hji : j < i
          · rw [before j x.1 hji hL (by simp [confl, isMem_spec hd ht])]; simpa using hji
          · by_cases hje : j = i
            · subst hje; rw [hSi]; simp
            · rw [behind j x.1 (by omega) hL (by simp [confl, isMem_spec hd ht])]; simpa using (by omega : i ≤ j)
        have hstate : o.k.reads = true → ls st0 (L.zip rs) 0 (fun j => decide (j < i)) = ls st0 (L.zip rs) 0 (fun j => listed.getD j false) := by
          intro hrd
          refine ls_congr _ 0 _ _ _ _ rfl fun j x hj he => ?_
          rw [Nat.zero_add]
          have hL := hzip j x hj
          by_cases hji : j < i
          · rw [before j x.1 hji hL (by simp [confl, he, hrd])]; simpa using hji
          · by_cases hje : j = i
            · subst hje; rw [hSi]; simp
            · rw [behind j x.1 (by omega) hL (by simp [confl, he, hrd])]; simpa using (by omega : i ≤ j)
        -- the set with this operation
        have hS' : ∀ j, (listed.setIfInBounds i true).getD j false = if j = i then true else listed.getD j false := by
          intro j
          rw [Array.getD_eq_getD_getElem?, Array.getElem?_setIfInBounds]
          by_cases hji : j = i
          · subst hji; rw [if_pos rfl, if_pos rfl, if_pos (by omega)]; rfl
          · rw [if_neg (fun e => hji e.symm), if_neg hji, Array.getD_eq_getD_getElem?]
        have hlv' : ∀ t, lv ρ0 (L.zip rs) 0 (fun j => (listed.setIfInBounds i true).getD j false) t = upd (lv ρ0 (L.zip rs) 0 (fun j => listed.getD j false)) o.dst r t := by
          intro t
          refine lv_set _ 0 i o r s ρ0 _ _ hz (by rw [Nat.zero_add]; exact hSi) (by rw [Nat.zero_add, hS', if_pos rfl]) (fun j hj => by rw [Nat.zero_add, hS', if_neg hj]) fun j x hj hx' hdo hd => ?_
          rw [Nat.zero_add]
          exact behind j x.1 hj (hzip j x hx') (by simp [confl, sameDst, hd, hdo])
        have hdown' : Down (L.map DOp.oper) (fun j => (listed.setIfInBounds i true).getD j false) := by
          intro j o' ho' hb e he hbi
          simp only [hS'] at hb ⊢
          by_cases hji : j = i
          · subst hji
            rw [List.getElem?_map, hx] at ho'
            simp only [Option.map_some, Option.some.injEq] at ho'
            subst ho'
            have := hedge e (by simpa using he) hbi
            split
            · rfl
            · exact this
          · rw [if_neg hji] at hb
            have := h3 j o' ho' hb e he hbi
            split
            · rfl
            · exact this
        have hcnt' : cnt (listed.setIfInBounds i true).toList = fuel := by
          rw [Array.toList_setIfInBounds]
          have := cnt_set listed.toList i (by rw [Array.getElem?_toList]; exact hli)
          omega
        -- the operation itself
        have go : ∀ v g' w' st', Rel g' w' r v → StRel g' st' w' → Ev g w g' w' → st' = ls st0 (L.zip rs) 0 (fun j => (listed.setIfInBounds i true).getD j false) → wpAny P .any (L.map DOp.oper).toArray Q fuel (listed.setIfInBounds i true) (a.put o.dst v) w' := by
          intro v g' w' st' k1 k2 k3 k4
          subst k4
          refine ih (listed.setIfInBounds i true) (a.put o.dst v) w' g' (by simp [h1]) hcnt' hdown' ?_ ?_ k2 (h7.trans k3) ((put_defers ..).trans h8)
          · unfold Act.put; split <;> simp [h4]
          · intro t
            rw [hlv']
            have hold := Rel.mono k3 _ _ (h5 t)
            cases hdo : o.dst with
            | none => exact hold
            | some d =>
              have hfr : d < N := by
                have := List.all_eq_true.mp hin o (List.mem_of_getElem? hx)
                simp only [Bool.and_eq_true] at this
                have h9 := this.1
                rw [hdo] at h9
                simpa using h9
              simp only [upd, Act.put]
              cases hdt : Nat.beq d t with
              | true =>
                have : d = t := by simpa using hdt
                subst this
                rw [Array.getD_eq_getD_getElem?, Array.getElem?_setIfInBounds, if_pos rfl, if_pos (show d < a.tmps.size by rw [h4]; exact hfr)]
                exact k1
              | false =>
                have : d ≠ t := by intro e; subst e; simp at hdt
                rw [Array.getD_eq_getD_getElem?, Array.getElem?_setIfInBounds, if_neg this, ← Array.getD_eq_getD_getElem?]
                exact hold
        have hquiet : o.k.eff = false → ls st0 (L.zip rs) 0 (fun j => (listed.setIfInBounds i true).getD j false) = ls st0 (L.zip rs) 0 (fun j => listed.getD j false) := by
          intro he
          refine ls_congr _ 0 _ _ _ _ rfl fun j x hj hex => ?_
          rw [Nat.zero_add, hS', if_neg]
          intro e; subst e
          have := hzip _ x hj
          rw [hx] at this
          cases this
          rw [he] at hex; cases hex
        have heff : o.k.eff = true → ls st0 (L.zip rs) 0 (fun j => (listed.setIfInBounds i true).getD j false) = s := by
          intro he
          refine ls_set _ 0 i o r s st0 (fun j => listed.getD j false) _ hz (by rw [Nat.zero_add, hS', if_pos rfl]) (fun j hj => by rw [Nat.zero_add, hS', if_neg hj]) he fun j x hj hx' hex => ?_
          rw [Nat.zero_add]
          refine behind j x.1 hj (hzip j x hx') ?_
          have : x.1.k.reads = true := by cases hk : x.1.k <;> simp [hk, DK.eff] at hex <;> rfl
          simp [confl, he, this]
        have act : o.k.val (evOf (lv ρ0 (L.zip rs) 0 (fun j => decide (j < i)))) (ls st0 (L.zip rs) 0 (fun j => decide (j < i))) = some (r, s) → o.oper.wp P a w (wpAny P .any (L.map DOp.oper).toArray Q fuel (listed.setIfInBounds i true)) Q := by
          intro hval
          rw [o.k.val_congr (evOf_congr fun t ht => hname t (tmps_sub rfl t ht))] at hval
          have hEv : EvR g w (evOf (lv ρ0 (L.zip rs) 0 (fun j => listed.getD j false))) a o.k.xs := by
            intro x _
            cases x with
            | tmp t => exact h5 t
            | const v => exact ofLit_rel g w v
            | func f => exact ⟨#[], #[], rfl, rfl, rfl⟩
            | global _ => trivial
          cases hrd : o.k.reads with
          | true =>
            rw [hstate hrd] at hval
            have htold := o.k.val_sound hval hEv h6
            refine Oper.wp_guard (htold _ Q fun v g' w' k1 k2 k3 => go v g' w' s k1 k2 k3 ?_)
            cases he : o.k.eff with
            | true => exact (heff he).symm
            | false => rw [hquiet he]; exact o.k.val_quiet hval he
          | false =>
            have hval' := o.k.val_pure hval hrd (ls st0 (L.zip rs) 0 (fun j => listed.getD j false))
            have htold := o.k.val_sound hval' hEv h6
            refine Oper.wp_guard (htold _ Q fun v g' w' k1 k2 k3 => go v g' w' _ k1 k2 k3 ?_)
            have he : o.k.eff = false := by cases hk : o.k <;> simp [hk, DK.reads] at hrd <;> rfl
            rw [hquiet he]
        unfold wpOp
        rw [List.getElem?_toArray, List.getElem?_map, hx]
        simp only [Option.map_some]
        unfold DOp.ev at hev
        cases hgr : o.grd with
        | none =>
          rw [hgr] at hev
          rw [if_pos (by simp [Region.wanted, DOp.oper, hgr])]
          exact .inl (act hev)
        | some x =>
          obtain ⟨gi, d, b⟩ := x
          rw [hgr] at hev
          simp only at hev
          have hdn : d ∈ o.names := by simp [DOp.names, hgr]
          have hok' := List.all_eq_true.mp hgd o (List.mem_of_getElem? hx)
          simp only [hgr] at hok'
          have hdd : ((L.map DOp.oper)[gi]?).bind (·.dst) = some d := by
            rw [List.getElem?_map]
            cases hj : L[gi]? with
            | none => rw [hj] at hok'; simp at hok'
            | some y =>
              rw [hj] at hok'
              simp only [Option.bind_some, Option.map_some] at hok' ⊢
              show y.k.oper.dst = some d
              cases hy : y.dst with
              | none => rw [hy] at hok'; simp at hok'
              | some d' => rw [hy] at hok'; have : d' = d := by simpa using hok'
                           rw [← this]; exact hy
          have key : ∀ c : Bool, a.tmps.getD d undef = .bool c → Region.wanted o.oper (yielded (L.map DOp.oper).toArray a.tmps) = (c == b) := by
            intro c hc
            simp only [Region.wanted, DOp.oper, hgr, Option.map_some]
            unfold yielded
            rw [List.getElem?_toArray]
            rw [show (List.map DOp.oper L)[gi]?.bind (fun x => x.dst) = some d from hdd]
            rw [Option.bind_some, getD_of_yield hc]
            cases c <;> cases b <;> rfl
          split at hev
          · rename_i c hc
            have hrel := h5 d
            rw [← hname d hdn, hc] at hrel
            have hrel : a.tmps.getD d undef = .bool c := hrel
            split at hev
            · rename_i hcb
              rw [if_pos (by rw [key c hrel]; exact hcb)]
              exact .inl (act hev)
            · rename_i hcb
              rw [if_neg (by rw [key c hrel, hcb]; simp)]
              simp only [Option.some.injEq, Prod.mk.injEq] at hev
              obtain ⟨hr, hs⟩ := hev
              subst hr
              have hst : ls st0 (L.zip rs) 0 (fun j => (listed.setIfInBounds i true).getD j false) = ls st0 (L.zip rs) 0 (fun j => listed.getD j false) := by
                cases he : o.k.eff with
                | false => exact hquiet he
                | true =>
                  have hrd : o.k.reads = true := by cases hk : o.k <;> simp [hk, DK.eff] at he <;> rfl
                  rw [heff he, ← hs, hstate hrd]
              exact go undef g w _ ⟨#[], rfl, rfl⟩ h6 (Ev.refl g w) hst.symm
          · rename_i hc
            have hrel := h5 d
            rw [← hname d hdn, hc] at hrel
            obtain ⟨vs, hvs, hv0⟩ := hrel
            have hw0 : Region.wanted o.oper (yielded (L.map DOp.oper).toArray a.tmps) = false := by
              simp only [Region.wanted, DOp.oper, hgr, Option.map_some]
              unfold yielded
              rw [List.getElem?_toArray]
              rw [show (List.map DOp.oper L)[gi]?.bind (fun x => x.dst) = some d from hdd]
              rw [Option.bind_some]
              rw [Array.getD_eq_getD_getElem?] at hvs
              cases hxd : a.tmps[d]? with
              | none => cases b <;> rfl
              | some u => rw [hxd] at hvs; simp only [Option.getD_some] at hvs; subst hvs; cases b <;> rfl
            rw [if_neg (by rw [hw0]; simp)]
            simp only [Option.some.injEq, Prod.mk.injEq] at hev
            obtain ⟨hr, hs⟩ := hev
            subst hr
            have hst : ls st0 (L.zip rs) 0 (fun j => (listed.setIfInBounds i true).getD j false) = ls st0 (L.zip rs) 0 (fun j => listed.getD j false) := by
              cases he : o.k.eff with
              | false => exact hquiet he
              | true =>
                have hrd : o.k.reads = true := by cases hk : o.k <;> simp [hk, DK.eff] at he <;> rfl
                rw [heff he, ← hs, hstate hrd]
            exact go undef g w _ ⟨#[], rfl, rfl⟩ h6 (Ev.refl g w) hst.symm
          · cases hev

/-- A region whose order is open. -/
def Sim.draw (id : Nat) (ops : List (DOp P)) (hm : P.follows .mixedOrders = true) (h : okDraw ops = true) : Sim P where
  code := .region id (ops.map DOp.oper).toArray true
  run F K env st := match inFrame env.n ops with
    | true => drun ops (fun env st => K .normal env st) env st
    | false => none
  sound F K env st fin hr g w a he hs Q hp := by
    split at hr
    · rename_i hin
      obtain ⟨rs, env', st', k1, k2, k3, k4, k5⟩ := drun_tr ops env st hin hr
      refine wp_region_any hm ?_
      have hd : Ev g w g { w with drawn := w.drawn + 1 } := ⟨rfl, rfl, rfl, Nat.le_refl _, fun _ _ h => ⟨h, rfl⟩, fun _ _ _ h => ⟨h, fun C _ _ hb => ⟨C, hb, rfl, fun _ _ => rfl⟩⟩, fun _ _ _ h => .inl h, fun _ _ h => h, tk_refl _⟩
      have hrep : ∀ j, (Array.replicate ops.length false).getD j false = false := by
        intro j
        rw [Array.getD_eq_getD_getElem?, Array.getElem?_replicate]
        split <;> rfl
      have hsd : StRel g st { w with drawn := w.drawn + 1 } := ⟨hs.tk, hs.len, fun k b o h1 h2 => ⟨(hs.obj k b o h1 h2).1, (hs.obj k b o h1 h2).2.keep hd rfl rfl⟩, hs.back, hs.rowlt⟩
      rw [show ((ops.map DOp.oper).toArray.size) = ops.length by simp]
      refine draw_any h k1 (N := env.n) (g0 := g) (w0 := w) (ds := a.defers) (fun a1 g1 w1 h1 h2 h3 h4 h5 => ?_) hin ops.length (Array.replicate ops.length false) a _ g (by simp) ?_ ?_ he.size ?_ ?_ hd rfl
      · subst k5
        exact hp .normal env' _ g1 w1 a1 .normal k2 ⟨h1.trans k3.symm, fun t => by rw [k4]; exact h2 t⟩ h3 h4 h5 rfl
      · have : ∀ n, cnt (List.replicate n false) = n := by
          intro n; induction n with
          | zero => rfl
          | succ n ih => simp [List.replicate_succ, cnt, ih]
        simp [this]
      · intro j o _ hb
        have hz := hrep j
        have hb : (Array.replicate ops.length false).getD j false = true := hb
        rw [hz] at hb; cases hb
      · intro t
        rw [lv_none _ _ _ _ (fun i => hrep (0 + i))]
        exact Rel.mono hd _ _ (he.slot t)
      · rw [ls_none _ _ _ _ (fun i => hrep (0 + i))]
        exact hsd
    · cases hr

end
end Go.V
