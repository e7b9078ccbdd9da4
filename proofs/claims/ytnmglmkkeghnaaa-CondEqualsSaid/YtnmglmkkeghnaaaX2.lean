/- Merged out of 26 texts: what the claim's code comes to, and why. -/
import Derived.Orders
import Derived.Laws.StructEq
import Derived.Laws.IdiomStrings
import Derived.Laws.BytesArg
import Derived.Laws.MakeOwn
import Derived.Test.YtnmglmkkeghnaaaRows
import Derived.Test.YtnmglmkkeghnaaaX1
/- Regions whose order is open: each order comes to what the text's order comes to. -/
set_option linter.unusedVariables false
set_option linter.unusedSimpArgs false
namespace Go.V
section
variable {P : Program}

/-- An operation in a region whose order is open, by what it hangs on. -/
inductive DK (P : Program) where
  | p (x : PSim P)
  | q (x : QSim P)
  | m (x : MSim P)
  | pn (x : PSim P) (h : x.Nat)
  | qn (x : QSim P) (h : x.Nat)
  | mn (x : MSim P) (h : x.NatM)

def DK.oper : DK P → Oper
  | .p x => x.oper
  | .q x => x.oper
  | .m x => x.oper
  | .pn x _ => x.oper
  | .qn x _ => x.oper
  | .mn x _ => x.oper
def DK.xs : DK P → List Operand
  | .p x => x.xs
  | .q x => x.xs
  | .m x => x.xs
  | .pn x _ => x.xs
  | .qn x _ => x.xs
  | .mn x _ => x.xs
def DK.reads : DK P → Bool
  | .p _ => false
  | .pn _ _ => false
  | _ => true
def DK.eff : DK P → Bool
  | .m _ => true
  | .mn _ _ => true
  | _ => false

def DK.val : DK P → (Operand → AV) → St → Option (AV × St)
  | .p x, ev, st => match x.f ev fun r => some (.ret r, default) with
    | some (.ret r, _) => some (r, st)
    | _ => none
  | .q x, ev, st => match x.f ev st fun r => some (.ret r, default) with
    | some (.ret r, _) => some (r, st)
    | _ => none
  | .m x, ev, st => match x.f ev st fun r st' => some (.ret r, st') with
    | some (.ret r, st') => some (r, st')
    | _ => none
  | .pn x _, ev, st => match x.f ev fun r => some (.ret r, default) with
    | some (.ret r, _) => some (r, st)
    | _ => none
  | .qn x _, ev, st => match x.f ev st fun r => some (.ret r, default) with
    | some (.ret r, _) => some (r, st)
    | _ => none
  | .mn x _, ev, st => match x.f ev st fun r st' => some (.ret r, st') with
    | some (.ret r, st') => some (r, st')
    | _ => none

/-- The same, with what goes on. -/
def DK.run : DK P → (Operand → AV) → St → (AV → St → Ans) → Ans
  | .pn x _, ev, st, k => x.f ev fun r => k r st
  | .qn x _, ev, st, k => x.f ev st fun r => k r st
  | .mn x _, ev, st, k => x.f ev st k
  | .p x, ev, st, k => match DK.val (.p x) ev st with
    | some (r, st') => k r st'
    | none => none
  | .q x, ev, st, k => match DK.val (.q x) ev st with
    | some (r, st') => k r st'
    | none => none
  | .m x, ev, st, k => match DK.val (.m x) ev st with
    | some (r, st') => k r st'
    | none => none

theorem thenA_some {a : Ans} {k : AV → Ans} {fin : Fin × St} (h : thenA a k = some fin) : ∃ r s, a = some (.ret r, s) ∧ k r = some fin := by
  unfold thenA at h
  split at h
  · exact ⟨_, _, rfl, h⟩
  · cases h

theorem thenM_some {a : Ans} {k : AV → St → Ans} {fin : Fin × St} (h : thenM a k = some fin) : ∃ r s, a = some (.ret r, s) ∧ k r s = some fin := by
  unfold thenM at h
  split at h
  · exact ⟨_, _, rfl, h⟩
  · cases h

theorem DK.run_val {x : DK P} {ev : Operand → AV} {st : St} {k : AV → St → Ans} {fin : Fin × St} (h : x.run ev st k = some fin) : ∃ r st', x.val ev st = some (r, st') ∧ k r st' = some fin := by
  cases x with
  | pn x hn =>
    simp only [DK.run] at h
    rw [hn] at h
    obtain ⟨r, s, h1, h2⟩ := thenA_some h
    refine ⟨r, st, ?_, h2⟩
    simp only [DK.val]
    rw [show (x.f ev fun r => some (Fin.ret r, default)) = some (.ret r, s) from h1]
  | qn x hn =>
    simp only [DK.run] at h
    rw [hn] at h
    obtain ⟨r, s, h1, h2⟩ := thenA_some h
    refine ⟨r, st, ?_, h2⟩
    simp only [DK.val]
    rw [show (x.f ev st fun r => some (Fin.ret r, default)) = some (.ret r, s) from h1]
  | mn x hn =>
    simp only [DK.run] at h
    rw [hn] at h
    obtain ⟨r, s, h1, h2⟩ := thenM_some h
    refine ⟨r, s, ?_, h2⟩
    simp only [DK.val]
    rw [show (x.f ev st fun r st' => some (Fin.ret r, st')) = some (.ret r, s) from h1]
  | p x =>
    simp only [DK.run] at h
    split at h
    · exact ⟨_, _, by assumption, h⟩
    · cases h
  | q x =>
    simp only [DK.run] at h
    split at h
    · exact ⟨_, _, by assumption, h⟩
    · cases h
  | m x =>
    simp only [DK.run] at h
    split at h
    · exact ⟨_, _, by assumption, h⟩
    · cases h

theorem DK.val_sound (x : DK P) {ev : Operand → AV} {st st' : St} {r : AV} (h : x.val ev st = some (r, st')) {g : Gh} {w : World} {a : Act} (he : EvR g w ev a x.xs) (hs : StRel g st w) : Told P x.oper a g w r st' := by
  cases x with
  | p x =>
    simp only [DK.val] at h
    split at h
    · rename_i r' z hx
      simp only [Option.some.injEq, Prod.mk.injEq] at h
      obtain ⟨rfl, rfl⟩ := h
      obtain ⟨r2, h1, h2⟩ := x.sound ev _ _ hx g w a st he hs
      simp only [Option.some.injEq, Prod.mk.injEq, Fin.ret.injEq] at h1
      rw [← h1.1]; exact h2
    · cases h
  | q x =>
    simp only [DK.val] at h
    split at h
    · rename_i r' z hx
      simp only [Option.some.injEq, Prod.mk.injEq] at h
      obtain ⟨rfl, rfl⟩ := h
      obtain ⟨r2, h1, h2⟩ := x.sound ev st _ _ hx g w a he hs
      simp only [Option.some.injEq, Prod.mk.injEq, Fin.ret.injEq] at h1
      rw [← h1.1]; exact h2
    · cases h
  | m x =>
    simp only [DK.val] at h
    split at h
    · rename_i r' st2 hx
      simp only [Option.some.injEq, Prod.mk.injEq] at h
      obtain ⟨rfl, rfl⟩ := h
      obtain ⟨r2, st3, h1, h2⟩ := x.sound ev st _ _ hx g w a he hs
      simp only [Option.some.injEq, Prod.mk.injEq, Fin.ret.injEq] at h1
      rw [← h1.1, ← h1.2]; exact h2
    · cases h
  | pn x _ =>
    simp only [DK.val] at h
    split at h
    · rename_i r' z hx
      simp only [Option.some.injEq, Prod.mk.injEq] at h
      obtain ⟨rfl, rfl⟩ := h
      obtain ⟨r2, h1, h2⟩ := x.sound ev _ _ hx g w a st he hs
      simp only [Option.some.injEq, Prod.mk.injEq, Fin.ret.injEq] at h1
      rw [← h1.1]; exact h2
    · cases h
  | qn x _ =>
    simp only [DK.val] at h
    split at h
    · rename_i r' z hx
      simp only [Option.some.injEq, Prod.mk.injEq] at h
      obtain ⟨rfl, rfl⟩ := h
      obtain ⟨r2, h1, h2⟩ := x.sound ev st _ _ hx g w a he hs
      simp only [Option.some.injEq, Prod.mk.injEq, Fin.ret.injEq] at h1
      rw [← h1.1]; exact h2
    · cases h
  | mn x _ =>
    simp only [DK.val] at h
    split at h
    · rename_i r' st2 hx
      simp only [Option.some.injEq, Prod.mk.injEq] at h
      obtain ⟨rfl, rfl⟩ := h
      obtain ⟨r2, st3, h1, h2⟩ := x.sound ev st _ _ hx g w a he hs
      simp only [Option.some.injEq, Prod.mk.injEq, Fin.ret.injEq] at h1
      rw [← h1.1, ← h1.2]; exact h2
    · cases h

theorem DK.val_congr (x : DK P) {ev ev' : Operand → AV} (h : ∀ o ∈ x.xs, ev o = ev' o) (st : St) : x.val ev st = x.val ev' st := by
  cases x with
  | p x => simp only [DK.val, x.congr ev ev' _ h]
  | q x => simp only [DK.val, x.congr ev ev' st _ h]
  | m x => simp only [DK.val, x.congr ev ev' st _ h]
  | pn x _ => simp only [DK.val, x.congr ev ev' _ h]
  | qn x _ => simp only [DK.val, x.congr ev ev' st _ h]
  | mn x _ => simp only [DK.val, x.congr ev ev' st _ h]

/-- What doesn't change objects leaves them. -/
theorem DK.val_quiet (x : DK P) {ev : Operand → AV} {st st' : St} {r : AV} (h : x.val ev st = some (r, st')) (he : x.eff = false) : st' = st := by
  cases x with
  | p x =>
    simp only [DK.val] at h
    split at h
    · simp only [Option.some.injEq, Prod.mk.injEq] at h; exact h.2.symm
    · cases h
  | q x =>
    simp only [DK.val] at h
    split at h
    · simp only [Option.some.injEq, Prod.mk.injEq] at h; exact h.2.symm
    · cases h
  | m x => cases he
  | mn x _ => cases he
  | pn x _ =>
    simp only [DK.val] at h
    split at h
    · simp only [Option.some.injEq, Prod.mk.injEq] at h; exact h.2.symm
    · cases h
  | qn x _ =>
    simp only [DK.val] at h
    split at h
    · simp only [Option.some.injEq, Prod.mk.injEq] at h; exact h.2.symm
    · cases h

theorem DK.val_pure (x : DK P) {ev : Operand → AV} {st st' : St} {r : AV} (h : x.val ev st = some (r, st')) (he : x.reads = false) (st2 : St) : x.val ev st2 = some (r, st2) := by
  cases x with
  | p x =>
    simp only [DK.val] at h ⊢
    split at h
    · rename_i r' z hx
      simp only [Option.some.injEq, Prod.mk.injEq] at h
      rw [h.1]
    · cases h
  | q x => cases he
  | m x => cases he
  | mn x _ => cases he
  | pn x _ =>
    simp only [DK.val] at h ⊢
    split at h
    · rename_i r' z hx
      simp only [Option.some.injEq, Prod.mk.injEq] at h
      rw [h.1]
    · cases h
  | qn x _ => cases he

structure DOp (P : Program) where
  k : DK P
  grd : Option (Nat × Nat × Bool)

def DOp.oper (d : DOp P) : Oper := { d.k.oper with guard := d.grd.map fun x => (x.1, x.2.2) }
def DOp.dst (d : DOp P) : Option Tmp := d.k.oper.dst

def tmpsOf : List Operand → List Nat
  | [] => []
  | .tmp t :: r => t :: tmpsOf r
  | _ :: r => tmpsOf r

def DOp.names (d : DOp P) : List Nat :=
  match d.grd with
  | some (_, s, _) => s :: tmpsOf d.k.xs
  | none => tmpsOf d.k.xs

def evOf (ρ : Nat → AV) : Operand → AV
  | .tmp t => ρ t
  | .const v => ofLit v
  | .func f => .fn (.func f) [] []
  | .global _ => .dead

theorem evOf_look (e : Env) : e.eval = evOf (look e.m) := by
  funext x; cases x <;> rfl

theorem evOf_congr {ρ ρ' : Nat → AV} : ∀ {xs : List Operand}, (∀ t ∈ tmpsOf xs, ρ t = ρ' t) → ∀ x ∈ xs, evOf ρ x = evOf ρ' x
  | [], _, x, hx => by simp at hx
  | y :: xs, h, x, hx => by
    simp only [List.mem_cons] at hx
    rcases hx with rfl | hx
    · cases x with
      | tmp t => exact h t (by simp [tmpsOf])
      | const v => rfl
      | func f => rfl
      | global g => rfl
    · exact evOf_congr (fun t ht => h t (by cases y <;> simp [tmpsOf, ht])) x hx

def upd (ρ : Nat → AV) (d : Option Tmp) (r : AV) : Nat → AV :=
  match d with
  | none => ρ
  | some d => fun t => match Nat.beq d t with
    | true => r
    | false => ρ t

/-- An operation with its guard. -/
def DOp.ev (d : DOp P) (ρ : Nat → AV) (st : St) : Option (AV × St) :=
  match d.grd with
  | none => d.k.val (evOf ρ) st
  | some (_, s, b) => match ρ s with
    | .bool c => match c == b with
      | true => d.k.val (evOf ρ) st
      | false => some (.tup [], st)
    | .tup [] => some (.tup [], st)
    | _ => none

/-- The text's order: each operation's value, and the objects behind it. -/
def Tr : List (DOp P) → (Nat → AV) → St → List (AV × St) → Prop
  | [], _, _, rs => rs = []
  | o :: l, ρ, st, rs => ∃ r st' rs', rs = (r, st') :: rs' ∧ o.ev ρ st = some (r, st') ∧ Tr l (upd ρ o.dst r) st' rs'

/-- One operation, then what goes on. -/
def dstep (d : DK P) (env : Env) (st : St) (k : Env → St → Ans) : Ans :=
  d.run env.eval st fun r st' => k (env.putO d.oper.dst r) st'

def drun : List (DOp P) → (Env → St → Ans) → Env → St → Ans
  | [], k, env, st => k env st
  | o :: l, k, env, st =>
    match o.grd with
    | none => dstep o.k env st (drun l k)
    | some (_, d, b) => gate (look env.m d) b (dstep o.k (env.put d (.bool b)) st (drun l k)) (drun l k ((env.put d (.bool !b)).off o.dst) st) (drun l k (env.off o.dst) st)

/-- All slots lie in the frame. -/
def inFrame (n : Nat) (ops : List (DOp P)) : Bool :=
  ops.all fun o => (match o.dst with | some d => Nat.blt d n | none => true) && (match o.grd with | some (_, d, _) => Nat.blt d n | none => true)

theorem look_put {e : Env} {d : Nat} (h : Nat.blt d e.n = true) (v : AV) : look (e.put d v).m = upd (look e.m) (some d) v := by
  funext t
  unfold Env.put
  rw [h]
  simp only [look, upd]
  cases Nat.beq d t <;> rfl
theorem put_n (e : Env) (d : Nat) (v : AV) : (e.put d v).n = e.n := by unfold Env.put; split <;> rfl
theorem look_assume {e : Env} {d : Nat} (h : Nat.blt d e.n = true) {b : Bool} (hl : look e.m d = .bool b) : look (e.put d (.bool b)).m = look e.m := by
  rw [look_put h]
  funext t
  simp only [upd]
  split
  · rename_i ht
    have : d = t := by simpa using ht
    subst this; exact hl.symm
  · rfl

theorem drun_tr {k : Env → St → Ans} {fin : Fin × St} : ∀ (ops : List (DOp P)) (env : Env) (st : St), inFrame env.n ops = true → drun ops k env st = some fin →
    ∃ rs env' st', Tr ops (look env.m) st rs ∧ k env' st' = some fin ∧ env'.n = env.n ∧ look env'.m = (ops.zip rs).foldl (fun ρ x => upd ρ x.1.dst x.2.1) (look env.m) ∧ st' = ((rs.getLast?).map (·.2)).getD st
  | [], env, st, _, h => ⟨[], env, st, rfl, h, rfl, rfl, rfl⟩
  | o :: l, env, st, hn, h => by
    have hn' := hn
    simp only [inFrame, List.all_cons, Bool.and_eq_true] at hn'
    obtain ⟨⟨hd, hg⟩, hl⟩ := hn'
    have act : ∀ env1, env1.n = env.n → look env1.m = look env.m → (∀ st, o.ev (look env.m) st = o.k.val (evOf (look env.m)) st) → dstep o.k env1 st (drun l k) = some fin → ∃ rs env' st', Tr (o :: l) (look env.m) st rs ∧ k env' st' = some fin ∧ env'.n = env.n ∧ look env'.m = ((o :: l).zip rs).foldl (fun ρ x => upd ρ x.1.dst x.2.1) (look env.m) ∧ st' = ((rs.getLast?).map (·.2)).getD st := by
      intro env1 h1 h2 h3 h4
      unfold dstep at h4
      obtain ⟨r, st1, hv, h4⟩ := DK.run_val h4
      · have hp : (env1.putO o.k.oper.dst r).n = env.n ∧ look (env1.putO o.k.oper.dst r).m = upd (look env.m) o.dst r := by
          unfold Env.putO DOp.dst
          cases hdst : o.k.oper.dst with
          | none => exact ⟨h1, h2⟩
          | some d =>
            simp only [DOp.dst, hdst] at hd
            refine ⟨(put_n _ _ _).trans h1, ?_⟩
            simp only
            rw [look_put (by rw [h1]; exact hd), h2]
        obtain ⟨rs, env', st', k1, k2, k3, k4, k5⟩ := drun_tr l (env1.putO o.k.oper.dst r) st1 (by rw [hp.1]; exact hl) h4
        rw [hp.2] at k1 k4
        refine ⟨(r, st1) :: rs, env', st', ⟨r, st1, rs, rfl, ?_, k1⟩, k2, k3.trans hp.1, ?_, ?_⟩
        · rw [h3, ← h2, ← evOf_look]; exact hv
        · simpa using k4
        · rw [k5]; cases rs with
          | nil => rfl
          | cons x rs => simp [List.getLast?_cons]
    unfold drun at h
    cases hgr : o.grd with
    | none =>
      rw [hgr] at h
      exact act env rfl rfl (fun st => by simp [DOp.ev, hgr]) h
    | some x =>
      obtain ⟨j, d, b⟩ := x
      rw [hgr] at h hg
      have hg : Nat.blt d env.n = true := hg
      have yes : look env.m d = .bool b → dstep o.k (env.put d (.bool b)) st (drun l k) = some fin → _ := fun hb h4 =>
        act (env.put d (.bool b)) (put_n _ _ _) (look_assume hg hb) (fun st => by simp [DOp.ev, hgr, hb]) h4
      have no : look env.m d = .bool (!b) → drun l k ((env.put d (.bool !b)).off o.dst) st = some fin → ∃ rs env' st', Tr (o :: l) (look env.m) st rs ∧ k env' st' = some fin ∧ env'.n = env.n ∧ look env'.m = ((o :: l).zip rs).foldl (fun ρ x => upd ρ x.1.dst x.2.1) (look env.m) ∧ st' = ((rs.getLast?).map (·.2)).getD st := by
        intro hb h4
        have hp : ((env.put d (.bool !b)).off o.dst).n = env.n ∧ look ((env.put d (.bool !b)).off o.dst).m = upd (look env.m) o.dst (.tup []) := by
          unfold Env.off
          cases hdst : o.dst with
          | none => exact ⟨put_n _ _ _, look_assume hg hb⟩
          | some d' =>
            rw [hdst] at hd
            refine ⟨(put_n _ _ _).trans (put_n _ _ _), ?_⟩
            simp only
            rw [look_put (by rw [put_n]; exact hd), look_assume hg hb]
        obtain ⟨rs, env', st', k1, k2, k3, k4, k5⟩ := drun_tr l _ st (by rw [hp.1]; exact hl) h4
        rw [hp.2] at k1 k4
        refine ⟨(.tup [], st) :: rs, env', st', ⟨.tup [], st, rs, rfl, ?_, k1⟩, k2, k3.trans hp.1, ?_, ?_⟩
        · simp only [DOp.ev, hgr, hb]; cases b <;> rfl
        · simpa using k4
        · rw [k5]; cases rs with
          | nil => rfl
          | cons x rs => simp [List.getLast?_cons]
      have out : look env.m d = .tup [] → drun l k (env.off o.dst) st = some fin → ∃ rs env' st', Tr (o :: l) (look env.m) st rs ∧ k env' st' = some fin ∧ env'.n = env.n ∧ look env'.m = ((o :: l).zip rs).foldl (fun ρ x => upd ρ x.1.dst x.2.1) (look env.m) ∧ st' = ((rs.getLast?).map (·.2)).getD st := by
        intro hb h4
        have hp : (env.off o.dst).n = env.n ∧ look (env.off o.dst).m = upd (look env.m) o.dst (.tup []) := by
          unfold Env.off
          cases hdst : o.dst with
          | none => exact ⟨rfl, rfl⟩
          | some d' =>
            rw [hdst] at hd
            refine ⟨put_n _ _ _, ?_⟩
            simp only
            rw [look_put hd]
        obtain ⟨rs, env', st', k1, k2, k3, k4, k5⟩ := drun_tr l _ st (by rw [hp.1]; exact hl) h4
        rw [hp.2] at k1 k4
        refine ⟨(.tup [], st) :: rs, env', st', ⟨.tup [], st, rs, rfl, ?_, k1⟩, k2, k3.trans hp.1, ?_, ?_⟩
        · simp only [DOp.ev, hgr, hb]
        · simpa using k4
        · rw [k5]; cases rs with
          | nil => rfl
          | cons x rs => simp [List.getLast?_cons]
      simp only at h
      unfold gate at h
      split at h
      · rename_i c hc
        cases b with
        | true =>
          cases c with
          | true => exact yes hc h
          | false => exact no hc h
        | false =>
          cases c with
          | true => exact no hc h
          | false => exact yes hc h
      · rename_i hc; exact out hc h
      · cases h

/-! ### What the operations done so far have come to -/
def lv (ρ : Nat → AV) : List (DOp P × AV × St) → Nat → (Nat → Bool) → (Nat → AV)
  | [], _, _ => ρ
  | (o, r, _) :: l, k, S => lv (match S k with | true => upd ρ o.dst r | false => ρ) l (k + 1) S

def ls (st : St) : List (DOp P × AV × St) → Nat → (Nat → Bool) → St
  | [], _, _ => st
  | (o, _, s) :: l, k, S => ls (match S k && o.k.eff with | true => s | false => st) l (k + 1) S

theorem upd_other {ρ : Nat → AV} {d : Option Tmp} {r : AV} {t : Nat} (h : d ≠ some t) : upd ρ d r t = ρ t := by
  cases d with
  | none => rfl
  | some d =>
    simp only [upd]
    split
    · rename_i hd
      have : d = t := by simpa using hd
      subst this; exact absurd rfl h
    · rfl
theorem upd_same {ρ : Nat → AV} {t : Nat} {r : AV} : upd ρ (some t) r t = r := by simp [upd]

theorem lv_congr {t : Nat} : ∀ (l : List (DOp P × AV × St)) (k : Nat) (ρ ρ' : Nat → AV) (S S' : Nat → Bool), ρ t = ρ' t → (∀ i x, l[i]? = some x → x.1.dst = some t → S (k + i) = S' (k + i)) → lv ρ l k S t = lv ρ' l k S' t
  | [], k, ρ, ρ', S, S', h, _ => h
  | (o, r, s) :: l, k, ρ, ρ', S, S', h, hS => by
    simp only [lv]
    refine lv_congr l (k + 1) _ _ S S' ?_ fun i x hx hd => by have := hS (i + 1) x (by simpa using hx) hd; rwa [show k + (i + 1) = k + 1 + i by omega] at this
    by_cases hd : o.dst = some t
    · have h0 := hS 0 _ rfl hd
      rw [Nat.add_zero] at h0
      rw [h0]
      cases S' k with
      | true => simp only [hd, upd_same]
      | false => exact h
    · cases S k <;> cases S' k <;> simp only [upd_other hd] <;> exact h

theorem ls_congr : ∀ (l : List (DOp P × AV × St)) (k : Nat) (st st' : St) (S S' : Nat → Bool), st = st' → (∀ i x, l[i]? = some x → x.1.k.eff = true → S (k + i) = S' (k + i)) → ls st l k S = ls st' l k S'
  | [], k, st, st', S, S', h, _ => h
  | (o, r, s) :: l, k, st, st', S, S', h, hS => by
    simp only [ls]
    refine ls_congr l (k + 1) _ _ S S' ?_ fun i x hx hd => by have := hS (i + 1) x (by simpa using hx) hd; rwa [show k + (i + 1) = k + 1 + i by omega] at this
    cases he : o.k.eff with
    | true =>
      have h0 := hS 0 _ rfl he
      rw [Nat.add_zero] at h0
      rw [h0]
      cases S' k <;> simp [h]
    | false => simp [h]

theorem lv_none : ∀ (l : List (DOp P × AV × St)) (k : Nat) (ρ : Nat → AV) (S : Nat → Bool), (∀ i, S (k + i) = false) → lv ρ l k S = ρ
  | [], _, _, _, _ => rfl
  | (o, r, s) :: l, k, ρ, S, h => by
    simp only [lv]
    rw [show S k = false from h 0]
    exact lv_none l (k + 1) ρ S fun i => by have := h (i + 1); rwa [show k + (i + 1) = k + 1 + i by omega] at this
theorem ls_none : ∀ (l : List (DOp P × AV × St)) (k : Nat) (st : St) (S : Nat → Bool), (∀ i, S (k + i) = false) → ls st l k S = st
  | [], _, _, _, _ => rfl
  | (o, r, s) :: l, k, st, S, h => by
    simp only [ls]
    rw [show S k = false from h 0]
    exact ls_none l (k + 1) st S fun i => by have := h (i + 1); rwa [show k + (i + 1) = k + 1 + i by omega] at this

theorem lv_set {t : Nat} : ∀ (l : List (DOp P × AV × St)) (k i : Nat) (o : DOp P) (r : AV) (s : St) (ρ : Nat → AV) (S S' : Nat → Bool), l[i]? = some (o, r, s) → S (k + i) = false → S' (k + i) = true → (∀ j, j ≠ i → S' (k + j) = S (k + j)) →
    (∀ j x, i < j → l[j]? = some x → o.dst = some t → x.1.dst = some t → S (k + j) = false) → lv ρ l k S' t = upd (lv ρ l k S) o.dst r t
  | [], k, i, o, r, s, ρ, S, S', h, _, _, _, _ => by simp at h
  | (o', r', s') :: l, k, 0, o, r, s, ρ, S, S', h, h0, h1, h2, h3 => by
    simp only [List.getElem?_cons_zero, Option.some.injEq, Prod.mk.injEq] at h
    obtain ⟨rfl, rfl, rfl⟩ := h
    simp only [lv]
    rw [show S k = false from h0, show S' k = true from h1]
    have same : ∀ ρ', lv ρ' l (k + 1) S' t = lv ρ' l (k + 1) S t := fun ρ' => lv_congr l (k + 1) ρ' ρ' S' S rfl fun j x hx hd => by have := h2 (j + 1) (by omega); rwa [show k + (j + 1) = k + 1 + j by omega] at this
    simp only [same]
    by_cases hd : o'.dst = some t
    · rw [hd, upd_same]
      have hz : ∀ ρ', lv ρ' l (k + 1) S t = ρ' t := fun ρ' => by
        rw [lv_congr l (k + 1) ρ' ρ' S (fun _ => false) rfl fun j x hx hd' => by have := h3 (j + 1) x (by omega) (by simpa using hx) hd hd'; rwa [show k + (j + 1) = k + 1 + j by omega] at this]
        rw [lv_none l (k + 1) ρ' _ fun _ => rfl]
      rw [hz, upd_same]
    · rw [upd_other hd]
      exact lv_congr l (k + 1) _ _ S S (upd_other hd) fun _ _ _ _ => rfl
  | (o', r', s') :: l, k, i + 1, o, r, s, ρ, S, S', h, h0, h1, h2, h3 => by
    simp only [lv]
    rw [show S' k = S k from h2 0 (by omega)]
    refine lv_set l (k + 1) i o r s _ S S' (by simpa using h) ?_ ?_ ?_ ?_
    · rwa [show k + (i + 1) = k + 1 + i by omega] at h0
    · rwa [show k + (i + 1) = k + 1 + i by omega] at h1
    · intro j hj; have := h2 (j + 1) (by omega); rwa [show k + (j + 1) = k + 1 + j by omega] at this
    · intro j x hj hx hd hd'; have := h3 (j + 1) x (by omega) (by simpa using hx) hd hd'; rwa [show k + (j + 1) = k + 1 + j by omega] at this

theorem ls_set : ∀ (l : List (DOp P × AV × St)) (k i : Nat) (o : DOp P) (r : AV) (s : St) (st : St) (S S' : Nat → Bool), l[i]? = some (o, r, s) → S' (k + i) = true → (∀ j, j ≠ i → S' (k + j) = S (k + j)) → o.k.eff = true →
    (∀ j x, i < j → l[j]? = some x → x.1.k.eff = true → S (k + j) = false) → ls st l k S' = s
  | [], k, i, o, r, s, st, S, S', h, _, _, _, _ => by simp at h
  | (o', r', s') :: l, k, 0, o, r, s, st, S, S', h, h1, h2, he, h3 => by
    simp only [List.getElem?_cons_zero, Option.some.injEq, Prod.mk.injEq] at h
    obtain ⟨rfl, rfl, rfl⟩ := h
    simp only [ls]
    rw [show S' k = true from h1, he]
    simp only [Bool.and_self]
    rw [ls_congr l (k + 1) s' s' S' (fun _ => false) rfl fun j x hx hd => ?_]
    · exact ls_none l (k + 1) s' _ fun _ => rfl
    · have a := h2 (j + 1) (by omega)
      have b := h3 (j + 1) x (by omega) (by simpa using hx) hd
      rw [show k + (j + 1) = k + 1 + j by omega] at a b
      rw [a, b]
  | (o', r', s') :: l, k, i + 1, o, r, s, st, S, S', h, h1, h2, he, h3 => by
    simp only [ls]
    refine ls_set l (k + 1) i o r s _ S S' (by simpa using h) ?_ ?_ he ?_
    · rwa [show k + (i + 1) = k + 1 + i by omega] at h1
    · intro j hj; have := h2 (j + 1) (by omega); rwa [show k + (j + 1) = k + 1 + j by omega] at this
    · intro j x hj hx hd; have := h3 (j + 1) x (by omega) (by simpa using hx) hd; rwa [show k + (j + 1) = k + 1 + j by omega] at this

theorem DOp.ev_quiet (o : DOp P) {ρ : Nat → AV} {st st' : St} {r : AV} (h : o.ev ρ st = some (r, st')) (he : o.k.eff = false) : st' = st := by
  unfold DOp.ev at h
  split at h
  · exact o.k.val_quiet h he
  · split at h
    · split at h
      · exact o.k.val_quiet h he
      · simp only [Option.some.injEq, Prod.mk.injEq] at h; exact h.2.symm
    · simp only [Option.some.injEq, Prod.mk.injEq] at h; exact h.2.symm
    · cases h

theorem Tr.at : ∀ (L : List (DOp P)) (rs : List (AV × St)) (ρ : Nat → AV) (st : St) (k : Nat), Tr L ρ st rs → rs.length = L.length ∧ ∀ (i : Nat) (o : DOp P) (r : AV) (s : St), (L.zip rs)[i]? = some (o, r, s) →
    o.ev (lv ρ (L.zip rs) k fun j => decide (j < k + i)) (ls st (L.zip rs) k fun j => decide (j < k + i)) = some (r, s)
  | [], rs, ρ, st, k, h => by obtain rfl : rs = [] := h; exact ⟨rfl, fun i o r s hi => by simp at hi⟩
  | o' :: L, rs, ρ, st, k, ⟨r', s', rs', e, h1, h2⟩ => by
    subst e
    obtain ⟨k1, k2⟩ := Tr.at L rs' _ s' (k + 1) h2
    refine ⟨by simp [k1], fun i o r s hi => ?_⟩
    cases i with
    | zero =>
      simp only [List.zip_cons_cons, List.getElem?_cons_zero, Option.some.injEq, Prod.mk.injEq] at hi
      obtain ⟨rfl, rfl, rfl⟩ := hi
      rw [lv_none _ _ _ _ (fun i => by simp), ls_none _ _ _ _ (fun i => by simp)]
      exact h1
    | succ i =>
      have := k2 i o r s (by simpa using hi)
      simp only [List.zip_cons_cons, lv, ls]
      rw [show decide (k < k + (i + 1)) = true by simp]
      simp only [Bool.true_and]
      rw [show (match o'.k.eff with | true => s' | false => st) = s' by
        cases he : o'.k.eff with
        | true => rfl
        | false => exact (o'.ev_quiet h1 he).symm]
      rw [show (fun j => decide (j < k + (i + 1))) = (fun j => decide (j < k + 1 + i)) by funext j; congr 1; apply propext; omega]
      exact this

theorem lv_all : ∀ (L : List (DOp P)) (rs : List (AV × St)) (ρ : Nat → AV) (k : Nat) (S : Nat → Bool), (∀ i, i < L.length → S (k + i) = true) → lv ρ (L.zip rs) k S = (L.zip rs).foldl (fun ρ x => upd ρ x.1.dst x.2.1) ρ
  | [], rs, ρ, k, S, _ => rfl
  | o :: L, [], ρ, k, S, _ => rfl
  | o :: L, (r, s) :: rs, ρ, k, S, h => by
    simp only [List.zip_cons_cons, lv, List.foldl_cons]
    rw [show S k = true from h 0 (by simp)]
    exact lv_all L rs _ (k + 1) S fun i hi => by have := h (i + 1) (by simp; omega); rwa [show k + (i + 1) = k + 1 + i by omega] at this

theorem ls_all : ∀ (L : List (DOp P)) (rs : List (AV × St)) (ρ : Nat → AV) (st : St) (k : Nat) (S : Nat → Bool), Tr L ρ st rs → (∀ i, i < L.length → S (k + i) = true) → ls st (L.zip rs) k S = ((rs.getLast?).map (·.2)).getD st
  | [], rs, ρ, st, k, S, h, _ => by obtain rfl : rs = [] := h; rfl
  | o :: L, rs, ρ, st, k, S, ⟨r', s', rs', e, h1, h2⟩, hS => by
    subst e
    simp only [List.zip_cons_cons, ls]
    rw [show S k = true from hS 0 (by simp)]
    simp only [Bool.true_and]
    rw [show (match o.k.eff with | true => s' | false => st) = s' by
      cases he : o.k.eff with
      | true => rfl
      | false => exact (o.ev_quiet h1 he).symm]
    rw [ls_all L rs' _ s' (k + 1) S h2 fun i hi => by have := hS (i + 1) (by simp; omega); rwa [show k + (i + 1) = k + 1 + i by omega] at this]
    cases rs' with
    | nil => rfl
    | cons x rs => simp [List.getLast?_cons]

/-! ### What must be done ahead of what -/
def memB (x : Nat) : List Nat → Bool
  | [] => false
  | y :: l => Nat.beq y x || memB x l
theorem memB_mem {x : Nat} : ∀ {l : List Nat}, memB x l = true ↔ x ∈ l
  | [] => by simp [memB]
  | y :: l => by
    simp only [memB, Bool.or_eq_true, memB_mem (l := l), List.mem_cons]
    constructor
    · rintro (h | h)
      · exact .inl (by simpa using (show y = x by simpa using h).symm)
      · exact .inr h
    · rintro (h | h)
      · exact .inl (by subst h; simp)
      · exact .inr h

def addL (xs : List Nat) : List Nat → List Nat
  | [] => xs
  | y :: l => addL (match memB y xs with | true => xs | false => y :: xs) l
theorem mem_addL {i : Nat} : ∀ {ys xs : List Nat}, i ∈ addL xs ys → i ∈ xs ∨ i ∈ ys
  | [], xs, h => .inl h
  | y :: ys, xs, h => by
    rcases mem_addL (ys := ys) h with h | h
    · split at h
      · exact .inl h
      · simp only [List.mem_cons] at h ⊢; rcases h with h | h
        · exact .inr (.inl h)
        · exact .inl h
    · exact .inr (by simp [h])

def bef1 (acc : List (List Nat)) : List Edge → List Nat → List Nat
  | [], s => s
  | e :: es, s => bef1 acc es (match Region.binds .any e with | true => addL s (e.on :: acc.getD e.on []) | false => s)

def befs : List Oper → List (List Nat) → List (List Nat)
  | [], acc => acc
  | o :: r, acc => befs r (acc ++ [bef1 acc o.after.toList []])

theorem mem_bef1 {acc : List (List Nat)} {i : Nat} : ∀ {es : List Edge} {s : List Nat}, i ∈ bef1 acc es s → i ∈ s ∨ ∃ e ∈ es, Region.binds .any e = true ∧ (i = e.on ∨ i ∈ acc.getD e.on [])
  | [], s, h => .inl h
  | e :: es, s, h => by
    rcases mem_bef1 (es := es) h with h | ⟨e', h1, h2, h3⟩
    · split at h
      · rename_i hb
        rcases mem_addL h with h | h
        · exact .inl h
        · simp only [List.mem_cons] at h
          exact .inr ⟨e, by simp, hb, h⟩
      · exact .inl h
    · exact .inr ⟨e', by simp [h1], h2, h3⟩

theorem befs_at : ∀ (l : List Oper) (acc : List (List Nat)), (befs l acc).take acc.length = acc ∧ ∀ i o, l[i]? = some o → (befs l acc)[acc.length + i]? = some (bef1 ((befs l acc).take (acc.length + i)) o.after.toList [])
  | [], acc => ⟨by simp [befs], fun i o h => by simp at h⟩
  | o :: l, acc => by
    obtain ⟨h1, h2⟩ := befs_at l (acc ++ [bef1 acc o.after.toList []])
    simp only [List.length_append, List.length_singleton] at h1 h2
    have h3 : (befs (o :: l) acc).take acc.length = acc := by
      have := congrArg (List.take acc.length) h1
      rw [List.take_take, Nat.min_eq_left (by omega)] at this
      simpa [befs] using this
    refine ⟨h3, fun i o' hi => ?_⟩
    cases i with
    | zero =>
      simp only [List.getElem?_cons_zero, Option.some.injEq] at hi
      subst hi
      rw [Nat.add_zero, h3]
      have := congrArg (fun l => l[acc.length]?) h1
      simp only [List.getElem?_take, Nat.lt_succ_self, if_true] at this
      simpa [befs] using this
    | succ i =>
      have := h2 i o' (by simpa using hi)
      rw [show acc.length + (i + 1) = acc.length + 1 + i by omega]
      exact this

/-- A set that holds, with an operation, all that must be ahead of it. -/
def Down (ops : List Oper) (S : Nat → Bool) : Prop := ∀ (j : Nat) (o : Oper), ops[j]? = some o → S j = true → ∀ e ∈ o.after.toList, Region.binds .any e = true → S e.on = true

theorem befs_down {ops : List Oper} {S : Nat → Bool} (hS : Down ops S) : ∀ (n j : Nat) (o : Oper), j < n → ops[j]? = some o → (∀ e ∈ o.after.toList, Region.binds .any e = true → S e.on = true) → ∀ i ∈ (befs ops []).getD j [], S i = true
  | 0, j, o, hj, _, _, i, _ => by omega
  | n + 1, j, o, hj, ho, he, i, hi => by
    have h := (befs_at ops []).2 j o ho
    simp only [List.length_nil, Nat.zero_add] at h
    rw [List.getD_eq_getElem?_getD, h, Option.getD_some] at hi
    rcases mem_bef1 hi with hi | ⟨e, h1, h2, h3⟩
    · simp at hi
    · rcases h3 with rfl | h3
      · exact he e h1 h2
      · rw [List.getD_eq_getElem?_getD, List.getElem?_take] at h3
        by_cases hlt : e.on < j
        · rw [if_pos hlt] at h3
          cases ho' : ops[e.on]? with
          | none =>
            have hl : (befs ops [])[e.on]? = none ∨ True := .inr trivial
            have hge : ops.length ≤ e.on := by
              rcases Nat.lt_or_ge e.on ops.length with h' | h'
              · rw [List.getElem?_eq_getElem h'] at ho'; cases ho'
              · exact h'
            have := getElem?_lt ho
            omega
          | some o' => exact befs_down hS n e.on o' (by omega) ho' (fun e' h4 h5 => hS e.on o' ho' (he e h1 h2) e' h4 h5) i (by rw [List.getD_eq_getElem?_getD]; exact h3)
        · rw [if_neg hlt] at h3; simp at h3

def isMem (d : Option Tmp) (l : List Nat) : Bool :=
  match d with
  | some d => memB d l
  | none => false
def sameDst (x y : Option Tmp) : Bool :=
  match x, y with
  | some a, some b => Nat.beq a b
  | _, _ => false

/-- Two operations that must not change places. -/
def confl (x y : DOp P) : Bool :=
  isMem x.dst y.names || (isMem y.dst x.names || (sameDst x.dst y.dst || ((x.k.eff && y.k.reads) || (x.k.reads && y.k.eff))))

def chk : List (DOp P) → Nat → DOp P → List Nat → Bool
  | [], _, _, _ => true
  | x :: p, i, y, d => (!confl x y || memB i d) && chk p (i + 1) y d

theorem chk_spec {y : DOp P} {d : List Nat} : ∀ {p : List (DOp P)} {k : Nat}, chk p k y d = true → ∀ i x, p[i]? = some x → confl x y = true → k + i ∈ d
  | [], k, _, i, x, hx, _ => by simp at hx
  | z :: p, k, h, i, x, hx, hc => by
    simp only [chk, Bool.and_eq_true] at h
    cases i with
    | zero =>
      simp only [List.getElem?_cons_zero, Option.some.injEq] at hx
      subst hx
      have := h.1
      rw [hc] at this
      exact memB_mem.mp (by simpa using this)
    | succ i =>
      have := chk_spec h.2 i x (by simpa using hx) hc
      rwa [show k + 1 + i = k + (i + 1) by omega] at this

def backB (j : Nat) : List Edge → Bool
  | [] => true
  | e :: es => (!Region.binds .any e || Nat.blt e.on j) && backB j es
theorem backB_spec {j : Nat} : ∀ {es : List Edge}, backB j es = true → ∀ e ∈ es, Region.binds .any e = true → e.on < j
  | [], _, e, he, _ => by simp at he
  | x :: es, h, e, he, hb => by
    simp only [backB, Bool.and_eq_true] at h
    simp only [List.mem_cons] at he
    rcases he with rfl | he
    · have := h.1; rw [hb] at this; simpa using this
    · exact backB_spec h.2 e he hb

def okPairs (L : List (DOp P)) (D : List (List Nat)) : Nat → List (DOp P) → Bool
  | _, [] => true
  | j, y :: r => chk (L.take j) 0 y (D.getD j []) && (backB j y.oper.after.toList && okPairs L D (j + 1) r)

theorem okPairs_spec {L : List (DOp P)} {D : List (List Nat)} : ∀ {l : List (DOp P)} {k : Nat}, okPairs L D k l = true → ∀ j y, l[j]? = some y → chk (L.take (k + j)) 0 y (D.getD (k + j) []) = true ∧ backB (k + j) y.oper.after.toList = true
  | [], _, _, j, y, hy => by simp at hy
  | z :: l, k, h, j, y, hy => by
    simp only [okPairs, Bool.and_eq_true] at h
    cases j with
    | zero =>
      simp only [List.getElem?_cons_zero, Option.some.injEq] at hy
      subst hy
      exact ⟨h.1, h.2.1⟩
    | succ j =>
      have := okPairs_spec h.2.2 j y (by simpa using hy)
      rwa [show k + 1 + j = k + (j + 1) by omega] at this

def okGuardsD (ops : List (DOp P)) : Bool :=
  ops.all fun r => match r.grd with
    | none => true
    | some (j, d, _) => match (ops[j]?).bind (·.dst) with
      | some d' => Nat.beq d' d
      | none => false

/-- The order is open, but comes to the same. -/
def okDraw (L : List (DOp P)) : Bool := okGuardsD L && okPairs L (befs (L.map DOp.oper) []) 0 L

/-! ### Every order -/
def cnt : List Bool → Nat
  | [] => 0
  | true :: l => cnt l
  | false :: l => cnt l + 1

theorem cnt_set : ∀ (l : List Bool) (i : Nat), l[i]? = some false → cnt (l.set i true) + 1 = cnt l
  | [], i, h => by simp at h
  | b :: l, 0, h => by simp at h; subst h; simp [cnt]
  | b :: l, i + 1, h => by
    have := cnt_set l i (by simpa using h)
    cases b <;> simp [cnt] <;> omega
theorem cnt_zero : ∀ (l : List Bool) (i : Nat), cnt l = 0 → i < l.length → l[i]? = some true
  | [], i, _, h => by simp at h
  | true :: l, 0, h, _ => rfl
  | true :: l, i + 1, h, hi => by simpa using cnt_zero l i (by simpa [cnt] using h) (by simpa using hi)
  | false :: l, i, h, _ => by simp [cnt] at h

theorem isMem_spec {d : Option Tmp} {l : List Nat} {t : Nat} (hd : d = some t) (h : t ∈ l) : isMem d l = true := by subst hd; exact memB_mem.mpr h

theorem tmps_sub {xs : List Operand} {d : DOp P} (hx : xs = d.k.xs) : ∀ t ∈ tmpsOf xs, t ∈ d.names := by
  intro t ht
  subst hx
  unfold DOp.names
  split
  · exact List.mem_cons_of_mem _ ht
  · exact ht

theorem draw_any {L : List (DOp P)} (hok : okDraw L = true) {rs : List (AV × St)} {ρ0 : Nat → AV} {st0 : St} (htr : Tr L ρ0 st0 rs) {N : Nat} {g0 : Gh} {w0 : World} {ds : List Deferred} {Q : Exit → Act → World → Prop}
    (hQ : ∀ a g w, a.tmps.size = N → (∀ t, Rel g w ((L.zip rs).foldl (fun ρ x => upd ρ x.1.dst x.2.1) ρ0 t) (a.tmps.getD t undef)) → StRel g (((rs.getLast?).map (·.2)).getD st0) w → Ev g0 w0 g w → a.defers = ds → Q .normal a w)
    (hin : inFrame N L = true) : ∀ (fuel : Nat) (listed : Array Bool) (a : Act) (w : World) (g : Gh), listed.size = L.length → cnt listed.toList = fuel → Down (L.map DOp.oper) (fun i => listed.getD i false) →
      a.tmps.size = N → (∀ t, Rel g w (lv ρ0 (L.zip rs) 0 (fun i => listed.getD i false) t) (a.tmps.getD t undef)) → StRel g (ls st0 (L.zip rs) 0 (fun i => listed.getD i false)) w → Ev g0 w0 g w → a.defers = ds →
      wpAny P .any (L.map DOp.oper).toArray Q fuel listed a w := by
  obtain ⟨hlen, hat⟩ := Tr.at L rs ρ0 st0 0 htr
  simp only [okDraw, Bool.and_eq_true] at hok
  obtain ⟨hgd, hpairs⟩ := hok
  have hpair : ∀ (i j : Nat) (x y : DOp P), i < j → L[i]? = some x → L[j]? = some y → confl x y = true → i ∈ (befs (L.map DOp.oper) []).getD j [] := by
    intro i j x y hij hx hy hc
    have h1 := (okPairs_spec hpairs j y hy).1
    rw [Nat.zero_add] at h1
    have h2 := chk_spec h1 i x (by rw [List.getElem?_take, if_pos hij]; exact hx) hc
    rwa [Nat.zero_add] at h2
  have hback : ∀ (j : Nat) (y : DOp P), L[j]? = some y → ∀ e ∈ y.oper.after.toList, Region.binds .any e = true → e.on < j := by
    intro j y hy
    have h1 := (okPairs_spec hpairs j y hy).2
    rw [Nat.zero_add] at h1
    exact backB_spec h1
  intro fuel
  induction fuel with
  | zero =>
    intro listed a w g h1 h2 h3 h4 h5 h6 h7 h8
    have hall : ∀ i, i < L.length → listed.getD i false = true := by
      intro i hi
      have := cnt_zero listed.toList i h2 (by simpa [h1] using hi)
      rw [Array.getD_eq_getD_getElem?]
      rw [Array.getElem?_toList] at this
      rw [this]; rfl
    have hlv := lv_all L rs ρ0 0 (fun i => listed.getD i false) (fun i hi => by rw [Nat.zero_add]; exact hall i hi)
    have hls := ls_all L rs ρ0 st0 0 (fun i => listed.getD i false) htr (fun i hi => by rw [Nat.zero_add]; exact hall i hi)
    refine ⟨?_, hQ a g w h4 (fun t => by have := h5 t; rw [hlv] at this; exact this) (by rw [hls] at h6; exact h6) h7 h8⟩
    apply List.eq_nil_iff_forall_not_mem.mpr
    intro j hj
    obtain ⟨hf, o, ho, _⟩ := mem_ready.mp hj
    have hlt : j < L.length := by
      rw [List.getElem?_toArray] at ho
      simpa using getElem?_lt ho
    have := hall j hlt
    rw [Array.getD_eq_getD_getElem?] at this hf
    cases hx : listed[j]? with
    | none => rw [hx] at this; cases this
    | some b => rw [hx] at this hf; simp only [Option.getD_some] at this hf; rw [this] at hf; cases hf
  | succ fuel ih =>
    intro listed a w g h1 h2 h3 h4 h5 h6 h7 h8
    refine ⟨fun hr => ?_, fun i hi => ?_⟩
    · -- nothing is ready: all is done
      exfalso
      have hall : ∀ n i, i < n → i < L.length → listed.getD i false = true := by
        intro n
        induction n with
        | zero => intro i hi; omega
        | succ n ihn =>
          intro i hi hlt
          cases hb : listed.getD i false with
          | true => rfl
          | false =>
            exfalso
            have hx : L[i]? = some L[i] := List.getElem?_eq_getElem hlt
            have : i ∈ Region.ready .any (L.map DOp.oper).toArray listed := by
              refine mem_ready.mpr ⟨?_, L[i].oper, by rw [List.getElem?_toArray, List.getElem?_map, hx]; rfl, fun e he hbi => ?_⟩
              · rw [Array.getD_eq_getD_getElem?] at hb ⊢
                have : listed[i]? = some listed[i] := Array.getElem?_eq_getElem (by omega)
                rw [this] at hb ⊢; exact hb
              · have := hback i L[i] hx e (by simpa using he) hbi
                exact ihn e.on (by omega) (by omega)
            rw [hr] at this; simp at this
      have : ∀ (l : List Bool), (∀ i, i < l.length → l[i]? = some true) → cnt l = 0 := by
        intro l
        induction l with
        | nil => intro _; rfl
        | cons b l ihl =>
          intro hh
          have hb := hh 0 (by simp)
          simp only [List.getElem?_cons_zero, Option.some.injEq] at hb
          subst hb
          exact ihl fun i hi => by simpa using hh (i + 1) (by simpa using hi)
      have h0 := this listed.toList fun i hi => by
        have hlt : i < L.length := by simpa [h1] using hi
        have := hall (i + 1) i (by omega) hlt
        rw [Array.getD_eq_getD_getElem?] at this
        rw [Array.getElem?_toList]
        cases hx : listed[i]? with
        | none => rw [hx] at this; cases this
        | some b => rw [hx] at this; simp only [Option.getD_some] at this; rw [this]
      omega
    · obtain ⟨hf, oo, hoo, hedge⟩ := mem_ready.mp hi
      rw [List.getElem?_toArray, List.getElem?_map] at hoo
      cases hx : L[i]? with
      | none => rw [hx] at hoo; cases hoo
      | some o =>
        rw [hx] at hoo
        simp only [Option.map_some, Option.some.injEq] at hoo
        subst hoo
        have hlt : i < L.length := getElem?_lt hx
        have hli : listed[i]? = some false := by
          rw [Array.getD_eq_getD_getElem?] at hf
          have : listed[i]? = some listed[i] := Array.getElem?_eq_getElem (by omega)
          rw [this] at hf ⊢
          simpa using hf
        have hSi : listed.getD i false = false := by rw [Array.getD_eq_getD_getElem?, hli]; rfl
        -- what has been done, and what not
        have before : ∀ (j : Nat) (x : DOp P), j < i → L[j]? = some x → confl x o = true → listed.getD j false = true := by
          intro j x hj hx' hc
          exact befs_down h3 (i + 1) i o.oper (by omega) (by rw [List.getElem?_map, hx]; rfl) (fun e he hb => hedge e (by simpa using he) hb) j (hpair j i x o hj hx' hx hc)
        have behind : ∀ (j : Nat) (y : DOp P), i < j → L[j]? = some y → confl o y = true → listed.getD j false = false := by
          intro j y hj hy hc
          cases hb : listed.getD j false with
          | false => rfl
          | true =>
            have hd := h3 j y.oper (by rw [List.getElem?_map, hy]; rfl) hb
            have := befs_down h3 (j + 1) j y.oper (by omega) (by rw [List.getElem?_map, hy]; rfl) hd i (hpair i j o y hj hx hy hc)
            rw [hSi] at this; cases this
        obtain ⟨r, s, hz⟩ : ∃ r s, (L.zip rs)[i]? = some (o, r, s) := by
          have hr : i < rs.length := by omega
          refine ⟨rs[i].1, rs[i].2, ?_⟩
          rw [List.getElem?_zip_eq_some]
          exact ⟨hx, by rw [List.getElem?_eq_getElem hr]⟩
        have hzip : ∀ (j : Nat) (x : DOp P × AV × St), (L.zip rs)[j]? = some x → L[j]? = some x.1 := by
          intro j x hj
          exact (List.getElem?_zip_eq_some.mp hj).1
        have hev := hat i o r s hz
        rw [Nat.zero_add] at hev
        -- names read as in the text's order
        have hname : ∀ t ∈ o.names, lv ρ0 (L.zip rs) 0 (fun j => decide (j < i)) t = lv ρ0 (L.zip rs) 0 (fun j => listed.getD j false) t := by
          intro t ht
          refine lv_congr _ 0 _ _ _ _ rfl fun j x hj hd => ?_
          rw [Nat.zero_add]
          have hL := hzip j x hj
          by_cases hji : j < i
          · rw [before j x.1 hji hL (by simp [confl, isMem_spec hd ht])]; simpa using hji
          · by_cases hje : j = i
            · subst hje; rw [hSi]; simp
            · rw [behind j x.1 (by omega) hL (by simp [confl, isMem_spec hd ht])]; simpa using (by omega : i ≤ j)
        have hstate : o.k.reads = true → ls st0 (L.zip rs) 0 (fun j => decide (j < i)) = ls st0 (L.zip rs) 0 (fun j => listed.getD j false) := by
          intro hrd
          refine ls_congr _ 0 _ _ _ _ rfl fun j x hj he => ?_
          rw [Nat.zero_add]
          have hL := hzip j x hj
          by_cases hji : j < i
          · rw [before j x.1 hji hL (by simp [confl, he, hrd])]; simpa using hji
          · by_cases hje : j = i
            · subst hje; rw [hSi]; simp
            · rw [behind j x.1 (by omega) hL (by simp [confl, he, hrd])]; simpa using (by omega : i ≤ j)
        -- the set with this operation
        have hS' : ∀ j, (listed.setIfInBounds i true).getD j false = if j = i then true else listed.getD j false := by
          intro j
          rw [Array.getD_eq_getD_getElem?, Array.getElem?_setIfInBounds]
          by_cases hji : j = i
          · subst hji; rw [if_pos rfl, if_pos rfl, if_pos (by omega)]; rfl
          · rw [if_neg (fun e => hji e.symm), if_neg hji, Array.getD_eq_getD_getElem?]
        have hlv' : ∀ t, lv ρ0 (L.zip rs) 0 (fun j => (listed.setIfInBounds i true).getD j false) t = upd (lv ρ0 (L.zip rs) 0 (fun j => listed.getD j false)) o.dst r t := by
          intro t
          refine lv_set _ 0 i o r s ρ0 _ _ hz (by rw [Nat.zero_add]; exact hSi) (by rw [Nat.zero_add, hS', if_pos rfl]) (fun j hj => by rw [Nat.zero_add, hS', if_neg hj]) fun j x hj hx' hdo hd => ?_
          rw [Nat.zero_add]
          exact behind j x.1 hj (hzip j x hx') (by simp [confl, sameDst, hd, hdo])
        have hdown' : Down (L.map DOp.oper) (fun j => (listed.setIfInBounds i true).getD j false) := by
          intro j o' ho' hb e he hbi
          simp only [hS'] at hb ⊢
          by_cases hji : j = i
          · subst hji
            rw [List.getElem?_map, hx] at ho'
            simp only [Option.map_some, Option.some.injEq] at ho'
            subst ho'
            have := hedge e (by simpa using he) hbi
            split
            · rfl
            · exact this
          · rw [if_neg hji] at hb
            have := h3 j o' ho' hb e he hbi
            split
            · rfl
            · exact this
        have hcnt' : cnt (listed.setIfInBounds i true).toList = fuel := by
          rw [Array.toList_setIfInBounds]
          have := cnt_set listed.toList i (by rw [Array.getElem?_toList]; exact hli)
          omega
        -- the operation itself
        have go : ∀ v g' w' st', Rel g' w' r v → StRel g' st' w' → Ev g w g' w' → st' = ls st0 (L.zip rs) 0 (fun j => (listed.setIfInBounds i true).getD j false) → wpAny P .any (L.map DOp.oper).toArray Q fuel (listed.setIfInBounds i true) (a.put o.dst v) w' := by
          intro v g' w' st' k1 k2 k3 k4
          subst k4
          refine ih (listed.setIfInBounds i true) (a.put o.dst v) w' g' (by simp [h1]) hcnt' hdown' ?_ ?_ k2 (h7.trans k3) ((put_defers ..).trans h8)
          · unfold Act.put; split <;> simp [h4]
          · intro t
            rw [hlv']
            have hold := Rel.mono k3 _ _ (h5 t)
            cases hdo : o.dst with
            | none => exact hold
            | some d =>
              have hfr : d < N := by
                have := List.all_eq_true.mp hin o (List.mem_of_getElem? hx)
                simp only [Bool.and_eq_true] at this
                have h9 := this.1
                rw [hdo] at h9
                simpa using h9
              simp only [upd, Act.put]
              cases hdt : Nat.beq d t with
              | true =>
                have : d = t := by simpa using hdt
                subst this
                rw [Array.getD_eq_getD_getElem?, Array.getElem?_setIfInBounds, if_pos rfl, if_pos (show d < a.tmps.size by rw [h4]; exact hfr)]
                exact k1
              | false =>
                have : d ≠ t := by intro e; subst e; simp at hdt
                rw [Array.getD_eq_getD_getElem?, Array.getElem?_setIfInBounds, if_neg this, ← Array.getD_eq_getD_getElem?]
                exact hold
        have hquiet : o.k.eff = false → ls st0 (L.zip rs) 0 (fun j => (listed.setIfInBounds i true).getD j false) = ls st0 (L.zip rs) 0 (fun j => listed.getD j false) := by
          intro he
          refine ls_congr _ 0 _ _ _ _ rfl fun j x hj hex => ?_
          rw [Nat.zero_add, hS', if_neg]
          intro e; subst e
          have := hzip _ x hj
          rw [hx] at this
          cases this
          rw [he] at hex; cases hex
        have heff : o.k.eff = true → ls st0 (L.zip rs) 0 (fun j => (listed.setIfInBounds i true).getD j false) = s := by
          intro he
          refine ls_set _ 0 i o r s st0 (fun j => listed.getD j false) _ hz (by rw [Nat.zero_add, hS', if_pos rfl]) (fun j hj => by rw [Nat.zero_add, hS', if_neg hj]) he fun j x hj hx' hex => ?_
          rw [Nat.zero_add]
          refine behind j x.1 hj (hzip j x hx') ?_
          have : x.1.k.reads = true := by cases hk : x.1.k <;> simp [hk, DK.eff] at hex <;> rfl
          simp [confl, he, this]
        have act : o.k.val (evOf (lv ρ0 (L.zip rs) 0 (fun j => decide (j < i)))) (ls st0 (L.zip rs) 0 (fun j => decide (j < i))) = some (r, s) → o.oper.wp P a w (wpAny P .any (L.map DOp.oper).toArray Q fuel (listed.setIfInBounds i true)) Q := by
          intro hval
          rw [o.k.val_congr (evOf_congr fun t ht => hname t (tmps_sub rfl t ht))] at hval
          have hEv : EvR g w (evOf (lv ρ0 (L.zip rs) 0 (fun j => listed.getD j false))) a o.k.xs := by
            intro x _
            cases x with
            | tmp t => exact h5 t
            | const v => exact ofLit_rel g w v
            | func f => exact ⟨#[], #[], rfl, rfl, rfl⟩
            | global _ => trivial
          cases hrd : o.k.reads with
          | true =>
            rw [hstate hrd] at hval
            have htold := o.k.val_sound hval hEv h6
            refine Oper.wp_guard (htold _ Q fun v g' w' k1 k2 k3 => go v g' w' s k1 k2 k3 ?_)
            cases he : o.k.eff with
            | true => exact (heff he).symm
            | false => rw [hquiet he]; exact o.k.val_quiet hval he
          | false =>
            have hval' := o.k.val_pure hval hrd (ls st0 (L.zip rs) 0 (fun j => listed.getD j false))
            have htold := o.k.val_sound hval' hEv h6
            refine Oper.wp_guard (htold _ Q fun v g' w' k1 k2 k3 => go v g' w' _ k1 k2 k3 ?_)
            have he : o.k.eff = false := by cases hk : o.k <;> simp [hk, DK.reads] at hrd <;> rfl
            rw [hquiet he]
        unfold wpOp
        rw [List.getElem?_toArray, List.getElem?_map, hx]
        simp only [Option.map_some]
        unfold DOp.ev at hev
        cases hgr : o.grd with
        | none =>
          rw [hgr] at hev
          rw [if_pos (by simp [Region.wanted, DOp.oper, hgr])]
          exact .inl (act hev)
        | some x =>
          obtain ⟨gi, d, b⟩ := x
          rw [hgr] at hev
          simp only at hev
          have hdn : d ∈ o.names := by simp [DOp.names, hgr]
          have hok' := List.all_eq_true.mp hgd o (List.mem_of_getElem? hx)
          simp only [hgr] at hok'
          have hdd : ((L.map DOp.oper)[gi]?).bind (·.dst) = some d := by
            rw [List.getElem?_map]
            cases hj : L[gi]? with
            | none => rw [hj] at hok'; simp at hok'
            | some y =>
              rw [hj] at hok'
              simp only [Option.bind_some, Option.map_some] at hok' ⊢
              show y.k.oper.dst = some d
              cases hy : y.dst with
              | none => rw [hy] at hok'; simp at hok'
              | some d' => rw [hy] at hok'; have : d' = d := by simpa using hok'
                           rw [← this]; exact hy
          have key : ∀ c : Bool, a.tmps.getD d undef = .bool c → Region.wanted o.oper (yielded (L.map DOp.oper).toArray a.tmps) = (c == b) := by
            intro c hc
            simp only [Region.wanted, DOp.oper, hgr, Option.map_some]
            unfold yielded
            rw [List.getElem?_toArray]
            rw [show (List.map DOp.oper L)[gi]?.bind (fun x => x.dst) = some d from hdd]
            rw [Option.bind_some, getD_of_yield hc]
            cases c <;> cases b <;> rfl
          split at hev
          · rename_i c hc
            have hrel := h5 d
            rw [← hname d hdn, hc] at hrel
            have hrel : a.tmps.getD d undef = .bool c := hrel
            split at hev
            · rename_i hcb
              rw [if_pos (by rw [key c hrel]; exact hcb)]
              exact .inl (act hev)
            · rename_i hcb
              rw [if_neg (by rw [key c hrel, hcb]; simp)]
              simp only [Option.some.injEq, Prod.mk.injEq] at hev
              obtain ⟨hr, hs⟩ := hev
              subst hr
              have hst : ls st0 (L.zip rs) 0 (fun j => (listed.setIfInBounds i true).getD j false) = ls st0 (L.zip rs) 0 (fun j => listed.getD j false) := by
                cases he : o.k.eff with
                | false => exact hquiet he
                | true =>
                  have hrd : o.k.reads = true := by cases hk : o.k <;> simp [hk, DK.eff] at he <;> rfl
                  rw [heff he, ← hs, hstate hrd]
              exact go undef g w _ ⟨#[], rfl, rfl⟩ h6 (Ev.refl g w) hst.symm
          · rename_i hc
            have hrel := h5 d
            rw [← hname d hdn, hc] at hrel
            obtain ⟨vs, hvs, hv0⟩ := hrel
            have hw0 : Region.wanted o.oper (yielded (L.map DOp.oper).toArray a.tmps) = false := by
              simp only [Region.wanted, DOp.oper, hgr, Option.map_some]
              unfold yielded
              rw [List.getElem?_toArray]
              rw [show (List.map DOp.oper L)[gi]?.bind (fun x => x.dst) = some d from hdd]
              rw [Option.bind_some]
              rw [Array.getD_eq_getD_getElem?] at hvs
              cases hxd : a.tmps[d]? with
              | none => cases b <;> rfl
              | some u => rw [hxd] at hvs; simp only [Option.getD_some] at hvs; subst hvs; cases b <;> rfl
            rw [if_neg (by rw [hw0]; simp)]
            simp only [Option.some.injEq, Prod.mk.injEq] at hev
            obtain ⟨hr, hs⟩ := hev
            subst hr
            have hst : ls st0 (L.zip rs) 0 (fun j => (listed.setIfInBounds i true).getD j false) = ls st0 (L.zip rs) 0 (fun j => listed.getD j false) := by
              cases he : o.k.eff with
              | false => exact hquiet he
              | true =>
                have hrd : o.k.reads = true := by cases hk : o.k <;> simp [hk, DK.eff] at he <;> rfl
                rw [heff he, ← hs, hstate hrd]
            exact go undef g w _ ⟨#[], rfl, rfl⟩ h6 (Ev.refl g w) hst.symm
          · cases hev

/-- A region whose order is open. -/
def Sim.draw (id : Nat) (ops : List (DOp P)) (hm : P.follows .mixedOrders = true) (h : okDraw ops = true) : Sim P where
  code := .region id (ops.map DOp.oper).toArray true
  run F K env st := match inFrame env.n ops with
    | true => drun ops (fun env st => K .normal env st) env st
    | false => none
  sound F K env st fin hr g w a he hs Q hp := by
    split at hr
    · rename_i hin
      obtain ⟨rs, env', st', k1, k2, k3, k4, k5⟩ := drun_tr ops env st hin hr
      refine wp_region_any hm ?_
      have hd : Ev g w g { w with drawn := w.drawn + 1 } := ⟨rfl, rfl, rfl, Nat.le_refl _, fun _ _ _ => ⟨rfl, rfl⟩, fun _ _ _ h => ⟨h, fun C _ _ hb => ⟨C, hb, rfl, fun _ _ => rfl⟩⟩, fun _ _ _ h => .inl h, fun _ _ h => h, tk_refl _⟩
      have hrep : ∀ j, (Array.replicate ops.length false).getD j false = false := by
        intro j
        rw [Array.getD_eq_getD_getElem?, Array.getElem?_replicate]
        split <;> rfl
      have hsd : StRel g st { w with drawn := w.drawn + 1 } := ⟨hs.tk, hs.len, fun k b o h1 h2 => ⟨(hs.obj k b o h1 h2).1, (hs.obj k b o h1 h2).2.keep hd rfl rfl⟩, hs.back, hs.rowlt⟩
      rw [show ((ops.map DOp.oper).toArray.size) = ops.length by simp]
      refine draw_any h k1 (N := env.n) (g0 := g) (w0 := w) (ds := a.defers) (fun a1 g1 w1 h1 h2 h3 h4 h5 => ?_) hin ops.length (Array.replicate ops.length false) a _ g (by simp) ?_ ?_ he.size ?_ ?_ hd rfl
      · subst k5
        exact hp .normal env' _ g1 w1 a1 .normal k2 ⟨h1.trans k3.symm, fun t => by rw [k4]; exact h2 t⟩ h3 h4 h5 rfl
      · have : ∀ n, cnt (List.replicate n false) = n := by
          intro n; induction n with
          | zero => rfl
          | succ n ih => simp [List.replicate_succ, cnt, ih]
        simp [this]
      · intro j o _ hb
        have hz := hrep j
        have hb : (Array.replicate ops.length false).getD j false = true := hb
        rw [hz] at hb; cases hb
      · intro t
        rw [lv_none _ _ _ _ (fun i => hrep (0 + i))]
        exact Rel.mono hd _ _ (he.slot t)
      · rw [ls_none _ _ _ _ (fun i => hrep (0 + i))]
        exact hsd
    · cases hr

end
end Go.V

/- Slices written out, made, copied; texts and bytes; callees in regions; callees whose garbage is forgotten. -/
set_option linter.unusedVariables false
set_option linter.unusedSimpArgs false
namespace Go.V
section
variable {P : Program}

/-! ### Slices written out -/
/-- What is put into a slice that never changes grows no more. -/
def frz : AV → AV
  | .lg _ sz l => .sl sz false l
  | .agg cs => .agg (cs.map frz1)
  | .tup cs => .tup (cs.map frz1)
  | x => x
where
  frz1 : AV → AV
    | .lg _ sz l => .sl sz false l
    | x => x

theorem frz1_rel {g : Gh} {w : World} {x : AV} {v : Value} (h : Rel g w x v) : Rel g w (frz.frz1 x) v := by
  unfold frz.frz1
  split
  · obtain ⟨b, cap, C, E, fz, h1, h2, h3, h4, h5, h6, h7, h8⟩ := h
    exact ⟨b, 0, none, cap, h1, h2, (fun e => by cases e), .inl rfl, h8⟩
  · exact h
theorem frzs_rel {g : Gh} {w : World} : ∀ {xs : List AV} {vs : List Value}, RelAll g w xs vs → RelAll g w (xs.map frz.frz1) vs
  | [], _, h => h
  | x :: xs, _, ⟨v, vr, e, h1, h2⟩ => ⟨v, vr, e, frz1_rel h1, frzs_rel h2⟩
theorem frz_rel {g : Gh} {w : World} {x : AV} {v : Value} (h : Rel g w x v) : Rel g w (frz x) v := by
  unfold frz
  split
  · exact frz1_rel (x := .lg _ _ _) h
  · obtain ⟨vs, h1, h2, h3⟩ := h
    exact ⟨vs, h1, frzs_rel h2, h3⟩
  · obtain ⟨vs, h1, h2⟩ := h
    exact ⟨vs, h1, frzs_rel h2⟩
  · exact h

theorem deads_rel {g : Gh} {w : World} : ∀ (vs : List Value), RelAll g w (List.replicate vs.length .dead) vs
  | [] => rfl
  | v :: vs => ⟨v, vs, rfl, trivial, deads_rel vs⟩

def abuildSl (sz len : Nat) (parts : List (Nat × Nat × AV)) (k : AV → Ans) : Ans :=
  aparts parts (List.replicate (len * sz) .dead) fun cs => match rowsOf sz len cs with
    | some l => k (.sl sz true l)
    | none => none

theorem zeroArr_cells {z : Value} {sz : Nat} (h1 : z.cells.toList.all Value.oneCell' = true) (hz : z.cells.size = sz) (n : Nat) :
    ∀ u ∈ ((Array.range (n * sz)).map (fun j => z.cells[j % z.cells.size]!)).toList, u.oneCell' = true := by
  intro u hu
  simp only [Array.toList_map, Array.toList_range, List.mem_map, List.mem_range] at hu
  obtain ⟨j, hj, rfl⟩ := hu
  have hpos : 0 < z.cells.size := by
    rcases Nat.eq_zero_or_pos z.cells.size with h | h
    · rw [hz] at h; subst h; simp at hj
    · exact h
  have hlt : j % z.cells.size < z.cells.size := Nat.mod_lt _ hpos
  rw [getElem!_pos z.cells _ hlt]
  exact List.all_eq_true.mp h1 _ (by simp)

theorem parts_evZ {ev ev' : Operand → AV} {sz : Nat} {parts : List (Nat × Operand)} (h : ∀ x ∈ parts.map (·.2), ev x = ev' x) : (parts.map fun p => (p.1 * sz, sz, frz (ev p.2))) = parts.map fun p => (p.1 * sz, sz, frz (ev' p.2)) :=
  List.map_congr_left fun p hp => by rw [h p.2 (List.mem_map_of_mem hp)]

def opBuildSlice (dst : Option Tmp) (T : TypeId) (len : Nat) (parts : List (Nat × Operand)) (e sz bytes : Nat) (z : Value) (hT : ElemOf P T e sz bytes z) (h1 : z.cells.toList.all Value.oneCell' = true) (hl : len * sz ≤ 16777216) (ty : TypeId) (pos : String) (after : Array Edge) : PSim P :=
  PSim.makes (mkOp dst (.buildSlice T len parts.toArray) ty pos after) rfl (parts.map (·.2)) (fun ev k => abuildSl sz len (parts.map fun p => (p.1 * sz, sz, frz (ev p.2))) k)
    (fun ev ev' k h => by rw [parts_evZ h]) fun ev k fin h g w a st he hs => by
    have hbig : ¬ (len * sz > 2 ^ 24) := by omega
    generalize hZ : (if len * sz = 0 then #[] else (Array.range (len * sz)).map (fun j => z.cells[j % z.cells.size]!)) = Z
    have hZ1 : ∀ u ∈ Z.toList, u.oneCell' = true := by
      subst hZ
      split
      · simp
      · exact zeroArr_cells h1 hT.cells len
    have hZs : Z.size = len * sz := by
      subst hZ
      split
      · rename_i h; simp [h]
      · simp
    have hr0 : RelAll g w (List.replicate (len * sz) .dead) Z.toList := by
      have := deads_rel (g := g) (w := w) Z.toList
      rw [Array.length_toList, hZs] at this; exact this
    -- the parts, with what was frozen
    have hfill : ∃ ds us, (match rowsOf sz len ds with | some l => k (.sl sz true l) | none => none) = some fin ∧ Instr.fill (fun i => some (i * sz, sz)) Z (parts.map fun p => (p.1, a.eval p.2)) = some us ∧ RelAll g w ds us.toList ∧ ∀ u ∈ us.toList, u.oneCell' = true := by
      have := aparts_run (ev := fun x => frz (ev x)) (xs := parts.map (·.2)) (fun x hx => frz_rel (he x hx)) (fun i => some (i * sz, sz)) (parts.map fun p => (p.1, p.1 * sz, sz, p.2)) (fun p hp => by
        simp only [List.mem_map] at hp
        obtain ⟨q, hq, rfl⟩ := hp
        exact List.mem_map.mpr ⟨q, hq, rfl⟩) (fun p hp => by
        simp only [List.mem_map] at hp
        obtain ⟨q, hq, rfl⟩ := hp
        rfl) _ Z hr0 hZ1 (by rw [List.map_map]; exact h)
      obtain ⟨ds, us, a1, a2, a3, a4⟩ := this
      exact ⟨ds, us, a1, by rw [List.map_map] at a2; exact a2, a3, a4⟩
    obtain ⟨ds, us, f1, f2, f3, f4⟩ := hfill
    split at f1
    · rename_i l hl'
      obtain ⟨l1, l2, l3⟩ := rowsOf_list sz len ds l hl'
      have hp := Push.alloc w (.cells us e)
      have hE : Ev g w ⟨g.use w.heap.size .solid, g.objs, g.tk⟩ (w.alloc (.cells us e)) := by simpa using Ev.push hp .solid [] g.tk (tk_refl _)
      refine ⟨_, .slice (some ⟨w.heap.size, 0, none⟩) len len, ⟨g.use w.heap.size .solid, g.objs, g.tk⟩, w.alloc (.cells us e), f1, ?_, ⟨w.heap.size, 0, none, len, by rw [l1], by omega, fun _ => l1.symm, .inl rfl, ?_⟩, ?_, hE⟩
      · simp only [execOp, mkOp, Instr.buildSlice, Sem.run_bind, run_underlying hT.ty, Result.andThen_ok, run_sizeOf' hT.size, if_neg hbig]
        by_cases h0 : len * sz = 0
        · rw [if_pos h0] at hZ
          simp only [if_pos h0, Sem.run_bind, Sem.run_pure, Result.andThen_ok, List.map_toArray]
          rw [show Array.range (len * sz) = #[] by rw [h0]; rfl, Array.map_empty, hZ]
          rw [show (Instr.fill (fun i => some (i * sz, sz)) Z (List.map (fun x => (x.fst, a.eval x.snd)) parts)) = some us from f2]
          rfl
        · rw [if_neg h0] at hZ
          simp only [if_neg h0, Sem.run_bind, Sem.run_pure, run_zeroValue' hT.zero, Result.andThen_ok, List.map_toArray]
          rw [hZ]
          rw [show (Instr.fill (fun i => some (i * sz, sz)) Z (List.map (fun x => (x.fst, a.eval x.snd)) parts)) = some us from f2]
          rfl
      · refine RelRows.of sz l (us.toList.take (len * sz)) _ _ l2 (by rw [l3]; exact RelAll.mono hE _ _ (RelAll.take _ _ _ f3)) fun j v hj => ?_
        have hj' : us.toList[j]? = some v := by
          rw [List.getElem?_take] at hj
          split at hj
          · exact hj
          · cases hj
        exact ⟨(solid_cells (g := g) hp g.tk (tk_refl _) g.objs j v hj').1, (solid_cells (g := g) hp g.tk (tk_refl _) g.objs j v hj').2, f4 v (List.mem_of_getElem? hj')⟩
      · have := hs.push hp .solid g.tk (tk_refl _) trivial
        rw [hs.tk] at this ⊢; exact this
    · cases f1

/-! ### Callees -/
/-- A callee whose answer hangs on its arguments alone. -/
structure POrc (P : Program) where
  id : FuncId
  fn : Func
  hf : P.funcs[id]? = some fn
  hname : (fn.name == "runtime.NumGoroutine") = false
  hb : fn.body.isNone = false
  F : List AV → (AV → Ans) → Ans
  sound : ∀ k args fin, F args k = some fin → ∃ r, k r = some fin ∧ ∀ st, CallsTo P id args st (.ret r, st)

def POrc.orcS (O : POrc P) : OrcS P where
  id := O.id
  fn := O.fn
  hf := O.hf
  hname := O.hname
  hb := O.hb
  sem args st k := O.F args fun r => k (.ret r) st
  sound k args st fin h := by
    obtain ⟨r, h1, h2⟩ := O.sound _ _ _ h
    exact ⟨_, st, h1, h2 st⟩

theorem call_told {id : FuncId} {fn : Func} (hf : P.funcs[id]? = some fn) (hname : (fn.name == "runtime.NumGoroutine") = false) (hb : fn.body.isNone = false) {dst : Option Tmp} {args : List Operand} {tys : Array TypeId} {ty : TypeId} {pos : String} {after : Array Edge}
    {ev : Operand → AV} {g : Gh} {w : World} {a : Act} {st : St} (he : EvR g w ev a args) (hs : StRel g st w) {r : AV} {st' : St} (h : CallsTo P id (args.map ev) st (.ret r, st')) :
    Told P (mkOp dst (.call { callee := .value (.func id), args := args.toArray, argTypes := tys }) ty pos after) a g w r st' := by
  intro next Q hn
  show (mkOp dst (.call { callee := .value (.func id), args := args.toArray, argTypes := tys }) ty pos after).upon P a next Q ((execOp a.eval _).run P w)
  have hrun : (execOp a.eval (mkOp dst (.call { callee := .value (.func id), args := args.toArray, argTypes := tys }) ty pos after)).run P w = .ok (.enter id (args.map a.eval).toArray) w := by
    simp only [execOp, mkOp, resolve, Act.eval, Deferred.ofValue]
    simp [invoke, run_callFunc hf hname hb, Act.eval]
  rw [hrun, Oper.upon_enter]
  refine (h g w _ (by simpa using he.list args fun _ h => h) hs).mono fun e w' ⟨g', h1, h2, h3⟩ => ?_
  obtain ⟨v, rfl, hv⟩ := h1
  exact hn v g' w' hv h2 h3

def opCallP (O : POrc P) (dst : Option Tmp) (args : List Operand) (tys : Array TypeId) (ty : TypeId) (pos : String) (after : Array Edge) : PSim P where
  oper := mkOp dst (.call { callee := .value (.func O.id), args := args.toArray, argTypes := tys }) ty pos after
  plain := rfl
  xs := args
  f ev k := O.F (args.map ev) k
  congr ev ev' k h := by rw [map_ev h fun _ h => h]
  sound ev k fin h g w a st he hs := by
    obtain ⟨r, h1, h2⟩ := O.sound _ _ _ h
    exact ⟨r, h1, call_told O.hf O.hname O.hb he hs (h2 st)⟩

def retOnly (k : AV → St → Ans) : Fin → St → Ans := fun r st' =>
  match r with
  | .ret v => k v st'
  | .pan _ => none

def opCallM (O : OrcS P) (dst : Option Tmp) (args : List Operand) (tys : Array TypeId) (ty : TypeId) (pos : String) (after : Array Edge) : MSim P where
  oper := mkOp dst (.call { callee := .value (.func O.id), args := args.toArray, argTypes := tys }) ty pos after
  plain := rfl
  xs := args
  f ev st k := O.sem (args.map ev) st (retOnly k)
  congr ev ev' st k h := by rw [map_ev h fun _ h => h]
  sound ev st k fin h g w a he hs := by
    obtain ⟨r, st', h1, h2⟩ := O.sound _ _ _ _ h
    cases r with
    | ret v => exact ⟨v, st', h1, call_told O.hf O.hname O.hb he hs h2⟩
    | pan v => cases h1

/-- What goes on does not sway a callee's answer. -/
def POrc.Nat (O : POrc P) : Prop := ∀ args k, O.F args k = thenA (O.F args retA) k
theorem opCallP_nat {O : POrc P} (h : O.Nat) {dst : Option Tmp} {args : List Operand} {tys : Array TypeId} {ty : TypeId} {pos : String} {after : Array Edge} : (opCallP O dst args tys ty pos after).Nat := fun ev k => h _ _
def OrcS.NatS (O : OrcS P) : Prop := ∀ args st k, O.sem args st k = (match O.sem args st (fun r st' => some (r, st')) with
  | some (r, st') => k r st'
  | none => none)
theorem opCallM_nat {O : OrcS P} (h : O.NatS) {dst : Option Tmp} {args : List Operand} {tys : Array TypeId} {ty : TypeId} {pos : String} {after : Array Edge} : (opCallM O dst args tys ty pos after).NatM := by
  intro ev st k
  show O.sem _ _ (retOnly k) = thenM (O.sem _ _ (retOnly retM)) k
  rw [h _ _ (retOnly k), h _ _ (retOnly retM)]
  cases O.sem (args.map ev) st (fun r st' => some (r, st')) with
  | none => rfl
  | some x =>
    obtain ⟨r, st'⟩ := x
    cases r <;> rfl

/-! ### What is made and not handed back is forgotten -/
mutual
def Scoped (n m : Nat) : AV → Prop
  | .ptr k _ => k < n
  | .ms k _ _ _ _ => k < n
  | .mp k => k < n
  | .lg t _ l => t < m ∧ ScopedR n m l
  | .sl _ _ l => ScopedR n m l
  | .eptr cs => ScopedL n m cs
  | .fn _ a c => ScopedL n m a ∧ ScopedL n m c
  | .ifc _ v => Scoped n m v
  | .agg cs => ScopedL n m cs
  | .tup cs => ScopedL n m cs
  | _ => True
def ScopedL (n m : Nat) : List AV → Prop
  | [] => True
  | x :: l => Scoped n m x ∧ ScopedL n m l
def ScopedR (n m : Nat) : List (List AV) → Prop
  | [] => True
  | x :: l => ScopedL n m x ∧ ScopedR n m l
end

def Gh.cut (g g' : Gh) (size : Nat) : Gh where
  kind b := if b < size then g.kind b else match g'.kind b with
    | .row t => if t < g.tk.length then .row t else .solid
    | _ => .solid
  objs := g.objs
  tk := g.tk

/-- The two pictures agree on what was there. -/
structure Cut (g g' : Gh) (w w' : World) : Prop where
  kind : ∀ b, b < w.heap.size → g'.kind b = g.kind b
  objs : ∀ k b : Nat, k < g.objs.length → g'.objs[k]? = some b → g.objs[k]? = some b
  tk : ∀ t : Nat, t < g.tk.length → g'.tk[t]? = g.tk[t]?
  row : ∀ b t, b < w.heap.size → g.kind b = .row t → t < g.tk.length

theorem Cut.prot {g g' : Gh} {w w' : World} (h : Cut g g' w w') {b off : Nat} (hp : g'.prot b off) : (g.cut g' w.heap.size).prot b off := by
  unfold Gh.prot at hp ⊢
  simp only [Gh.cut]
  by_cases hb : b < w.heap.size
  · rw [if_pos hb]
    rw [h.kind b hb] at hp
    cases hk : g.kind b with
    | solid => trivial
    | part S => rw [hk] at hp; exact hp
    | obj k => rw [hk] at hp; exact hp
    | row t =>
      rw [hk] at hp
      obtain ⟨sz, n, h1, h2⟩ := hp
      exact ⟨sz, n, by rw [← h.tk t (h.row b t hb hk)]; exact h1, h2⟩
  · rw [if_neg hb]
    cases hk : g'.kind b with
    | solid => trivial
    | part S => trivial
    | obj k => rw [hk] at hp; exact hp.elim
    | row t =>
      rw [hk] at hp
      obtain ⟨sz, n, h1, h2⟩ := hp
      simp only
      by_cases ht : t < g.tk.length
      · rw [if_pos ht]; exact ⟨sz, n, by rw [← h.tk t ht]; exact h1, h2⟩
      · rw [if_neg ht]; trivial

mutual
theorem Cut.rel {g g' : Gh} {w w' : World} (h : Cut g g' w w') : ∀ (a : AV) (v : Value), Scoped g.objs.length g.tk.length a → Rel g' w' a v → Rel (g.cut g' w.heap.size) w' a v
  | .bool _, _, _, r => r
  | .int _ _, _, _, r => r
  | .str _, _, _, r => r
  | .nilptr, _, _, r => r
  | .nilsl, _, _, r => r
  | .nilmap, _, _, r => r
  | .nilfn, _, _, r => r
  | .nilif, _, _, r => r
  | .ptr k off, _, s, ⟨b, r1, r2⟩ => ⟨b, h.objs k b s r1, r2⟩
  | .eptr cs, _, s, ⟨b, off, r1, r2⟩ => ⟨b, off, r1, Cut.relCells h cs b off s r2⟩
  | .sl sz full l, _, s, ⟨b, off, sp, cap, r1, r2, r3, rs, r4⟩ => ⟨b, off, sp, cap, r1, r2, r3, rs, Cut.relRows h sz l b off s r4⟩
  | .lg t sz l, _, ⟨s1, s2⟩, ⟨b, cap, C, E, fz, r1, r2, r3, r4, r5, r9, ⟨n, r6, r7⟩, r8⟩ => by
    refine ⟨b, cap, C, E, fz, r1, r2, ?_, r4, r5, r9, ⟨n, by rw [show (g.cut g' w.heap.size).tk = g.tk from rfl, ← h.tk t s1]; exact r6, r7⟩, Cut.relRows h sz l b 0 s2 r8⟩
    simp only [Gh.cut]
    by_cases hb : b < w.heap.size
    · rw [if_pos hb, ← h.kind b hb]; exact r3
    · rw [if_neg hb, r3]; simp only; rw [if_pos s1]
  | .ms k sz off n cap, _, s, ⟨b, r1, r2⟩ => ⟨b, h.objs k b s r1, r2⟩
  | .mp k, _, s, ⟨b, r1, r2⟩ => ⟨b, h.objs k b s r1, r2⟩
  | .fn f a c, _, ⟨s1, s2⟩, ⟨va, vc, r1, r2, r3⟩ => ⟨va, vc, r1, Cut.relAll h a va.toList s1 r2, Cut.relAll h c vc.toList s2 r3⟩
  | .ifc t a, _, s, ⟨u, r1, r2⟩ => ⟨u, r1, Cut.rel h a u s r2⟩
  | .agg cs, _, s, ⟨vs, r1, r2, r3⟩ => ⟨vs, r1, Cut.relAll h cs vs.toList s r2, r3⟩
  | .tup cs, _, s, ⟨vs, r1, r2⟩ => ⟨vs, r1, Cut.relAll h cs vs.toList s r2⟩
  | .dead, _, _, _ => trivial
theorem Cut.relAll {g g' : Gh} {w w' : World} (h : Cut g g' w w') : ∀ (ays : List AV) (vs : List Value), ScopedL g.objs.length g.tk.length ays → RelAll g' w' ays vs → RelAll (g.cut g' w.heap.size) w' ays vs
  | [], _, _, r => r
  | a :: ays, _, ⟨s1, s2⟩, ⟨v, vr, r1, r2, r3⟩ => ⟨v, vr, r1, Cut.rel h a v s1 r2, Cut.relAll h ays vr s2 r3⟩
theorem Cut.relCells {g g' : Gh} {w w' : World} (h : Cut g g' w w') : ∀ (ays : List AV) (b off : Nat), ScopedL g.objs.length g.tk.length ays → RelCells g' w' ays b off → RelCells (g.cut g' w.heap.size) w' ays b off
  | [], _, _, _, _ => trivial
  | a :: ays, b, off, ⟨s1, s2⟩, ⟨⟨u, r1, r2, r5, r3⟩, r4⟩ => ⟨⟨u, r1, h.prot r2, r5, Cut.rel h a u s1 r3⟩, Cut.relCells h ays b (off + 1) s2 r4⟩
theorem Cut.relRows {g g' : Gh} {w w' : World} (h : Cut g g' w w') (sz : Nat) : ∀ (l : List (List AV)) (b off : Nat), ScopedR g.objs.length g.tk.length l → RelRows g' w' sz l b off → RelRows (g.cut g' w.heap.size) w' sz l b off
  | [], _, _, _, _ => trivial
  | x :: l, b, off, ⟨s1, s2⟩, ⟨r1, r2, r3⟩ => ⟨r1, Cut.relCells h x b off s1 r2, Cut.relRows h sz l b (off + sz) s2 r3⟩
end

/-! What is related lies within the picture. -/
mutual
theorem Rel.inside {g : Gh} {w : World} : ∀ (a : AV) (v : Value), Rel g w a v → Scoped g.objs.length g.tk.length a
  | .bool _, _, _ => trivial
  | .int _ _, _, _ => trivial
  | .str _, _, _ => trivial
  | .nilptr, _, _ => trivial
  | .nilsl, _, _ => trivial
  | .nilmap, _, _ => trivial
  | .nilfn, _, _ => trivial
  | .nilif, _, _ => trivial
  | .ptr k off, _, ⟨b, r1, r2⟩ => getElem?_lt r1
  | .eptr cs, _, ⟨b, off, r1, r2⟩ => RelCells.inside cs b off r2
  | .sl sz full l, _, ⟨b, off, sp, cap, r1, r2, r3, rs, r4⟩ => RelRows.inside sz l b off r4
  | .lg t sz l, _, ⟨b, cap, C, E, fz, r1, r2, r3, r4, r5, r9, ⟨n, r6, r7⟩, r8⟩ => ⟨getElem?_lt r6, RelRows.inside sz l b 0 r8⟩
  | .ms k sz off n cap, _, ⟨b, r1, r2⟩ => getElem?_lt r1
  | .mp k, _, ⟨b, r1, r2⟩ => getElem?_lt r1
  | .fn f a c, _, ⟨va, vc, r1, r2, r3⟩ => ⟨RelAll.inside a va.toList r2, RelAll.inside c vc.toList r3⟩
  | .ifc t a, _, ⟨u, r1, r2⟩ => Rel.inside a u r2
  | .agg cs, _, ⟨vs, r1, r2, r3⟩ => RelAll.inside cs vs.toList r2
  | .tup cs, _, ⟨vs, r1, r2⟩ => RelAll.inside cs vs.toList r2
  | .dead, _, _ => trivial
theorem RelAll.inside {g : Gh} {w : World} : ∀ (ays : List AV) (vs : List Value), RelAll g w ays vs → ScopedL g.objs.length g.tk.length ays
  | [], _, _ => trivial
  | a :: ays, _, ⟨v, vr, r1, r2, r3⟩ => ⟨Rel.inside a v r2, RelAll.inside ays vr r3⟩
theorem RelCells.inside {g : Gh} {w : World} : ∀ (ays : List AV) (b off : Nat), RelCells g w ays b off → ScopedL g.objs.length g.tk.length ays
  | [], _, _, _ => trivial
  | a :: ays, b, off, ⟨⟨u, r1, r2, r5, r3⟩, r4⟩ => ⟨Rel.inside a u r3, RelCells.inside ays b (off + 1) r4⟩
theorem RelRows.inside {g : Gh} {w : World} (sz : Nat) : ∀ (l : List (List AV)) (b off : Nat), RelRows g w sz l b off → ScopedR g.objs.length g.tk.length l
  | [], _, _, _ => trivial
  | x :: l, b, off, ⟨r1, r2, r3⟩ => ⟨RelCells.inside x b off r2, RelRows.inside sz l b (off + sz) r3⟩
end

def ScopedOb (n m : Nat) : Ob → Prop
  | .cells cs => ScopedL n m cs
  | .map es => ScopedL n m (es.map (·.1)) ∧ ScopedL n m (es.map (·.2))
  | .gone => True

/-- Objects and tokens that were made are forgotten, where nothing leads to them. -/
theorem forget {id : FuncId} {args : List AV} {st : St} {r : AV} {os xo : List Ob} {xt : List (Nat × Nat)} (h : CallsTo P id args st (.ret r, ⟨os ++ xo, st.tk ++ xt⟩)) (hlen : os.length = st.objs.length)
    (hos : os = st.objs ∨ ((∀ o ∈ os, ScopedOb st.objs.length st.tk.length o) ∧ ∀ (k : Nat) (o o' : Ob), st.objs[k]? = some o → os[k]? = some o' → (match o with | .gone => False | _ => True) → (match o' with | .gone => False | _ => True)))
    (hr' : ScopedL st.objs.length st.tk.length args → Scoped st.objs.length st.tk.length (frz r)) : CallsTo P id args st (.ret (frz r), ⟨os, st.tk⟩) := by
  intro g w vals hv hs
  have hr := hr' (by have := RelAll.inside args vals.toList hv; rw [hs.len, hs.tk] at this; exact this)
  refine (h g w vals hv hs).mono fun e w' ⟨g', h1, h2, h3⟩ => ?_
  obtain ⟨v, rfl, hv'⟩ := h1
  have hgone : ∀ (k : Nat) (o o' : Ob), st.objs[k]? = some o → os[k]? = some o' → (match o with | .gone => False | _ => True) → (match o' with | .gone => False | _ => True) := by
    rcases hos with rfl | hos
    · intro k o o' h1 h2 h3; rw [h1] at h2; cases h2; exact h3
    · exact hos.2
  have hobs : ∀ (k b : Nat) (o : Ob), g.objs[k]? = some b → os[k]? = some o → ScopedOb g.objs.length g.tk.length o := by
    intro k b o hk ho
    rcases hos with rfl | hos
    · obtain ⟨_, hr⟩ := hs.obj k b o hk ho
      cases o with
      | cells cs => obtain ⟨_, C, E, _, hr, _⟩ := hr; exact RelAll.inside _ _ hr
      | map es => obtain ⟨_, M, c, _, hr, hr'⟩ := hr; exact ⟨RelAll.inside _ _ hr, RelAll.inside _ _ hr'⟩
      | gone => trivial
    · rw [hs.len, hs.tk]; exact hos.1 o (List.mem_of_getElem? ho)
  have hcut : Cut g g' w w' := by
    refine ⟨fun b hb => ?_, fun k b hk hb => ?_, fun t ht => ?_, fun b t hb hk => by rw [hs.tk]; exact hs.rowlt b t hb hk⟩
    · cases hk : g.kind b with
      | solid => exact (h3.solid b hb hk).1
      | part S => exact (h3.part b hb hk).1
      | row t => exact (h3.row b t hb hk).1
      | obj k =>
        obtain ⟨o, o1, o2, o3⟩ := hs.back b k hb hk
        have hkl : k < os.length := by rw [hlen]; exact getElem?_lt o1
        have ho' : os[k]? = some os[k] := List.getElem?_eq_getElem hkl
        have := hgone k o _ o1 ho' o3
        have hob := (h2.obj k b os[k] (h3.objs k b o2) (by rw [List.getElem?_append_left hkl]; exact ho')).2
        generalize os[k] = o' at this hob
        cases o' with
        | cells cs => exact hob.1
        | map es => exact hob.1
        | gone => exact this.elim
    · have : g.objs[k]? = some g.objs[k] := List.getElem?_eq_getElem hk
      have h4 := h3.objs k _ this
      rw [hb] at h4
      rw [this]
      exact h4.symm
    · rw [h2.tk, hs.tk, List.getElem?_append_left (by rw [← hs.tk]; exact ht)]
  have hE : Ev g w (g.cut g' w.heap.size) w' := by
    refine ⟨h3.os, h3.tape, h3.output, h3.size, fun b hb hk => ⟨by simp only [Gh.cut]; rw [if_pos hb], (h3.fixed b hb hk).2⟩, fun b t hb hk => ⟨by simp only [Gh.cut]; rw [if_pos hb]; exact hk, (h3.row b t hb hk).2⟩, fun b k hb hk => .inl (by simp only [Gh.cut]; rw [if_pos hb]; exact hk), fun _ _ h => h, tk_refl _⟩
  refine ⟨g.cut g' w.heap.size, ⟨v, rfl, hcut.rel _ _ (by rw [hs.len, hs.tk]; exact hr) (frz_rel hv')⟩, ⟨hs.tk, by rw [hlen]; exact hs.len, fun k b o hk ho => ?_, fun b k hb hk => ?_, fun b t hb hk => ?_⟩, hE⟩
  · have hkl : k < os.length := getElem?_lt ho
    obtain ⟨p1, p2⟩ := h2.obj k b o (h3.objs k b hk) (by rw [List.getElem?_append_left hkl]; exact ho)
    have hblt : b < w.heap.size := (hs.obj k b _ hk (List.getElem?_eq_getElem (by omega))).1
    refine ⟨p1, ?_⟩
    have hsc := hobs k b o hk ho
    cases o with
    | cells cs =>
      obtain ⟨q1, C, E, q2, q3, q4⟩ := p2
      exact ⟨by simp only [Gh.cut]; rw [if_pos hblt, ← hcut.kind b hblt]; exact q1, C, E, q2, hcut.relAll _ _ hsc q3, q4⟩
    | map es =>
      obtain ⟨q1, M, c, q2, q3, q4⟩ := p2
      exact ⟨by simp only [Gh.cut]; rw [if_pos hblt, ← hcut.kind b hblt]; exact q1, M, c, q2, hcut.relAll _ _ hsc.1 q3, hcut.relAll _ _ hsc.2 q4⟩
    | gone => trivial
  · simp only [Gh.cut] at hk
    by_cases hb' : b < w.heap.size
    · rw [if_pos hb'] at hk
      obtain ⟨o, o1, o2, o3⟩ := hs.back b k hb' hk
      have hkl : k < os.length := by rw [hlen]; exact getElem?_lt o1
      exact ⟨os[k], List.getElem?_eq_getElem hkl, o2, hgone k o _ o1 (List.getElem?_eq_getElem hkl) o3⟩
    · rw [if_neg hb'] at hk
      split at hk
      · split at hk <;> cases hk
      · cases hk
  · simp only [Gh.cut] at hk
    by_cases hb' : b < w.heap.size
    · rw [if_pos hb'] at hk; exact hs.rowlt b t hb' hk
    · rw [if_neg hb'] at hk
      split at hk
      · split at hk
        · rename_i ht
          cases hk
          show t < st.tk.length
          rw [← hs.tk]; exact ht
        · cases hk
      · cases hk

/-- A function whose answer hangs on its arguments alone, and that leaves all objects: as a callee. -/
def Fun.pure (f : Fun P) (G : List AV → Option AV) (hG : ∀ args r, G args = some r → (∀ n m, ScopedL n m args → Scoped n m r) ∧ ∃ F, ∀ st, ∃ r' xo xt, frz r' = r ∧ f.run F args st = some (.ret r', ⟨st.objs ++ xo, st.tk ++ xt⟩)) : POrc P where
  id := f.id
  fn := f.fn
  hf := f.hf
  hname := f.hname
  hb := by rw [f.hbody]; rfl
  F args k := match G args with
    | some r => k r
    | none => none
  sound k args fin h := by
    split at h
    · rename_i r hr
      obtain ⟨h2, F, h3⟩ := hG args r hr
      refine ⟨r, h, fun st => ?_⟩
      obtain ⟨r', xo, xt, h1, h4⟩ := h3 st
      have := forget (f.sound h4) rfl (.inl rfl) (by rw [h1]; exact h2 _ _)
      rwa [h1] at this
    · cases h

end
end Go.V

/- Equality of structs whose fields are numbers, bools, texts. -/
set_option linter.unusedVariables false
set_option linter.unusedSimpArgs false
namespace Go.V
section
variable {P : Program}

def kindB (P : Program) (t : TypeId) (c : Nat) : Bool :=
  match P.underlying t with
  | some (.int _) => Nat.beq c 0
  | some .bool => Nat.beq c 1
  | some .string => Nat.beq c 2
  | _ => false
def eqFlat (P : Program) : List Field → List (Nat × Nat) → Bool
  | [], [] => true
  | f :: fs, x :: l => !(f.name == "_") && (Nat.beq f.offset x.1 && (kindB P f.type x.2 && eqFlat P fs l))
  | _, _ => false
/-- A struct that is compared field by field: where each lies, and what it is (0: a number, 1: a bool, 2: a text). -/
def eqFlatB (P : Program) (t : TypeId) (l : List (Nat × Nat)) : Bool :=
  match P.underlying t with
  | some (.struct fs) => !P.stoodInHeld t && (!P.eqGuardType P.depth t && eqFlat P fs.toList l)
  | _ => false

def eqCell (c : Nat) (x y : Option AV) : Option Bool :=
  match x, y with
  | some (.int k a), some (.int k' b) => if k = k' ∧ c = 0 then some (a == b) else none
  | some (.bool a), some (.bool b) => if c = 1 then some (a == b) else none
  | some (.str a), some (.str b) => if c = 2 then some (a.toList == b.toList) else none
  | _, _ => none
def eqCells (xs ys : List AV) : List (Nat × Nat) → Option Bool
  | [] => some true
  | x :: l => match eqCell x.2 xs[x.1]? ys[x.1]? with
    | some b => match eqCells xs ys l with
      | some r => some (b && r)
      | none => none
    | none => none
def aeqS (l : List (Nat × Nat)) (x y : AV) (k : Bool → Ans) : Ans :=
  match x, y with
  | .agg xs, .agg ys => match eqCells xs ys l with
    | some b => k b
    | none => none
  | _, _ => none

theorem RelAll.at {g : Gh} {w : World} : ∀ {ays : List AV} {vs : List Value} {i : Nat} {a : AV}, RelAll g w ays vs → ays[i]? = some a → ∃ v, vs[i]? = some v ∧ Rel g w a v
  | [], _, i, a, _, h => by simp at h
  | x :: ays, _, 0, a, ⟨v, vr, rfl, h1, h2⟩, h => by simp at h; subst h; exact ⟨v, by simp, h1⟩
  | x :: ays, _, i + 1, a, ⟨v, vr, rfl, h1, h2⟩, h => by
    obtain ⟨u, k1, k2⟩ := RelAll.at h2 (by simpa using h)
    exact ⟨u, by simpa using k1, k2⟩

theorem part_one {t : TypeId} {c : Nat} (h : kindB P t c = true) {vs : Array Value} {o : Nat} {v : Value} (hv : vs.toList[o]? = some v) (w : World) : (part t vs o).run P w = .ok v w := by
  have hv' : vs[o]? = some v := by simpa using hv
  unfold kindB at h
  unfold part
  split at h <;> first
    | (rename_i hd; simp [run_isAgg hd, isAggD, hv'])
    | cases h

theorem eqFields_run {g : Gh} {w : World} {xs ys : List AV} {vs us : Array Value} (hx : RelAll g w xs vs.toList) (hy : RelAll g w ys us.toList) (d : Nat) : ∀ (fs : List Field) (l : List (Nat × Nat)) (r : Bool), eqFlat P fs l = true → eqCells xs ys l = some r →
    (Op.eqFields (d + 1) vs us fs).run P w = .ok r w
  | [], [], r, _, h => by simp only [eqCells, Option.some.injEq] at h; subst h; simp [Op.eqFields]
  | [], _ :: _, r, h, _ => by simp [eqFlat] at h
  | _ :: _, [], r, h, _ => by simp [eqFlat] at h
  | f :: fs, (o, c) :: l, r, h, hr => by
    simp only [eqFlat, Bool.and_eq_true] at h
    obtain ⟨h1, h2, h3, h4⟩ := h
    simp only [eqCells] at hr
    cases h5 : eqCell c xs[o]? ys[o]? with
    | none => rw [h5] at hr; cases hr
    | some b =>
      rw [h5] at hr
      simp only at hr
      cases h6 : eqCells xs ys l with
      | none => rw [h6] at hr; cases hr
      | some r' =>
        rw [h6] at hr
        simp only [Option.some.injEq] at hr
        subst hr
        have ih := eqFields_run hx hy d fs l r' h4 h6
        have ho : f.offset = o := by simpa using h2
        have key : ∃ a v, (part f.type vs f.offset).run P w = .ok a w ∧ (part f.type us f.offset).run P w = .ok v w ∧ (Op.equalIn (d + 1) f.type a v).run P w = .ok b w := by
          rw [ho]
          unfold eqCell at h5
          split at h5
          · rename_i k a k' b' e1 e2
            split at h5
            · rename_i hk
              obtain ⟨rfl, rfl⟩ := hk
              simp only [Option.some.injEq] at h5
              obtain ⟨v, p1, p2⟩ := RelAll.at hx e1
              obtain ⟨u, q1, q2⟩ := RelAll.at hy e2
              obtain rfl : v = .int k a := p2
              obtain rfl : u = .int k b' := q2
              refine ⟨_, _, part_one h3 p1 w, part_one h3 q1 w, ?_⟩
              unfold kindB at h3
              split at h3
              · rename_i hd; rw [← h5]; exact run_equalIn_int w d f.type _ _ a b' hd
              · cases h3
              · cases h3
              · cases h3
            · cases h5
          · rename_i a b' e1 e2
            split at h5
            · rename_i hk
              subst hk
              simp only [Option.some.injEq] at h5
              obtain ⟨v, p1, p2⟩ := RelAll.at hx e1
              obtain ⟨u, q1, q2⟩ := RelAll.at hy e2
              obtain rfl : v = .bool a := p2
              obtain rfl : u = .bool b' := q2
              refine ⟨_, _, part_one h3 p1 w, part_one h3 q1 w, ?_⟩
              unfold kindB at h3
              split at h3
              · cases h3
              · rename_i hd; rw [← h5]; exact run_equalIn_bool' w d f.type a b' hd
              · cases h3
              · cases h3
            · cases h5
          · rename_i a b' e1 e2
            split at h5
            · rename_i hk
              subst hk
              simp only [Option.some.injEq] at h5
              obtain ⟨v, p1, p2⟩ := RelAll.at hx e1
              obtain ⟨u, q1, q2⟩ := RelAll.at hy e2
              obtain rfl : v = .string a := p2
              obtain rfl : u = .string b' := q2
              refine ⟨_, _, part_one h3 p1 w, part_one h3 q1 w, ?_⟩
              unfold kindB at h3
              split at h3
              · cases h3
              · cases h3
              · rename_i hd; rw [← h5]; exact run_equalIn_string w d f.type a b' hd
              · cases h3
            · cases h5
          · cases h5
        obtain ⟨a, v, p1, p2, p3⟩ := key
        have hn : f.name ≠ "_" := by simpa using h1
        rw [Op.eqFields]
        simp only [if_pos hn, Sem.run_bind, p1, p2, p3, Result.andThen_ok]
        cases b
        · simp
        · simpa using ih

theorem aeqS_run {t : TypeId} {l : List (Nat × Nat)} (ht : eqFlatB P t l = true) {g : Gh} {w : World} {X Y : AV} {a b : Value} (hx : Rel g w X a) (hy : Rel g w Y b) {k : Bool → Ans} {fin : Fin × St} (h : aeqS l X Y k = some fin) (x y : Operand) :
    ∃ r, k r = some fin ∧ (do eqGuard .eql t x y a b; binOp .eql t a b : Sem Value).run P w = .ok (.bool r) w ∧ (do eqGuard .neq t x y a b; binOp .neq t a b : Sem Value).run P w = .ok (.bool !r) w := by
  unfold aeqS at h
  split at h
  · rename_i xs ys
    split at h
    · rename_i r hr
      obtain ⟨vs, rfl, h1, _⟩ := hx
      obtain ⟨us, rfl, h2, _⟩ := hy
      unfold eqFlatB at ht
      split at ht
      · rename_i fs hu
        simp only [Bool.and_eq_true, Bool.not_eq_true'] at ht
        obtain ⟨t1, t2, t3⟩ := ht
        have hf : P.fieldsOf t = fs := by simp [Program.fieldsOf, hu]
        have he : (Op.equalIn 10000 t (.agg vs) (.agg us)).run P w = .ok r w := by
          rw [run_equalIn_struct w 9999 t vs us (by rw [hf]; exact hu) t1, hf]
          exact eqFields_run h1 h2 9998 fs.toList l r t3 hr
        refine ⟨r, h, ?_, ?_⟩
        · simp only [Sem.run_bind, run_eqGuard_agg w .eql t x y vs us t2, Result.andThen_ok, run_eql_struct, he]
        · simp only [Sem.run_bind, run_eqGuard_agg w .neq t x y vs us t2, Result.andThen_ok, run_neq_struct, he]
      · cases ht
    · cases h
  · cases h

def opEqS (dst : Option Tmp) (T : TypeId) (l : List (Nat × Nat)) (ht : eqFlatB P T l = true) (x y : Operand) (T' : TypeId) (ty : TypeId) (pos : String) (after : Array Edge) : PSim P :=
  PSim.quiet (mkOp dst (.binOp .eql T x y T') ty pos after) rfl [x, y] (fun ev k => aeqS l (ev x) (ev y) fun b => k (.bool b)) (fun ev ev' k h => by simp only [h x (by simp), h y (by simp)]) fun ev k fin h g w a st he hs => by
    obtain ⟨r, h1, h2, h3⟩ := aeqS_run (P := P) ht (he x (by simp)) (he y (by simp)) h x y
    exact ⟨_, _, h1, by simp only [execOp, mkOp]; rw [Sem.run_bind, h2]; rfl, rfl⟩
def opNeS (dst : Option Tmp) (T : TypeId) (l : List (Nat × Nat)) (ht : eqFlatB P T l = true) (x y : Operand) (T' : TypeId) (ty : TypeId) (pos : String) (after : Array Edge) : PSim P :=
  PSim.quiet (mkOp dst (.binOp .neq T x y T') ty pos after) rfl [x, y] (fun ev k => aeqS l (ev x) (ev y) fun b => k (.bool !b)) (fun ev ev' k h => by simp only [h x (by simp), h y (by simp)]) fun ev k fin h g w a st he hs => by
    obtain ⟨r, h1, h2, h3⟩ := aeqS_run (P := P) ht (he x (by simp)) (he y (by simp)) h x y
    exact ⟨_, _, h1, by simp only [execOp, mkOp]; rw [Sem.run_bind, h3]; rfl, rfl⟩
end
end Go.V

/- What goes on does not sway an operation's value: for the operations of regions whose order is open. -/
set_option linter.unusedVariables false
set_option linter.unusedSimpArgs false
namespace Go.V
section
variable {P : Program}

theorem thenA_none (k : AV → Ans) : thenA none k = none := rfl
theorem thenA_ret (r : AV) (k : AV → Ans) : thenA (retA r) k = k r := rfl

theorem onInt_nat {x : AV} {s s' : IntKind → Int → Ans} {K : AV → Ans} (h : ∀ k n, s k n = thenA (s' k n) K) : onInt x s = thenA (onInt x s') K := by
  cases x <;> first | exact h _ _ | rfl
theorem onStr_nat {x : AV} {s s' : ByteArray → Ans} {K : AV → Ans} (h : ∀ b, s b = thenA (s' b) K) : onStr x s = thenA (onStr x s') K := by
  cases x <;> first | exact h _ | rfl
theorem aint_nat (op : BinOp) (kx : IntKind) (a : Int) (ky : IntKind) (b : Int) (k : AV → Ans) : aint op kx a ky b k = thenA (aint op kx a ky b retA) k := by
  cases op <;> simp only [aint] <;> (repeat' split) <;> rfl
theorem atext_nat (op : BinOp) (a b : ByteArray) (k : AV → Ans) : atext op a b k = thenA (atext op a b retA) k := by
  cases op <;> simp only [atext] <;> (repeat' split) <;> rfl
theorem opBin_nat {dst : Option Tmp} {op : BinOp} {T : TypeId} {x y : Operand} {T' ty : TypeId} {pos : String} {after : Array Edge} : (opBin (P := P) dst op T x y T' ty pos after).Nat :=
  fun ev k => onInt_nat fun _ _ => onInt_nat fun _ _ => aint_nat _ _ _ _ _ _
theorem opBinS_nat {dst : Option Tmp} {op : BinOp} {T : TypeId} {x y : Operand} {T' ty : TypeId} {pos : String} {after : Array Edge} : (opBinS (P := P) dst op T x y T' ty pos after).Nat :=
  fun ev k => onStr_nat fun _ => onStr_nat fun _ => atext_nat _ _ _ _

theorem apart_nat (ag : Bool) (sz : Nat) (cs : List AV) (k : AV → Ans) : apart ag sz cs k = thenA (apart ag sz cs retA) k := by
  cases ag with
  | true => simp only [apart]; cases takeN sz cs <;> rfl
  | false => cases cs <;> rfl
theorem aidx_nat (sz : Nat) (x i : AV) (k : AV → Ans) : aidx sz x i k = thenA (aidx sz x i retA) k := by
  cases i <;> try rfl
  cases x <;> try rfl
  · rename_i n s f l
    simp only [aidx]
    cases Nat.beq s sz <;> try rfl
    cases elemAt l n <;> rfl
  · rename_i n t s l
    simp only [aidx]
    cases Nat.beq s sz <;> try rfl
    cases elemAt l n <;> rfl
  · rename_i n j s o m c
    simp only [aidx]
    cases Nat.beq s sz <;> try rfl
    simp only
    split <;> rfl
theorem opIndexAddr_nat {dst : Option Tmp} {T : TypeId} {x i : Operand} {e sz : Nat} {hT : P.underlying T = some (.slice e)} {hz : (P.info? e).map (·.size) = some sz} {ty : TypeId} {pos : String} {after : Array Edge} : (opIndexAddr (P := P) dst T x i e sz hT hz ty pos after).Nat :=
  fun ev k => aidx_nat _ _ _ _
theorem aload_nat (ag : Bool) (sz : Nat) (p : AV) (st : St) (k : AV → Ans) : aload ag sz p st k = thenA (aload ag sz p st retA) k := by
  cases p <;> try rfl
  · rename_i j o
    simp only [aload]
    cases st.objs[j]? with
    | none => rfl
    | some ob => cases ob <;> first | exact apart_nat _ _ _ _ | rfl
  · exact apart_nat _ _ _ _
theorem opLoad_nat {dst : Option Tmp} {T : TypeId} {x : Operand} {d : TypeDesc} {hd : P.underlying T = some d} {sz : Nat} {hz : (P.info? T).map (·.size) = some sz} {ty : TypeId} {pos : String} {after : Array Edge} : (opLoad (P := P) dst T x d hd sz hz ty pos after).Nat :=
  fun ev st k => aload_nat _ _ _ _ _
theorem opLoadF_nat {dst : Option Tmp} {T : TypeId} {x : Operand} {d : TypeDesc} {hd : P.underlying T = some d} {sz : Nat} {hz : (P.info? T).map (·.size) = some sz} {ty : TypeId} {pos : String} {after : Array Edge} : (opLoadF (P := P) dst T x d hd sz hz ty pos after).Nat := by
  intro ev k
  show aloadF _ _ (ev x) k = thenA (aloadF _ _ (ev x) retA) k
  cases ev x <;> first | exact apart_nat _ _ _ _ | rfl
theorem astr_nat (x i : AV) (k : AV → Ans) : astr x i k = thenA (astr x i retA) k := by
  cases x <;> try rfl
  cases i <;> try rfl
  rename_i s kd j
  simp only [astr]
  cases (if 0 ≤ j then s[j.toNat]? else none) <;> rfl
theorem opIndexStr_nat {dst : Option Tmp} {T : TypeId} {x i : Operand} {hT : P.underlying T = some .string} {ty : TypeId} {pos : String} {after : Array Edge} : (opIndexStr (P := P) dst T x i hT ty pos after).Nat :=
  fun ev k => astr_nat _ _ _
theorem opField_nat {dst : Option Tmp} {T : TypeId} {x : Operand} {f off sz : Nat} {ag : Bool} {hf : fieldB P T f off sz ag = true} {ty : TypeId} {pos : String} {after : Array Edge} : (opField (P := P) dst T x f off sz ag hf ty pos after).Nat := by
  intro ev k
  show afield _ _ _ (ev x) k = thenA (afield _ _ _ (ev x) retA) k
  cases ev x <;> first | exact apart_nat _ _ _ _ | rfl
theorem opFieldAddr_nat {dst : Option Tmp} {T : TypeId} {x : Operand} {f off sz : Nat} {ag : Bool} {hf : fieldB P T f off sz ag = true} {h0 : sz ≠ 0} {ty : TypeId} {pos : String} {after : Array Edge} : (opFieldAddr (P := P) dst T x f off sz ag hf h0 ty pos after).Nat := by
  intro ev k
  show aoff off (ev x) k = thenA (aoff off (ev x) retA) k
  unfold aoff
  (repeat' split) <;> rfl
theorem aeqS_nat (l : List (Nat × Nat)) (x y : AV) (f : Bool → AV) (k : AV → Ans) : (aeqS l x y fun b => k (f b)) = thenA (aeqS l x y fun b => retA (f b)) k := by
  unfold aeqS
  (repeat' split) <;> rfl
theorem opEqS_nat {dst : Option Tmp} {T : TypeId} {l : List (Nat × Nat)} {ht : eqFlatB P T l = true} {x y : Operand} {T' ty : TypeId} {pos : String} {after : Array Edge} : (opEqS (P := P) dst T l ht x y T' ty pos after).Nat :=
  fun ev k => aeqS_nat _ _ _ (fun b => .bool b) _
theorem opNeS_nat {dst : Option Tmp} {T : TypeId} {l : List (Nat × Nat)} {ht : eqFlatB P T l = true} {x y : Operand} {T' ty : TypeId} {pos : String} {after : Array Edge} : (opNeS (P := P) dst T l ht x y T' ty pos after).Nat :=
  fun ev k => aeqS_nat _ _ _ (fun b => .bool !b) _
theorem opConvInt_nat {dst : Option Tmp} {S T : TypeId} {x : Operand} {d : TypeDesc} {hS : P.underlying S = some d} {kd : IntKind} {hT : P.underlying T = some (.int kd)} {ty : TypeId} {pos : String} {after : Array Edge} : (opConvInt (P := P) dst S T x d hS kd hT ty pos after).Nat := by
  intro ev k
  show aconv kd (ev x) k = thenA (aconv kd (ev x) retA) k
  unfold aconv
  (repeat' split) <;> rfl
end
end Go.V

/- Words in which runs are told: tests on what is not known. -/
set_option linter.unusedVariables false
namespace Go.V

def onSome {α : Type} (o : Option α) (n : Ans) (s : α → Ans) : Ans :=
  match o with
  | none => n
  | some x => s x
def onCons {α : Type} (l : List α) (n : Ans) (s : α → List α → Ans) : Ans :=
  match l with
  | [] => n
  | x :: r => s x r
@[simp] theorem onSome_some {α : Type} (x : α) (n : Ans) (s : α → Ans) : onSome (some x) n s = s x := rfl
@[simp] theorem onSome_none {α : Type} (n : Ans) (s : α → Ans) : onSome none n s = n := rfl
@[simp] theorem onCons_cons {α : Type} (x : α) (r : List α) (n : Ans) (s : α → List α → Ans) : onCons (x :: r) n s = s x r := rfl
@[simp] theorem onCons_nil {α : Type} (n : Ans) (s : α → List α → Ans) : onCons [] n s = n := rfl
@[simp] theorem onInt_int (k : IntKind) (n : Int) (s : IntKind → Int → Ans) : onInt (.int k n) s = s k n := rfl
@[simp] theorem onStr_str (b : ByteArray) (s : ByteArray → Ans) : onStr (.str b) s = s b := rfl
@[simp] theorem onBool_bool (b : Bool) (s : Bool → Ans) : onBool (.bool b) s = s b := rfl
@[simp] theorem branch_true (y n : Ans) : branch (.bool true) y n = y := rfl
@[simp] theorem branch_false (y n : Ans) : branch (.bool false) y n = n := rfl
theorem branch_of {b : Bool} {y n : Ans} (h : b = true) : branch (.bool b) y n = y := by rw [h]; rfl
theorem branch_not {b : Bool} {y n : Ans} (h : b = false) : branch (.bool b) y n = n := by rw [h]; rfl
theorem branch_ite (b : Bool) (y n : Ans) : branch (.bool b) y n = if b then y else n := by cases b <;> rfl

/-- An element of a list of rows made of a plain list. -/
theorem elemAt_map {α : Type} (f : α → List AV) (l : List α) (i : Int) (h0 : 0 ≤ i) (h : i.toNat < l.length) : elemAt (l.map f) i = some (f l[i.toNat]) := by
  simp [elemAt, h0, h]
theorem elemAt_nat {α : Type} (f : α → List AV) (l : List α) (i : Nat) (h : i < l.length) : elemAt (l.map f) (i : Int) = some (f l[i]) := by
  simp [elemAt, h]

section
variable {P : Program}

/-- A function whose answer hangs on its arguments alone, told by a plain function of what the arguments stand for. -/
def Fun.pureOf {α : Type} (f : Fun P) (dec : List AV → Option α) (enc : α → List AV) (hde : ∀ l a, dec l = some a → l = enc a) (g : α → AV)
    (hs : ∀ a, frz (g a) = g a ∧ ∀ n m, Scoped n m (g a)) (hrun : ∀ a, ∃ F, ∀ st, f.run F (enc a) st = some (.ret (g a), st)) : POrc P :=
  f.pure (fun l => (dec l).map g) fun args r h => by
    cases hd : dec args with
    | none => rw [hd] at h; cases h
    | some a =>
      rw [hd] at h
      obtain rfl : g a = r := by simpa using h
      obtain ⟨F, hF⟩ := hrun a
      refine ⟨fun n m _ => (hs a).2 n m, F, fun st => ⟨g a, [], [], (hs a).1, ?_⟩⟩
      rw [hde args a hd, hF st]
      simp

/-- The same, where it makes things that it doesn't hand back. -/
def Fun.pureOfX {α : Type} (f : Fun P) (dec : List AV → Option α) (enc : α → List AV) (hde : ∀ l a, dec l = some a → l = enc a) (g : α → AV)
    (hs : ∀ a, ∀ n m, Scoped n m (g a)) (hrun : ∀ a, ∃ F, ∀ st, ∃ r' xo xt, frz r' = g a ∧ f.run F (enc a) st = some (.ret r', ⟨st.objs ++ xo, st.tk ++ xt⟩)) : POrc P :=
  f.pure (fun l => (dec l).map g) fun args r h => by
    cases hd : dec args with
    | none => rw [hd] at h; cases h
    | some a =>
      rw [hd] at h
      obtain rfl : g a = r := by simpa using h
      obtain ⟨F, hF⟩ := hrun a
      refine ⟨fun n m _ => hs a n m, F, fun st => ?_⟩
      rw [hde args a hd]
      exact hF st

/-- The same, where something must hold of the arguments. -/
def Fun.pureIf {α : Type} (f : Fun P) (dec : List AV → Option α) (enc : α → List AV) (hde : ∀ l a, dec l = some a → l = enc a) (pre : α → Bool) (g : α → AV)
    (hs : ∀ a, pre a = true → frz (g a) = g a ∧ ∀ n m, Scoped n m (g a)) (hrun : ∀ a, pre a = true → ∃ F, ∀ st, f.run F (enc a) st = some (.ret (g a), st)) : POrc P where
  id := f.id
  fn := f.fn
  hf := f.hf
  hname := f.hname
  hb := by rw [f.hbody]; rfl
  F args k := match dec args with
    | some a => match pre a with
      | true => k (g a)
      | false => none
    | none => none
  sound k args fin h := by
    split at h
    · rename_i a hd
      split at h
      · rename_i hp
        refine ⟨g a, h, fun st => ?_⟩
        obtain ⟨F, hF⟩ := hrun a hp
        have h4 := hF st
        rw [← hde args a hd] at h4
        have := forget (xo := []) (xt := []) (f.sound (by rw [h4, List.append_nil, List.append_nil] : f.run F args st = some (.ret (g a), ⟨st.objs ++ [], st.tk ++ []⟩))) rfl (.inl rfl) (fun _ => by rw [(hs a hp).1]; exact (hs a hp).2 _ _)
        rwa [(hs a hp).1] at this
      · cases h
    · cases h

/-- The same, where it makes things that it doesn't hand back. -/
def Fun.pureIfX {α : Type} (f : Fun P) (dec : List AV → Option α) (enc : α → List AV) (hde : ∀ l a, dec l = some a → l = enc a) (pre : α → Bool) (g : α → AV)
    (hs : ∀ a n m, Scoped n m (g a)) (hrun : ∀ a, pre a = true → ∃ F, ∀ st, ∃ r' xo xt, frz r' = g a ∧ f.run F (enc a) st = some (.ret r', ⟨st.objs ++ xo, st.tk ++ xt⟩)) : POrc P where
  id := f.id
  fn := f.fn
  hf := f.hf
  hname := f.hname
  hb := by rw [f.hbody]; rfl
  F args k := match dec args with
    | some a => match pre a with
      | true => k (g a)
      | false => none
    | none => none
  sound k args fin h := by
    split at h
    · rename_i a hd
      split at h
      · rename_i hp
        refine ⟨g a, h, fun st => ?_⟩
        obtain ⟨F, hF⟩ := hrun a hp
        obtain ⟨r', xo, xt, h1, h4⟩ := hF st
        rw [← hde args a hd] at h4
        have := forget (f.sound h4) rfl (.inl rfl) (fun _ => by rw [h1]; exact hs a _ _)
        rwa [h1] at this
      · cases h
    · cases h

/-- A function told by what it answers and what it makes of the state. -/
def Fun.effIf {α : Type} (f : Fun P) (dec : List AV → Option α) (enc : α → List AV) (hde : ∀ l a, dec l = some a → l = enc a) (pre : α → St → Bool) (g : α → St → AV × St)
    (hrun : ∀ a st, pre a st = true → ∃ F, f.run F (enc a) st = some (.ret (g a st).1, (g a st).2)) : OrcS P where
  id := f.id
  fn := f.fn
  hf := f.hf
  hname := f.hname
  hb := by rw [f.hbody]; rfl
  sem args st k := match dec args with
    | some a => match pre a st with
      | true => k (.ret (g a st).1) (g a st).2
      | false => none
    | none => none
  sound k args st fin h := by
    split at h
    · rename_i a hd
      split at h
      · rename_i hp
        obtain ⟨F, hF⟩ := hrun a st hp
        rw [← hde args a hd] at hF
        exact ⟨_, _, h, f.sound hF⟩
      · cases h
    · cases h

/-- A callee that looks at frozen arguments alone. -/
theorem frzs_all {g : Gh} {w : World} : ∀ {xs : List AV} {vs : List Value}, RelAll g w xs vs → RelAll g w (xs.map frz) vs
  | [], _, h => h
  | x :: xs, _, ⟨v, vr, e, h1, h2⟩ => ⟨v, vr, e, frz_rel h1, frzs_all h2⟩
def POrc.fz (O : POrc P) : POrc P where
  id := O.id
  fn := O.fn
  hf := O.hf
  hname := O.hname
  hb := O.hb
  F args k := O.F (args.map frz) k
  sound k args fin h := by
    obtain ⟨r, h1, h2⟩ := O.sound _ _ _ h
    exact ⟨r, h1, fun st g w vals hr hs => h2 st g w vals (frzs_all hr) hs⟩

theorem scoped_ints (n m : Nat) (k : IntKind) : ∀ l : List Int, ScopedR n m (l.map fun x => [.int k x])
  | [] => trivial
  | x :: l => ⟨⟨trivial, trivial⟩, scoped_ints n m k l⟩

def dec0 : List AV → Option Unit
  | [] => some ()
  | _ => none
def dec1i : List AV → Option Int
  | [.int .i64 a] => some a
  | _ => none
def dec2i : List AV → Option (Int × Int)
  | [.int .i64 a, .int .i64 b] => some (a, b)
  | _ => none
theorem dec0_enc (l : List AV) (a : Unit) (h : dec0 l = some a) : l = [] := by
  unfold dec0 at h; split at h <;> first | rfl | cases h
theorem dec1i_enc (l : List AV) (a : Int) (h : dec1i l = some a) : l = [.int .i64 a] := by
  unfold dec1i at h; split at h <;> first | (cases h; rfl) | cases h
theorem dec2i_enc (l : List AV) (a : Int × Int) (h : dec2i l = some a) : l = [.int .i64 a.1, .int .i64 a.2] := by
  unfold dec2i at h; split at h <;> first | (cases h; rfl) | cases h
end

/-! ### Numbers that fit -/
theorem wrapS {n : Int} (h1 : -9223372036854775808 ≤ n) (h2 : n ≤ 9223372036854775807) : IntKind.i64.wrap n = n := by
  unfold IntKind.wrap
  simp only [IntKind.bits, IntKind.signed, Bool.true_and]
  split
  · rename_i h; simp only [ge_iff_le, decide_eq_true_eq] at h; omega
  · rename_i h; simp only [ge_iff_le, decide_eq_true_eq] at h; omega
theorem wrapU {k : IntKind} {n : Int} (hs : k.signed = false) (h1 : 0 ≤ n) (h2 : n < 2 ^ k.bits) : k.wrap n = n := by
  unfold IntKind.wrap
  simp only [hs, Bool.false_and, Bool.false_eq_true, if_false]
  exact Int.emod_eq_of_lt h1 h2
end Go.V

/- From a law's abstract run to what its call comes to. -/
set_option linter.unusedVariables false
namespace Go.V
open Go.RowKit
section
variable {P : Program}

/-- The picture at a law's start: nothing is known to be owned; all blocks stay. -/
def g0 : Gh := ⟨fun _ => .solid, [], []⟩

theorem StRel.zero (W : World) : StRel g0 ⟨[], []⟩ W :=
  ⟨rfl, rfl, fun k b o h => by simp [g0] at h, fun b k _ h => by simp [g0] at h, fun b t _ h => by simp [g0] at h⟩

theorem Ev.below {W W' : World} {g : Gh} (h : Ev g0 W g W') : Below W.heap.size W W' :=
  ⟨h.os, h.tape, h.output, h.size, fun k hk => (h.solid k hk rfl).2⟩

/-- A law's walk. -/
theorem Fun.walk (f : Fun P) {F : Nat} {args : List AV} {st : St} (h : f.run F args ⟨[], []⟩ = some (.ret (.bool true), st)) (W : World) (vals : Array Value) (hr : RelAll g0 W args vals.toList) :
    Calls P f.id vals W fun e W' => e = .returned (.bool true) ∧ Below W.heap.size W W' := by
  refine (f.sound h g0 W vals hr (StRel.zero W)).mono fun e w' ⟨g', h1, h2, h3⟩ => ?_
  obtain ⟨v, rfl, hv⟩ := h1
  exact ⟨by rw [show v = .bool true from hv], h3.below⟩
end
end Go.V

/- Callees whose answer bears no memory: shown at the empty state alone. -/
set_option linter.unusedVariables false
set_option linter.unusedSimpArgs false
namespace Go.V
section
variable {P : Program}

mutual
theorem Rel.toZero {g : Gh} {w : World} : ∀ (a : AV) (v : Value), Scoped 0 0 a → Rel g w a v → Rel g0 w a v
  | .bool _, _, _, r => r
  | .int _ _, _, _, r => r
  | .str _, _, _, r => r
  | .nilptr, _, _, r => r
  | .nilsl, _, _, r => r
  | .nilmap, _, _, r => r
  | .nilfn, _, _, r => r
  | .nilif, _, _, r => r
  | .ptr k off, _, s, _ => absurd s (Nat.not_lt_zero _)
  | .eptr cs, _, s, ⟨b, off, r1, r2⟩ => ⟨b, off, r1, RelCells.toZero cs b off s r2⟩
  | .sl sz full l, _, s, ⟨b, off, sp, cap, r1, r2, r3, rs, r4⟩ => ⟨b, off, sp, cap, r1, r2, r3, rs, RelRows.toZero sz l b off s r4⟩
  | .lg t sz l, _, ⟨s, _⟩, _ => absurd s (Nat.not_lt_zero _)
  | .ms k sz off n cap, _, s, _ => absurd s (Nat.not_lt_zero _)
  | .mp k, _, s, _ => absurd s (Nat.not_lt_zero _)
  | .fn f a c, _, ⟨s1, s2⟩, ⟨va, vc, r1, r2, r3⟩ => ⟨va, vc, r1, RelAll.toZero a va.toList s1 r2, RelAll.toZero c vc.toList s2 r3⟩
  | .ifc t a, _, s, ⟨u, r1, r2⟩ => ⟨u, r1, Rel.toZero a u s r2⟩
  | .agg cs, _, s, ⟨vs, r1, r2, r3⟩ => ⟨vs, r1, RelAll.toZero cs vs.toList s r2, r3⟩
  | .tup cs, _, s, ⟨vs, r1, r2⟩ => ⟨vs, r1, RelAll.toZero cs vs.toList s r2⟩
  | .dead, _, _, _ => trivial
theorem RelAll.toZero {g : Gh} {w : World} : ∀ (ays : List AV) (vs : List Value), ScopedL 0 0 ays → RelAll g w ays vs → RelAll g0 w ays vs
  | [], _, _, r => r
  | a :: ays, _, ⟨s1, s2⟩, ⟨v, vr, r1, r2, r3⟩ => ⟨v, vr, r1, Rel.toZero a v s1 r2, RelAll.toZero ays vr s2 r3⟩
theorem RelCells.toZero {g : Gh} {w : World} : ∀ (ays : List AV) (b off : Nat), ScopedL 0 0 ays → RelCells g w ays b off → RelCells g0 w ays b off
  | [], _, _, _, _ => trivial
  | a :: ays, b, off, ⟨s1, s2⟩, ⟨⟨u, r1, r2, r5, r3⟩, r4⟩ => ⟨⟨u, r1, trivial, r5, Rel.toZero a u s1 r3⟩, RelCells.toZero ays b (off + 1) s2 r4⟩
theorem RelRows.toZero {g : Gh} {w : World} (sz : Nat) : ∀ (l : List (List AV)) (b off : Nat), ScopedR 0 0 l → RelRows g w sz l b off → RelRows g0 w sz l b off
  | [], _, _, _, _ => trivial
  | x :: l, b, off, ⟨s1, s2⟩, ⟨r1, r2, r3⟩ => ⟨r1, RelCells.toZero x b off s1 r2, RelRows.toZero sz l b (off + sz) s2 r3⟩
end

/-- A value without memory. -/
def Flat : AV → Prop
  | .bool _ => True
  | .int _ _ => True
  | .str _ => True
  | .nilptr => True
  | .nilsl => True
  | .nilmap => True
  | .nilfn => True
  | .nilif => True
  | _ => False
theorem Flat.any {a : AV} (h : Flat a) {g g' : Gh} {w w' : World} {v : Value} (r : Rel g w a v) : Rel g' w' a v := by
  cases a <;> first | exact r | exact h.elim

theorem sealed {id : FuncId} {args : List AV} {r : AV} {st' : St} (h : CallsTo P id args ⟨[], []⟩ (.ret r, st')) (hs : ScopedL 0 0 args) (hr : Flat r) (st : St) : CallsTo P id args st (.ret r, st) := by
  intro g w vals hv hst
  refine (h g0 w vals (RelAll.toZero args vals.toList hs hv) (StRel.zero w)).mono fun e w' ⟨g', h1, h2, h3⟩ => ?_
  obtain ⟨v, rfl, hv'⟩ := h1
  have hb := h3.below
  have hE : Ev g w ⟨fun b => if b < w.heap.size then g.kind b else .solid, g.objs, g.tk⟩ w' := by
    refine ⟨hb.os, hb.tape, hb.output, hb.size, fun b hb' hk => ⟨by simp only; rw [if_pos hb'], hb.block b hb'⟩, fun b t hb' hk => ⟨by simp only; rw [if_pos hb']; exact hk, fun C E fz hC => ⟨C, by rw [hb.block b hb']; exact hC, rfl, fun _ _ => rfl⟩⟩, fun b k hb' hk => .inl (by simp only; rw [if_pos hb']; exact hk), fun _ _ h => h, tk_refl _⟩
  refine ⟨⟨fun b => if b < w.heap.size then g.kind b else .solid, g.objs, g.tk⟩, ⟨v, rfl, hr.any hv'⟩, ⟨hst.tk, hst.len, fun k b o hk ho => ?_, fun b k hb' hk => ?_, fun b t hb' hk => ?_⟩, hE⟩
  · obtain ⟨p1, p2⟩ := hst.obj k b o hk ho
    exact ⟨Nat.lt_of_lt_of_le p1 hb.size, p2.keep hE (hb.block b p1) (by simp only; rw [if_pos p1])⟩
  · simp only at hk
    split at hk
    · rename_i hlt; exact hst.back b k hlt hk
    · cases hk
  · simp only at hk
    split at hk
    · rename_i hlt; exact hst.rowlt b t hlt hk
    · cases hk

/-- A function whose answer bears no memory, shown at the empty state. -/
def Fun.flatIf {α : Type} (f : Fun P) (dec : List AV → Option α) (enc : α → List AV) (hde : ∀ l a, dec l = some a → l = enc a) (pre : α → Bool) (g : α → AV)
    (hs : ∀ a, ScopedL 0 0 (enc a)) (hg : ∀ a, Flat (g a)) (hrun : ∀ a, pre a = true → ∃ F st', f.run F (enc a) ⟨[], []⟩ = some (.ret (g a), st')) : POrc P where
  id := f.id
  fn := f.fn
  hf := f.hf
  hname := f.hname
  hb := by rw [f.hbody]; rfl
  F args k := match dec args with
    | some a => match pre a with
      | true => k (g a)
      | false => none
    | none => none
  sound k args fin h := by
    split at h
    · rename_i a hd
      split at h
      · rename_i hp
        obtain ⟨F, st', hF⟩ := hrun a hp
        rw [← hde args a hd] at hF
        exact ⟨g a, h, fun st => sealed (f.sound hF) (by rw [hde args a hd]; exact hs a) (hg a) st⟩
      · cases h
    · cases h
end
end Go.V

/- Texts and bytes; copies. -/
set_option linter.unusedVariables false
set_option linter.unusedSimpArgs false
namespace Go.V
section
variable {P : Program}

/-- The numbers of rows of one byte each. -/
def numsOf : List (List AV) → Option (List Int)
  | [] => some []
  | r :: l => match r with
    | [.int .u8 n] => match numsOf l with
      | some ns => some (n :: ns)
      | none => none
    | _ => none

theorem numsOf_rows {g : Gh} {w : World} : ∀ {l : List (List AV)} {ns : List Int} {vs : List Value}, numsOf l = some ns → RelAll g w l.flatten vs → vs = ns.map (Value.int .u8) ∧ ns.length = l.length
  | [], ns, vs, h, hr => by
    simp only [numsOf, Option.some.injEq] at h
    subst h
    obtain rfl : vs = [] := hr
    exact ⟨rfl, rfl⟩
  | r :: l, ns, vs, h, hr => by
    unfold numsOf at h
    split at h
    · rename_i n
      split at h
      · rename_i ns' hn
        simp only [Option.some.injEq] at h
        subst h
        obtain ⟨v, vr, rfl, h1, h2⟩ := hr
        obtain rfl : v = .int .u8 n := h1
        obtain ⟨k1, k2⟩ := numsOf_rows hn h2
        exact ⟨by rw [k1]; rfl, by simp [k2]⟩
      · cases h
    · cases h

theorem numsOf_map (bs : List Int) : numsOf (bs.map fun b => [.int .u8 b]) = some bs := by
  induction bs with
  | nil => rfl
  | cons b bs ih => simp [numsOf, ih]

/-- A text out of bytes. -/
def textOf (ns : List Int) : ByteArray := ns.foldl (fun r n => r.push (UInt8.ofNat n.toNat)) ByteArray.empty

def abytes (x : AV) (st : St) (k : AV → Ans) : Ans :=
  match x with
  | .str _ => k .dead
  | x => match rowsA 1 x st with
    | some l => match numsOf l with
      | some ns => k (.str (textOf ns))
      | none => none
    | none => none

def opBytesStr (dst : Option Tmp) (S T : TypeId) (x : Operand) (e : TypeId) (hS : P.underlying S = some (.slice e)) (he : P.underlying e = some (.int .u8)) (hT : P.underlying T = some .string) (ty : TypeId) (pos : String) (after : Array Edge) : QSim P :=
  QSim.quiet (mkOp dst (.convert S T x) ty pos after) rfl [x] (fun ev st k => match ev x with | .str _ => none | _ => abytes (ev x) st k) (fun ev ev' st k h => by simp only [h x (by simp)]) fun ev st k fin h g w a hev hs => by
    have hv := hev x (by simp)
    have hns : ∀ s, ev x ≠ .str s := by intro s hb; rw [hb] at h; cases h
    have h' : abytes (ev x) st k = some fin := by
      revert h
      cases hx : ev x <;> simp only [imp_self]
      rename_i s; exact absurd hx (hns s)
    clear h
    have h := h'
    unfold abytes at h
    split at h
    · rename_i s hb; exact absurd hb (hns s)
    · split at h
      · rename_i l hl
        split at h
        · rename_i ns hn
          obtain ⟨vs, r1, r2, r3, r4, r5, r6⟩ := rowsA_run (P := P) hs hv hl
          obtain ⟨rfl, hlen⟩ := numsOf_rows hn r1
          have hsl : (a.eval x = .slice none 0 0 ∧ l = []) ∨ ∃ p n c, a.eval x = .slice (some p) n c := by
            unfold rowsA at hl
            revert hv
            cases hx : ev x <;> rw [hx] at hl <;> simp at hl <;> intro hv
            · rename_i s; exact absurd hx (hns s)
            · exact .inl ⟨hv, hl⟩
            · obtain ⟨_, _, _, _, hv, _⟩ := hv; exact .inr ⟨_, _, _, hv⟩
            · obtain ⟨_, _, _, _, _, hv, _⟩ := hv; exact .inr ⟨_, _, _, hv⟩
            · obtain ⟨_, _, hv, _⟩ := hv; exact .inr ⟨_, _, _, hv⟩
          refine ⟨_, .string (textOf ns), h, ?_, rfl⟩
          simp only [execOp, mkOp]
          rcases hsl with ⟨hx, rfl⟩ | ⟨p, n, c, hx⟩
          · have h0 : ns = [] := List.eq_nil_of_length_eq_zero (by simpa using hlen)
            subst h0
            rw [Sem.run_bind, hx, run_convert_bytes_string w S T e none 0 0 hS he hT]
            simp [Conv.bytesToString, textOf]
          · have hn' : n = l.length := by
              have := r5 w
              rw [hx] at this
              simp [Builtin.lenOf] at this
              exact this
            rw [Sem.run_bind, hx, run_convert_bytes_string w S T e (some p) n c hS he hT]
            have h3 := r6 w rfl
            rw [hx] at h3
            simp only [Builtin.firstCells, Nat.mul_one] at h3
            rw [run_bytesToString w p n c ns (by rw [hn']; exact h3)]
            rfl
        · cases h
      · cases h

/-- The bytes of a text, as rows. -/
def rowsOfStr (s : ByteArray) : List (List AV) := s.data.toList.map fun c => [.int .u8 c.toNat]

def opStrBytes (dst : Option Tmp) (S T : TypeId) (x : Operand) (e : TypeId) (hS : P.underlying S = some .string) (hT : P.underlying T = some (.slice e)) (he : P.underlying e = some (.int .u8)) (ty : TypeId) (pos : String) (after : Array Edge) : PSim P where
  oper := mkOp dst (.convert S T x) ty pos after
  plain := rfl
  xs := [x]
  f ev k := match ev x with
    | .str s => k (.sl 1 false (rowsOfStr s))
    | _ => none
  congr ev ev' k h := by simp only [h x (by simp)]
  sound ev k fin h g w a st hev hs := by
    have hv := hev x (by simp)
    split at h
    · rename_i s hb
      rw [hb] at hv
      have hv : a.eval x = .string s := hv
      refine ⟨_, h, ?_⟩
      generalize hcap : grownCap w s.size 0 e = cap
      have hge : s.size ≤ cap := by rw [← hcap]; exact grownCap_ge w s.size 0 e
      have hp := Push.drew w (.cells (bytesRow s cap) e ((bytesRow s cap).size, (bytesRow s cap).size + 1))
      have hE : Ev g w ⟨g.use w.heap.size .solid, g.objs, g.tk⟩ (w.drew.alloc (.cells (bytesRow s cap) e ((bytesRow s cap).size, (bytesRow s cap).size + 1))) := by simpa using Ev.push hp .solid [] g.tk (tk_refl _)
      have hlen : (rowsOfStr s).length = s.size := by simp [rowsOfStr]
      refine told_value (g' := ⟨g.use w.heap.size .solid, g.objs, g.tk⟩) (w' := w.drew.alloc (.cells (bytesRow s cap) e ((bytesRow s cap).size, (bytesRow s cap).size + 1))) (v := .slice (some ⟨w.heap.size, 0, none⟩) s.size cap) ?_ ⟨w.heap.size, 0, none, cap, by rw [hlen], by rw [hlen]; exact hge, (fun h => by cases h), .inl rfl, ?_⟩ ?_ hE
      · simp only [execOp, mkOp]
        rw [Sem.run_bind, hv, run_bytes_of_string w S T e s hS hT he, hcap]
        rfl
      · refine RelRows.of 1 (rowsOfStr s) (s.data.toList.map fun b => Value.int .u8 b.toNat) _ _ ?_ ?_ fun j v hj => ?_
        · intro r hr
          simp only [rowsOfStr, List.mem_map] at hr
          obtain ⟨b, _, rfl⟩ := hr; rfl
        · exact flat_bytes _
        · have hlt := getElem?_lt hj
          have hcell : (bytesRow s cap)[j]? = some v := by
            unfold bytesRow
            rw [Array.getElem?_append_left (by simpa using hlt), ← hj]
            simp
          refine ⟨?_, ?_, ?_⟩
          · rw [Nat.zero_add, cell_of hp.new]; exact hcell
          · simp [Gh.prot, Gh.use]
          · simp only [List.getElem?_map, Option.map_eq_some_iff] at hj
            obtain ⟨b, _, rfl⟩ := hj; rfl
      · have := hs.push hp .solid g.tk (tk_refl _) trivial
        rw [hs.tk] at this ⊢; exact this
    · cases h
end
end Go.V

/- Callees told again: arguments and answers that are read no deeper than they must; rows of bytes. -/
set_option linter.unusedVariables false
set_option linter.unusedSimpArgs false
namespace Go.V
section
variable {P : Program}

/-- A test that the core never runs (great numbers beside unknown ones would take it forever). -/
noncomputable def cdec (p : Prop) : Bool := @decide p (Classical.propDecidable p)
theorem cdec_iff {p : Prop} : cdec p = true ↔ p := by simp [cdec]

/-- A callee known by another, its arguments read anew. -/
def POrc.re {α : Type} (p : POrc P) (dec : List AV → Option α) (pre : α → Bool) (g : α → AV)
    (h : ∀ args a, dec args = some a → pre a = true → ∀ k, p.F args k = k (g a)) : POrc P where
  id := p.id
  fn := p.fn
  hf := p.hf
  hname := p.hname
  hb := p.hb
  F args k := match dec args with
    | some a => match pre a with
      | true => k (g a)
      | false => none
    | none => none
  sound k args fin h' := by
    split at h'
    · rename_i a hd
      split at h'
      · rename_i hp
        exact p.sound k args fin (by rw [h args a hd hp]; exact h')
      · cases h'
    · cases h'

theorem POrc.re_nat {α : Type} {p : POrc P} {dec : List AV → Option α} {pre : α → Bool} {g : α → AV} {h} : (p.re dec pre g h).Nat := by
  intro args k
  simp only [POrc.re]
  cases dec args with
  | none => rfl
  | some a => simp only []; cases pre a <;> rfl
theorem POrc.fz_nat {p : POrc P} (h : p.Nat) : p.fz.Nat := fun args k => h _ k
theorem pureIf_nat {α : Type} {f : Fun P} {dec : List AV → Option α} {enc : α → List AV} {hde} {pre : α → Bool} {g : α → AV} {hs} {hr} : (Fun.pureIf f dec enc hde pre g hs hr).Nat := by
  intro args k
  simp only [Fun.pureIf]
  cases dec args with
  | none => rfl
  | some a => simp only []; cases pre a <;> rfl
theorem pureIfX_nat {α : Type} {f : Fun P} {dec : List AV → Option α} {enc : α → List AV} {hde} {pre : α → Bool} {g : α → AV} {hs} {hr} : (Fun.pureIfX f dec enc hde pre g hs hr).Nat := by
  intro args k
  simp only [Fun.pureIfX]
  cases dec args with
  | none => rfl
  | some a => simp only []; cases pre a <;> rfl
theorem effIf_nat {α : Type} {f : Fun P} {dec : List AV → Option α} {enc : α → List AV} {hde} {pre : α → St → Bool} {g : α → St → AV × St} {hr} : (Fun.effIf f dec enc hde pre g hr).NatS := by
  intro args st k
  simp only [Fun.effIf]
  cases dec args with
  | none => rfl
  | some a => simp only []; cases pre a st <;> rfl
theorem pureIf_fz {α : Type} {f : Fun P} {dec : List AV → Option α} {enc : α → List AV} {hde} {pre : α → Bool} {g : α → AV} {hs} {hr} {args : List AV} {a : α} (hd : dec (args.map frz) = some a) (hp : pre a = true) (k : AV → Ans) :
    (Fun.pureIf f dec enc hde pre g hs hr).fz.F args k = k (g a) := by
  simp only [POrc.fz, Fun.pureIf, hd, hp]
theorem pureIfX_fz {α : Type} {f : Fun P} {dec : List AV → Option α} {enc : α → List AV} {hde} {pre : α → Bool} {g : α → AV} {hs} {hr} {args : List AV} {a : α} (hd : dec (args.map frz) = some a) (hp : pre a = true) (k : AV → Ans) :
    (Fun.pureIfX f dec enc hde pre g hs hr).fz.F args k = k (g a) := by
  simp only [POrc.fz, Fun.pureIfX, hd, hp]
/-- A callee told by what is known of arguments and state. -/
def Fun.cps (f : Fun P) (sem : List AV → St → (Fin → St → Ans) → Ans)
    (hs : ∀ args st k fin, sem args st k = some fin → ∃ r st', k r st' = some fin ∧ ∃ F, f.run F args st = some (r, st')) : OrcS P where
  id := f.id
  fn := f.fn
  hf := f.hf
  hname := f.hname
  hb := by rw [f.hbody]; rfl
  sem := sem
  sound k args st fin h := by
    obtain ⟨r, st', h1, F, h2⟩ := hs args st k fin h
    exact ⟨r, st', h1, f.sound h2⟩
end

def byteOf : List AV → Nat
  | [.int _ n] => n.toNat
  | _ => 0
def isByte : List AV → Bool
  | [.int .u8 n] => decide (0 ≤ n) && decide (n < 256)
  | _ => false
/-- Rows that are bytes. -/
def okR (l : List (List AV)) : Bool := l.all isByte
/-- The bytes of rows. -/
def nR (l : List (List AV)) : List Nat := l.map byteOf
theorem isByte_row {r : List AV} (h : isByte r = true) : r = [.int .u8 (byteOf r : Int)] ∧ byteOf r < 256 := by
  unfold isByte at h
  split at h
  · rename_i n
    simp only [Bool.and_eq_true, decide_eq_true_eq] at h
    simp only [byteOf]
    exact ⟨by rw [Int.toNat_of_nonneg h.1], by omega⟩
  · cases h
/-- Bytes as rows. -/
def bR (l : List Nat) : List (List AV) := l.map fun (b : Nat) => [.int .u8 (b : Int)]
theorem okR_rows : ∀ {l : List (List AV)}, okR l = true → l = bR (nR l)
  | [], _ => rfl
  | r :: l, h => by
    simp only [okR, List.all_cons, Bool.and_eq_true] at h
    have := okR_rows (l := l) h.2
    simp only [bR, nR, List.map_cons, List.map_map] at this ⊢
    rw [← (isByte_row h.1).1, ← this]
theorem okR_lt {l : List (List AV)} (h : okR l = true) {b : Nat} (hb : b ∈ nR l) : b < 256 := by
  obtain ⟨r, hr, rfl⟩ := List.mem_map.mp hb
  exact (isByte_row (List.all_eq_true.mp h r hr)).2
theorem nR_bR (l : List Nat) : nR (bR l) = l := by
  simp only [nR, bR, List.map_map]
  conv => rhs; rw [← List.map_id l]
  exact List.map_congr_left fun b _ => by simp [byteOf]
theorem okR_bR {l : List Nat} (h : ∀ b ∈ l, b < 256) : okR (bR l) = true := by
  simp only [okR, bR, List.all_map, List.all_eq_true]
  intro b hb
  simp only [Function.comp, isByte, Bool.and_eq_true, decide_eq_true_eq]
  have := h b hb
  omega
theorem okR_append {a b : List (List AV)} : okR (a ++ b) = (okR a && okR b) := by simp [okR]
theorem nR_append (a b : List (List AV)) : nR (a ++ b) = nR a ++ nR b := by simp [nR]
theorem nR_take (n : Nat) (a : List (List AV)) : nR (a.take n) = (nR a).take n := by simp [nR]
theorem nR_drop (n : Nat) (a : List (List AV)) : nR (a.drop n) = (nR a).drop n := by simp [nR]
theorem nR_length (a : List (List AV)) : (nR a).length = a.length := by simp [nR]
theorem bR_length (a : List Nat) : (bR a).length = a.length := by simp [bR]
theorem bR_append (a b : List Nat) : bR (a ++ b) = bR a ++ bR b := by simp [bR]
theorem bR_take (n : Nat) (a : List Nat) : (bR a).take n = bR (a.take n) := by simp [bR]
theorem bR_drop (n : Nat) (a : List Nat) : (bR a).drop n = bR (a.drop n) := by simp [bR]
theorem okR_take {l : List (List AV)} (h : okR l = true) (n : Nat) : okR (l.take n) = true :=
  List.all_eq_true.mpr fun x hx => List.all_eq_true.mp h x (List.mem_of_mem_take hx)
theorem okR_drop {l : List (List AV)} (h : okR l = true) (n : Nat) : okR (l.drop n) = true :=
  List.all_eq_true.mpr fun x hx => List.all_eq_true.mp h x (List.mem_of_mem_drop hx)

/-- Bytes, read no deeper than the slice. -/
inductive Br where
  | nil
  | sl (f : Bool) (l : List (List AV))
def byt (x : AV) : Option Br :=
  match x with
  | .nilsl => some .nil
  | .sl 1 f l => some (.sl f l)
  | .lg _ 1 l => some (.sl false l)
  | _ => none
def Br.list : Br → List (List AV)
  | .nil => []
  | .sl _ l => l
def Br.av : Br → AV
  | .nil => .nilsl
  | .sl f l => .sl 1 f l
theorem byt_frz {x : AV} {b : Br} (h : byt x = some b) : frz x = b.av := by
  unfold byt at h; split at h <;> first | (cases h; rfl) | cases h
/-- The same, of a slice that is no growing one (behind fz). -/
def sl1 : List AV → Option Br
  | [.nilsl] => some .nil
  | [.sl 1 f l] => some (.sl f l)
  | _ => none
theorem sl1_enc (l : List AV) (a : Br) (h : sl1 l = some a) : l = [a.av] := by
  unfold sl1 at h; split at h <;> first | (cases h; rfl) | cases h
def sl2 : List AV → Option (Br × Br)
  | [.nilsl, .nilsl] => some (.nil, .nil)
  | [.nilsl, .sl 1 f l] => some (.nil, .sl f l)
  | [.sl 1 f l, .nilsl] => some (.sl f l, .nil)
  | [.sl 1 f l, .sl 1 f' l'] => some (.sl f l, .sl f' l')
  | _ => none
theorem sl2_enc (l : List AV) (a : Br × Br) (h : sl2 l = some a) : l = [a.1.av, a.2.av] := by
  unfold sl2 at h; split at h <;> first | (cases h; rfl) | cases h
def byt1 : List AV → Option Br
  | [x] => byt x
  | _ => none
def byt2 : List AV → Option (Br × Br)
  | [x, y] => match byt x, byt y with
    | some a, some b => some (a, b)
    | _, _ => none
  | _ => none
theorem byt1_of {args : List AV} {b : Br} (h : byt1 args = some b) : args.map frz = [b.av] := by
  unfold byt1 at h
  split at h
  · simp [byt_frz h]
  · cases h
theorem byt2_of {args : List AV} {b : Br × Br} (h : byt2 args = some b) : args.map frz = [b.1.av, b.2.av] := by
  unfold byt2 at h
  split at h
  · split at h
    · rename_i h1 h2; cases h; simp [byt_frz h1, byt_frz h2]
    · cases h
  · cases h
end Go.V

/- Callees that change objects and make things that nothing leads to. -/
set_option linter.unusedVariables false
set_option linter.unusedSimpArgs false
namespace Go.V
section
variable {P : Program}

/-- Objects and tokens that were made are forgotten, where nothing leads to them; other objects may have been changed. -/
theorem forgetS {id : FuncId} {args : List AV} {st : St} {r : AV} {os xo : List Ob} {xt : List (Nat × Nat)} (h : CallsTo P id args st (.ret r, ⟨os ++ xo, st.tk ++ xt⟩)) (hlen : os.length = st.objs.length)
    (hos : ∀ (k : Nat) (o' : Ob), os[k]? = some o' → st.objs[k]? = some o' ∨ (ScopedOb st.objs.length st.tk.length o' ∧ (match o' with | .gone => False | _ => True)))
    (hr' : ScopedL st.objs.length st.tk.length args → Scoped st.objs.length st.tk.length (frz r)) : CallsTo P id args st (.ret (frz r), ⟨os, st.tk⟩) := by
  intro g w vals hv hs
  have hr := hr' (by have := RelAll.inside args vals.toList hv; rw [hs.len, hs.tk] at this; exact this)
  refine (h g w vals hv hs).mono fun e w' ⟨g', h1, h2, h3⟩ => ?_
  obtain ⟨v, rfl, hv'⟩ := h1
  have hgone : ∀ (k : Nat) (o o' : Ob), st.objs[k]? = some o → os[k]? = some o' → (match o with | .gone => False | _ => True) → (match o' with | .gone => False | _ => True) := by
    intro k o o' h1 h2 h3
    rcases hos k o' h2 with h4 | h4
    · rw [h1] at h4; cases h4; exact h3
    · exact h4.2
  have hobs : ∀ (k b : Nat) (o : Ob), g.objs[k]? = some b → os[k]? = some o → ScopedOb g.objs.length g.tk.length o := by
    intro k b o hk ho
    rcases hos k o ho with h4 | h4
    · obtain ⟨_, hr⟩ := hs.obj k b o hk h4
      cases o with
      | cells cs => obtain ⟨_, C, E, _, hr, _⟩ := hr; exact RelAll.inside _ _ hr
      | map es => obtain ⟨_, M, c, _, hr, hr'⟩ := hr; exact ⟨RelAll.inside _ _ hr, RelAll.inside _ _ hr'⟩
      | gone => trivial
    · rw [hs.len, hs.tk]; exact h4.1
  have hcut : Cut g g' w w' := by
    refine ⟨fun b hb => ?_, fun k b hk hb => ?_, fun t ht => ?_, fun b t hb hk => by rw [hs.tk]; exact hs.rowlt b t hb hk⟩
    · cases hk : g.kind b with
      | solid => exact (h3.solid b hb hk).1
      | part S => exact (h3.part b hb hk).1
      | row t => exact (h3.row b t hb hk).1
      | obj k =>
        obtain ⟨o, o1, o2, o3⟩ := hs.back b k hb hk
        have hkl : k < os.length := by rw [hlen]; exact getElem?_lt o1
        have ho' : os[k]? = some os[k] := List.getElem?_eq_getElem hkl
        have := hgone k o _ o1 ho' o3
        have hob := (h2.obj k b os[k] (h3.objs k b o2) (by rw [List.getElem?_append_left hkl]; exact ho')).2
        generalize os[k] = o' at this hob
        cases o' with
        | cells cs => exact hob.1
        | map es => exact hob.1
        | gone => exact this.elim
    · have : g.objs[k]? = some g.objs[k] := List.getElem?_eq_getElem hk
      have h4 := h3.objs k _ this
      rw [hb] at h4
      rw [this]
      exact h4.symm
    · rw [h2.tk, hs.tk, List.getElem?_append_left (by rw [← hs.tk]; exact ht)]
  have hE : Ev g w (g.cut g' w.heap.size) w' := by
    refine ⟨h3.os, h3.tape, h3.output, h3.size, fun b hb hk => ⟨by simp only [Gh.cut]; rw [if_pos hb], (h3.fixed b hb hk).2⟩, fun b t hb hk => ⟨by simp only [Gh.cut]; rw [if_pos hb]; exact hk, (h3.row b t hb hk).2⟩, fun b k hb hk => .inl (by simp only [Gh.cut]; rw [if_pos hb]; exact hk), fun _ _ h => h, tk_refl _⟩
  refine ⟨g.cut g' w.heap.size, ⟨v, rfl, hcut.rel _ _ (by rw [hs.len, hs.tk]; exact hr) (frz_rel hv')⟩, ⟨hs.tk, by rw [hlen]; exact hs.len, fun k b o hk ho => ?_, fun b k hb hk => ?_, fun b t hb hk => ?_⟩, hE⟩
  · have hkl : k < os.length := getElem?_lt ho
    obtain ⟨p1, p2⟩ := h2.obj k b o (h3.objs k b hk) (by rw [List.getElem?_append_left hkl]; exact ho)
    have hblt : b < w.heap.size := (hs.obj k b _ hk (List.getElem?_eq_getElem (by omega))).1
    refine ⟨p1, ?_⟩
    have hsc := hobs k b o hk ho
    cases o with
    | cells cs =>
      obtain ⟨q1, C, E, q2, q3, q4⟩ := p2
      exact ⟨by simp only [Gh.cut]; rw [if_pos hblt, ← hcut.kind b hblt]; exact q1, C, E, q2, hcut.relAll _ _ hsc q3, q4⟩
    | map es =>
      obtain ⟨q1, M, c, q2, q3, q4⟩ := p2
      exact ⟨by simp only [Gh.cut]; rw [if_pos hblt, ← hcut.kind b hblt]; exact q1, M, c, q2, hcut.relAll _ _ hsc.1 q3, hcut.relAll _ _ hsc.2 q4⟩
    | gone => trivial
  · simp only [Gh.cut] at hk
    by_cases hb' : b < w.heap.size
    · rw [if_pos hb'] at hk
      obtain ⟨o, o1, o2, o3⟩ := hs.back b k hb' hk
      have hkl : k < os.length := by rw [hlen]; exact getElem?_lt o1
      exact ⟨os[k], List.getElem?_eq_getElem hkl, o2, hgone k o _ o1 (List.getElem?_eq_getElem hkl) o3⟩
    · rw [if_neg hb'] at hk
      split at hk
      · split at hk <;> cases hk
      · cases hk
  · simp only [Gh.cut] at hk
    by_cases hb' : b < w.heap.size
    · rw [if_pos hb'] at hk; exact hs.rowlt b t hb' hk
    · rw [if_neg hb'] at hk
      split at hk
      · split at hk
        · rename_i ht
          cases hk
          show t < st.tk.length
          rw [← hs.tk]; exact ht
        · cases hk
      · cases hk


/-- A callee told by what is known of arguments and state; what it makes beside its (frozen) answer is forgotten. -/
def Fun.cpsX (f : Fun P) (sem : List AV → St → (Fin → St → Ans) → Ans)
    (hs : ∀ args st k fin, sem args st k = some fin → ∃ r os, k (.ret r) ⟨os, st.tk⟩ = some fin ∧ os.length = st.objs.length ∧
      (∀ (k : Nat) (o' : Ob), os[k]? = some o' → st.objs[k]? = some o' ∨ (ScopedL st.objs.length st.tk.length args → ScopedOb st.objs.length st.tk.length o') ∧ (match o' with | .gone => False | _ => True)) ∧
      (ScopedL st.objs.length st.tk.length args → Scoped st.objs.length st.tk.length r) ∧ ∃ F r' xo xt, frz r' = r ∧ f.run F args st = some (.ret r', ⟨os ++ xo, st.tk ++ xt⟩)) : OrcS P where
  id := f.id
  fn := f.fn
  hf := f.hf
  hname := f.hname
  hb := by rw [f.hbody]; rfl
  sem := sem
  sound k args st fin h := by
    obtain ⟨r, os, h1, h2, h3, h4, F, r', xo, xt, h5, h6⟩ := hs args st k fin h
    refine ⟨_, _, h1, fun g w vals hv hst => ?_⟩
    have hsc : ScopedL st.objs.length st.tk.length args := by have := RelAll.inside args vals.toList hv; rw [hst.len, hst.tk] at this; exact this
    have := forgetS (f.sound h6) h2 (fun k o' ho => (h3 k o' ho).imp (fun h => h) fun h => ⟨h.1 hsc, h.2⟩) (by rw [h5]; exact h4)
    rw [h5] at this
    exact this g w vals hv hst

/-- A callee that reads objects and leaves them as they are. -/
structure OrcQ (P : Program) where
  id : FuncId
  fn : Func
  hf : P.funcs[id]? = some fn
  hname : (fn.name == "runtime.NumGoroutine") = false
  hb : fn.body.isNone = false
  F : List AV → St → (AV → Ans) → Ans
  sound : ∀ k args st fin, F args st k = some fin → ∃ r, k r = some fin ∧ CallsTo P id args st (.ret r, st)

def Fun.ask (f : Fun P) (sem : List AV → St → (AV → Ans) → Ans)
    (hs : ∀ args st k fin, sem args st k = some fin → ∃ r, k r = some fin ∧ ∃ F, f.run F args st = some (.ret r, st)) : OrcQ P where
  id := f.id
  fn := f.fn
  hf := f.hf
  hname := f.hname
  hb := by rw [f.hbody]; rfl
  F := sem
  sound k args st fin h := by
    obtain ⟨r, h1, F, h2⟩ := hs args st k fin h
    exact ⟨r, h1, f.sound h2⟩

def opCallQ (O : OrcQ P) (dst : Option Tmp) (args : List Operand) (tys : Array TypeId) (ty : TypeId) (pos : String) (after : Array Edge) : QSim P where
  oper := mkOp dst (.call { callee := .value (.func O.id), args := args.toArray, argTypes := tys }) ty pos after
  plain := rfl
  xs := args
  f ev st k := O.F (args.map ev) st k
  congr ev ev' st k h := by rw [map_ev h fun _ h => h]
  sound ev st k fin h g w a he hs := by
    obtain ⟨r, h1, h2⟩ := O.sound _ _ _ _ h
    exact ⟨r, h1, call_told O.hf O.hname O.hb he hs h2⟩
def OrcQ.NatQ (O : OrcQ P) : Prop := ∀ args st k, O.F args st k = thenA (O.F args st retA) k
theorem opCallQ_nat {O : OrcQ P} (h : O.NatQ) {dst : Option Tmp} {args : List Operand} {tys : Array TypeId} {ty : TypeId} {pos : String} {after : Array Edge} : (opCallQ O dst args tys ty pos after).Nat := fun ev st k => h _ _ _
end
end Go.V

/- Elements and loads, read no deeper than they must. -/
set_option linter.unusedVariables false
set_option linter.unusedSimpArgs false
namespace Go.V
section
variable {P : Program}

def PSim.by' (x : PSim P) (f : (Operand → AV) → (AV → Ans) → Ans) (hc : ∀ ev ev' k, (∀ o ∈ x.xs, ev o = ev' o) → f ev k = f ev' k) (h : ∀ ev k fin, f ev k = some fin → x.f ev k = some fin) : PSim P :=
  ⟨x.oper, x.plain, x.xs, f, hc, fun ev k fin hk => x.sound ev k fin (h ev k fin hk)⟩
def QSim.by' (x : QSim P) (f : (Operand → AV) → St → (AV → Ans) → Ans) (hc : ∀ ev ev' st k, (∀ o ∈ x.xs, ev o = ev' o) → f ev st k = f ev' st k) (h : ∀ ev st k fin, f ev st k = some fin → x.f ev st k = some fin) : QSim P :=
  ⟨x.oper, x.plain, x.xs, f, hc, fun ev st k fin hk => x.sound ev st k fin (h ev st k fin hk)⟩

/-- An element's cells. -/
def rowAt (l : List (List AV)) (i : Int) : List AV := (l[i.toNat]?).getD []
def inR (l : List (List AV)) (i : Int) : Bool := decide (0 ≤ i) && decide (i < l.length)
theorem inR_spec {l : List (List AV)} {i : Int} (h : inR l i = true) : elemAt l i = some (rowAt l i) := by
  simp only [inR, Bool.and_eq_true, decide_eq_true_eq] at h
  unfold elemAt rowAt
  rw [if_pos h.1]
  have : i.toNat < l.length := by omega
  simp [this]
def aidxT (sz : Nat) (x i : AV) (k : AV → Ans) : Ans :=
  match i with
  | .int _ i => match x with
    | .sl s _ l => match Nat.beq s sz with
      | true => match inR l i with
        | true => k (.eptr (rowAt l i))
        | false => none
      | false => none
    | .lg _ s l => match Nat.beq s sz with
      | true => match inR l i with
        | true => k (.eptr (rowAt l i))
        | false => none
      | false => none
    | .ms j s o n _ => match Nat.beq s sz with
      | true => if 0 ≤ i ∧ i < n then k (.ptr j (o + i.toNat * sz)) else none
      | false => none
    | _ => none
  | _ => none
theorem aidxT_aidx {sz : Nat} {x i : AV} {k : AV → Ans} {fin : Fin × St} (h : aidxT sz x i k = some fin) : aidx sz x i k = some fin := by
  unfold aidxT at h
  unfold aidx
  split at h
  · split at h
    · split at h
      · split at h
        · rename_i h1 _ h2; simp only [h1, inR_spec h2]; exact h
        · cases h
      · cases h
    · split at h
      · split at h
        · rename_i h1 _ h2; simp only [h1, inR_spec h2]; exact h
        · cases h
      · cases h
    · exact h
    · cases h
  · cases h
def opIndexAddrT (dst : Option Tmp) (T : TypeId) (x i : Operand) (e sz : Nat) (hT : P.underlying T = some (.slice e)) (hz : (P.info? e).map (·.size) = some sz) (ty : TypeId) (pos : String) (after : Array Edge) : PSim P :=
  (opIndexAddr dst T x i e sz hT hz ty pos after).by' (fun ev k => aidxT sz (ev x) (ev i) k) (fun ev ev' k h => by simp only [h x (by simp [opIndexAddr, PSim.quiet]), h i (by simp [opIndexAddr, PSim.quiet])]) fun ev k fin h => aidxT_aidx h
theorem aidxT_nat (sz : Nat) (x i : AV) (k : AV → Ans) : aidxT sz x i k = thenA (aidxT sz x i retA) k := by
  unfold aidxT
  split
  · split
    · split
      · split <;> rfl
      · rfl
    · split
      · split <;> rfl
      · rfl
    · split
      · split <;> rfl
      · rfl
    · rfl
  · rfl
theorem opIndexAddrT_nat {dst : Option Tmp} {T : TypeId} {x i : Operand} {e sz : Nat} {hT : P.underlying T = some (.slice e)} {hz : (P.info? e).map (·.size) = some sz} {ty : TypeId} {pos : String} {after : Array Edge} : (opIndexAddrT (P := P) dst T x i e sz hT hz ty pos after).Nat :=
  fun ev k => aidxT_nat _ _ _ _

/-- What is loaded. -/
inductive LT where
  | int (k : IntKind)
  | str
  | bool
  | any
def hdI : List AV → Int
  | .int _ n :: _ => n
  | _ => 0
def hdS : List AV → ByteArray
  | .str s :: _ => s
  | _ => ByteArray.empty
def hdB : List AV → Bool
  | .bool b :: _ => b
  | _ => false
def hdA : List AV → AV
  | x :: _ => x
  | _ => .dead
def isLT (t : LT) (cs : List AV) : Bool :=
  match t with
  | .int K => match cs with
    | .int k _ :: _ => decide (k = K)
    | _ => false
  | .str => match cs with
    | .str _ :: _ => true
    | _ => false
  | .bool => match cs with
    | .bool _ :: _ => true
    | _ => false
  | .any => match cs with
    | _ :: _ => true
    | _ => false
def valLT (t : LT) (cs : List AV) : AV :=
  match t with
  | .int K => .int K (hdI cs)
  | .str => .str (hdS cs)
  | .bool => .bool (hdB cs)
  | .any => hdA cs
theorem isLT_spec {t : LT} {cs : List AV} (h : isLT t cs = true) : ∃ r, cs = valLT t cs :: r := by
  cases t with
  | int K =>
    simp only [isLT] at h
    split at h
    · simp at h; subst h; exact ⟨_, rfl⟩
    · cases h
  | str =>
    simp only [isLT] at h
    split at h
    · exact ⟨_, rfl⟩
    · cases h
  | bool =>
    simp only [isLT] at h
    split at h
    · exact ⟨_, rfl⟩
    · cases h
  | any =>
    simp only [isLT] at h
    split at h
    · exact ⟨_, rfl⟩
    · cases h
/-- The cells of a struct. -/
def isLTs : List LT → List AV → Bool
  | [], _ => true
  | t :: r, cs => isLT t cs && isLTs r cs.tail
def valLTs : List LT → List AV → List AV
  | [], _ => []
  | t :: r, cs => valLT t cs :: valLTs r cs.tail
theorem isLTs_spec : ∀ {ts : List LT} {cs : List AV}, isLTs ts cs = true → takeN ts.length cs = some (valLTs ts cs)
  | [], _, _ => rfl
  | t :: r, cs, h => by
    simp only [isLTs, Bool.and_eq_true] at h
    obtain ⟨rest, hr⟩ := isLT_spec h.1
    have ih := isLTs_spec h.2
    rw [hr] at ih ⊢
    simp only [List.tail_cons] at ih
    simp only [List.length_cons, takeN, valLTs, List.tail_cons, ih]
    rw [← hr]

/-- A load: a scalar's kind, or the cells of a struct. -/
inductive LD where
  | one (t : LT)
  | agg (ts : List LT)
def LD.ag : LD → Bool
  | .one _ => false
  | .agg _ => true
def LD.fits (sz : Nat) : LD → Bool
  | .one _ => true
  | .agg ts => Nat.beq ts.length sz
def LD.is (d : LD) (cs : List AV) : Bool :=
  match d with
  | .one t => isLT t cs
  | .agg ts => isLTs ts cs
def LD.val (d : LD) (cs : List AV) : AV :=
  match d with
  | .one t => valLT t cs
  | .agg ts => .agg (valLTs ts cs)
theorem LD.apart {d : LD} {sz : Nat} {cs : List AV} {k : AV → Ans} (hf : d.fits sz = true) (h : d.is cs = true) : V.apart d.ag sz cs k = k (d.val cs) := by
  cases d with
  | one t =>
    obtain ⟨r, hr⟩ := isLT_spec (t := t) h
    show V.apart false sz cs k = k (valLT t cs)
    rw [hr, ← hr]
    conv => lhs; rw [hr]
    rfl
  | agg ts =>
    have : ts.length = sz := Nat.eq_of_beq_eq_true hf
    subst this
    show V.apart true ts.length cs k = k (.agg (valLTs ts cs))
    unfold V.apart
    simp only [isLTs_spec (ts := ts) h]

def aloadTF (d : LD) (p : AV) (k : AV → Ans) : Ans :=
  match p with
  | .eptr cs => match d.is cs with
    | true => k (d.val cs)
    | false => none
  | _ => none
def aloadT (d : LD) (p : AV) (st : St) (k : AV → Ans) : Ans :=
  match p with
  | .eptr cs => match d.is cs with
    | true => k (d.val cs)
    | false => none
  | .ptr j o => match st.objs[j]? with
    | some (.cells cs) => match d.is (cs.drop o) with
      | true => k (d.val (cs.drop o))
      | false => none
    | _ => none
  | _ => none
theorem aloadTF_aloadF {d : LD} {sz : Nat} (hf : d.fits sz = true) {p : AV} {k : AV → Ans} {fin : Fin × St} (h : aloadTF d p k = some fin) : aloadF d.ag sz p k = some fin := by
  unfold aloadTF at h
  unfold aloadF
  split at h
  · split at h
    · rename_i h1; simp only [LD.apart hf h1]; exact h
    · cases h
  · cases h
theorem aloadT_aload {d : LD} {sz : Nat} (hf : d.fits sz = true) {p : AV} {st : St} {k : AV → Ans} {fin : Fin × St} (h : aloadT d p st k = some fin) : aload d.ag sz p st k = some fin := by
  unfold aloadT at h
  unfold aload
  split at h
  · split at h
    · rename_i h1; simp only [LD.apart hf h1]; exact h
    · cases h
  · split at h
    · rename_i h0
      split at h
      · rename_i h1; simp only [h0, LD.apart hf h1]; exact h
      · cases h
    · cases h
  · cases h
def opLoadT (ld : LD) (dst : Option Tmp) (T : TypeId) (x : Operand) (d : TypeDesc) (hd : P.underlying T = some d) (sz : Nat) (hz : (P.info? T).map (·.size) = some sz) (hl : (ld.fits sz && (ld.ag == isAggD d)) = true) (ty : TypeId) (pos : String) (after : Array Edge) : QSim P :=
  (opLoad dst T x d hd sz hz ty pos after).by' (fun ev st k => aloadT ld (ev x) st k) (fun ev ev' st k h => by simp only [h x (by simp [opLoad, QSim.quiet])]) fun ev st k fin h => by
    simp only [Bool.and_eq_true, beq_iff_eq] at hl
    show aload (isAggD d) sz (ev x) st k = some fin
    rw [← hl.2]; exact aloadT_aload hl.1 h
def opLoadTF (ld : LD) (dst : Option Tmp) (T : TypeId) (x : Operand) (d : TypeDesc) (hd : P.underlying T = some d) (sz : Nat) (hz : (P.info? T).map (·.size) = some sz) (hl : (ld.fits sz && (ld.ag == isAggD d)) = true) (ty : TypeId) (pos : String) (after : Array Edge) : PSim P :=
  (opLoadF dst T x d hd sz hz ty pos after).by' (fun ev k => aloadTF ld (ev x) k) (fun ev ev' k h => by simp only [h x (by simp [opLoadF, PSim.quiet])]) fun ev k fin h => by
    simp only [Bool.and_eq_true, beq_iff_eq] at hl
    show aloadF (isAggD d) sz (ev x) k = some fin
    rw [← hl.2]; exact aloadTF_aloadF hl.1 h
theorem opLoadT_nat {ld : LD} {dst : Option Tmp} {T : TypeId} {x : Operand} {d : TypeDesc} {hd : P.underlying T = some d} {sz : Nat} {hz : (P.info? T).map (·.size) = some sz} {hl} {ty : TypeId} {pos : String} {after : Array Edge} : (opLoadT (P := P) ld dst T x d hd sz hz hl ty pos after).Nat := by
  intro ev st k
  show aloadT ld (ev x) st k = thenA (aloadT ld (ev x) st retA) k
  unfold aloadT
  split
  · split <;> rfl
  · split
    · split <;> rfl
    · rfl
  · rfl
theorem opLoadTF_nat {ld : LD} {dst : Option Tmp} {T : TypeId} {x : Operand} {d : TypeDesc} {hd : P.underlying T = some d} {sz : Nat} {hz : (P.info? T).map (·.size) = some sz} {hl} {ty : TypeId} {pos : String} {after : Array Edge} : (opLoadTF (P := P) ld dst T x d hd sz hz hl ty pos after).Nat := by
  intro ev k
  show aloadTF ld (ev x) k = thenA (aloadTF ld (ev x) retA) k
  unfold aloadTF
  split
  · split <;> rfl
  · rfl
end

/-- A law's rows, one by one. -/
theorem rowAt_nat {l : List (List AV)} {i : Nat} (h : i < l.length) : rowAt l (i : Int) = l[i] := by simp [rowAt, h]
theorem inR_nat {l : List (List AV)} {i : Nat} (h : i < l.length) : inR l (i : Int) = true := by
  simp only [inR, Bool.and_eq_true, decide_eq_true_eq]; omega
end Go.V

/- make of slices: as what never changes, and as an object. -/
set_option linter.unusedVariables false
set_option linter.unusedSimpArgs false
namespace Go.V
section
variable {P : Program}

theorem mulMod {n s j : Nat} (h : j < s) : (n * s + j) % s = j := by
  rw [Nat.mul_comm, Nat.mul_add_mod, Nat.mod_eq_of_lt h]
theorem madeCells_list (z : Array Value) : ∀ n : Nat, (madeCells z (n * z.size)).toList = (List.replicate n z.toList).flatten
  | 0 => by simp [madeCells]
  | n + 1 => by
    have ih := madeCells_list z n
    simp only [madeCells, Array.toList_map, Array.toList_range] at ih ⊢
    rw [show (n + 1) * z.size = n * z.size + z.size by rw [Nat.add_mul]; omega, List.range_add, List.map_append, ih, List.replicate_succ', List.flatten_append, List.flatten_singleton]
    congr 1
    rw [List.map_map]
    apply List.ext_getElem
    · simp
    · intro j h1 h2
      have hj : j < z.size := by simpa using h1
      simp only [List.getElem_map, List.getElem_range, Function.comp, Array.getElem_toList]
      rw [mulMod hj]
      simp [hj]
theorem RelAll.rep {g : Gh} {w : World} {cs : List AV} {vs : List Value} (h : RelAll g w cs vs) : ∀ n : Nat, RelAll g w (List.replicate n cs).flatten (List.replicate n vs).flatten
  | 0 => rfl
  | n + 1 => by
    simp only [List.replicate_succ, List.flatten_cons]
    exact RelAll.append _ _ _ _ h (RelAll.rep h n)

theorem runs_make {T e sz bytes : Nat} {z : Value} (hT : ElemOf P T e sz bytes z) (w : World) (k : IntKind) (n : Nat) (hb : Nat.ble (bytes * n) 281474976710656 = true) (hn : Nat.ble n 9223372036854775807 = true) :
    (Instr.makeSlice T (.int k n) (.int k n)).run P w = .ok (.slice (some ⟨w.heap.size, 0, none⟩) n n) (w.alloc (.cells (madeCells z.cells (n * sz)) e)) := by
  obtain ⟨i, h1, h2, h3, h4⟩ := hT.info
  have hb := Nat.le_of_ble_eq_true hb
  have hn := Nat.le_of_ble_eq_true hn
  have hb' : (i.bytes : Int) * (n : Int) ≤ 281474976710656 := by
    have : ((bytes * n : Nat) : Int) ≤ 281474976710656 := by omega
    rw [h3]; rwa [Int.natCast_mul] at this
  have := run_make (P := P) w T e i z hT.1 h1 h4 k k n n (by omega) (by omega) hb' (by omega)
  rw [h2] at this
  simpa using this

/-- make of a slice that is never written. -/
def amakeF (sz bytes : Nat) (zc : List AV) (x : AV) (k : AV → Ans) : Ans :=
  match x with
  | .int _ n => match decide (0 ≤ n) && (Nat.ble (bytes * n.toNat) 281474976710656 && Nat.ble n.toNat 9223372036854775807) with
    | true => k (.sl sz true (List.replicate n.toNat zc))
    | false => none
  | _ => none
def opMakeF (dst : Option Tmp) (T : TypeId) (x : Operand) (e sz bytes : Nat) (z : Value) (hT : ElemOf P T e sz bytes z) (zc : List AV) (hz : cellsA (ofLit z) = some zc) (hsz : Nat.beq z.cells.size sz = true) (hl : Nat.beq zc.length sz = true) (ty : TypeId) (pos : String) (after : Array Edge) : PSim P :=
  PSim.makes (mkOp dst (.makeSlice T x x) ty pos after) rfl [x] (fun ev k => amakeF sz bytes zc (ev x) k) (fun ev ev' k h => by simp only [h x (by simp)]) fun ev k fin h g w a st he hs => by
    have hv := he x (by simp)
    unfold amakeF at h
    split at h
    · rename_i kd n hx
      rw [hx] at hv
      have hv : a.eval x = .int kd n := hv
      split at h
      · rename_i hc
        simp only [Bool.and_eq_true, decide_eq_true_eq] at hc
        obtain ⟨m, rfl⟩ : ∃ m : Nat, n = m := ⟨n.toNat, by omega⟩
        simp only [Int.toNat_natCast] at hc h
        have hsz := Nat.eq_of_beq_eq_true hsz
        have hl := Nat.eq_of_beq_eq_true hl
        obtain ⟨h1, h1c⟩ := cellsA_rel hz (ofLit_rel g w z)
        have hlist : (madeCells z.cells (m * sz)).toList = (List.replicate m z.cells.toList).flatten := by rw [← hsz]; exact madeCells_list _ _
        have hp := Push.alloc w (.cells (madeCells z.cells (m * sz)) e)
        have hE : Ev g w ⟨g.use w.heap.size .solid, g.objs, g.tk⟩ (w.alloc (.cells (madeCells z.cells (m * sz)) e)) := by simpa using Ev.push hp .solid [] g.tk (tk_refl _)
        refine ⟨_, .slice (some ⟨w.heap.size, 0, none⟩) m m, ⟨g.use w.heap.size .solid, g.objs, g.tk⟩, w.alloc (.cells (madeCells z.cells (m * sz)) e), h, ?_, ?_, ?_, hE⟩
        · simp [execOp, mkOp, hv, runs_make hT w kd m hc.2.1 hc.2.2]
        · refine ⟨w.heap.size, 0, none, m, by simp, by simp, fun _ => by simp, .inl rfl, ?_⟩
          refine RelRows.of sz _ (madeCells z.cells (m * sz)).toList w.heap.size 0 (fun y hy => by rw [List.eq_of_mem_replicate hy]; exact hl) (by rw [hlist]; exact (RelAll.mono hE _ _ h1).rep m) fun j v hj => ?_
          refine ⟨(solid_cells (g := g) hp g.tk (tk_refl _) g.objs j v hj).1, (solid_cells (g := g) hp g.tk (tk_refl _) g.objs j v hj).2, ?_⟩
          have hm := List.mem_of_getElem? hj
          rw [hlist] at hm
          obtain ⟨l, hl1, hl2⟩ := List.mem_flatten.mp hm
          rw [List.eq_of_mem_replicate hl1] at hl2
          exact h1c v hl2
        · have := hs.push hp .solid g.tk (tk_refl _) trivial
          rw [hs.tk] at this ⊢; exact this
      · cases h
    · cases h

/-- make of a slice, as an object. -/
def amakeO (sz bytes : Nat) (zc : List AV) (x : AV) (st : St) (k : AV → St → Ans) : Ans :=
  match x with
  | .int _ n => match decide (0 ≤ n) && (Nat.ble (bytes * n.toNat) 281474976710656 && Nat.ble n.toNat 9223372036854775807) with
    | true => k (.ms st.objs.length sz 0 n.toNat n.toNat) ⟨st.objs ++ [.cells (List.replicate n.toNat zc).flatten], st.tk⟩
    | false => none
  | _ => none
def opMakeO (dst : Option Tmp) (T : TypeId) (x : Operand) (e sz bytes : Nat) (z : Value) (hT : ElemOf P T e sz bytes z) (zc : List AV) (hz : cellsA (ofLit z) = some zc) (hsz : Nat.beq z.cells.size sz = true) (ty : TypeId) (pos : String) (after : Array Edge) : MSim P :=
  MSim.makes (mkOp dst (.makeSlice T x x) ty pos after) rfl [x] (fun ev st k => amakeO sz bytes zc (ev x) st k) (fun ev ev' st k h => by simp only [h x (by simp)]) fun ev st k fin h g w a he hs => by
    have hv := he x (by simp)
    unfold amakeO at h
    split at h
    · rename_i kd n hx
      rw [hx] at hv
      have hv : a.eval x = .int kd n := hv
      split at h
      · rename_i hc
        simp only [Bool.and_eq_true, decide_eq_true_eq] at hc
        obtain ⟨m, rfl⟩ : ∃ m : Nat, n = m := ⟨n.toNat, by omega⟩
        simp only [Int.toNat_natCast] at hc h
        have hsz := Nat.eq_of_beq_eq_true hsz
        obtain ⟨h1, h1c⟩ := cellsA_rel hz (ofLit_rel g w z)
        have hlist : (madeCells z.cells (m * sz)).toList = (List.replicate m z.cells.toList).flatten := by rw [← hsz]; exact madeCells_list _ _
        have hp := Push.alloc w (.cells (madeCells z.cells (m * sz)) e)
        have hone : ∀ u ∈ (madeCells z.cells (m * sz)).toList, u.oneCell' = true := by
          intro u hm
          rw [hlist] at hm
          obtain ⟨l, hl1, hl2⟩ := List.mem_flatten.mp hm
          rw [List.eq_of_mem_replicate hl1] at hl2
          exact h1c u hl2
        have hrel := hs.pushObj hp (.cells (List.replicate m zc).flatten) trivial (fun hE => ⟨by simp [Gh.use], madeCells z.cells (m * sz), e, hp.new, by rw [hlist]; exact (RelAll.mono hE _ _ h1).rep m, hone⟩)
        refine ⟨_, .slice (some ⟨w.heap.size, 0, none⟩) m m, _, _, w.alloc (.cells (madeCells z.cells (m * sz)) e), h, ?_, ⟨w.heap.size, ?_, rfl, Nat.le_refl _⟩, hrel, Ev.push hp _ _ _ (tk_refl _)⟩
        · simp [execOp, mkOp, hv, runs_make hT w kd m hc.2.1 hc.2.2]
        · show (g.objs ++ [w.heap.size])[st.objs.length]? = some w.heap.size
          rw [List.getElem?_append_right (by rw [hs.len]; exact Nat.le_refl _)]; simp [hs.len]
      · cases h
    · cases h
theorem pure_nat {f : Fun P} {G : List AV → Option AV} {hG} : (Fun.pure f G hG).Nat := by
  intro args k
  simp only [Fun.pure]
  cases G args <;> rfl
theorem pureOf_nat {α : Type} {f : Fun P} {dec : List AV → Option α} {enc : α → List AV} {hde} {g : α → AV} {hs} {hr} : (Fun.pureOf f dec enc hde g hs hr).Nat := pure_nat
theorem pureOfX_nat {α : Type} {f : Fun P} {dec : List AV → Option α} {enc : α → List AV} {hde} {g : α → AV} {hs} {hr} : (Fun.pureOfX f dec enc hde g hs hr).Nat := pure_nat
end
end Go.V

/- Loops over a slice, in general. -/
set_option linter.unusedVariables false
namespace Go.V

/-- The first row that fits, from a place on. -/
def idxFrom (p : List AV → Bool) : List (List AV) → Nat → Option Nat
  | [], _ => none
  | r :: l, i => bif p r then some i else idxFrom p l (i + 1)
/-- A loop that looks for the first row that fits. -/
theorem find_loop {R : Nat → Nat → Ans} {l : List (List AV)} {p ok : List AV → Bool} {found : Nat → Ans} {out : Ans}
    (hR : ∀ m i, i ≤ l.length → R (m + 1) i = branch (.bool (decide ((i : Int) < l.length))) (branch (.bool (inR l i)) (branch (.bool (ok (rowAt l i))) (branch (.bool (p (rowAt l i))) (found i) (R m (i + 1))) none) none) out)
    (hok : ∀ r ∈ l, ok r = true) : ∀ (k i m : Nat), i + k = l.length → k < m → R m i = (match idxFrom p (l.drop i) i with
      | some j => found j
      | none => out)
  | k, i, 0, hi, hk => by omega
  | 0, i, m + 1, hi, hk => by
    rw [hR m i (by omega), branch_not (decide_eq_false (by omega)), List.drop_eq_nil_of_le (by omega)]
    rfl
  | k + 1, i, m + 1, hi, hk => by
    have h1 : i < l.length := by omega
    rw [hR m i (by omega), branch_of (decide_eq_true (by omega)), branch_of (inR_nat h1), rowAt_nat h1, branch_of (hok _ (List.getElem_mem h1)), List.drop_eq_getElem_cons h1, idxFrom]
    cases hp : p l[i] with
    | true => rfl
    | false => exact find_loop hR hok k (i + 1) m (by omega) (by omega)
theorem idxFrom_some {p : List AV → Bool} : ∀ {l : List (List AV)} {i j : Nat}, idxFrom p l i = some j → i ≤ j ∧ j < i + l.length ∧ ∀ h : j - i < l.length, p l[j - i] = true
  | [], _, _, h => by cases h
  | r :: l, i, j, h => by
    rw [idxFrom] at h
    cases hp : p r with
    | true =>
      rw [hp] at h
      simp only [cond_true, Option.some.injEq] at h
      subst h
      exact ⟨Nat.le_refl _, by simp, fun _ => by simpa using hp⟩
    | false =>
      rw [hp] at h
      simp only [cond_false] at h
      obtain ⟨h1, h2, h3⟩ := idxFrom_some h
      refine ⟨by omega, by simp; omega, fun hh => ?_⟩
      have e : j - i = (j - (i + 1)) + 1 := by omega
      have := h3 (by omega)
      simpa [e] using this
theorem idxFrom_none {p : List AV → Bool} : ∀ {l : List (List AV)} {i : Nat}, idxFrom p l i = none ↔ ∀ r ∈ l, p r = false
  | [], i => by simp [idxFrom]
  | r :: l, i => by
    rw [idxFrom]
    cases hp : p r with
    | true => simp [hp]
    | false =>
      simp only [cond_false, List.mem_cons, forall_eq_or_imp, hp, true_and]
      exact idxFrom_none
theorem idxFrom_isSome {p : List AV → Bool} {l : List (List AV)} {i : Nat} : (idxFrom p l i).isSome = l.any p := by
  cases h : idxFrom p l i with
  | none =>
    have := idxFrom_none.mp h
    symm
    simpa using this
  | some j =>
    obtain ⟨h1, h2, h3⟩ := idxFrom_some h
    symm
    rw [Option.isSome_some, List.any_eq_true]
    exact ⟨_, List.getElem_mem (by omega : j - i < l.length), h3 (by omega)⟩
/-- A callee's number for it: below 0, where there is none. -/
def idxI (o : Option Nat) : Int :=
  match o with
  | some j => j
  | none => -1

/-- A function whose answer bears no memory, shown at the empty state; what must hold of the arguments says, too, that they bear no objects. -/
def Fun.flatP {P : Program} {α : Type} (f : Fun P) (dec : List AV → Option α) (enc : α → List AV) (hde : ∀ l a, dec l = some a → l = enc a) (pre : α → Bool) (g : α → AV)
    (hs : ∀ a, pre a = true → ScopedL 0 0 (enc a)) (hg : ∀ a, Flat (g a)) (hrun : ∀ a, pre a = true → ∃ F st', f.run F (enc a) ⟨[], []⟩ = some (.ret (g a), st')) : POrc P where
  id := f.id
  fn := f.fn
  hf := f.hf
  hname := f.hname
  hb := by rw [f.hbody]; rfl
  F args k := match dec args with
    | some a => match pre a with
      | true => k (g a)
      | false => none
    | none => none
  sound k args fin h := by
    split at h
    · rename_i a hd
      split at h
      · rename_i hp
        obtain ⟨F, st', hF⟩ := hrun a hp
        rw [← hde args a hd] at hF
        exact ⟨g a, h, fun st => sealed (f.sound hF) (by rw [hde args a hd]; exact hs a hp) (hg a) st⟩
      · cases h
    · cases h
theorem flatP_nat {P : Program} {α : Type} {f : Fun P} {dec : List AV → Option α} {enc : α → List AV} {hde} {pre : α → Bool} {g : α → AV} {hs hg hr} : (Fun.flatP f dec enc hde pre g hs hg hr).Nat := by
  intro args k
  simp only [Fun.flatP]
  cases dec args with
  | none => rfl
  | some a => simp only []; cases pre a <;> rfl

/-- Rows of scalars alone, none longer than told. -/
def scal : LT → Bool
  | .any => false
  | _ => true
def isRow (ts : List LT) (r : List AV) : Bool := isLTs ts r && Nat.beq r.length ts.length
theorem isRow_eq : ∀ {ts : List LT} {r : List AV}, isRow ts r = true → r = valLTs ts r
  | [], r, h => by
    simp only [isRow, isLTs, Bool.true_and] at h
    exact List.eq_nil_of_length_eq_zero (Nat.eq_of_beq_eq_true h)
  | t :: ts, r, h => by
    simp only [isRow, isLTs, Bool.and_eq_true] at h
    obtain ⟨rest, hr⟩ := isLT_spec h.1.1
    have hl := Nat.eq_of_beq_eq_true h.2
    have ht : r.tail = rest := by rw [hr]; rfl
    have ih := isRow_eq (ts := ts) (r := rest) (by
      simp only [isRow, Bool.and_eq_true]
      refine ⟨by rw [← ht]; exact h.1.2, ?_⟩
      rw [hr] at hl
      simp only [List.length_cons, Nat.add_right_cancel_iff] at hl
      rw [hl]; simp)
    rw [valLTs, ht, ← ih]
    exact hr
theorem scoped_val {n m : Nat} {t : LT} {cs : List AV} (h : scal t = true) : Scoped n m (valLT t cs) := by
  cases t with
  | any => cases h
  | _ => trivial
theorem scoped_vals {n m : Nat} : ∀ {ts : List LT} {cs : List AV}, ts.all scal = true → ScopedL n m (valLTs ts cs)
  | [], _, _ => trivial
  | t :: ts, cs, h => by
    simp only [List.all_cons, Bool.and_eq_true] at h
    exact ⟨scoped_val h.1, scoped_vals h.2⟩
theorem scoped_rows {n m : Nat} {ts : List LT} (hts : ts.all scal = true) : ∀ {l : List (List AV)}, (∀ r ∈ l, isRow ts r = true) → ScopedR n m l
  | [], _ => trivial
  | r :: l, h => by
    refine ⟨?_, scoped_rows hts fun r hr => h r (by simp [hr])⟩
    rw [isRow_eq (h r (by simp))]
    exact scoped_vals hts
end Go.V

/- Function values called where the order is open: their answers are known ahead. -/
set_option linter.unusedVariables false
set_option linter.unusedSimpArgs false
namespace Go.V
section
variable {P : Program}

def findP (f : FuncId) : List (POrc P) → Option (POrc P)
  | [] => none
  | O :: r => match Nat.beq O.id f with
    | true => some O
    | false => findP f r
theorem findP_id {f : FuncId} : ∀ {l : List (POrc P)} {O : POrc P}, findP f l = some O → O.id = f
  | [], O, h => by cases h
  | x :: l, O, h => by
    simp only [findP] at h
    split at h
    · rename_i hx
      cases h
      simpa using hx
    · exact findP_id h
theorem findP_nat {f : FuncId} : ∀ {l : List (POrc P)} {O : POrc P}, (∀ O ∈ l, O.Nat) → findP f l = some O → O.Nat
  | [], O, _, h => by cases h
  | x :: l, O, hl, h => by
    simp only [findP] at h
    split at h
    · cases h; exact hl _ (by simp)
    · exact findP_nat (fun O hO => hl O (by simp [hO])) h
def acallP (Os : List (POrc P)) (c : AV) (args : List AV) (k : AV → Ans) : Ans :=
  match c with
  | .fn (.func f) first captured => match findP f Os with
    | some O => O.F (first ++ args ++ captured) k
    | none => none
  | _ => none
theorem callD_told {f : FuncId} {fn : Func} (hf : P.funcs[f]? = some fn) (hname : (fn.name == "runtime.NumGoroutine") = false) (hb : fn.body.isNone = false) {dst : Option Tmp} {t : Tmp} {args : List Operand} {tys : Array TypeId} {ty : TypeId} {pos : String} {after : Array Edge}
    {ev : Operand → AV} {g : Gh} {w : World} {a : Act} {st : St} {va vc : Array Value} {first captured : List AV} (hev : a.eval (.tmp t) = .func (.func f) va vc) (hva : RelAll g w first va.toList) (hvc : RelAll g w captured vc.toList)
    (he : EvR g w ev a (.tmp t :: args)) (hs : StRel g st w) {r : AV} {st' : St} (h : CallsTo P f (first ++ args.map ev ++ captured) st (.ret r, st')) :
    Told P (mkOp dst (.call { callee := .value (.tmp t), args := args.toArray, argTypes := tys }) ty pos after) a g w r st' := by
  intro next Q hn
  show (mkOp dst (.call { callee := .value (.tmp t), args := args.toArray, argTypes := tys }) ty pos after).upon P a next Q ((execOp a.eval _).run P w)
  have hrun : (execOp a.eval (mkOp dst (.call { callee := .value (.tmp t), args := args.toArray, argTypes := tys }) ty pos after)).run P w = .ok (.enter f (va ++ (args.map a.eval).toArray ++ vc)) w := by
    simp only [execOp, mkOp, resolve, hev, Deferred.ofValue]
    simp [invoke, run_callFunc hf hname hb]
  rw [hrun, Oper.upon_enter]
  have hl := he.list args fun x hx => by simp [hx]
  refine (h g w _ (RelAll.appendV (RelAll.appendV hva (by simpa using hl)) hvc) hs).mono fun e w' ⟨g', h1, h2, h3⟩ => ?_
  obtain ⟨v, rfl, hv⟩ := h1
  exact hn v g' w' hv h2 h3
def opCallDynP (Os : List (POrc P)) (dst : Option Tmp) (t : Tmp) (args : List Operand) (tys : Array TypeId) (ty : TypeId) (pos : String) (after : Array Edge) : PSim P where
  oper := mkOp dst (.call { callee := .value (.tmp t), args := args.toArray, argTypes := tys }) ty pos after
  plain := rfl
  xs := .tmp t :: args
  f ev k := acallP Os (ev (.tmp t)) (args.map ev) k
  congr ev ev' k h := by rw [h (.tmp t) (by simp), map_ev (ev := ev) (ev' := ev') h fun x hx => by simp [hx]]
  sound ev k fin h g w a st he hs := by
    have hv := he (.tmp t) (by simp)
    unfold acallP at h
    split at h
    · rename_i f first captured hb
      split at h
      · rename_i O hO
        have hid := findP_id hO
        obtain ⟨r, h1, h2⟩ := O.sound _ _ _ h
        rw [hb] at hv
        obtain ⟨va, vc, hv, hva, hvc⟩ := hv
        subst hid
        exact ⟨r, h1, callD_told O.hf O.hname O.hb hv hva hvc he hs (h2 st)⟩
      · cases h
    · cases h
theorem opCallDynP_nat {Os : List (POrc P)} (hO : ∀ O ∈ Os, O.Nat) {dst : Option Tmp} {t : Tmp} {args : List Operand} {tys : Array TypeId} {ty : TypeId} {pos : String} {after : Array Edge} : (opCallDynP Os dst t args tys ty pos after).Nat := by
  intro ev k
  show acallP Os _ _ k = thenA (acallP Os _ _ retA) k
  unfold acallP
  split
  · split
    · rename_i O hf; exact findP_nat hO hf _ _
    · rfl
  · rfl
end
end Go.V

/- The functions' pieces, as told by gen.py. -/
set_option linter.unusedVariables false
set_option maxRecDepth 20000
namespace Go.Proofs.Ytnmglmkkeghnaaa.V
open Go Go.V Go.RowKit

theorem fl23_0 : fieldB Try.prog 23 0 0 1 false = true := by kernel_rfl
theorem sz3 : (Try.prog.info? 3).map (·.size) = some 1 := by kernel_rfl
noncomputable abbrev d23 : TypeDesc := (Try.prog.underlying 23).getD .bool
theorem ud23 : Try.prog.underlying 23 = some d23 := by kernel_rfl
theorem sz23 : (Try.prog.info? 23).map (·.size) = some 3 := by kernel_rfl
theorem ze23 : (Try.prog.info? 23).bind (·.zero) = some (.agg #[(.int .i64 0), (.int .i64 0), (.string ⟨#[]⟩)]) := by kernel_rfl
theorem eq23 : eqFlatB Try.prog 23 [(0, 0), (1, 0), (2, 2)] = true := by kernel_rfl
theorem fl23_2 : fieldB Try.prog 23 2 2 1 false = true := by kernel_rfl
theorem sz9 : (Try.prog.info? 9).map (·.size) = some 1 := by kernel_rfl
theorem fl23_1 : fieldB Try.prog 23 1 1 1 false = true := by kernel_rfl
theorem fl42_0 : fieldB Try.prog 42 0 0 1 false = true := by kernel_rfl
theorem fl25_1 : fieldB Try.prog 25 1 1 1 false = true := by kernel_rfl
theorem fl25_0 : fieldB Try.prog 25 0 0 1 false = true := by kernel_rfl
theorem mixed : Try.prog.follows .mixedOrders = true := by kernel_rfl

/-! ### 16: interlock/cond.truth (4); results 2; slots: 0 b, 1 b -/
noncomputable def f16_b : Sim Try.prog :=
  (.seq (.live [0] (.region 0 [
    ⟨(opAssign (some 2) (.const (Value.int IntKind.i64 0)) 3 "cond.go:54" #[]).op, none⟩
  ] (by kernel_rfl)))
  (.seq (.seq (.live [3] (.region 1 [
    ⟨(opMove (some 3) (.tmp 0) 4 "cond.go:55" #[]).op, none⟩
  ] (by kernel_rfl)))
  (.cond (.tmp 3)
    (.seq (.live [2] (.region 2 [
      ⟨(opAssign (some 2) (.const (Value.int IntKind.i64 1)) 3 "cond.go:56" #[]).op, none⟩
    ] (by kernel_rfl)))
    (.live [2] .ret))
    .skip))
  (.seq (.live [2] (.region 3 [
    ⟨(opAssign (some 2) (.const (Value.int IntKind.i64 0)) 3 "cond.go:58" #[]).op, none⟩
  ] (by kernel_rfl)))
  (.live [2] .ret))))

noncomputable def f16 : Fun Try.prog where
  id := 16
  fn := Try.f16
  hf := Try.func16
  hname := by kernel_rfl
  body := f16_b
  hbody := by kernel_rfl
  res := [rTmp 2]
  hres := by kernel_rfl
  n := 4
  hn := by kernel_rfl

/-! ### 26: interlock/value.Right (23); results 2; slots: 0 v, 1 v -/
noncomputable def f26_b : Sim Try.prog :=
  (.seq (.live [1] (.region 0 [
    ⟨(opBoxF (some 1) 23 (.tmp 0) 0 "value.go:17" #[]).op, none⟩,
    ⟨(opAssign (some 2) (.const (Value.bool false)) 4 "value.go:17" #[]).op, none⟩
  ] (by kernel_rfl)))
  (.seq (.seq (.live [1, 4] (.region 1 [
    ⟨(opFieldAddr (some 3) 23 (.tmp 1) 0 0 1 false fl23_0 (by decide) 0 "value.go:18" #[]).op, none⟩,
    ⟨(opLoadT (.one (.int .i64)) (some 4) 3 (.tmp 3) (.int .i64) Try.underlying3 1 sz3 (by kernel_rfl) 3 "value.go:18" #[{ on := 0, ground := Ground.data }]).op, none⟩
  ] (by kernel_rfl)))
  (.block 0 (.seq (.live [1, 4, 5] (.region 2 [
      ⟨(opBin (some 6) .eql 3 (.tmp 4) (.const (Value.int IntKind.i64 0)) 3 4 "value.go:19" #[]).op, none⟩,
      ⟨(opAssign (some 5) (.tmp 6) 4 "value.go:19" #[{ on := 0, ground := Ground.data }]).op, none⟩
    ] (by kernel_rfl)))
    (.cond (.tmp 5)
      (.seq (.live [2] (.region 3 [
        ⟨(opLoadT (.agg [(.int .i64), (.int .i64), .str]) (some 7) 23 (.tmp 1) d23 ud23 3 sz23 (by kernel_rfl) 23 "value.go:20" #[]).op, none⟩,
        ⟨(opBuild (some 8) 23 #[(.int .i64 0), (.int .i64 0), (.string ⟨#[]⟩)] [] ze23 (by kernel_rfl) 23 "value.go:20" #[]).op, none⟩,
        ⟨(opEqS (some 9) 23 [(0, 0), (1, 0), (2, 2)] eq23 (.tmp 7) (.tmp 8) 23 4 "value.go:20" #[{ on := 0, ground := Ground.data }, { on := 1, ground := Ground.data }]).op, none⟩,
        ⟨(opAssign (some 2) (.tmp 9) 4 "value.go:20" #[{ on := 2, ground := Ground.data }, { on := 0, ground := Ground.phase }, { on := 1, ground := Ground.phase }, { on := 2, ground := Ground.phase }]).op, none⟩
      ] (by kernel_rfl)))
      (.live [2] .ret))
      (.seq (.live [1, 4, 10] (.region 4 [
        ⟨(opBin (some 11) .eql 3 (.tmp 4) (.const (Value.int IntKind.i64 1)) 3 4 "value.go:21" #[]).op, none⟩,
        ⟨(opAssign (some 10) (.tmp 11) 4 "value.go:21" #[{ on := 0, ground := Ground.data }]).op, none⟩
      ] (by kernel_rfl)))
      (.cond (.tmp 10)
        (.seq (.live [2] (.region 5 [
          ⟨(opFieldAddr (some 12) 23 (.tmp 1) 2 2 1 false fl23_2 (by decide) 0 "value.go:22" #[]).op, none⟩,
          ⟨(opLoadT (.one .str) (some 13) 9 (.tmp 12) .string Try.underlying9 1 sz9 (by kernel_rfl) 9 "value.go:22" #[{ on := 0, ground := Ground.data }]).op, none⟩,
          ⟨(opBinS (some 14) .eql 9 (.tmp 13) (.const (Value.string { data := #[] })) 9 4 "value.go:22" #[{ on := 1, ground := Ground.data }]).op, none⟩,
          ⟨(opAssign (some 2) (.tmp 14) 4 "value.go:22" #[{ on := 2, ground := Ground.data }, { on := 0, ground := Ground.phase }, { on := 1, ground := Ground.phase }, { on := 2, ground := Ground.phase }]).op, none⟩
        ] (by kernel_rfl)))
        (.live [2] .ret))
        (.seq (.live [1, 4, 15] (.region 6 [
          ⟨(opBin (some 16) .eql 3 (.tmp 4) (.const (Value.int IntKind.i64 2)) 3 4 "value.go:23" #[]).op, none⟩,
          ⟨(opAssign (some 15) (.tmp 16) 4 "value.go:23" #[{ on := 0, ground := Ground.data }]).op, none⟩
        ] (by kernel_rfl)))
        (.cond (.tmp 15)
          (.seq (.live [2] (.region 7 [
            ⟨(opFieldAddr (some 17) 23 (.tmp 1) 2 2 1 false fl23_2 (by decide) 0 "value.go:24" #[]).op, none⟩,
            ⟨(opLoadT (.one .str) (some 18) 9 (.tmp 17) .string Try.underlying9 1 sz9 (by kernel_rfl) 9 "value.go:24" #[{ on := 0, ground := Ground.data }]).op, none⟩,
            ⟨(opBinS (some 19) .eql 9 (.tmp 18) (.const (Value.string { data := #[] })) 9 4 "value.go:24" #[{ on := 1, ground := Ground.data }]).op, none⟩,
            ⟨(opMove (some 20) (.tmp 19) 4 "value.go:24" #[{ on := 2, ground := Ground.data }]).op, none⟩,
            ⟨(opFieldAddr (some 21) 23 (.tmp 1) 1 1 1 false fl23_1 (by decide) 0 "value.go:24" #[{ on := 3, ground := Ground.guard }]).op, (some (3, 20, true))⟩,
            ⟨(opLoadT (.one (.int .i64)) (some 22) 3 (.tmp 21) (.int .i64) Try.underlying3 1 sz3 (by kernel_rfl) 3 "value.go:24" #[{ on := 4, ground := Ground.data }, { on := 3, ground := Ground.guard }]).op, (some (3, 20, true))⟩,
            ⟨(opBin (some 23) .eql 3 (.tmp 22) (.const (Value.int IntKind.i64 0)) 3 4 "value.go:24" #[{ on := 5, ground := Ground.data }, { on := 3, ground := Ground.guard }]).op, (some (3, 20, true))⟩,
            ⟨(opMove (some 24) (.tmp 23) 4 "value.go:24" #[{ on := 6, ground := Ground.data }, { on := 3, ground := Ground.chain }, { on := 3, ground := Ground.guard }]).op, (some (3, 20, true))⟩,
            ⟨(opFieldAddr (some 25) 23 (.tmp 1) 1 1 1 false fl23_1 (by decide) 0 "value.go:24" #[{ on := 7, ground := Ground.guard }]).op, (some (7, 24, false))⟩,
            ⟨(opLoadT (.one (.int .i64)) (some 26) 3 (.tmp 25) (.int .i64) Try.underlying3 1 sz3 (by kernel_rfl) 3 "value.go:24" #[{ on := 8, ground := Ground.data }, { on := 7, ground := Ground.guard }]).op, (some (7, 24, false))⟩,
            ⟨(opBin (some 27) .eql 3 (.tmp 26) (.const (Value.int IntKind.i64 1)) 3 4 "value.go:24" #[{ on := 9, ground := Ground.data }, { on := 7, ground := Ground.guard }]).op, (some (7, 24, false))⟩,
            ⟨(opPick (some 28) (.tmp 24) (.const (Value.bool true)) (.tmp 27) 4 "value.go:24" #[{ on := 7, ground := Ground.data }, { on := 10, ground := Ground.data }, { on := 3, ground := Ground.guard }]).op, (some (3, 20, true))⟩,
            ⟨(opPick (some 29) (.tmp 20) (.tmp 28) (.const (Value.bool false)) 4 "value.go:24" #[{ on := 3, ground := Ground.data }, { on := 11, ground := Ground.data }]).op, none⟩,
            ⟨(opAssign (some 2) (.tmp 29) 4 "value.go:24" #[{ on := 12, ground := Ground.data }, { on := 7, ground := Ground.chain }, { on := 0, ground := Ground.phase }, { on := 1, ground := Ground.phase }, { on := 2, ground := Ground.phase }, { on := 3, ground := Ground.phase }, { on := 4, ground := Ground.phase }, { on := 5, ground := Ground.phase }, { on := 6, ground := Ground.phase }, { on := 7, ground := Ground.phase }, { on := 8, ground := Ground.phase }, { on := 9, ground := Ground.phase }, { on := 10, ground := Ground.phase }, { on := 11, ground := Ground.phase }, { on := 12, ground := Ground.phase }]).op, none⟩
          ] (by kernel_rfl)))
          (.live [2] .ret))
          (.seq (.live [1, 30] (.region 8 [
            ⟨(opBin (some 31) .eql 3 (.tmp 4) (.const (Value.int IntKind.i64 3)) 3 4 "value.go:25" #[]).op, none⟩,
            ⟨(opAssign (some 30) (.tmp 31) 4 "value.go:25" #[{ on := 0, ground := Ground.data }]).op, none⟩
          ] (by kernel_rfl)))
          (.cond (.tmp 30)
            (.seq (.live [2] (.region 9 [
              ⟨(opFieldAddr (some 32) 23 (.tmp 1) 1 1 1 false fl23_1 (by decide) 0 "value.go:26" #[]).op, none⟩,
              ⟨(opLoadT (.one (.int .i64)) (some 33) 3 (.tmp 32) (.int .i64) Try.underlying3 1 sz3 (by kernel_rfl) 3 "value.go:26" #[{ on := 0, ground := Ground.data }]).op, none⟩,
              ⟨(opBin (some 34) .eql 3 (.tmp 33) (.const (Value.int IntKind.i64 0)) 3 4 "value.go:26" #[{ on := 1, ground := Ground.data }]).op, none⟩,
              ⟨(opMove (some 35) (.tmp 34) 4 "value.go:26" #[{ on := 2, ground := Ground.data }]).op, none⟩,
              ⟨(opFieldAddr (some 36) 23 (.tmp 1) 2 2 1 false fl23_2 (by decide) 0 "value.go:26" #[{ on := 3, ground := Ground.guard }]).op, (some (3, 35, true))⟩,
              ⟨(opLoadT (.one .str) (some 37) 9 (.tmp 36) .string Try.underlying9 1 sz9 (by kernel_rfl) 9 "value.go:26" #[{ on := 4, ground := Ground.data }, { on := 3, ground := Ground.guard }]).op, (some (3, 35, true))⟩,
              ⟨(opLen (some 38) (.tmp 37) 9 .string Try.underlying9 3 "value.go:26" #[{ on := 5, ground := Ground.data }, { on := 3, ground := Ground.guard }]).op, (some (3, 35, true))⟩,
              ⟨(opBin (some 39) .leq 3 (.tmp 38) (.const (Value.int IntKind.i64 16)) 3 4 "value.go:26" #[{ on := 6, ground := Ground.data }, { on := 3, ground := Ground.guard }]).op, (some (3, 35, true))⟩,
              ⟨(opPick (some 40) (.tmp 35) (.tmp 39) (.const (Value.bool false)) 4 "value.go:26" #[{ on := 3, ground := Ground.data }, { on := 7, ground := Ground.data }]).op, none⟩,
              ⟨(opAssign (some 2) (.tmp 40) 4 "value.go:26" #[{ on := 8, ground := Ground.data }, { on := 3, ground := Ground.chain }, { on := 0, ground := Ground.phase }, { on := 1, ground := Ground.phase }, { on := 2, ground := Ground.phase }, { on := 3, ground := Ground.phase }, { on := 4, ground := Ground.phase }, { on := 5, ground := Ground.phase }, { on := 6, ground := Ground.phase }, { on := 7, ground := Ground.phase }, { on := 8, ground := Ground.phase }]).op, none⟩
            ] (by kernel_rfl)))
            (.live [2] .ret))
            .skip))))))))))
  (.seq (.live [2] (.region 10 [
    ⟨(opAssign (some 2) (.const (Value.bool false)) 4 "value.go:28" #[]).op, none⟩
  ] (by kernel_rfl)))
  (.live [2] .ret))))

noncomputable def f26 : Fun Try.prog where
  id := 26
  fn := Try.f26
  hf := Try.func26
  hname := by kernel_rfl
  body := f26_b
  hbody := by kernel_rfl
  res := [rTmp 2]
  hres := by kernel_rfl
  n := 41
  hn := by kernel_rfl

/-! ### 30: cmp.Or[int] (61); results 2; slots: 0 vals, 1 vals, 3 zero, 4 _, 5 val -/
/-- A loop's round; at its head live: 3 zero, 6 , 7 , 8  -/
noncomputable def f30_l0 : Sim Try.prog :=
  (.seq (.live [3, 6, 7, 8, 9] (.region 3 [
    ⟨(opBin (some 9) .lss 3 (.tmp 8) (.tmp 7) 3 0 "cmp.go:71" #[]).op, none⟩
  ] (by kernel_rfl)))
  (.seq (.cond (.tmp 9)
    .skip
    (.live [3] (.exit 0)))
  (.seq (.block 1 (.seq (.live [3, 5, 6, 7, 8] (.region 4 [
      ⟨(opIndexAddrT (some 10) 61 (.tmp 6) (.tmp 8) 3 1 Try.underlying61 sz3 0 "cmp.go:71" #[]).op, none⟩,
      ⟨(opLoadT (.one (.int .i64)) (some 11) 3 (.tmp 10) (.int .i64) Try.underlying3 1 sz3 (by kernel_rfl) 3 "cmp.go:71" #[{ on := 0, ground := Ground.data }]).op, none⟩,
      ⟨(opAssign (some 5) (.tmp 11) 3 "cmp.go:71" #[{ on := 1, ground := Ground.data }, { on := 0, ground := Ground.phase }, { on := 1, ground := Ground.phase }]).op, none⟩
    ] (by kernel_rfl)))
    (.seq (.live [3, 5, 6, 7, 8, 14] (.region 5 [
      ⟨(opMove (some 12) (.tmp 5) 3 "cmp.go:72" #[]).op, none⟩,
      ⟨(opMove (some 13) (.tmp 3) 3 "cmp.go:72" #[]).op, none⟩,
      ⟨(opBin (some 14) .neq 3 (.tmp 12) (.tmp 13) 3 4 "cmp.go:72" #[{ on := 0, ground := Ground.data }, { on := 1, ground := Ground.data }]).op, none⟩
    ] (by kernel_rfl)))
    (.cond (.tmp 14)
      (.seq (.live [2] (.region 6 [
        ⟨(opMove (some 15) (.tmp 5) 3 "cmp.go:73" #[]).op, none⟩,
        ⟨(opAssign (some 2) (.tmp 15) 3 "cmp.go:73" #[{ on := 0, ground := Ground.data }, { on := 0, ground := Ground.phase }]).op, none⟩
      ] (by kernel_rfl)))
      (.live [2] .ret))
      .skip))))
  (.live [3, 6, 7, 8] (.region 7 [
    ⟨(opBin (some 16) .add 3 (.tmp 8) (.const (Value.int IntKind.i64 1)) 3 3 "cmp.go:71" #[]).op, none⟩,
    ⟨(opMove (some 8) (.tmp 16) 3 "cmp.go:71" #[{ on := 0, ground := Ground.data }]).op, none⟩
  ] (by kernel_rfl))))))

/-- What follows a loop. -/
noncomputable def f30_r0 : Sim Try.prog :=
  (.seq (.live [2] (.region 8 [
    ⟨(opMove (some 17) (.tmp 3) 3 "cmp.go:76" #[]).op, none⟩,
    ⟨(opAssign (some 2) (.tmp 17) 3 "cmp.go:76" #[{ on := 0, ground := Ground.data }, { on := 0, ground := Ground.phase }]).op, none⟩
  ] (by kernel_rfl)))
  (.live [2] .ret))

noncomputable def f30_b : Sim Try.prog :=
  (.seq (.live [0] (.region 0 [
    ⟨(opAssign (some 2) (.const (Value.int IntKind.i64 0)) 3 "cmp.go:69" #[]).op, none⟩
  ] (by kernel_rfl)))
  (.seq (.live [0, 3] (.region 1 [
    ⟨(opAssign (some 3) (.const (Value.int IntKind.i64 0)) 3 "cmp.go:70" #[]).op, none⟩
  ] (by kernel_rfl)))
  (.seq (.seq (.live [3, 6, 7, 8] (.region 2 [
    ⟨(opMove (some 6) (.tmp 0) 61 "cmp.go:71" #[]).op, none⟩,
    ⟨(opLen (some 7) (.tmp 6) 61 (.slice 3) Try.underlying61 3 "cmp.go:71" #[{ on := 0, ground := Ground.data }]).op, none⟩,
    ⟨(opMove (some 8) (.const (Value.int IntKind.i64 0)) 3 "cmp.go:71" #[]).op, none⟩
  ] (by kernel_rfl)))
  (.block 0 (.loop [3, 6, 7, 8] f30_l0)))
  f30_r0)))

noncomputable def f30 : Fun Try.prog where
  id := 30
  fn := Try.f30
  hf := Try.func30
  hname := by kernel_rfl
  body := f30_b
  hbody := by kernel_rfl
  res := [rTmp 2]
  hres := by kernel_rfl
  n := 18
  hn := by kernel_rfl

/-! ### 33: cmp.isNaN[int] (3); results 2; slots: 0 x, 1 x -/
noncomputable def f33_b : Sim Try.prog :=
  (.seq (.live [0] (.region 0 [
    ⟨(opAssign (some 2) (.const (Value.bool false)) 4 "cmp.go:63" #[]).op, none⟩
  ] (by kernel_rfl)))
  (.seq (.live [2] (.region 1 [
    ⟨(opMove (some 3) (.tmp 0) 3 "cmp.go:64" #[]).op, none⟩,
    ⟨(opMove (some 4) (.tmp 0) 3 "cmp.go:64" #[]).op, none⟩,
    ⟨(opBin (some 5) .neq 3 (.tmp 3) (.tmp 4) 3 4 "cmp.go:64" #[{ on := 0, ground := Ground.data }, { on := 1, ground := Ground.data }]).op, none⟩,
    ⟨(opAssign (some 2) (.tmp 5) 4 "cmp.go:64" #[{ on := 2, ground := Ground.data }, { on := 0, ground := Ground.phase }, { on := 1, ground := Ground.phase }, { on := 2, ground := Ground.phase }]).op, none⟩
  ] (by kernel_rfl)))
  (.live [2] .ret)))

noncomputable def f33 : Fun Try.prog where
  id := 33
  fn := Try.f33
  hf := Try.func33
  hname := by kernel_rfl
  body := f33_b
  hbody := by kernel_rfl
  res := [rTmp 2]
  hres := by kernel_rfl
  n := 6
  hn := by kernel_rfl

/-! ### 34: cmp.isNaN[string] (9); results 2; slots: 0 x, 1 x -/
noncomputable def f34_b : Sim Try.prog :=
  (.seq (.live [0] (.region 0 [
    ⟨(opAssign (some 2) (.const (Value.bool false)) 4 "cmp.go:63" #[]).op, none⟩
  ] (by kernel_rfl)))
  (.seq (.live [2] (.region 1 [
    ⟨(opMove (some 3) (.tmp 0) 9 "cmp.go:64" #[]).op, none⟩,
    ⟨(opMove (some 4) (.tmp 0) 9 "cmp.go:64" #[]).op, none⟩,
    ⟨(opBinS (some 5) .neq 9 (.tmp 3) (.tmp 4) 9 4 "cmp.go:64" #[{ on := 0, ground := Ground.data }, { on := 1, ground := Ground.data }]).op, none⟩,
    ⟨(opAssign (some 2) (.tmp 5) 4 "cmp.go:64" #[{ on := 2, ground := Ground.data }, { on := 0, ground := Ground.phase }, { on := 1, ground := Ground.phase }, { on := 2, ground := Ground.phase }]).op, none⟩
  ] (by kernel_rfl)))
  (.live [2] .ret)))

noncomputable def f34 : Fun Try.prog where
  id := 34
  fn := Try.f34
  hf := Try.func34
  hname := by kernel_rfl
  body := f34_b
  hbody := by kernel_rfl
  res := [rTmp 2]
  hres := by kernel_rfl
  n := 6
  hn := by kernel_rfl

/-! ### 22: interlock/cond.Place$1 (42); results 3; slots: 0 c, 2 c -/
noncomputable def f22_b : Sim Try.prog :=
  (.seq (.live [1, 2] (.region 0 [
    ⟨(opBoxF (some 2) 42 (.tmp 0) 0 "cond.go:20" #[]).op, none⟩,
    ⟨(opAssign (some 3) (.const (Value.bool false)) 4 "cond.go:20" #[]).op, none⟩
  ] (by kernel_rfl)))
  (.seq (.live [3] (.region 1 [
    ⟨(opFieldAddr (some 4) 42 (.tmp 2) 0 0 1 false fl42_0 (by decide) 0 "cond.go:20" #[]).op, none⟩,
    ⟨(opLoadT (.one .str) (some 5) 9 (.tmp 4) .string Try.underlying9 1 sz9 (by kernel_rfl) 9 "cond.go:20" #[{ on := 0, ground := Ground.data }]).op, none⟩,
    ⟨(opLoadT (.one .str) (some 6) 9 (.tmp 1) .string Try.underlying9 1 sz9 (by kernel_rfl) 9 "cond.go:20" #[]).op, none⟩,
    ⟨(opBinS (some 7) .eql 9 (.tmp 5) (.tmp 6) 9 4 "cond.go:20" #[{ on := 1, ground := Ground.data }, { on := 2, ground := Ground.data }]).op, none⟩,
    ⟨(opAssign (some 3) (.tmp 7) 4 "cond.go:20" #[{ on := 3, ground := Ground.data }, { on := 0, ground := Ground.phase }, { on := 1, ground := Ground.phase }, { on := 2, ground := Ground.phase }, { on := 3, ground := Ground.phase }]).op, none⟩
  ] (by kernel_rfl)))
  (.live [3] .ret)))

noncomputable def f22 : Fun Try.prog where
  id := 22
  fn := Try.f22
  hf := Try.func22
  hname := by kernel_rfl
  body := f22_b
  hbody := by kernel_rfl
  res := [rTmp 3]
  hres := by kernel_rfl
  n := 8
  hn := by kernel_rfl

/-! ### 24: interlock/cond.Equals$1 (25); results 3; slots: 0 c, 2 c -/
noncomputable def f24_b : Sim Try.prog :=
  (.seq (.live [1, 2] (.region 0 [
    ⟨(opBoxF (some 2) 25 (.tmp 0) 0 "cond.go:110" #[]).op, none⟩,
    ⟨(opAssign (some 3) (.const (Value.bool false)) 4 "cond.go:110" #[]).op, none⟩
  ] (by kernel_rfl)))
  (.seq (.live [3] (.region 1 [
    ⟨(opFieldAddr (some 4) 25 (.tmp 2) 1 1 1 false fl25_1 (by decide) 0 "cond.go:110" #[]).op, none⟩,
    ⟨(opLoadT (.one (.int .i64)) (some 5) 3 (.tmp 4) (.int .i64) Try.underlying3 1 sz3 (by kernel_rfl) 3 "cond.go:110" #[{ on := 0, ground := Ground.data }]).op, none⟩,
    ⟨(opBin (some 6) .eql 3 (.tmp 5) (.const (Value.int IntKind.i64 1)) 3 4 "cond.go:110" #[{ on := 1, ground := Ground.data }]).op, none⟩,
    ⟨(opMove (some 7) (.tmp 6) 4 "cond.go:110" #[{ on := 2, ground := Ground.data }]).op, none⟩,
    ⟨(opFieldAddr (some 8) 25 (.tmp 2) 0 0 1 false fl25_0 (by decide) 0 "cond.go:110" #[{ on := 3, ground := Ground.guard }]).op, (some (3, 7, true))⟩,
    ⟨(opLoadT (.one .str) (some 9) 9 (.tmp 8) .string Try.underlying9 1 sz9 (by kernel_rfl) 9 "cond.go:110" #[{ on := 4, ground := Ground.data }, { on := 3, ground := Ground.guard }]).op, (some (3, 7, true))⟩,
    ⟨(opLoadT (.one .str) (some 10) 9 (.tmp 1) .string Try.underlying9 1 sz9 (by kernel_rfl) 9 "cond.go:110" #[{ on := 3, ground := Ground.guard }]).op, (some (3, 7, true))⟩,
    ⟨(opBinS (some 11) .eql 9 (.tmp 9) (.tmp 10) 9 4 "cond.go:110" #[{ on := 5, ground := Ground.data }, { on := 6, ground := Ground.data }, { on := 3, ground := Ground.guard }]).op, (some (3, 7, true))⟩,
    ⟨(opPick (some 12) (.tmp 7) (.tmp 11) (.const (Value.bool false)) 4 "cond.go:110" #[{ on := 3, ground := Ground.data }, { on := 7, ground := Ground.data }]).op, none⟩,
    ⟨(opAssign (some 3) (.tmp 12) 4 "cond.go:110" #[{ on := 8, ground := Ground.data }, { on := 3, ground := Ground.chain }, { on := 0, ground := Ground.phase }, { on := 1, ground := Ground.phase }, { on := 2, ground := Ground.phase }, { on := 3, ground := Ground.phase }, { on := 4, ground := Ground.phase }, { on := 5, ground := Ground.phase }, { on := 6, ground := Ground.phase }, { on := 7, ground := Ground.phase }, { on := 8, ground := Ground.phase }]).op, none⟩
  ] (by kernel_rfl)))
  (.live [3] .ret)))

noncomputable def f24 : Fun Try.prog where
  id := 24
  fn := Try.f24
  hf := Try.func24
  hname := by kernel_rfl
  body := f24_b
  hbody := by kernel_rfl
  res := [rTmp 3]
  hres := by kernel_rfl
  n := 13
  hn := by kernel_rfl

/-! ### 19: interlock/cond.Holds$1 (3); results 2; slots: 0 t, 1 t -/
noncomputable def f19_b : Sim Try.prog :=
  (.seq (.live [0] (.region 0 [
    ⟨(opAssign (some 2) (.const (Value.bool false)) 4 "cond.go:98" #[]).op, none⟩
  ] (by kernel_rfl)))
  (.seq (.live [2] (.region 1 [
    ⟨(opMove (some 3) (.tmp 0) 3 "cond.go:98" #[]).op, none⟩,
    ⟨(opBin (some 4) .neq 3 (.tmp 3) (.const (Value.int IntKind.i64 1)) 3 4 "cond.go:98" #[{ on := 0, ground := Ground.data }]).op, none⟩,
    ⟨(opAssign (some 2) (.tmp 4) 4 "cond.go:98" #[{ on := 1, ground := Ground.data }, { on := 0, ground := Ground.phase }, { on := 1, ground := Ground.phase }]).op, none⟩
  ] (by kernel_rfl)))
  (.live [2] .ret)))

noncomputable def f19 : Fun Try.prog where
  id := 19
  fn := Try.f19
  hf := Try.func19
  hname := by kernel_rfl
  body := f19_b
  hbody := by kernel_rfl
  res := [rTmp 2]
  hres := by kernel_rfl
  n := 5
  hn := by kernel_rfl

/-! ### 20: interlock/cond.Refuses$1 (3); results 2; slots: 0 t, 1 t -/
noncomputable def f20_b : Sim Try.prog :=
  (.seq (.live [0] (.region 0 [
    ⟨(opAssign (some 2) (.const (Value.bool false)) 4 "cond.go:103" #[]).op, none⟩
  ] (by kernel_rfl)))
  (.seq (.live [2] (.region 1 [
    ⟨(opMove (some 3) (.tmp 0) 3 "cond.go:103" #[]).op, none⟩,
    ⟨(opBin (some 4) .eql 3 (.tmp 3) (.const (Value.int IntKind.i64 0)) 3 4 "cond.go:103" #[{ on := 0, ground := Ground.data }]).op, none⟩,
    ⟨(opAssign (some 2) (.tmp 4) 4 "cond.go:103" #[{ on := 1, ground := Ground.data }, { on := 0, ground := Ground.phase }, { on := 1, ground := Ground.phase }]).op, none⟩
  ] (by kernel_rfl)))
  (.live [2] .ret)))

noncomputable def f20 : Fun Try.prog where
  id := 20
  fn := Try.f20
  hf := Try.func20
  hname := by kernel_rfl
  body := f20_b
  hbody := by kernel_rfl
  res := [rTmp 2]
  hres := by kernel_rfl
  n := 5
  hn := by kernel_rfl

end Go.Proofs.Ytnmglmkkeghnaaa.V

/- The functions' pieces, as told by gen.py. -/
set_option linter.unusedVariables false
set_option maxRecDepth 20000
namespace Go.Proofs.Ytnmglmkkeghnaaa.V
open Go Go.V Go.RowKit


/-! ### 31: cmp.Compare[int] (3, 3); results 4; slots: 0 x, 1 y, 2 x, 3 y, 5 xNaN, 6 yNaN -/
noncomputable def f31_b : Sim Try.prog :=
  (.seq (.live [0, 1] (.region 0 [
    ⟨(opAssign (some 4) (.const (Value.int IntKind.i64 0)) 3 "cmp.go:40" #[]).op, none⟩
  ] (by kernel_rfl)))
  (.seq (.live [0, 1, 5] (.region 1 [
    ⟨(opMove (some 7) (.tmp 0) 3 "cmp.go:41" #[]).op, none⟩,
    ⟨opCall (f33.orc 0) (some 8) [(.tmp 7)] #[3] 4 "cmp.go:41" #[{ on := 0, ground := Ground.data }], none⟩,
    ⟨(opAssign (some 5) (.tmp 8) 4 "cmp.go:41" #[{ on := 1, ground := Ground.data }, { on := 1, ground := Ground.chain }, { on := 0, ground := Ground.phase }, { on := 1, ground := Ground.phase }]).op, none⟩
  ] (by kernel_rfl)))
  (.seq (.live [0, 1, 5, 6] (.region 2 [
    ⟨(opMove (some 9) (.tmp 1) 3 "cmp.go:42" #[]).op, none⟩,
    ⟨opCall (f33.orc 0) (some 10) [(.tmp 9)] #[3] 4 "cmp.go:42" #[{ on := 0, ground := Ground.data }], none⟩,
    ⟨(opAssign (some 6) (.tmp 10) 4 "cmp.go:42" #[{ on := 1, ground := Ground.data }, { on := 1, ground := Ground.chain }, { on := 0, ground := Ground.phase }, { on := 1, ground := Ground.phase }]).op, none⟩
  ] (by kernel_rfl)))
  (.seq (.seq (.live [0, 1, 6, 11] (.region 3 [
    ⟨(opMove (some 11) (.tmp 5) 4 "cmp.go:43" #[]).op, none⟩
  ] (by kernel_rfl)))
  (.cond (.tmp 11)
    (.seq (.seq (.live [12] (.region 4 [
      ⟨(opMove (some 12) (.tmp 6) 4 "cmp.go:44" #[]).op, none⟩
    ] (by kernel_rfl)))
    (.cond (.tmp 12)
      (.seq (.live [4] (.region 5 [
        ⟨(opAssign (some 4) (.const (Value.int IntKind.i64 0)) 3 "cmp.go:45" #[]).op, none⟩
      ] (by kernel_rfl)))
      (.live [4] .ret))
      .skip))
    (.seq (.live [4] (.region 6 [
      ⟨(opAssign (some 4) (.const (Value.int IntKind.i64 (-1))) 3 "cmp.go:47" #[]).op, none⟩
    ] (by kernel_rfl)))
    (.live [4] .ret)))
    .skip))
  (.seq (.seq (.live [0, 1, 13] (.region 7 [
    ⟨(opMove (some 13) (.tmp 6) 4 "cmp.go:49" #[]).op, none⟩
  ] (by kernel_rfl)))
  (.cond (.tmp 13)
    (.seq (.live [4] (.region 8 [
      ⟨(opAssign (some 4) (.const (Value.int IntKind.i64 1)) 3 "cmp.go:50" #[]).op, none⟩
    ] (by kernel_rfl)))
    (.live [4] .ret))
    .skip))
  (.seq (.seq (.live [0, 1, 16] (.region 9 [
    ⟨(opMove (some 14) (.tmp 0) 3 "cmp.go:52" #[]).op, none⟩,
    ⟨(opMove (some 15) (.tmp 1) 3 "cmp.go:52" #[]).op, none⟩,
    ⟨(opBin (some 16) .lss 3 (.tmp 14) (.tmp 15) 3 4 "cmp.go:52" #[{ on := 0, ground := Ground.data }, { on := 1, ground := Ground.data }]).op, none⟩
  ] (by kernel_rfl)))
  (.cond (.tmp 16)
    (.seq (.live [4] (.region 10 [
      ⟨(opAssign (some 4) (.const (Value.int IntKind.i64 (-1))) 3 "cmp.go:53" #[]).op, none⟩
    ] (by kernel_rfl)))
    (.live [4] .ret))
    .skip))
  (.seq (.seq (.live [19] (.region 11 [
    ⟨(opMove (some 17) (.tmp 0) 3 "cmp.go:55" #[]).op, none⟩,
    ⟨(opMove (some 18) (.tmp 1) 3 "cmp.go:55" #[]).op, none⟩,
    ⟨(opBin (some 19) .gtr 3 (.tmp 17) (.tmp 18) 3 4 "cmp.go:55" #[{ on := 0, ground := Ground.data }, { on := 1, ground := Ground.data }]).op, none⟩
  ] (by kernel_rfl)))
  (.cond (.tmp 19)
    (.seq (.live [4] (.region 12 [
      ⟨(opAssign (some 4) (.const (Value.int IntKind.i64 1)) 3 "cmp.go:56" #[]).op, none⟩
    ] (by kernel_rfl)))
    (.live [4] .ret))
    .skip))
  (.seq (.live [4] (.region 13 [
    ⟨(opAssign (some 4) (.const (Value.int IntKind.i64 0)) 3 "cmp.go:58" #[]).op, none⟩
  ] (by kernel_rfl)))
  (.live [4] .ret)))))))))

noncomputable def f31 : Fun Try.prog where
  id := 31
  fn := Try.f31
  hf := Try.func31
  hname := by kernel_rfl
  body := f31_b
  hbody := by kernel_rfl
  res := [rTmp 4]
  hres := by kernel_rfl
  n := 20
  hn := by kernel_rfl

/-! ### 32: cmp.Compare[string] (9, 9); results 4; slots: 0 x, 1 y, 2 x, 3 y, 5 xNaN, 6 yNaN -/
noncomputable def f32_b : Sim Try.prog :=
  (.seq (.live [0, 1] (.region 0 [
    ⟨(opAssign (some 4) (.const (Value.int IntKind.i64 0)) 3 "cmp.go:40" #[]).op, none⟩
  ] (by kernel_rfl)))
  (.seq (.live [0, 1, 5] (.region 1 [
    ⟨(opMove (some 7) (.tmp 0) 9 "cmp.go:41" #[]).op, none⟩,
    ⟨opCall (f34.orc 0) (some 8) [(.tmp 7)] #[9] 4 "cmp.go:41" #[{ on := 0, ground := Ground.data }], none⟩,
    ⟨(opAssign (some 5) (.tmp 8) 4 "cmp.go:41" #[{ on := 1, ground := Ground.data }, { on := 1, ground := Ground.chain }, { on := 0, ground := Ground.phase }, { on := 1, ground := Ground.phase }]).op, none⟩
  ] (by kernel_rfl)))
  (.seq (.live [0, 1, 5, 6] (.region 2 [
    ⟨(opMove (some 9) (.tmp 1) 9 "cmp.go:42" #[]).op, none⟩,
    ⟨opCall (f34.orc 0) (some 10) [(.tmp 9)] #[9] 4 "cmp.go:42" #[{ on := 0, ground := Ground.data }], none⟩,
    ⟨(opAssign (some 6) (.tmp 10) 4 "cmp.go:42" #[{ on := 1, ground := Ground.data }, { on := 1, ground := Ground.chain }, { on := 0, ground := Ground.phase }, { on := 1, ground := Ground.phase }]).op, none⟩
  ] (by kernel_rfl)))
  (.seq (.seq (.live [0, 1, 6, 11] (.region 3 [
    ⟨(opMove (some 11) (.tmp 5) 4 "cmp.go:43" #[]).op, none⟩
  ] (by kernel_rfl)))
  (.cond (.tmp 11)
    (.seq (.seq (.live [12] (.region 4 [
      ⟨(opMove (some 12) (.tmp 6) 4 "cmp.go:44" #[]).op, none⟩
    ] (by kernel_rfl)))
    (.cond (.tmp 12)
      (.seq (.live [4] (.region 5 [
        ⟨(opAssign (some 4) (.const (Value.int IntKind.i64 0)) 3 "cmp.go:45" #[]).op, none⟩
      ] (by kernel_rfl)))
      (.live [4] .ret))
      .skip))
    (.seq (.live [4] (.region 6 [
      ⟨(opAssign (some 4) (.const (Value.int IntKind.i64 (-1))) 3 "cmp.go:47" #[]).op, none⟩
    ] (by kernel_rfl)))
    (.live [4] .ret)))
    .skip))
  (.seq (.seq (.live [0, 1, 13] (.region 7 [
    ⟨(opMove (some 13) (.tmp 6) 4 "cmp.go:49" #[]).op, none⟩
  ] (by kernel_rfl)))
  (.cond (.tmp 13)
    (.seq (.live [4] (.region 8 [
      ⟨(opAssign (some 4) (.const (Value.int IntKind.i64 1)) 3 "cmp.go:50" #[]).op, none⟩
    ] (by kernel_rfl)))
    (.live [4] .ret))
    .skip))
  (.seq (.seq (.live [0, 1, 16] (.region 9 [
    ⟨(opMove (some 14) (.tmp 0) 9 "cmp.go:52" #[]).op, none⟩,
    ⟨(opMove (some 15) (.tmp 1) 9 "cmp.go:52" #[]).op, none⟩,
    ⟨(opBinS (some 16) .lss 9 (.tmp 14) (.tmp 15) 9 4 "cmp.go:52" #[{ on := 0, ground := Ground.data }, { on := 1, ground := Ground.data }]).op, none⟩
  ] (by kernel_rfl)))
  (.cond (.tmp 16)
    (.seq (.live [4] (.region 10 [
      ⟨(opAssign (some 4) (.const (Value.int IntKind.i64 (-1))) 3 "cmp.go:53" #[]).op, none⟩
    ] (by kernel_rfl)))
    (.live [4] .ret))
    .skip))
  (.seq (.seq (.live [19] (.region 11 [
    ⟨(opMove (some 17) (.tmp 0) 9 "cmp.go:55" #[]).op, none⟩,
    ⟨(opMove (some 18) (.tmp 1) 9 "cmp.go:55" #[]).op, none⟩,
    ⟨(opBinS (some 19) .gtr 9 (.tmp 17) (.tmp 18) 9 4 "cmp.go:55" #[{ on := 0, ground := Ground.data }, { on := 1, ground := Ground.data }]).op, none⟩
  ] (by kernel_rfl)))
  (.cond (.tmp 19)
    (.seq (.live [4] (.region 12 [
      ⟨(opAssign (some 4) (.const (Value.int IntKind.i64 1)) 3 "cmp.go:56" #[]).op, none⟩
    ] (by kernel_rfl)))
    (.live [4] .ret))
    .skip))
  (.seq (.live [4] (.region 13 [
    ⟨(opAssign (some 4) (.const (Value.int IntKind.i64 0)) 3 "cmp.go:58" #[]).op, none⟩
  ] (by kernel_rfl)))
  (.live [4] .ret)))))))))

noncomputable def f32 : Fun Try.prog where
  id := 32
  fn := Try.f32
  hf := Try.func32
  hname := by kernel_rfl
  body := f32_b
  hbody := by kernel_rfl
  res := [rTmp 4]
  hres := by kernel_rfl
  n := 20
  hn := by kernel_rfl

end Go.Proofs.Ytnmglmkkeghnaaa.V

/- What the functions' runs come to; the right sides were printed by a tool, Lean checks them. -/
set_option linter.unusedVariables false
set_option maxRecDepth 100000
namespace Go.Proofs.Ytnmglmkkeghnaaa.V
open Go Go.V Go.RowKit

theorem cmpi_run (a b : Int) (st : St) :
    (f31.run 0 [.int .i64 a, .int .i64 b] st : Ans) =
    branch (AV.bool (a != a))
      (branch (AV.bool (b != b)) (some (Fin.ret (AV.int IntKind.i64 0), st)) (some (Fin.ret (AV.int IntKind.i64 (-1)), st)))
      (branch (AV.bool (b != b)) (some (Fin.ret (AV.int IntKind.i64 1), st))
        (branch (AV.bool (decide (a < b))) (some (Fin.ret (AV.int IntKind.i64 (-1)), st))
          (branch (AV.bool (decide (a > b))) (some (Fin.ret (AV.int IntKind.i64 1), st))
            (some (Fin.ret (AV.int IntKind.i64 0), st))))) := by kernel_rfl

theorem cmps_run (a b : ByteArray) (st : St) :
    (f32.run 0 [.str a, .str b] st : Ans) =
    branch (AV.bool !a.toList == a.toList)
      (branch (AV.bool !b.toList == b.toList) (some (Fin.ret (AV.int IntKind.i64 0), st))
        (some (Fin.ret (AV.int IntKind.i64 (-1)), st)))
      (branch (AV.bool !b.toList == b.toList) (some (Fin.ret (AV.int IntKind.i64 1), st))
        (branch (AV.bool (Op.bytesLess a.toList b.toList)) (some (Fin.ret (AV.int IntKind.i64 (-1)), st))
          (branch (AV.bool !(Op.bytesLess a.toList b.toList || a.toList == b.toList))
            (some (Fin.ret (AV.int IntKind.i64 1), st)) (some (Fin.ret (AV.int IntKind.i64 0), st))))) := by kernel_rfl

theorem or_run (f : Bool) (a b c : Int) (st : St) :
    (f30.run 5 [.sl 1 f [[.int .i64 a], [.int .i64 b], [.int .i64 c]]] st : Ans) =
    branch (AV.bool (a != 0)) (some (Fin.ret (AV.int IntKind.i64 a), st))
      (branch (AV.bool (b != 0)) (some (Fin.ret (AV.int IntKind.i64 b), st))
        (branch (AV.bool (c != 0)) (some (Fin.ret (AV.int IntKind.i64 c), st)) (some (Fin.ret (AV.int IntKind.i64 0), st)))) := by kernel_rfl

theorem right_run (k n : Int) (s : ByteArray) (st : St) :
    (f26.run 0 [.agg [.int .i64 k, .int .i64 n, .str s]] st : Ans) =
    branch (AV.bool (k == 0)) (some (Fin.ret (AV.bool (k == 0 && (n == 0 && (s.toList == [] && true)))), st))
      (branch (AV.bool (k == 1)) (some (Fin.ret (AV.bool (s.toList == [])), st))
        (branch (AV.bool (k == 2))
          (branch (AV.bool (s.toList == []))
            (branch (AV.bool (n == 0)) (some (Fin.ret (AV.bool true), st)) (some (Fin.ret (AV.bool (n == 1)), st)))
            (some (Fin.ret (AV.bool false), st)))
          (branch (AV.bool (k == 3))
            (branch (AV.bool (n == 0)) (some (Fin.ret (AV.bool (decide ((↑s.size : Int) ≤ 16))), st))
              (some (Fin.ret (AV.bool false), st)))
            (some (Fin.ret (AV.bool false), st))))) := by kernel_rfl

theorem truth_run (b : Bool) (st : St) :
    (f16.run 0 [.bool b] st : Ans) =
    branch (AV.bool b) (some (Fin.ret (AV.int IntKind.i64 1), st)) (some (Fin.ret (AV.int IntKind.i64 0), st)) := by kernel_rfl

theorem is1_run (n : Int) (st : St) :
    (f19.run 0 [.int .i64 n] st : Ans) =
    some (Fin.ret (AV.bool (n != 1)), st) := by kernel_rfl

theorem is0_run (n : Int) (st : St) :
    (f20.run 0 [.int .i64 n] st : Ans) =
    some (Fin.ret (AV.bool (n == 0)), st) := by kernel_rfl

end Go.Proofs.Ytnmglmkkeghnaaa.V

/- Cond: comparisons, as callees. -/
set_option linter.unusedVariables false
namespace Go.Proofs.Ytnmglmkkeghnaaa.V
open Go Go.V Go.RowKit

def cmpI (a b : Int) : Int := if a < b then -1 else if b < a then 1 else 0
def cmpS (a b : ByteArray) : Int := bif Op.bytesLess a.toList b.toList then -1 else bif a.toList == b.toList then 0 else 1
def orF (a b c : Int) : Int := if a ≠ 0 then a else if b ≠ 0 then b else c
/-- A value: its kind, its number, its text. -/
abbrev Va := Int × Int × ByteArray
def vaV (v : Va) : AV := .agg [.int .i64 v.1, .int .i64 v.2.1, .str v.2.2]
def rightV (v : Va) : Bool :=
  bif v.1 == 0 then v.2.1 == 0 && v.2.2.toList == []
  else bif v.1 == 1 then v.2.2.toList == []
  else bif v.1 == 2 then v.2.2.toList == [] && (v.2.1 == 0 || v.2.1 == 1)
  else bif v.1 == 3 then v.2.1 == 0 && decide ((v.2.2.size : Int) ≤ 16)
  else false
def dII : List AV → Option (Int × Int)
  | [.int .i64 a, .int .i64 b] => some (a, b)
  | _ => none
theorem dII_enc (l : List AV) (a : Int × Int) (h : dII l = some a) : l = [.int .i64 a.1, .int .i64 a.2] := by
  unfold dII at h; split at h <;> first | (cases h; rfl) | cases h
def dSS : List AV → Option (ByteArray × ByteArray)
  | [.str a, .str b] => some (a, b)
  | _ => none
theorem dSS_enc (l : List AV) (a : ByteArray × ByteArray) (h : dSS l = some a) : l = [.str a.1, .str a.2] := by
  unfold dSS at h; split at h <;> first | (cases h; rfl) | cases h
def d3 : List AV → Option (Bool × Int × Int × Int)
  | [.sl 1 f [[.int .i64 a], [.int .i64 b], [.int .i64 c]]] => some (f, a, b, c)
  | _ => none
theorem d3_enc (l : List AV) (a : Bool × Int × Int × Int) (h : d3 l = some a) : l = [.sl 1 a.1 [[.int .i64 a.2.1], [.int .i64 a.2.2.1], [.int .i64 a.2.2.2]]] := by
  unfold d3 at h; split at h <;> first | (cases h; rfl) | cases h
def dV : List AV → Option Va
  | [.agg [.int .i64 k, .int .i64 n, .str s]] => some (k, n, s)
  | _ => none
theorem dV_enc (l : List AV) (a : Va) (h : dV l = some a) : l = [vaV a] := by
  unfold dV at h; split at h <;> first | (cases h; rfl) | cases h
def dVV : List AV → Option (Va × Va)
  | [.agg [.int .i64 k, .int .i64 n, .str s], .agg [.int .i64 k', .int .i64 n', .str s']] => some ((k, n, s), (k', n', s'))
  | _ => none
theorem dVV_enc (l : List AV) (a : Va × Va) (h : dVV l = some a) : l = [vaV a.1, vaV a.2] := by
  unfold dVV at h; split at h <;> first | (cases h; rfl) | cases h

noncomputable def p31 : POrc Try.prog := f31.pureOf dII (fun a => [.int .i64 a.1, .int .i64 a.2]) dII_enc (fun a => .int .i64 (cmpI a.1 a.2)) (fun a => ⟨rfl, fun _ _ => trivial⟩) fun a => ⟨0, fun st => by
  obtain ⟨a, b⟩ := a
  rw [cmpi_run, branch_not (by simp), branch_not (by simp)]
  simp only [branch_ite, cmpI, decide_eq_true_eq, gt_iff_lt]
  split
  · rfl
  · split <;> rfl⟩
noncomputable def p32 : POrc Try.prog := f32.pureOf dSS (fun a => [.str a.1, .str a.2]) dSS_enc (fun a => .int .i64 (cmpS a.1 a.2)) (fun a => ⟨rfl, fun _ _ => trivial⟩) fun a => ⟨0, fun st => by
  obtain ⟨a, b⟩ := a
  rw [cmps_run, branch_not (by simp), branch_not (by simp)]
  simp only [cmpS]
  cases Op.bytesLess a.toList b.toList <;> cases (a.toList == b.toList) <;> rfl⟩
noncomputable def p30 : POrc Try.prog := (f30.pureOf d3 (fun a => [.sl 1 a.1 [[.int .i64 a.2.1], [.int .i64 a.2.2.1], [.int .i64 a.2.2.2]]]) d3_enc (fun a => .int .i64 (orF a.2.1 a.2.2.1 a.2.2.2)) (fun a => ⟨rfl, fun _ _ => trivial⟩) fun a => ⟨5, fun st => by
  obtain ⟨f, a, b, c⟩ := a
  rw [or_run]
  by_cases ha : a = 0
  · by_cases hb : b = 0
    · by_cases hc : c = 0
      · subst ha; subst hb; subst hc; rfl
      · subst ha; subst hb; rw [branch_not (by simp), branch_not (by simp), branch_of (by simpa using hc)]; simp [orF]
    · subst ha; rw [branch_not (by simp), branch_of (by simpa using hb)]; simp [orF, hb]
  · rw [branch_of (by simpa using ha)]; simp [orF, ha]⟩).fz
noncomputable def p26 : POrc Try.prog := f26.pureOf dV (fun a => [vaV a]) dV_enc (fun a => .bool (rightV a)) (fun a => ⟨rfl, fun _ _ => trivial⟩) fun a => ⟨0, fun st => by
  obtain ⟨k, n, s⟩ := a
  show f26.run 0 [.agg [.int .i64 k, .int .i64 n, .str s]] st = _
  rw [right_run]
  simp only [rightV]
  cases h0 : k == 0 with
  | true => simp
  | false =>
    cases h1 : k == 1 with
    | true => simp
    | false =>
      cases h2 : k == 2 with
      | true => cases s.toList == [] <;> cases n == 0 <;> simp
      | false => cases k == 3 <;> cases n == 0 <;> simp⟩
theorem p31_nat : p31.Nat := pureOf_nat
theorem p32_nat : p32.Nat := pureOf_nat
theorem p30_nat : p30.Nat := POrc.fz_nat pureOf_nat
theorem p26_nat : p26.Nat := pureOf_nat
end Go.Proofs.Ytnmglmkkeghnaaa.V

/- The functions' pieces, as told by gen.py. -/
set_option linter.unusedVariables false
set_option maxRecDepth 20000
namespace Go.Proofs.Ytnmglmkkeghnaaa.V
open Go Go.V Go.RowKit

theorem ze3 : (Try.prog.info? 3).bind (·.zero) = some (.int .i64 0) := by kernel_rfl
theorem by3 : (Try.prog.info? 3).map (·.bytes) = some 8 := by kernel_rfl
theorem el61 : ElemOf Try.prog 61 3 1 8 (.int .i64 0) := ⟨Try.underlying61, sz3, by3, ze3, by kernel_rfl, by decide⟩

/-! ### 27: interlock/value.Order (23, 23); results 4; slots: 0 a, 1 b, 2 a, 3 b -/
noncomputable def f27_b : Sim Try.prog :=
  (.seq (.live [2, 3] (.region 0 [
    ⟨(opBoxF (some 2) 23 (.tmp 0) 0 "value.go:37" #[]).op, none⟩,
    ⟨(opBoxF (some 3) 23 (.tmp 1) 0 "value.go:37" #[]).op, none⟩,
    ⟨(opAssign (some 4) (.const (Value.int IntKind.i64 0)) 3 "value.go:37" #[]).op, none⟩
  ] (by kernel_rfl)))
  (.seq (.live [4] (.draw 1 [
    ⟨.pn (opFieldAddr (some 5) 23 (.tmp 2) 0 0 1 false fl23_0 (by decide) 0 "value.go:38" #[]) opFieldAddr_nat, none⟩,
    ⟨.qn (opLoadT (.one (.int .i64)) (some 6) 3 (.tmp 5) (.int .i64) Try.underlying3 1 sz3 (by kernel_rfl) 3 "value.go:38" #[{ on := 0, ground := Ground.data }]) opLoadT_nat, none⟩,
    ⟨.pn (opFieldAddr (some 7) 23 (.tmp 3) 0 0 1 false fl23_0 (by decide) 0 "value.go:38" #[]) opFieldAddr_nat, none⟩,
    ⟨.qn (opLoadT (.one (.int .i64)) (some 8) 3 (.tmp 7) (.int .i64) Try.underlying3 1 sz3 (by kernel_rfl) 3 "value.go:38" #[{ on := 2, ground := Ground.data }]) opLoadT_nat, none⟩,
    ⟨.pn (opCallP p31 (some 9) [(.tmp 6), (.tmp 8)] #[3, 3] 3 "value.go:38" #[{ on := 1, ground := Ground.data }, { on := 3, ground := Ground.data }]) (opCallP_nat p31_nat), none⟩,
    ⟨.pn (opFieldAddr (some 10) 23 (.tmp 2) 1 1 1 false fl23_1 (by decide) 0 "value.go:38" #[]) opFieldAddr_nat, none⟩,
    ⟨.qn (opLoadT (.one (.int .i64)) (some 11) 3 (.tmp 10) (.int .i64) Try.underlying3 1 sz3 (by kernel_rfl) 3 "value.go:38" #[{ on := 5, ground := Ground.data }]) opLoadT_nat, none⟩,
    ⟨.pn (opFieldAddr (some 12) 23 (.tmp 3) 1 1 1 false fl23_1 (by decide) 0 "value.go:38" #[]) opFieldAddr_nat, none⟩,
    ⟨.qn (opLoadT (.one (.int .i64)) (some 13) 3 (.tmp 12) (.int .i64) Try.underlying3 1 sz3 (by kernel_rfl) 3 "value.go:38" #[{ on := 7, ground := Ground.data }]) opLoadT_nat, none⟩,
    ⟨.pn (opCallP p31 (some 14) [(.tmp 11), (.tmp 13)] #[3, 3] 3 "value.go:38" #[{ on := 6, ground := Ground.data }, { on := 8, ground := Ground.data }, { on := 4, ground := Ground.chain }]) (opCallP_nat p31_nat), none⟩,
    ⟨.pn (opFieldAddr (some 15) 23 (.tmp 2) 2 2 1 false fl23_2 (by decide) 0 "value.go:38" #[]) opFieldAddr_nat, none⟩,
    ⟨.qn (opLoadT (.one .str) (some 16) 9 (.tmp 15) .string Try.underlying9 1 sz9 (by kernel_rfl) 9 "value.go:38" #[{ on := 10, ground := Ground.data }]) opLoadT_nat, none⟩,
    ⟨.pn (opFieldAddr (some 17) 23 (.tmp 3) 2 2 1 false fl23_2 (by decide) 0 "value.go:38" #[]) opFieldAddr_nat, none⟩,
    ⟨.qn (opLoadT (.one .str) (some 18) 9 (.tmp 17) .string Try.underlying9 1 sz9 (by kernel_rfl) 9 "value.go:38" #[{ on := 12, ground := Ground.data }]) opLoadT_nat, none⟩,
    ⟨.pn (opCallP p32 (some 19) [(.tmp 16), (.tmp 18)] #[9, 9] 3 "value.go:38" #[{ on := 11, ground := Ground.data }, { on := 13, ground := Ground.data }, { on := 9, ground := Ground.chain }]) (opCallP_nat p32_nat), none⟩,
    ⟨.p (opBuildSlice (some 20) 61 3 [(0, (.tmp 9)), (1, (.tmp 14)), (2, (.tmp 19))] 3 1 8 (.int .i64 0) el61 (by kernel_rfl) (by decide) 61 "value.go:38" #[{ on := 4, ground := Ground.data }, { on := 9, ground := Ground.data }, { on := 14, ground := Ground.data }]), none⟩,
    ⟨.pn (opCallP p30 (some 21) [(.tmp 20)] #[61] 3 "value.go:38" #[{ on := 15, ground := Ground.data }, { on := 14, ground := Ground.chain }]) (opCallP_nat p30_nat), none⟩,
    ⟨.p (opAssign (some 4) (.tmp 21) 3 "value.go:38" #[{ on := 16, ground := Ground.data }, { on := 16, ground := Ground.chain }, { on := 0, ground := Ground.phase }, { on := 1, ground := Ground.phase }, { on := 2, ground := Ground.phase }, { on := 3, ground := Ground.phase }, { on := 4, ground := Ground.phase }, { on := 5, ground := Ground.phase }, { on := 6, ground := Ground.phase }, { on := 7, ground := Ground.phase }, { on := 8, ground := Ground.phase }, { on := 9, ground := Ground.phase }, { on := 10, ground := Ground.phase }, { on := 11, ground := Ground.phase }, { on := 12, ground := Ground.phase }, { on := 13, ground := Ground.phase }, { on := 14, ground := Ground.phase }, { on := 15, ground := Ground.phase }, { on := 16, ground := Ground.phase }]), none⟩
  ] mixed (by kernel_rfl)))
  (.live [4] .ret)))

noncomputable def f27 : Fun Try.prog where
  id := 27
  fn := Try.f27
  hf := Try.func27
  hname := by kernel_rfl
  body := f27_b
  hbody := by kernel_rfl
  res := [rTmp 4]
  hres := by kernel_rfl
  n := 22
  hn := by kernel_rfl

end Go.Proofs.Ytnmglmkkeghnaaa.V

/- What the functions' runs come to; the right sides were printed by a tool, Lean checks them. -/
set_option linter.unusedVariables false
set_option maxRecDepth 100000
namespace Go.Proofs.Ytnmglmkkeghnaaa.V
open Go Go.V Go.RowKit

theorem order_run (k n k' n' : Int) (s s' : ByteArray) (st : St) :
    (f27.run 0 [.agg [.int .i64 k, .int .i64 n, .str s], .agg [.int .i64 k', .int .i64 n', .str s']] st : Ans) =
    some (Fin.ret (AV.int IntKind.i64 (orF (cmpI k k') (cmpI n n') (cmpS s s'))), st) := by kernel_rfl

end Go.Proofs.Ytnmglmkkeghnaaa.V

/- Cond: the order of values, as a callee. -/
set_option linter.unusedVariables false
namespace Go.Proofs.Ytnmglmkkeghnaaa.V
open Go Go.V Go.RowKit
def ordV (a b : Va) : Int := orF (cmpI a.1 b.1) (cmpI a.2.1 b.2.1) (cmpS a.2.2 b.2.2)
noncomputable def p27 : POrc Try.prog := f27.pureOf dVV (fun a => [vaV a.1, vaV a.2]) dVV_enc (fun a => .int .i64 (ordV a.1 a.2)) (fun a => ⟨rfl, fun _ _ => trivial⟩) fun a => ⟨0, fun st => by
  obtain ⟨⟨k, n, s⟩, ⟨k', n', s'⟩⟩ := a
  exact order_run k n k' n' s s' st⟩
theorem p27_nat : p27.Nat := pureOf_nat
end Go.Proofs.Ytnmglmkkeghnaaa.V

/- The functions' pieces, as told by gen.py. -/
set_option linter.unusedVariables false
set_option maxRecDepth 20000
namespace Go.Proofs.Ytnmglmkkeghnaaa.V
open Go Go.V Go.RowKit

theorem sz42 : (Try.prog.info? 42).map (·.size) = some 3 := by kernel_rfl
noncomputable abbrev d42 : TypeDesc := (Try.prog.underlying 42).getD .bool
theorem ud42 : Try.prog.underlying 42 = some d42 := by kernel_rfl

/-! ### 17: interlock/value.Compare (23, 23); results 4, 5; slots: 0 a, 1 b, 2 a, 3 b -/
noncomputable def f17_b : Sim Try.prog :=
  (.seq (.live [2, 3] (.region 0 [
    ⟨(opBoxF (some 2) 23 (.tmp 0) 0 "value.go:42" #[]).op, none⟩,
    ⟨(opBoxF (some 3) 23 (.tmp 1) 0 "value.go:42" #[]).op, none⟩,
    ⟨(opAssign (some 4) (.const (Value.int IntKind.i64 0)) 3 "value.go:42" #[]).op, none⟩,
    ⟨(opAssign (some 5) (.const (Value.bool false)) 4 "value.go:42" #[{ on := 2, ground := Ground.chain }]).op, none⟩
  ] (by kernel_rfl)))
  (.seq (.seq (.live [2, 3, 25] (.region 1 [
    ⟨(opLoadT (.agg [(.int .i64), (.int .i64), .str]) (some 6) 23 (.tmp 2) d23 ud23 3 sz23 (by kernel_rfl) 23 "value.go:43" #[]).op, none⟩,
    ⟨(opCallP p26 (some 7) [(.tmp 6)] #[23] 4 "value.go:43" #[{ on := 0, ground := Ground.data }]).op, none⟩,
    ⟨(opNot (some 8) 4 (.tmp 7) 4 "value.go:43" #[{ on := 1, ground := Ground.data }]).op, none⟩,
    ⟨(opMove (some 9) (.tmp 8) 4 "value.go:43" #[{ on := 2, ground := Ground.data }, { on := 1, ground := Ground.chain }]).op, none⟩,
    ⟨(opLoadT (.agg [(.int .i64), (.int .i64), .str]) (some 10) 23 (.tmp 3) d23 ud23 3 sz23 (by kernel_rfl) 23 "value.go:43" #[{ on := 3, ground := Ground.guard }]).op, (some (3, 9, false))⟩,
    ⟨(opCallP p26 (some 11) [(.tmp 10)] #[23] 4 "value.go:43" #[{ on := 4, ground := Ground.data }, { on := 3, ground := Ground.chain }, { on := 3, ground := Ground.guard }]).op, (some (3, 9, false))⟩,
    ⟨(opNot (some 12) 4 (.tmp 11) 4 "value.go:43" #[{ on := 5, ground := Ground.data }, { on := 3, ground := Ground.guard }]).op, (some (3, 9, false))⟩,
    ⟨(opPick (some 13) (.tmp 9) (.const (Value.bool true)) (.tmp 12) 4 "value.go:43" #[{ on := 3, ground := Ground.data }, { on := 6, ground := Ground.data }]).op, none⟩,
    ⟨(opMove (some 14) (.tmp 13) 4 "value.go:43" #[{ on := 7, ground := Ground.data }, { on := 5, ground := Ground.chain }]).op, none⟩,
    ⟨(opFieldAddr (some 15) 23 (.tmp 2) 0 0 1 false fl23_0 (by decide) 0 "value.go:43" #[{ on := 8, ground := Ground.guard }]).op, (some (8, 14, false))⟩,
    ⟨(opLoadT (.one (.int .i64)) (some 16) 3 (.tmp 15) (.int .i64) Try.underlying3 1 sz3 (by kernel_rfl) 3 "value.go:43" #[{ on := 9, ground := Ground.data }, { on := 8, ground := Ground.guard }]).op, (some (8, 14, false))⟩,
    ⟨(opFieldAddr (some 17) 23 (.tmp 3) 0 0 1 false fl23_0 (by decide) 0 "value.go:43" #[{ on := 8, ground := Ground.guard }]).op, (some (8, 14, false))⟩,
    ⟨(opLoadT (.one (.int .i64)) (some 18) 3 (.tmp 17) (.int .i64) Try.underlying3 1 sz3 (by kernel_rfl) 3 "value.go:43" #[{ on := 11, ground := Ground.data }, { on := 8, ground := Ground.guard }]).op, (some (8, 14, false))⟩,
    ⟨(opBin (some 19) .neq 3 (.tmp 16) (.tmp 18) 3 4 "value.go:43" #[{ on := 10, ground := Ground.data }, { on := 12, ground := Ground.data }, { on := 8, ground := Ground.guard }]).op, (some (8, 14, false))⟩,
    ⟨(opPick (some 20) (.tmp 14) (.const (Value.bool true)) (.tmp 19) 4 "value.go:43" #[{ on := 8, ground := Ground.data }, { on := 13, ground := Ground.data }]).op, none⟩,
    ⟨(opMove (some 21) (.tmp 20) 4 "value.go:43" #[{ on := 14, ground := Ground.data }, { on := 8, ground := Ground.chain }]).op, none⟩,
    ⟨(opFieldAddr (some 22) 23 (.tmp 2) 0 0 1 false fl23_0 (by decide) 0 "value.go:43" #[{ on := 15, ground := Ground.guard }]).op, (some (15, 21, false))⟩,
    ⟨(opLoadT (.one (.int .i64)) (some 23) 3 (.tmp 22) (.int .i64) Try.underlying3 1 sz3 (by kernel_rfl) 3 "value.go:43" #[{ on := 16, ground := Ground.data }, { on := 15, ground := Ground.guard }]).op, (some (15, 21, false))⟩,
    ⟨(opBin (some 24) .eql 3 (.tmp 23) (.const (Value.int IntKind.i64 0)) 3 4 "value.go:43" #[{ on := 17, ground := Ground.data }, { on := 15, ground := Ground.guard }]).op, (some (15, 21, false))⟩,
    ⟨(opPick (some 25) (.tmp 21) (.const (Value.bool true)) (.tmp 24) 4 "value.go:43" #[{ on := 15, ground := Ground.data }, { on := 18, ground := Ground.data }]).op, none⟩
  ] (by kernel_rfl)))
  (.cond (.tmp 25)
    (.seq (.live [4, 5] (.region 2 [
      ⟨(opAssign (some 4) (.const (Value.int IntKind.i64 0)) 3 "value.go:44" #[]).op, none⟩,
      ⟨(opAssign (some 5) (.const (Value.bool false)) 4 "value.go:44" #[{ on := 0, ground := Ground.chain }, { on := 0, ground := Ground.phase }]).op, none⟩
    ] (by kernel_rfl)))
    (.live [4, 5] .ret))
    .skip))
  (.seq (.live [4, 5] (.region 3 [
    ⟨(opLoadT (.agg [(.int .i64), (.int .i64), .str]) (some 26) 23 (.tmp 2) d23 ud23 3 sz23 (by kernel_rfl) 23 "value.go:46" #[]).op, none⟩,
    ⟨(opLoadT (.agg [(.int .i64), (.int .i64), .str]) (some 27) 23 (.tmp 3) d23 ud23 3 sz23 (by kernel_rfl) 23 "value.go:46" #[]).op, none⟩,
    ⟨(opCallP p27 (some 28) [(.tmp 26), (.tmp 27)] #[23, 23] 3 "value.go:46" #[{ on := 0, ground := Ground.data }, { on := 1, ground := Ground.data }]).op, none⟩,
    ⟨(opAssign (some 4) (.tmp 28) 3 "value.go:46" #[{ on := 2, ground := Ground.data }, { on := 2, ground := Ground.chain }, { on := 0, ground := Ground.phase }, { on := 1, ground := Ground.phase }, { on := 2, ground := Ground.phase }]).op, none⟩,
    ⟨(opAssign (some 5) (.const (Value.bool true)) 4 "value.go:46" #[{ on := 3, ground := Ground.chain }, { on := 0, ground := Ground.phase }, { on := 1, ground := Ground.phase }, { on := 2, ground := Ground.phase }, { on := 3, ground := Ground.phase }]).op, none⟩
  ] (by kernel_rfl)))
  (.live [4, 5] .ret))))

noncomputable def f17 : Fun Try.prog where
  id := 17
  fn := Try.f17
  hf := Try.func17
  hname := by kernel_rfl
  body := f17_b
  hbody := by kernel_rfl
  res := [rTmp 4, rTmp 5]
  hres := by kernel_rfl
  n := 29
  hn := by kernel_rfl

/-! ### 21: slices.IndexFunc[[]interlock/api.Col,interlock/api.Col] (26, 51); results 4; slots: 0 s, 1 f, 2 s, 3 f, 5 i -/
/-- A loop's round; at its head live: 0 s, 1 f, 7 , 8  -/
noncomputable def f21_l0 (Os : List (Orc Try.prog)) : Sim Try.prog :=
  (.seq (.live [0, 1, 7, 8, 9] (.region 2 [
    ⟨(opBin (some 9) .lss 3 (.tmp 8) (.tmp 7) 3 0 "slices.go:108" #[]).op, none⟩
  ] (by kernel_rfl)))
  (.seq (.cond (.tmp 9)
    .skip
    (.live [] (.exit 0)))
  (.seq (.block 1 (.seq (.live [0, 1, 5, 7, 8] (.region 3 [
      ⟨(opMove (some 10) (.tmp 8) 3 "slices.go:108" #[]).op, none⟩,
      ⟨(opAssign (some 5) (.tmp 10) 3 "slices.go:108" #[{ on := 0, ground := Ground.data }, { on := 0, ground := Ground.phase }]).op, none⟩
    ] (by kernel_rfl)))
    (.seq (.live [0, 1, 5, 7, 8, 16] (.region 4 [
      ⟨(opMove (some 11) (.tmp 1) 51 "slices.go:109" #[]).op, none⟩,
      ⟨(opMove (some 12) (.tmp 0) 26 "slices.go:109" #[]).op, none⟩,
      ⟨(opMove (some 13) (.tmp 5) 3 "slices.go:109" #[]).op, none⟩,
      ⟨(opIndexAddrT (some 14) 26 (.tmp 12) (.tmp 13) 42 3 Try.underlying26 sz42 0 "slices.go:109" #[{ on := 1, ground := Ground.data }, { on := 2, ground := Ground.data }]).op, none⟩,
      ⟨(opLoadT (.agg [.str, (.int .i64), .bool]) (some 15) 42 (.tmp 14) d42 ud42 3 sz42 (by kernel_rfl) 42 "slices.go:109" #[{ on := 3, ground := Ground.data }]).op, none⟩,
      ⟨opCallDyn Os (some 16) 11 [(.tmp 15)] #[42] 4 "slices.go:109" #[{ on := 0, ground := Ground.data }, { on := 4, ground := Ground.data }], none⟩
    ] (by kernel_rfl)))
    (.cond (.tmp 16)
      (.seq (.live [4] (.region 5 [
        ⟨(opMove (some 17) (.tmp 5) 3 "slices.go:110" #[]).op, none⟩,
        ⟨(opAssign (some 4) (.tmp 17) 3 "slices.go:110" #[{ on := 0, ground := Ground.data }, { on := 0, ground := Ground.phase }]).op, none⟩
      ] (by kernel_rfl)))
      (.live [4] .ret))
      .skip))))
  (.live [0, 1, 7, 8] (.region 6 [
    ⟨(opBin (some 18) .add 3 (.tmp 8) (.const (Value.int IntKind.i64 1)) 3 3 "slices.go:108" #[]).op, none⟩,
    ⟨(opMove (some 8) (.tmp 18) 3 "slices.go:108" #[{ on := 0, ground := Ground.data }]).op, none⟩
  ] (by kernel_rfl))))))

/-- What follows a loop. -/
noncomputable def f21_r0 (Os : List (Orc Try.prog)) : Sim Try.prog :=
  (.seq (.live [4] (.region 7 [
    ⟨(opAssign (some 4) (.const (Value.int IntKind.i64 (-1))) 3 "slices.go:113" #[]).op, none⟩
  ] (by kernel_rfl)))
  (.live [4] .ret))

noncomputable def f21_b (Os : List (Orc Try.prog)) : Sim Try.prog :=
  (.seq (.live [0, 1] (.region 0 [
    ⟨(opAssign (some 4) (.const (Value.int IntKind.i64 0)) 3 "slices.go:107" #[]).op, none⟩
  ] (by kernel_rfl)))
  (.seq (.seq (.live [0, 1, 7, 8] (.region 1 [
    ⟨(opMove (some 6) (.tmp 0) 26 "slices.go:108" #[]).op, none⟩,
    ⟨(opLen (some 7) (.tmp 6) 26 (.slice 42) Try.underlying26 3 "slices.go:108" #[{ on := 0, ground := Ground.data }]).op, none⟩,
    ⟨(opMove (some 8) (.const (Value.int IntKind.i64 0)) 3 "slices.go:108" #[]).op, none⟩
  ] (by kernel_rfl)))
  (.block 0 (.loop [0, 1, 7, 8] (f21_l0 Os))))
  (f21_r0 Os)))

noncomputable def f21 (Os : List (Orc Try.prog)) : Fun Try.prog where
  id := 21
  fn := Try.f21
  hf := Try.func21
  hname := by kernel_rfl
  body := f21_b Os
  hbody := by kernel_rfl
  res := [rTmp 4]
  hres := by kernel_rfl
  n := 19
  hn := by kernel_rfl

end Go.Proofs.Ytnmglmkkeghnaaa.V

/- What the functions' runs come to; the right sides were printed by a tool, Lean checks them. -/
set_option linter.unusedVariables false
set_option maxRecDepth 100000
namespace Go.Proofs.Ytnmglmkkeghnaaa.V
open Go Go.V Go.RowKit

noncomputable def OsN : List (Orc Try.prog) := [f22.orc 0]
theorem compare_run (k n k' n' : Int) (s s' : ByteArray) (st : St) :
    (f17.run 0 [.agg [.int .i64 k, .int .i64 n, .str s], .agg [.int .i64 k', .int .i64 n', .str s']] st : Ans) =
    branch (AV.bool !rightV (k, n, s)) (some (Fin.ret (AV.tup [AV.int IntKind.i64 0, AV.bool false]), st))
      (branch (AV.bool !rightV (k', n', s')) (some (Fin.ret (AV.tup [AV.int IntKind.i64 0, AV.bool false]), st))
        (branch (AV.bool (k != k')) (some (Fin.ret (AV.tup [AV.int IntKind.i64 0, AV.bool false]), st))
          (branch (AV.bool (k == 0)) (some (Fin.ret (AV.tup [AV.int IntKind.i64 0, AV.bool false]), st))
            (some (Fin.ret (AV.tup [AV.int IntKind.i64 (ordV (k, n, s) (k', n', s')), AV.bool true]), st))))) := by kernel_rfl

theorem idx_run (F : Nat) (f : Bool) (l : List (List AV)) (s : ByteArray) (st : St) :
    ((f21 OsN).run F [.sl 3 f l, .fn (.func 22) [] [.eptr [.str s]]] st : Ans) =
    loopRun ((f21_l0 OsN).run F) [0, 1, 7, 8]
      (Cont.block 0 (Cont.then ((f21_r0 OsN).run F ((f21 OsN).leaveK Fun.done)) ((f21 OsN).leaveK Fun.done))) F
      (Env.mk 19
        [(0, AV.sl 3 f l), (1, AV.fn (Fn.func 22) [] [AV.eptr [AV.str s]]), (7, AV.int IntKind.i64 (↑l.length : Int)),
          (8, AV.int IntKind.i64 0)])
      st := by kernel_rfl

theorem idx_nil (F : Nat) (s : ByteArray) (st : St) :
    ((f21 OsN).run F.succ [.nilsl, .fn (.func 22) [] [.eptr [.str s]]] st : Ans) =
    some (Fin.ret (AV.int IntKind.i64 (-1)), st) := by kernel_rfl

theorem idx_round (F m : Nat) (K : Cont) (f : Bool) (i : Int) (l : List (List AV)) (s : ByteArray) (st : St) :
    (loopRun ((f21_l0 OsN).run F) [0, 1, 7, 8] K m.succ (Env.mk 19 [(0, .sl 3 f l), (1, .fn (.func 22) [] [.eptr [.str s]]), (7, .int .i64 l.length), (8, .int .i64 i)]) st : Ans) =
    branch (AV.bool (decide (i < (↑l.length : Int))))
      (branch (AV.bool (inR l i))
        (branch (AV.bool ((LD.agg [LT.str, LT.int IntKind.i64, LT.bool]).is (V.rowAt l i)))
          (branch (AV.bool ((hdS (V.rowAt l i)).toList == s.toList)) (K AX.ret (Env.mk 19 [(4, AV.int IntKind.i64 i)]) st)
            (loopRun ((f21_l0 OsN).run F) [0, 1, 7, 8] K m
              (Env.mk 19
                [(0, AV.sl 3 f l), (1, AV.fn (Fn.func 22) [] [AV.eptr [AV.str s]]),
                  (7, AV.int IntKind.i64 (↑l.length : Int)), (8, AV.int IntKind.i64 (IntKind.i64.wrap (i + 1)))])
              st))
          none)
        none)
      (K (AX.exit 0) (Env.mk 19 []) st) := by kernel_rfl

theorem idx_ret (F : Nat) (i : Int) (st : St) :
    ((Cont.block 0 (Cont.then ((f21_r0 OsN).run F ((f21 OsN).leaveK Fun.done)) ((f21 OsN).leaveK Fun.done))) .ret (Env.mk 19 [(4, .int .i64 i)]) st : Ans) =
    some (Fin.ret (AV.int IntKind.i64 i), st) := by kernel_rfl

theorem idx_out (F : Nat) (st : St) :
    ((Cont.block 0 (Cont.then ((f21_r0 OsN).run F ((f21 OsN).leaveK Fun.done)) ((f21 OsN).leaveK Fun.done))) (.exit 0) (Env.mk 19 []) st : Ans) =
    some (Fin.ret (AV.int IntKind.i64 (-1)), st) := by kernel_rfl

end Go.Proofs.Ytnmglmkkeghnaaa.V

/- Cond: comparing values; the place of a column. -/
set_option linter.unusedVariables false
namespace Go.Proofs.Ytnmglmkkeghnaaa.V
open Go Go.V Go.RowKit

/-- Can two values be compared? -/
def canV (a b : Va) : Bool := rightV a && (rightV b && (a.1 == b.1 && !(a.1 == 0)))
noncomputable def p17 : POrc Try.prog := f17.pureOf dVV (fun a => [vaV a.1, vaV a.2]) dVV_enc (fun a => .tup [.int .i64 (bif canV a.1 a.2 then ordV a.1 a.2 else 0), .bool (canV a.1 a.2)]) (fun a => ⟨rfl, fun _ _ => ⟨trivial, trivial, trivial⟩⟩) fun a => ⟨0, fun st => by
  obtain ⟨⟨k, n, s⟩, ⟨k', n', s'⟩⟩ := a
  show f17.run 0 [.agg [.int .i64 k, .int .i64 n, .str s], .agg [.int .i64 k', .int .i64 n', .str s']] st = _
  rw [compare_run]
  simp only [canV, bne]
  cases rightV (k, n, s) <;> cases rightV (k', n', s') <;> cases k == k' <;> cases k == 0 <;> rfl⟩
theorem p17_nat : p17.Nat := pureOf_nat

/-- Rows of cells: a slice's. -/
def Br.av' (sz : Nat) : Br → AV
  | .nil => .nilsl
  | .sl f l => .sl sz f l
def tCol : List LT := [LT.str, LT.int .i64, LT.bool]
def isCol (r : List AV) : Bool := isRow tCol r
theorem isCol_is {r : List AV} (h : isCol r = true) : (LD.agg [LT.str, LT.int .i64, LT.bool]).is r = true := by
  simp only [isCol, isRow, Bool.and_eq_true] at h
  exact h.1
/-- Rows that are columns. -/
def okC (b : Br) : Bool := b.list.all isCol && decide (b.list.length ≤ 1000000)
theorem okC_spec {b : Br} (h : okC b = true) : (∀ r ∈ b.list, isCol r = true) ∧ b.list.length ≤ 1000000 := by
  unfold okC at h
  simp only [Bool.and_eq_true, decide_eq_true_eq] at h
  exact ⟨List.all_eq_true.mp h.1, h.2⟩
def named (s : ByteArray) (r : List AV) : Bool := (hdS r).toList == s.toList
def dIx : List AV → Option (Br × ByteArray)
  | [.nilsl, .fn (.func 22) [] [.eptr [.str s]]] => some (.nil, s)
  | [.sl 3 f l, .fn (.func 22) [] [.eptr [.str s]]] => some (.sl f l, s)
  | _ => none
theorem dIx_enc (l : List AV) (a : Br × ByteArray) (h : dIx l = some a) : l = [Br.av' 3 a.1, .fn (.func 22) [] [.eptr [.str a.2]]] := by
  unfold dIx at h; split at h <;> first | (cases h; rfl) | cases h
theorem f21_spec (a : Br × ByteArray) (h : okC a.1 = true) : ∃ F, ∀ st, (f21 OsN).run F [Br.av' 3 a.1, .fn (.func 22) [] [.eptr [.str a.2]]] st = some (.ret (.int .i64 (idxI (idxFrom (named a.2) a.1.list 0))), st) := by
  obtain ⟨b, s⟩ := a
  obtain ⟨h1, h2⟩ := okC_spec h
  cases b with
  | nil => exact ⟨1, fun st => idx_nil 0 s st⟩
  | sl f l =>
    simp only [Br.list] at h1 h2
    refine ⟨l.length + 1, fun st => ?_⟩
    show (f21 OsN).run (l.length + 1) [.sl 3 f l, .fn (.func 22) [] [.eptr [.str s]]] st = _
    rw [idx_run]
    have := find_loop (R := fun m i => loopRun ((f21_l0 OsN).run (l.length + 1)) [0, 1, 7, 8] (Cont.block 0 (Cont.then ((f21_r0 OsN).run (l.length + 1) ((f21 OsN).leaveK Fun.done)) ((f21 OsN).leaveK Fun.done))) m (Env.mk 19 [(0, .sl 3 f l), (1, .fn (.func 22) [] [.eptr [.str s]]), (7, .int .i64 l.length), (8, .int .i64 (i : Nat))]) st)
      (l := l) (p := named s) (ok := fun r => (LD.agg [LT.str, LT.int .i64, LT.bool]).is r) (found := fun i => some (.ret (.int .i64 (i : Nat)), st)) (out := some (.ret (.int .i64 (-1)), st))
      (fun m i hi => by
        rw [show m + 1 = m.succ from rfl, idx_round, idx_ret, idx_out]
        by_cases hlt : i < l.length
        · rw [show IntKind.i64.wrap ((i : Int) + 1) = ((i + 1 : Nat) : Int) by rw [wrapS (by omega) (by omega)]; omega]
          rfl
        · rw [branch_not (decide_eq_false (by omega)), branch_not (decide_eq_false (by omega))])
      (fun r hr => isCol_is (h1 r hr)) l.length 0 (l.length + 1) (by omega) (by omega)
    refine this.trans ?_
    rw [List.drop_zero]
    simp only [Br.list]
    cases idxFrom (named s) l 0 <;> rfl
noncomputable def p21 : POrc Try.prog := (f21 OsN).pureIf dIx (fun a => [Br.av' 3 a.1, .fn (.func 22) [] [.eptr [.str a.2]]]) dIx_enc (fun a => okC a.1) (fun a => .int .i64 (idxI (idxFrom (named a.2) a.1.list 0))) (fun a _ => ⟨rfl, fun _ _ => trivial⟩) f21_spec
theorem p21_nat : p21.Nat := pureIf_nat
end Go.Proofs.Ytnmglmkkeghnaaa.V

/- The functions' pieces, as told by gen.py. -/
set_option linter.unusedVariables false
set_option maxRecDepth 20000
namespace Go.Proofs.Ytnmglmkkeghnaaa.V
open Go Go.V Go.RowKit


/-! ### 13: interlock/cond.Place (26, 9); results 4, 5; slots: 0 cols, 1 name, 2 cols, 3 name, 6 i -/
noncomputable def f13_b : Sim Try.prog :=
  (.seq (.live [0, 3] (.region 0 [
    ⟨(opBoxF (some 3) 9 (.tmp 1) 0 "cond.go:19" #[]).op, none⟩,
    ⟨(opAssign (some 4) (.const (Value.int IntKind.i64 0)) 3 "cond.go:19" #[]).op, none⟩,
    ⟨(opAssign (some 5) (.const (Value.bool false)) 4 "cond.go:19" #[{ on := 1, ground := Ground.chain }]).op, none⟩
  ] (by kernel_rfl)))
  (.seq (.live [6] (.region 1 [
    ⟨(opMove (some 7) (.tmp 0) 26 "cond.go:20" #[]).op, none⟩,
    ⟨(opMakeFunc (some 8) (Fn.func 22) #[] #[(.tmp 3)] 51 "cond.go:20" #[]).op, none⟩,
    ⟨(opCallP p21 (some 9) [(.tmp 7), (.tmp 8)] #[26, 51] 3 "cond.go:20" #[{ on := 0, ground := Ground.data }, { on := 1, ground := Ground.data }]).op, none⟩,
    ⟨(opAssign (some 6) (.tmp 9) 3 "cond.go:20" #[{ on := 2, ground := Ground.data }, { on := 2, ground := Ground.chain }, { on := 0, ground := Ground.phase }, { on := 1, ground := Ground.phase }, { on := 2, ground := Ground.phase }]).op, none⟩
  ] (by kernel_rfl)))
  (.seq (.live [4, 5] (.region 2 [
    ⟨(opMove (some 10) (.tmp 6) 3 "cond.go:21" #[]).op, none⟩,
    ⟨(opMinMax (some 11) true (.tmp 10) [(.const (Value.int IntKind.i64 0))] #[3, 3] 3 "cond.go:21" #[{ on := 0, ground := Ground.data }]).op, none⟩,
    ⟨(opMove (some 12) (.tmp 6) 3 "cond.go:21" #[{ on := 4, ground := (Ground.gcOnly Departure.lateStores) }]).op, none⟩,
    ⟨(opBin (some 13) .geq 3 (.tmp 12) (.const (Value.int IntKind.i64 0)) 3 4 "cond.go:21" #[{ on := 2, ground := Ground.data }, { on := 4, ground := (Ground.gcOnly Departure.lateStores) }]).op, none⟩,
    ⟨(opAssign (some 4) (.tmp 11) 3 "cond.go:21" #[{ on := 1, ground := Ground.data }, { on := 0, ground := Ground.phase }, { on := 1, ground := Ground.phase }, { on := 2, ground := (Ground.textOnly Departure.lateStores) }, { on := 3, ground := (Ground.textOnly Departure.lateStores) }]).op, none⟩,
    ⟨(opAssign (some 5) (.tmp 13) 4 "cond.go:21" #[{ on := 3, ground := Ground.data }, { on := 4, ground := Ground.chain }, { on := 0, ground := Ground.phase }, { on := 1, ground := Ground.phase }, { on := 2, ground := Ground.phase }, { on := 3, ground := Ground.phase }, { on := 4, ground := Ground.phase }]).op, none⟩
  ] (by kernel_rfl)))
  (.live [4, 5] .ret))))

noncomputable def f13 : Fun Try.prog where
  id := 13
  fn := Try.f13
  hf := Try.func13
  hname := by kernel_rfl
  body := f13_b
  hbody := by kernel_rfl
  res := [rTmp 4, rTmp 5]
  hres := by kernel_rfl
  n := 14
  hn := by kernel_rfl

end Go.Proofs.Ytnmglmkkeghnaaa.V

/- What the functions' runs come to; the right sides were printed by a tool, Lean checks them. -/
set_option linter.unusedVariables false
set_option maxRecDepth 100000
namespace Go.Proofs.Ytnmglmkkeghnaaa.V
open Go Go.V Go.RowKit

theorem place_run (f : Bool) (l : List (List AV)) (s : ByteArray) (st : St) :
    (f13.run 0 [.sl 3 f l, .str s] st : Ans) =
    branch (AV.bool (okC (Br.sl f l)))
      (some
        (Fin.ret
            (AV.tup
              [AV.int IntKind.i64 (leastI true (idxI (idxFrom (named (Br.sl f l, s).snd) l 0)) 0),
                AV.bool (decide (idxI (idxFrom (named (Br.sl f l, s).snd) l 0) ≥ 0))]),
          st))
      none := by kernel_rfl

theorem place_nil (s : ByteArray) (st : St) :
    (f13.run 0 [.nilsl, .str s] st : Ans) =
    some (Fin.ret (AV.tup [AV.int IntKind.i64 0, AV.bool false]), st) := by kernel_rfl

end Go.Proofs.Ytnmglmkkeghnaaa.V
