/- Merged out of 16 texts: what the claim's code comes to, and why. -/
import Derived.Orders
import Derived.Laws.StructEq
import Derived.ChangeArms
import Derived.DataReads
import Derived.SizedLaws
import Derived.WideShapes
import Derived.ChangeShapes
import Derived.Laws.IdiomStrings
import Derived.Laws.BytesArg
import Derived.Test.YtjdpfblmhahfkaaRows
import Derived.Test.YtjdpfblmhahfkaaX1
/- Regions whose order is open: each order comes to what the text's order comes to. -/
set_option linter.unusedVariables false
set_option linter.unusedSimpArgs false
namespace Go.V
section
variable {P : Program}

/-- An operation in a region whose order is open, by what it hangs on. -/
inductive DK (P : Program) where
  | p (x : PSim P)
  | q (x : QSim P)
  | m (x : MSim P)
  | pn (x : PSim P) (h : x.Nat)
  | qn (x : QSim P) (h : x.Nat)
  | mn (x : MSim P) (h : x.NatM)

def DK.oper : DK P → Oper
  | .p x => x.oper
  | .q x => x.oper
  | .m x => x.oper
  | .pn x _ => x.oper
  | .qn x _ => x.oper
  | .mn x _ => x.oper
def DK.xs : DK P → List Operand
  | .p x => x.xs
  | .q x => x.xs
  | .m x => x.xs
  | .pn x _ => x.xs
  | .qn x _ => x.xs
  | .mn x _ => x.xs
def DK.reads : DK P → Bool
  | .p _ => false
  | .pn _ _ => false
  | _ => true
def DK.eff : DK P → Bool
  | .m _ => true
  | .mn _ _ => true
  | _ => false

def DK.val : DK P → (Operand → AV) → St → Option (AV × St)
  | .p x, ev, st => match x.f ev fun r => some (.ret r, default) with
    | some (.ret r, _) => some (r, st)
    | _ => none
  | .q x, ev, st => match x.f ev st fun r => some (.ret r, default) with
    | some (.ret r, _) => some (r, st)
    | _ => none
  | .m x, ev, st => match x.f ev st fun r st' => some (.ret r, st') with
    | some (.ret r, st') => some (r, st')
    | _ => none
  | .pn x _, ev, st => match x.f ev fun r => some (.ret r, default) with
    | some (.ret r, _) => some (r, st)
    | _ => none
  | .qn x _, ev, st => match x.f ev st fun r => some (.ret r, default) with
    | some (.ret r, _) => some (r, st)
    | _ => none
  | .mn x _, ev, st => match x.f ev st fun r st' => some (.ret r, st') with
    | some (.ret r, st') => some (r, st')
    | _ => none

/-- The same, with what goes on. -/
def DK.run : DK P → (Operand → AV) → St → (AV → St → Ans) → Ans
  | .pn x _, ev, st, k => x.f ev fun r => k r st
  | .qn x _, ev, st, k => x.f ev st fun r => k r st
  | .mn x _, ev, st, k => x.f ev st k
  | .p x, ev, st, k => match DK.val (.p x) ev st with
    | some (r, st') => k r st'
    | none => none
  | .q x, ev, st, k => match DK.val (.q x) ev st with
    | some (r, st') => k r st'
    | none => none
  | .m x, ev, st, k => match DK.val (.m x) ev st with
    | some (r, st') => k r st'
    | none => none

theorem thenA_some {a : Ans} {k : AV → Ans} {fin : Fin × St} (h : thenA a k = some fin) : ∃ r s, a = some (.ret r, s) ∧ k r = some fin := by
  unfold thenA at h
  split at h
  · exact ⟨_, _, rfl, h⟩
  · cases h

theorem thenM_some {a : Ans} {k : AV → St → Ans} {fin : Fin × St} (h : thenM a k = some fin) : ∃ r s, a = some (.ret r, s) ∧ k r s = some fin := by
  unfold thenM at h
  split at h
  · exact ⟨_, _, rfl, h⟩
  · cases h

theorem DK.run_val {x : DK P} {ev : Operand → AV} {st : St} {k : AV → St → Ans} {fin : Fin × St} (h : x.run ev st k = some fin) : ∃ r st', x.val ev st = some (r, st') ∧ k r st' = some fin := by
  cases x with
  | pn x hn =>
    simp only [DK.run] at h
    rw [hn] at h
    obtain ⟨r, s, h1, h2⟩ := thenA_some h
    refine ⟨r, st, ?_, h2⟩
    simp only [DK.val]
    rw [show (x.f ev fun r => some (Fin.ret r, default)) = some (.ret r, s) from h1]
  | qn x hn =>
    simp only [DK.run] at h
    rw [hn] at h
    obtain ⟨r, s, h1, h2⟩ := thenA_some h
    refine ⟨r, st, ?_, h2⟩
    simp only [DK.val]
    rw [show (x.f ev st fun r => some (Fin.ret r, default)) = some (.ret r, s) from h1]
  | mn x hn =>
    simp only [DK.run] at h
    rw [hn] at h
    obtain ⟨r, s, h1, h2⟩ := thenM_some h
    refine ⟨r, s, ?_, h2⟩
    simp only [DK.val]
    rw [show (x.f ev st fun r st' => some (Fin.ret r, st')) = some (.ret r, s) from h1]
  | p x =>
    simp only [DK.run] at h
    split at h
    · exact ⟨_, _, by assumption, h⟩
    · cases h
  | q x =>
    simp only [DK.run] at h
    split at h
    · exact ⟨_, _, by assumption, h⟩
    · cases h
  | m x =>
    simp only [DK.run] at h
    split at h
    · exact ⟨_, _, by assumption, h⟩
    · cases h

theorem DK.val_sound (x : DK P) {ev : Operand → AV} {st st' : St} {r : AV} (h : x.val ev st = some (r, st')) {g : Gh} {w : World} {a : Act} (he : EvR g w ev a x.xs) (hs : StRel g st w) : Told P x.oper a g w r st' := by
  cases x with
  | p x =>
    simp only [DK.val] at h
    split at h
    · rename_i r' z hx
      simp only [Option.some.injEq, Prod.mk.injEq] at h
      obtain ⟨rfl, rfl⟩ := h
      obtain ⟨r2, h1, h2⟩ := x.sound ev _ _ hx g w a st he hs
      simp only [Option.some.injEq, Prod.mk.injEq, Fin.ret.injEq] at h1
      rw [← h1.1]; exact h2
    · cases h
  | q x =>
    simp only [DK.val] at h
    split at h
    · rename_i r' z hx
      simp only [Option.some.injEq, Prod.mk.injEq] at h
      obtain ⟨rfl, rfl⟩ := h
      obtain ⟨r2, h1, h2⟩ := x.sound ev st _ _ hx g w a he hs
      simp only [Option.some.injEq, Prod.mk.injEq, Fin.ret.injEq] at h1
      rw [← h1.1]; exact h2
    · cases h
  | m x =>
    simp only [DK.val] at h
    split at h
    · rename_i r' st2 hx
      simp only [Option.some.injEq, Prod.mk.injEq] at h
      obtain ⟨rfl, rfl⟩ := h
      obtain ⟨r2, st3, h1, h2⟩ := x.sound ev st _ _ hx g w a he hs
      simp only [Option.some.injEq, Prod.mk.injEq, Fin.ret.injEq] at h1
      rw [← h1.1, ← h1.2]; exact h2
    · cases h
  | pn x _ =>
    simp only [DK.val] at h
    split at h
    · rename_i r' z hx
      simp only [Option.some.injEq, Prod.mk.injEq] at h
      obtain ⟨rfl, rfl⟩ := h
      obtain ⟨r2, h1, h2⟩ := x.sound ev _ _ hx g w a st he hs
      simp only [Option.some.injEq, Prod.mk.injEq, Fin.ret.injEq] at h1
      rw [← h1.1]; exact h2
    · cases h
  | qn x _ =>
    simp only [DK.val] at h
    split at h
    · rename_i r' z hx
      simp only [Option.some.injEq, Prod.mk.injEq] at h
      obtain ⟨rfl, rfl⟩ := h
      obtain ⟨r2, h1, h2⟩ := x.sound ev st _ _ hx g w a he hs
      simp only [Option.some.injEq, Prod.mk.injEq, Fin.ret.injEq] at h1
      rw [← h1.1]; exact h2
    · cases h
  | mn x _ =>
    simp only [DK.val] at h
    split at h
    · rename_i r' st2 hx
      simp only [Option.some.injEq, Prod.mk.injEq] at h
      obtain ⟨rfl, rfl⟩ := h
      obtain ⟨r2, st3, h1, h2⟩ := x.sound ev st _ _ hx g w a he hs
      simp only [Option.some.injEq, Prod.mk.injEq, Fin.ret.injEq] at h1
      rw [← h1.1, ← h1.2]; exact h2
    · cases h

theorem DK.val_congr (x : DK P) {ev ev' : Operand → AV} (h : ∀ o ∈ x.xs, ev o = ev' o) (st : St) : x.val ev st = x.val ev' st := by
  cases x with
  | p x => simp only [DK.val, x.congr ev ev' _ h]
  | q x => simp only [DK.val, x.congr ev ev' st _ h]
  | m x => simp only [DK.val, x.congr ev ev' st _ h]
  | pn x _ => simp only [DK.val, x.congr ev ev' _ h]
  | qn x _ => simp only [DK.val, x.congr ev ev' st _ h]
  | mn x _ => simp only [DK.val, x.congr ev ev' st _ h]

/-- What doesn't change objects leaves them. -/
theorem DK.val_quiet (x : DK P) {ev : Operand → AV} {st st' : St} {r : AV} (h : x.val ev st = some (r, st')) (he : x.eff = false) : st' = st := by
  cases x with
  | p x =>
    simp only [DK.val] at h
    split at h
    · simp only [Option.some.injEq, Prod.mk.injEq] at h; exact h.2.symm
    · cases h
  | q x =>
    simp only [DK.val] at h
    split at h
    · simp only [Option.some.injEq, Prod.mk.injEq] at h; exact h.2.symm
    · cases h
  | m x => cases he
  | mn x _ => cases he
  | pn x _ =>
    simp only [DK.val] at h
    split at h
    · simp only [Option.some.injEq, Prod.mk.injEq] at h; exact h.2.symm
    · cases h
  | qn x _ =>
    simp only [DK.val] at h
    split at h
    · simp only [Option.some.injEq, Prod.mk.injEq] at h; exact h.2.symm
    · cases h

theorem DK.val_pure (x : DK P) {ev : Operand → AV} {st st' : St} {r : AV} (h : x.val ev st = some (r, st')) (he : x.reads = false) (st2 : St) : x.val ev st2 = some (r, st2) := by
  cases x with
  | p x =>
    simp only [DK.val] at h ⊢
    split at h
    · rename_i r' z hx
      simp only [Option.some.injEq, Prod.mk.injEq] at h
      rw [h.1]
    · cases h
  | q x => cases he
  | m x => cases he
  | mn x _ => cases he
  | pn x _ =>
    simp only [DK.val] at h ⊢
    split at h
    · rename_i r' z hx
      simp only [Option.some.injEq, Prod.mk.injEq] at h
      rw [h.1]
    · cases h
  | qn x _ => cases he

structure DOp (P : Program) where
  k : DK P
  grd : Option (Nat × Nat × Bool)

def DOp.oper (d : DOp P) : Oper := { d.k.oper with guard := d.grd.map fun x => (x.1, x.2.2) }
def DOp.dst (d : DOp P) : Option Tmp := d.k.oper.dst

def tmpsOf : List Operand → List Nat
  | [] => []
  | .tmp t :: r => t :: tmpsOf r
  | _ :: r => tmpsOf r

def DOp.names (d : DOp P) : List Nat :=
  match d.grd with
  | some (_, s, _) => s :: tmpsOf d.k.xs
  | none => tmpsOf d.k.xs

def evOf (ρ : Nat → AV) : Operand → AV
  | .tmp t => ρ t
  | .const v => ofLit v
  | .func f => .fn (.func f) [] []
  | .global _ => .dead

theorem evOf_look (e : Env) : e.eval = evOf (look e.m) := by
  funext x; cases x <;> rfl

theorem evOf_congr {ρ ρ' : Nat → AV} : ∀ {xs : List Operand}, (∀ t ∈ tmpsOf xs, ρ t = ρ' t) → ∀ x ∈ xs, evOf ρ x = evOf ρ' x
  | [], _, x, hx => by simp at hx
  | y :: xs, h, x, hx => by
    simp only [List.mem_cons] at hx
    rcases hx with rfl | hx
    · cases x with
      | tmp t => exact h t (by simp [tmpsOf])
      | const v => rfl
      | func f => rfl
      | global g => rfl
    · exact evOf_congr (fun t ht => h t (by cases y <;> simp [tmpsOf, ht])) x hx

def upd (ρ : Nat → AV) (d : Option Tmp) (r : AV) : Nat → AV :=
  match d with
  | none => ρ
  | some d => fun t => match Nat.beq d t with
    | true => r
    | false => ρ t

/-- An operation with its guard. -/
def DOp.ev (d : DOp P) (ρ : Nat → AV) (st : St) : Option (AV × St) :=
  match d.grd with
  | none => d.k.val (evOf ρ) st
  | some (_, s, b) => match ρ s with
    | .bool c => match c == b with
      | true => d.k.val (evOf ρ) st
      | false => some (.tup [], st)
    | .tup [] => some (.tup [], st)
    | _ => none

/-- The text's order: each operation's value, and the objects behind it. -/
def Tr : List (DOp P) → (Nat → AV) → St → List (AV × St) → Prop
  | [], _, _, rs => rs = []
  | o :: l, ρ, st, rs => ∃ r st' rs', rs = (r, st') :: rs' ∧ o.ev ρ st = some (r, st') ∧ Tr l (upd ρ o.dst r) st' rs'

/-- One operation, then what goes on. -/
def dstep (d : DK P) (env : Env) (st : St) (k : Env → St → Ans) : Ans :=
  d.run env.eval st fun r st' => k (env.putO d.oper.dst r) st'

def drun : List (DOp P) → (Env → St → Ans) → Env → St → Ans
  | [], k, env, st => k env st
  | o :: l, k, env, st =>
    match o.grd with
    | none => dstep o.k env st (drun l k)
    | some (_, d, b) => gate (look env.m d) b (dstep o.k (env.put d (.bool b)) st (drun l k)) (drun l k ((env.put d (.bool !b)).off o.dst) st) (drun l k (env.off o.dst) st)

/-- All slots lie in the frame. -/
def inFrame (n : Nat) (ops : List (DOp P)) : Bool :=
  ops.all fun o => (match o.dst with | some d => Nat.blt d n | none => true) && (match o.grd with | some (_, d, _) => Nat.blt d n | none => true)

theorem look_put {e : Env} {d : Nat} (h : Nat.blt d e.n = true) (v : AV) : look (e.put d v).m = upd (look e.m) (some d) v := by
  funext t
  unfold Env.put
  rw [h]
  simp only [look, upd]
  cases Nat.beq d t <;> rfl
theorem put_n (e : Env) (d : Nat) (v : AV) : (e.put d v).n = e.n := by unfold Env.put; split <;> rfl
theorem look_assume {e : Env} {d : Nat} (h : Nat.blt d e.n = true) {b : Bool} (hl : look e.m d = .bool b) : look (e.put d (.bool b)).m = look e.m := by
  rw [look_put h]
  funext t
  simp only [upd]
  split
  · rename_i ht
    have : d = t := by simpa using ht
    subst this; exact hl.symm
  · rfl

theorem drun_tr {k : Env → St → Ans} {fin : Fin × St} : ∀ (ops : List (DOp P)) (env : Env) (st : St), inFrame env.n ops = true → drun ops k env st = some fin →
    ∃ rs env' st', Tr ops (look env.m) st rs ∧ k env' st' = some fin ∧ env'.n = env.n ∧ look env'.m = (ops.zip rs).foldl (fun ρ x => upd ρ x.1.dst x.2.1) (look env.m) ∧ st' = ((rs.getLast?).map (·.2)).getD st
  | [], env, st, _, h => ⟨[], env, st, rfl, h, rfl, rfl, rfl⟩
  | o :: l, env, st, hn, h => by
    have hn' := hn
    simp only [inFrame, List.all_cons, Bool.and_eq_true] at hn'
    obtain ⟨⟨hd, hg⟩, hl⟩ := hn'
    have act : ∀ env1, env1.n = env.n → look env1.m = look env.m → (∀ st, o.ev (look env.m) st = o.k.val (evOf (look env.m)) st) → dstep o.k env1 st (drun l k) = some fin → ∃ rs env' st', Tr (o :: l) (look env.m) st rs ∧ k env' st' = some fin ∧ env'.n = env.n ∧ look env'.m = ((o :: l).zip rs).foldl (fun ρ x => upd ρ x.1.dst x.2.1) (look env.m) ∧ st' = ((rs.getLast?).map (·.2)).getD st := by
      intro env1 h1 h2 h3 h4
      unfold dstep at h4
      obtain ⟨r, st1, hv, h4⟩ := DK.run_val h4
      · have hp : (env1.putO o.k.oper.dst r).n = env.n ∧ look (env1.putO o.k.oper.dst r).m = upd (look env.m) o.dst r := by
          unfold Env.putO DOp.dst
          cases hdst : o.k.oper.dst with
          | none => exact ⟨h1, h2⟩
          | some d =>
            simp only [DOp.dst, hdst] at hd
            refine ⟨(put_n _ _ _).trans h1, ?_⟩
            simp only
            rw [look_put (by rw [h1]; exact hd), h2]
        obtain ⟨rs, env', st', k1, k2, k3, k4, k5⟩ := drun_tr l (env1.putO o.k.oper.dst r) st1 (by rw [hp.1]; exact hl) h4
        rw [hp.2] at k1 k4
        refine ⟨(r, st1) :: rs, env', st', ⟨r, st1, rs, rfl, ?_, k1⟩, k2, k3.trans hp.1, ?_, ?_⟩
        · rw [h3, ← h2, ← evOf_look]; exact hv
        · simpa using k4
        · rw [k5]; cases rs with
          | nil => rfl
          | cons x rs => simp [List.getLast?_cons]
    unfold drun at h
    cases hgr : o.grd with
    | none =>
      rw [hgr] at h
      exact act env rfl rfl (fun st => by simp [DOp.ev, hgr]) h
    | some x =>
      obtain ⟨j, d, b⟩ := x
      rw [hgr] at h hg
      have hg : Nat.blt d env.n = true := hg
      have yes : look env.m d = .bool b → dstep o.k (env.put d (.bool b)) st (drun l k) = some fin → _ := fun hb h4 =>
        act (env.put d (.bool b)) (put_n _ _ _) (look_assume hg hb) (fun st => by simp [DOp.ev, hgr, hb]) h4
      have no : look env.m d = .bool (!b) → drun l k ((env.put d (.bool !b)).off o.dst) st = some fin → ∃ rs env' st', Tr (o :: l) (look env.m) st rs ∧ k env' st' = some fin ∧ env'.n = env.n ∧ look env'.m = ((o :: l).zip rs).foldl (fun ρ x => upd ρ x.1.dst x.2.1) (look env.m) ∧ st' = ((rs.getLast?).map (·.2)).getD st := by
        intro hb h4
        have hp : ((env.put d (.bool !b)).off o.dst).n = env.n ∧ look ((env.put d (.bool !b)).off o.dst).m = upd (look env.m) o.dst (.tup []) := by
          unfold Env.off
          cases hdst : o.dst with
          | none => exact ⟨put_n _ _ _, look_assume hg hb⟩
          | some d' =>
            rw [hdst] at hd
            refine ⟨(put_n _ _ _).trans (put_n _ _ _), ?_⟩
            simp only
            rw [look_put (by rw [put_n]; exact hd), look_assume hg hb]
        obtain ⟨rs, env', st', k1, k2, k3, k4, k5⟩ := drun_tr l _ st (by rw [hp.1]; exact hl) h4
        rw [hp.2] at k1 k4
        refine ⟨(.tup [], st) :: rs, env', st', ⟨.tup [], st, rs, rfl, ?_, k1⟩, k2, k3.trans hp.1, ?_, ?_⟩
        · simp only [DOp.ev, hgr, hb]; cases b <;> rfl
        · simpa using k4
        · rw [k5]; cases rs with
          | nil => rfl
          | cons x rs => simp [List.getLast?_cons]
      have out : look env.m d = .tup [] → drun l k (env.off o.dst) st = some fin → ∃ rs env' st', Tr (o :: l) (look env.m) st rs ∧ k env' st' = some fin ∧ env'.n = env.n ∧ look env'.m = ((o :: l).zip rs).foldl (fun ρ x => upd ρ x.1.dst x.2.1) (look env.m) ∧ st' = ((rs.getLast?).map (·.2)).getD st := by
        intro hb h4
        have hp : (env.off o.dst).n = env.n ∧ look (env.off o.dst).m = upd (look env.m) o.dst (.tup []) := by
          unfold Env.off
          cases hdst : o.dst with
          | none => exact ⟨rfl, rfl⟩
          | some d' =>
            rw [hdst] at hd
            refine ⟨put_n _ _ _, ?_⟩
            simp only
            rw [look_put hd]
        obtain ⟨rs, env', st', k1, k2, k3, k4, k5⟩ := drun_tr l _ st (by rw [hp.1]; exact hl) h4
        rw [hp.2] at k1 k4
        refine ⟨(.tup [], st) :: rs, env', st', ⟨.tup [], st, rs, rfl, ?_, k1⟩, k2, k3.trans hp.1, ?_, ?_⟩
        · simp only [DOp.ev, hgr, hb]
        · simpa using k4
        · rw [k5]; cases rs with
          | nil => rfl
          | cons x rs => simp [List.getLast?_cons]
      simp only at h
      unfold gate at h
      split at h
      · rename_i c hc
        cases b with
        | true =>
          cases c with
          | true => exact yes hc h
          | false => exact no hc h
        | false =>
          cases c with
          | true => exact no hc h
          | false => exact yes hc h
      · rename_i hc; exact out hc h
      · cases h

/-! ### What the operations done so far have come to -/
def lv (ρ : Nat → AV) : List (DOp P × AV × St) → Nat → (Nat → Bool) → (Nat → AV)
  | [], _, _ => ρ
  | (o, r, _) :: l, k, S => lv (match S k with | true => upd ρ o.dst r | false => ρ) l (k + 1) S

def ls (st : St) : List (DOp P × AV × St) → Nat → (Nat → Bool) → St
  | [], _, _ => st
  | (o, _, s) :: l, k, S => ls (match S k && o.k.eff with | true => s | false => st) l (k + 1) S

theorem upd_other {ρ : Nat → AV} {d : Option Tmp} {r : AV} {t : Nat} (h : d ≠ some t) : upd ρ d r t = ρ t := by
  cases d with
  | none => rfl
  | some d =>
    simp only [upd]
    split
    · rename_i hd
      have : d = t := by simpa using hd
      subst this; exact absurd rfl h
    · rfl
theorem upd_same {ρ : Nat → AV} {t : Nat} {r : AV} : upd ρ (some t) r t = r := by simp [upd]

theorem lv_congr {t : Nat} : ∀ (l : List (DOp P × AV × St)) (k : Nat) (ρ ρ' : Nat → AV) (S S' : Nat → Bool), ρ t = ρ' t → (∀ i x, l[i]? = some x → x.1.dst = some t → S (k + i) = S' (k + i)) → lv ρ l k S t = lv ρ' l k S' t
  | [], k, ρ, ρ', S, S', h, _ => h
  | (o, r, s) :: l, k, ρ, ρ', S, S', h, hS => by
    simp only [lv]
    refine lv_congr l (k + 1) _ _ S S' ?_ fun i x hx hd => by have := hS (i + 1) x (by simpa using hx) hd; rwa [show k + (i + 1) = k + 1 + i by omega] at this
    by_cases hd : o.dst = some t
    · have h0 := hS 0 _ rfl hd
      rw [Nat.add_zero] at h0
      rw [h0]
      cases S' k with
      | true => simp only [hd, upd_same]
      | false => exact h
    · cases S k <;> cases S' k <;> simp only [upd_other hd] <;> exact h

theorem ls_congr : ∀ (l : List (DOp P × AV × St)) (k : Nat) (st st' : St) (S S' : Nat → Bool), st = st' → (∀ i x, l[i]? = some x → x.1.k.eff = true → S (k + i) = S' (k + i)) → ls st l k S = ls st' l k S'
  | [], k, st, st', S, S', h, _ => h
  | (o, r, s) :: l, k, st, st', S, S', h, hS => by
    simp only [ls]
    refine ls_congr l (k + 1) _ _ S S' ?_ fun i x hx hd => by have := hS (i + 1) x (by simpa using hx) hd; rwa [show k + (i + 1) = k + 1 + i by omega] at this
    cases he : o.k.eff with
    | true =>
      have h0 := hS 0 _ rfl he
      rw [Nat.add_zero] at h0
      rw [h0]
      cases S' k <;> simp [h]
    | false => simp [h]

theorem lv_none : ∀ (l : List (DOp P × AV × St)) (k : Nat) (ρ : Nat → AV) (S : Nat → Bool), (∀ i, S (k + i) = false) → lv ρ l k S = ρ
  | [], _, _, _, _ => rfl
  | (o, r, s) :: l, k, ρ, S, h => by
    simp only [lv]
    rw [show S k = false from h 0]
    exact lv_none l (k + 1) ρ S fun i => by have := h (i + 1); rwa [show k + (i + 1) = k + 1 + i by omega] at this
theorem ls_none : ∀ (l : List (DOp P × AV × St)) (k : Nat) (st : St) (S : Nat → Bool), (∀ i, S (k + i) = false) → ls st l k S = st
  | [], _, _, _, _ => rfl
  | (o, r, s) :: l, k, st, S, h => by
    simp only [ls]
    rw [show S k = false from h 0]
    exact ls_none l (k + 1) st S fun i => by have := h (i + 1); rwa [show k + (i + 1) = k + 1 + i by omega] at this

theorem lv_set {t : Nat} : ∀ (l : List (DOp P × AV × St)) (k i : Nat) (o : DOp P) (r : AV) (s : St) (ρ : Nat → AV) (S S' : Nat → Bool), l[i]? = some (o, r, s) → S (k + i) = false → S' (k + i) = true → (∀ j, j ≠ i → S' (k + j) = S (k + j)) →
    (∀ j x, i < j → l[j]? = some x → o.dst = some t → x.1.dst = some t → S (k + j) = false) → lv ρ l k S' t = upd (lv ρ l k S) o.dst r t
  | [], k, i, o, r, s, ρ, S, S', h, _, _, _, _ => by simp at h
  | (o', r', s') :: l, k, 0, o, r, s, ρ, S, S', h, h0, h1, h2, h3 => by
    simp only [List.getElem?_cons_zero, Option.some.injEq, Prod.mk.injEq] at h
    obtain ⟨rfl, rfl, rfl⟩ := h
    simp only [lv]
    rw [show S k = false from h0, show S' k = true from h1]
    have same : ∀ ρ', lv ρ' l (k + 1) S' t = lv ρ' l (k + 1) S t := fun ρ' => lv_congr l (k + 1) ρ' ρ' S' S rfl fun j x hx hd => by have := h2 (j + 1) (by omega); rwa [show k + (j + 1) = k + 1 + j by omega] at this
    simp only [same]
    by_cases hd : o'.dst = some t
    · rw [hd, upd_same]
      have hz : ∀ ρ', lv ρ' l (k + 1) S t = ρ' t := fun ρ' => by
        rw [lv_congr l (k + 1) ρ' ρ' S (fun _ => false) rfl fun j x hx hd' => by have := h3 (j + 1) x (by omega) (by simpa using hx) hd hd'; rwa [show k + (j + 1) = k + 1 + j by omega] at this]
        rw [lv_none l (k + 1) ρ' _ fun _ => rfl]
      rw [hz, upd_same]
    · rw [upd_other hd]
      exact lv_congr l (k + 1) _ _ S S (upd_other hd) fun _ _ _ _ => rfl
  | (o', r', s') :: l, k, i + 1, o, r, s, ρ, S, S', h, h0, h1, h2, h3 => by
    simp only [lv]
    rw [show S' k = S k from h2 0 (by omega)]
    refine lv_set l (k + 1) i o r s _ S S' (by simpa using h) ?_ ?_ ?_ ?_
    · rwa [show k + (i + 1) = k + 1 + i by omega] at h0
    · rwa [show k + (i + 1) = k + 1 + i by omega] at h1
    · intro j hj; have := h2 (j + 1) (by omega); rwa [show k + (j + 1) = k + 1 + j by omega] at this
    · intro j x hj hx hd hd'; have := h3 (j + 1) x (by omega) (by simpa using hx) hd hd'; rwa [show k + (j + 1) = k + 1 + j by omega] at this

theorem ls_set : ∀ (l : List (DOp P × AV × St)) (k i : Nat) (o : DOp P) (r : AV) (s : St) (st : St) (S S' : Nat → Bool), l[i]? = some (o, r, s) → S' (k + i) = true → (∀ j, j ≠ i → S' (k + j) = S (k + j)) → o.k.eff = true →
    (∀ j x, i < j → l[j]? = some x → x.1.k.eff = true → S (k + j) = false) → ls st l k S' = s
  | [], k, i, o, r, s, st, S, S', h, _, _, _, _ => by simp at h
  | (o', r', s') :: l, k, 0, o, r, s, st, S, S', h, h1, h2, he, h3 => by
    simp only [List.getElem?_cons_zero, Option.some.injEq, Prod.mk.injEq] at h
    obtain ⟨rfl, rfl, rfl⟩ := h
    simp only [ls]
    rw [show S' k = true from h1, he]
    simp only [Bool.and_self]
    rw [ls_congr l (k + 1) s' s' S' (fun _ => false) rfl fun j x hx hd => ?_]
    · exact ls_none l (k + 1) s' _ fun _ => rfl
    · have a := h2 (j + 1) (by omega)
      have b := h3 (j + 1) x (by omega) (by simpa using hx) hd
      rw [show k + (j + 1) = k + 1 + j by omega] at a b
      rw [a, b]
  | (o', r', s') :: l, k, i + 1, o, r, s, st, S, S', h, h1, h2, he, h3 => by
    simp only [ls]
    refine ls_set l (k + 1) i o r s _ S S' (by simpa using h) ?_ ?_ he ?_
    · rwa [show k + (i + 1) = k + 1 + i by omega] at h1
    · intro j hj; have := h2 (j + 1) (by omega); rwa [show k + (j + 1) = k + 1 + j by omega] at this
    · intro j x hj hx hd; have := h3 (j + 1) x (by omega) (by simpa using hx) hd; rwa [show k + (j + 1) = k + 1 + j by omega] at this

theorem DOp.ev_quiet (o : DOp P) {ρ : Nat → AV} {st st' : St} {r : AV} (h : o.ev ρ st = some (r, st')) (he : o.k.eff = false) : st' = st := by
  unfold DOp.ev at h
  split at h
  · exact o.k.val_quiet h he
  · split at h
    · split at h
      · exact o.k.val_quiet h he
      · simp only [Option.some.injEq, Prod.mk.injEq] at h; exact h.2.symm
    · simp only [Option.some.injEq, Prod.mk.injEq] at h; exact h.2.symm
    · cases h

theorem Tr.at : ∀ (L : List (DOp P)) (rs : List (AV × St)) (ρ : Nat → AV) (st : St) (k : Nat), Tr L ρ st rs → rs.length = L.length ∧ ∀ (i : Nat) (o : DOp P) (r : AV) (s : St), (L.zip rs)[i]? = some (o, r, s) →
    o.ev (lv ρ (L.zip rs) k fun j => decide (j < k + i)) (ls st (L.zip rs) k fun j => decide (j < k + i)) = some (r, s)
  | [], rs, ρ, st, k, h => by obtain rfl : rs = [] := h; exact ⟨rfl, fun i o r s hi => by simp at hi⟩
  | o' :: L, rs, ρ, st, k, ⟨r', s', rs', e, h1, h2⟩ => by
    subst e
    obtain ⟨k1, k2⟩ := Tr.at L rs' _ s' (k + 1) h2
    refine ⟨by simp [k1], fun i o r s hi => ?_⟩
    cases i with
    | zero =>
      simp only [List.zip_cons_cons, List.getElem?_cons_zero, Option.some.injEq, Prod.mk.injEq] at hi
      obtain ⟨rfl, rfl, rfl⟩ := hi
      rw [lv_none _ _ _ _ (fun i => by simp), ls_none _ _ _ _ (fun i => by simp)]
      exact h1
    | succ i =>
      have := k2 i o r s (by simpa using hi)
      simp only [List.zip_cons_cons, lv, ls]
      rw [show decide (k < k + (i + 1)) = true by simp]
      simp only [Bool.true_and]
      rw [show (match o'.k.eff with | true => s' | false => st) = s' by
        cases he : o'.k.eff with
        | true => rfl
        | false => exact (o'.ev_quiet h1 he).symm]
      rw [show (fun j => decide (j < k + (i + 1))) = (fun j => decide (j < k + 1 + i)) by funext j; congr 1; apply propext; omega]
      exact this

theorem lv_all : ∀ (L : List (DOp P)) (rs : List (AV × St)) (ρ : Nat → AV) (k : Nat) (S : Nat → Bool), (∀ i, i < L.length → S (k + i) = true) → lv ρ (L.zip rs) k S = (L.zip rs).foldl (fun ρ x => upd ρ x.1.dst x.2.1) ρ
  | [], rs, ρ, k, S, _ => rfl
  | o :: L, [], ρ, k, S, _ => rfl
  | o :: L, (r, s) :: rs, ρ, k, S, h => by
    simp only [List.zip_cons_cons, lv, List.foldl_cons]
    rw [show S k = true from h 0 (by simp)]
    exact lv_all L rs _ (k + 1) S fun i hi => by have := h (i + 1) (by simp; omega); rwa [show k + (i + 1) = k + 1 + i by omega] at this

theorem ls_all : ∀ (L : List (DOp P)) (rs : List (AV × St)) (ρ : Nat → AV) (st : St) (k : Nat) (S : Nat → Bool), Tr L ρ st rs → (∀ i, i < L.length → S (k + i) = true) → ls st (L.zip rs) k S = ((rs.getLast?).map (·.2)).getD st
  | [], rs, ρ, st, k, S, h, _ => by obtain rfl : rs = [] := h; rfl
  | o :: L, rs, ρ, st, k, S, ⟨r', s', rs', e, h1, h2⟩, hS => by
    subst e
    simp only [List.zip_cons_cons, ls]
    rw [show S k = true from hS 0 (by simp)]
    simp only [Bool.true_and]
    rw [show (match o.k.eff with | true => s' | false => st) = s' by
      cases he : o.k.eff with
      | true => rfl
      | false => exact (o.ev_quiet h1 he).symm]
    rw [ls_all L rs' _ s' (k + 1) S h2 fun i hi => by have := hS (i + 1) (by simp; omega); rwa [show k + (i + 1) = k + 1 + i by omega] at this]
    cases rs' with
    | nil => rfl
    | cons x rs => simp [List.getLast?_cons]

/-! ### What must be done ahead of what -/
def memB (x : Nat) : List Nat → Bool
  | [] => false
  | y :: l => Nat.beq y x || memB x l
theorem memB_mem {x : Nat} : ∀ {l : List Nat}, memB x l = true ↔ x ∈ l
  | [] => by simp [memB]
  | y :: l => by
    simp only [memB, Bool.or_eq_true, memB_mem (l := l), List.mem_cons]
    constructor
    · rintro (h | h)
      · exact .inl (by simpa using (show y = x by simpa using h).symm)
      · exact .inr h
    · rintro (h | h)
      · exact .inl (by subst h; simp)
      · exact .inr h

def addL (xs : List Nat) : List Nat → List Nat
  | [] => xs
  | y :: l => addL (match memB y xs with | true => xs | false => y :: xs) l
theorem mem_addL {i : Nat} : ∀ {ys xs : List Nat}, i ∈ addL xs ys → i ∈ xs ∨ i ∈ ys
  | [], xs, h => .inl h
  | y :: ys, xs, h => by
    rcases mem_addL (ys := ys) h with h | h
    · split at h
      · exact .inl h
      · simp only [List.mem_cons] at h ⊢; rcases h with h | h
        · exact .inr (.inl h)
        · exact .inl h
    · exact .inr (by simp [h])

def bef1 (acc : List (List Nat)) : List Edge → List Nat → List Nat
  | [], s => s
  | e :: es, s => bef1 acc es (match Region.binds .any e with | true => addL s (e.on :: acc.getD e.on []) | false => s)

def befs : List Oper → List (List Nat) → List (List Nat)
  | [], acc => acc
  | o :: r, acc => befs r (acc ++ [bef1 acc o.after.toList []])

theorem mem_bef1 {acc : List (List Nat)} {i : Nat} : ∀ {es : List Edge} {s : List Nat}, i ∈ bef1 acc es s → i ∈ s ∨ ∃ e ∈ es, Region.binds .any e = true ∧ (i = e.on ∨ i ∈ acc.getD e.on [])
  | [], s, h => .inl h
  | e :: es, s, h => by
    rcases mem_bef1 (es := es) h with h | ⟨e', h1, h2, h3⟩
    · split at h
      · rename_i hb
        rcases mem_addL h with h | h
        · exact .inl h
        · simp only [List.mem_cons] at h
          exact .inr ⟨e, by simp, hb, h⟩
      · exact .inl h
    · exact .inr ⟨e', by simp [h1], h2, h3⟩

theorem befs_at : ∀ (l : List Oper) (acc : List (List Nat)), (befs l acc).take acc.length = acc ∧ ∀ i o, l[i]? = some o → (befs l acc)[acc.length + i]? = some (bef1 ((befs l acc).take (acc.length + i)) o.after.toList [])
  | [], acc => ⟨by simp [befs], fun i o h => by simp at h⟩
  | o :: l, acc => by
    obtain ⟨h1, h2⟩ := befs_at l (acc ++ [bef1 acc o.after.toList []])
    simp only [List.length_append, List.length_singleton] at h1 h2
    have h3 : (befs (o :: l) acc).take acc.length = acc := by
      have := congrArg (List.take acc.length) h1
      rw [List.take_take, Nat.min_eq_left (by omega)] at this
      simpa [befs] using this
    refine ⟨h3, fun i o' hi => ?_⟩
    cases i with
    | zero =>
      simp only [List.getElem?_cons_zero, Option.some.injEq] at hi
      subst hi
      rw [Nat.add_zero, h3]
      have := congrArg (fun l => l[acc.length]?) h1
      simp only [List.getElem?_take, Nat.lt_succ_self, if_true] at this
      simpa [befs] using this
    | succ i =>
      have := h2 i o' (by simpa using hi)
      rw [show acc.length + (i + 1) = acc.length + 1 + i by omega]
      exact this

/-- A set that holds, with an operation, all that must be ahead of it. -/
def Down (ops : List Oper) (S : Nat → Bool) : Prop := ∀ (j : Nat) (o : Oper), ops[j]? = some o → S j = true → ∀ e ∈ o.after.toList, Region.binds .any e = true → S e.on = true

theorem befs_down {ops : List Oper} {S : Nat → Bool} (hS : Down ops S) : ∀ (n j : Nat) (o : Oper), j < n → ops[j]? = some o → (∀ e ∈ o.after.toList, Region.binds .any e = true → S e.on = true) → ∀ i ∈ (befs ops []).getD j [], S i = true
  | 0, j, o, hj, _, _, i, _ => by omega
  | n + 1, j, o, hj, ho, he, i, hi => by
    have h := (befs_at ops []).2 j o ho
    simp only [List.length_nil, Nat.zero_add] at h
    rw [List.getD_eq_getElem?_getD, h, Option.getD_some] at hi
    rcases mem_bef1 hi with hi | ⟨e, h1, h2, h3⟩
    · simp at hi
    · rcases h3 with rfl | h3
      · exact he e h1 h2
      · rw [List.getD_eq_getElem?_getD, List.getElem?_take] at h3
        by_cases hlt : e.on < j
        · rw [if_pos hlt] at h3
          cases ho' : ops[e.on]? with
          | none =>
            have hl : (befs ops [])[e.on]? = none ∨ True := .inr trivial
            have hge : ops.length ≤ e.on := by
              rcases Nat.lt_or_ge e.on ops.length with h' | h'
              · rw [List.getElem?_eq_getElem h'] at ho'; cases ho'
              · exact h'
            have := getElem?_lt ho
            omega
          | some o' => exact befs_down hS n e.on o' (by omega) ho' (fun e' h4 h5 => hS e.on o' ho' (he e h1 h2) e' h4 h5) i (by rw [List.getD_eq_getElem?_getD]; exact h3)
        · rw [if_neg hlt] at h3; simp at h3

def isMem (d : Option Tmp) (l : List Nat) : Bool :=
  match d with
  | some d => memB d l
  | none => false
def sameDst (x y : Option Tmp) : Bool :=
  match x, y with
  | some a, some b => Nat.beq a b
  | _, _ => false

/-- Two operations that must not change places. -/
def confl (x y : DOp P) : Bool :=
  isMem x.dst y.names || (isMem y.dst x.names || (sameDst x.dst y.dst || ((x.k.eff && y.k.reads) || (x.k.reads && y.k.eff))))

def chk : List (DOp P) → Nat → DOp P → List Nat → Bool
  | [], _, _, _ => true
  | x :: p, i, y, d => (!confl x y || memB i d) && chk p (i + 1) y d

theorem chk_spec {y : DOp P} {d : List Nat} : ∀ {p : List (DOp P)} {k : Nat}, chk p k y d = true → ∀ i x, p[i]? = some x → confl x y = true → k + i ∈ d
  | [], k, _, i, x, hx, _ => by simp at hx
  | z :: p, k, h, i, x, hx, hc => by
    simp only [chk, Bool.and_eq_true] at h
    cases i with
    | zero =>
      simp only [List.getElem?_cons_zero, Option.some.injEq] at hx
      subst hx
      have := h.1
      rw [hc] at this
      exact memB_mem.mp (by simpa using this)
    | succ i =>
      have := chk_spec h.2 i x (by simpa using hx) hc
      rwa [show k + 1 + i = k + (i + 1) by omega] at this

def backB (j : Nat) : List Edge → Bool
  | [] => true
  | e :: es => (!Region.binds .any e || Nat.blt e.on j) && backB j es
theorem backB_spec {j : Nat} : ∀ {es : List Edge}, backB j es = true → ∀ e ∈ es, Region.binds .any e = true → e.on < j
  | [], _, e, he, _ => by simp at he
  | x :: es, h, e, he, hb => by
    simp only [backB, Bool.and_eq_true] at h
    simp only [List.mem_cons] at he
    rcases he with rfl | he
    · have := h.1; rw [hb] at this; simpa using this
    · exact backB_spec h.2 e he hb

def okPairs (L : List (DOp P)) (D : List (List Nat)) : Nat → List (DOp P) → Bool
  | _, [] => true
  | j, y :: r => chk (L.take j) 0 y (D.getD j []) && (backB j y.oper.after.toList && okPairs L D (j + 1) r)

theorem okPairs_spec {L : List (DOp P)} {D : List (List Nat)} : ∀ {l : List (DOp P)} {k : Nat}, okPairs L D k l = true → ∀ j y, l[j]? = some y → chk (L.take (k + j)) 0 y (D.getD (k + j) []) = true ∧ backB (k + j) y.oper.after.toList = true
  | [], _, _, j, y, hy => by simp at hy
  | z :: l, k, h, j, y, hy => by
    simp only [okPairs, Bool.and_eq_true] at h
    cases j with
    | zero =>
      simp only [List.getElem?_cons_zero, Option.some.injEq] at hy
      subst hy
      exact ⟨h.1, h.2.1⟩
    | succ j =>
      have := okPairs_spec h.2.2 j y (by simpa using hy)
      rwa [show k + 1 + j = k + (j + 1) by omega] at this

def okGuardsD (ops : List (DOp P)) : Bool :=
  ops.all fun r => match r.grd with
    | none => true
    | some (j, d, _) => match (ops[j]?).bind (·.dst) with
      | some d' => Nat.beq d' d
      | none => false

/-- The order is open, but comes to the same. -/
def okDraw (L : List (DOp P)) : Bool := okGuardsD L && okPairs L (befs (L.map DOp.oper) []) 0 L

/-! ### Every order -/
def cnt : List Bool → Nat
  | [] => 0
  | true :: l => cnt l
  | false :: l => cnt l + 1

theorem cnt_set : ∀ (l : List Bool) (i : Nat), l[i]? = some false → cnt (l.set i true) + 1 = cnt l
  | [], i, h => by simp at h
  | b :: l, 0, h => by simp at h; subst h; simp [cnt]
  | b :: l, i + 1, h => by
    have := cnt_set l i (by simpa using h)
    cases b <;> simp [cnt] <;> omega
theorem cnt_zero : ∀ (l : List Bool) (i : Nat), cnt l = 0 → i < l.length → l[i]? = some true
  | [], i, _, h => by simp at h
  | true :: l, 0, h, _ => rfl
  | true :: l, i + 1, h, hi => by simpa using cnt_zero l i (by simpa [cnt] using h) (by simpa using hi)
  | false :: l, i, h, _ => by simp [cnt] at h

theorem isMem_spec {d : Option Tmp} {l : List Nat} {t : Nat} (hd : d = some t) (h : t ∈ l) : isMem d l = true := by subst hd; exact memB_mem.mpr h

theorem tmps_sub {xs : List Operand} {d : DOp P} (hx : xs = d.k.xs) : ∀ t ∈ tmpsOf xs, t ∈ d.names := by
  intro t ht
  subst hx
  unfold DOp.names
  split
  · exact List.mem_cons_of_mem _ ht
  · exact ht

theorem draw_any {L : List (DOp P)} (hok : okDraw L = true) {rs : List (AV × St)} {ρ0 : Nat → AV} {st0 : St} (htr : Tr L ρ0 st0 rs) {N : Nat} {g0 : Gh} {w0 : World} {ds : List Deferred} {Q : Exit → Act → World → Prop}
    (hQ : ∀ a g w, a.tmps.size = N → (∀ t, Rel g w ((L.zip rs).foldl (fun ρ x => upd ρ x.1.dst x.2.1) ρ0 t) (a.tmps.getD t undef)) → StRel g (((rs.getLast?).map (·.2)).getD st0) w → Ev g0 w0 g w → a.defers = ds → Q .normal a w)
    (hin : inFrame N L = true) : ∀ (fuel : Nat) (listed : Array Bool) (a : Act) (w : World) (g : Gh), listed.size = L.length → cnt listed.toList = fuel → Down (L.map DOp.oper) (fun i => listed.getD i false) →
      a.tmps.size = N → (∀ t, Rel g w (lv ρ0 (L.zip rs) 0 (fun i => listed.getD i false) t) (a.tmps.getD t undef)) → StRel g (ls st0 (L.zip rs) 0 (fun i => listed.getD i false)) w → Ev g0 w0 g w → a.defers = ds →
      wpAny P .any (L.map DOp.oper).toArray Q fuel listed a w := by
  obtain ⟨hlen, hat⟩ := Tr.at L rs ρ0 st0 0 htr
  simp only [okDraw, Bool.and_eq_true] at hok
  obtain ⟨hgd, hpairs⟩ := hok
  have hpair : ∀ (i j : Nat) (x y : DOp P), i < j → L[i]? = some x → L[j]? = some y → confl x y = true → i ∈ (befs (L.map DOp.oper) []).getD j [] := by
    intro i j x y hij hx hy hc
    have h1 := (okPairs_spec hpairs j y hy).1
    rw [Nat.zero_add] at h1
    have h2 := chk_spec h1 i x (by rw [List.getElem?_take, if_pos hij]; exact hx) hc
    rwa [Nat.zero_add] at h2
  have hback : ∀ (j : Nat) (y : DOp P), L[j]? = some y → ∀ e ∈ y.oper.after.toList, Region.binds .any e = true → e.on < j := by
    intro j y hy
    have h1 := (okPairs_spec hpairs j y hy).2
    rw [Nat.zero_add] at h1
    exact backB_spec h1
  intro fuel
  induction fuel with
  | zero =>
    intro listed a w g h1 h2 h3 h4 h5 h6 h7 h8
    have hall : ∀ i, i < L.length → listed.getD i false = true := by
      intro i hi
      have := cnt_zero listed.toList i h2 (by simpa [h1] using hi)
      rw [Array.getD_eq_getD_getElem?]
      rw [Array.getElem?_toList] at this
      rw [this]; rfl
    have hlv := lv_all L rs ρ0 0 (fun i => listed.getD i false) (fun i hi => by rw [Nat.zero_add]; exact hall i hi)
    have hls := ls_all L rs ρ0 st0 0 (fun i => listed.getD i false) htr (fun i hi => by rw [Nat.zero_add]; exact hall i hi)
    refine ⟨?_, hQ a g w h4 (fun t => by have := h5 t; rw [hlv] at this; exact this) (by rw [hls] at h6; exact h6) h7 h8⟩
    apply List.eq_nil_iff_forall_not_mem.mpr
    intro j hj
    obtain ⟨hf, o, ho, _⟩ := mem_ready.mp hj
    have hlt : j < L.length := by
      rw [List.getElem?_toArray] at ho
      simpa using getElem?_lt ho
    have := hall j hlt
    rw [Array.getD_eq_getD_getElem?] at this hf
    cases hx : listed[j]? with
    | none => rw [hx] at this; cases this
    | some b => rw [hx] at this hf; simp only [Option.getD_some] at this hf; rw [this] at hf; cases hf
  | succ fuel ih =>
    intro listed a w g h1 h2 h3 h4 h5 h6 h7 h8
    refine ⟨fun hr => ?_, fun i hi => ?_⟩
    · -- nothing is ready: all is done
      exfalso
      have hall : ∀ n i, i < n → i < L.length → listed.getD i false = true := by
        intro n
        induction n with
        | zero => intro i hi; omega
        | succ n ihn =>
          intro i hi hlt
          cases hb : listed.getD i false with
          | true => rfl
          | false =>
            exfalso
            have hx : L[i]? = some L[i] := List.getElem?_eq_getElem hlt
            have : i ∈ Region.ready .any (L.map DOp.oper).toArray listed := by
              refine mem_ready.mpr ⟨?_, L[i].oper, by rw [List.getElem?_toArray, List.getElem?_map, hx]; rfl, fun e he hbi => ?_⟩
              · rw [Array.getD_eq_getD_getElem?] at hb ⊢
                have : listed[i]? = some listed[i] := Array.getElem?_eq_getElem (by omega)
                rw [this] at hb ⊢; exact hb
              · have := hback i L[i] hx e (by simpa using he) hbi
                exact ihn e.on (by omega) (by omega)
            rw [hr] at this; simp at this
      have : ∀ (l : List Bool), (∀ i, i < l.length → l[i]? = some true) → cnt l = 0 := by
        intro l
        induction l with
        | nil => intro _; rfl
        | cons b l ihl =>
          intro hh
          have hb := hh 0 (by simp)
          simp only [List.getElem?_cons_zero, Option.some.injEq] at hb
          subst hb
          exact ihl fun i hi => by simpa using hh (i + 1) (by simpa using hi)
      have h0 := this listed.toList fun i hi => by
        have hlt : i < L.length := by simpa [h1] using hi
        have := hall (i + 1) i (by omega) hlt
        rw [Array.getD_eq_getD_getElem?] at this
        rw [Array.getElem?_toList]
        cases hx : listed[i]? with
        | none => rw [hx] at this; cases this
        | some b => rw [hx] at this; simp only [Option.getD_some] at this; rw [this]
      omega
    · obtain ⟨hf, oo, hoo, hedge⟩ := mem_ready.mp hi
      rw [List.getElem?_toArray, List.getElem?_map] at hoo
      cases hx : L[i]? with
      | none => rw [hx] at hoo; cases hoo
      | some o =>
        rw [hx] at hoo
        simp only [Option.map_some, Option.some.injEq] at hoo
        subst hoo
        have hlt : i < L.length := getElem?_lt hx
        have hli : listed[i]? = some false := by
          rw [Array.getD_eq_getD_getElem?] at hf
          have : listed[i]? = some listed[i] := Array.getElem?_eq_getElem (by omega)
          rw [this] at hf ⊢
          simpa using hf
        have hSi : listed.getD i false = false := by rw [Array.getD_eq_getD_getElem?, hli]; rfl
        -- what has been done, and what not
        have before : ∀ (j : Nat) (x : DOp P), j < i → L[j]? = some x → confl x o = true → listed.getD j false = true := by
          intro j x hj hx' hc
          exact befs_down h3 (i + 1) i o.oper (by omega) (by rw [List.getElem?_map, hx]; rfl) (fun e he hb => hedge e (by simpa using he) hb) j (hpair j i x o hj hx' hx hc)
        have behind : ∀ (j : Nat) (y : DOp P), i < j → L[j]? = some y → confl o y = true → listed.getD j false = false := by
          intro j y hj hy hc
          cases hb : listed.getD j false with
          | false => rfl
          | true =>
            have hd := h3 j y.oper (by rw [List.getElem?_map, hy]; rfl) hb
            have := befs_down h3 (j + 1) j y.oper (by omega) (by rw [List.getElem?_map, hy]; rfl) hd i (hpair i j o y hj hx hy hc)
            rw [hSi] at this; cases this
        obtain ⟨r, s, hz⟩ : ∃ r s, (L.zip rs)[i]? = some (o, r, s) := by
          have hr : i < rs.length := by omega
          refine ⟨rs[i].1, rs[i].2, ?_⟩
          rw [List.getElem?_zip_eq_some]
          exact ⟨hx, by rw [List.getElem?_eq_getElem hr]⟩
        have hzip : ∀ (j : Nat) (x : DOp P × AV × St), (L.zip rs)[j]? = some x → L[j]? = some x.1 := by
          intro j x hj
          exact (List.getElem?_zip_eq_some.mp hj).1
        have hev := hat i o r s hz
        rw [Nat.zero_add] at hev
        -- names read as in the text's order
        have hname : ∀ t ∈ o.names, lv ρ0 (L.zip rs) 0 (fun j => decide (j < i)) t = lv ρ0 (L.zip rs) 0 (fun j => listed.getD j false) t := by
          intro t ht
          refine lv_congr _ 0 _ _ _ _ rfl fun j x hj hd => ?_
          rw [Nat.zero_add]
          have hL := hzip j x hj
          by_cases hji : j < i
          · rw [before j x.1 hji hL (by simp [confl, isMem_spec hd ht])]; simpa using hji
          · by_cases hje : j = i
            · subst hje; rw [hSi]; simp
            · rw [behind j x.1 (by omega) hL (by simp [confl, isMem_spec hd ht])]; simpa using (by omega : i ≤ j)
        have hstate : o.k.reads = true → ls st0 (L.zip rs) 0 (fun j => decide (j < i)) = ls st0 (L.zip rs) 0 (fun j => listed.getD j false) := by
          intro hrd
          refine ls_congr _ 0 _ _ _ _ rfl fun j x hj he => ?_
          rw [Nat.zero_add]
          have hL := hzip j x hj
          by_cases hji : j < i
          · rw [before j x.1 hji hL (by simp [confl, he, hrd])]; simpa using hji
          · by_cases hje : j = i
            · subst hje; rw [hSi]; simp
            · rw [behind j x.1 (by omega) hL (by simp [confl, he, hrd])]; simpa using (by omega : i ≤ j)
        -- the set with this operation
        have hS' : ∀ j, (listed.setIfInBounds i true).getD j false = if j = i then true else listed.getD j false := by
          intro j
          rw [Array.getD_eq_getD_getElem?, Array.getElem?_setIfInBounds]
          by_cases hji : j = i
          · subst hji; rw [if_pos rfl, if_pos rfl, if_pos (by omega)]; rfl
          · rw [if_neg (fun e => hji e.symm), if_neg hji, Array.getD_eq_getD_getElem?]
        have hlv' : ∀ t, lv ρ0 (L.zip rs) 0 (fun j => (listed.setIfInBounds i true).getD j false) t = upd (lv ρ0 (L.zip rs) 0 (fun j => listed.getD j false)) o.dst r t := by
          intro t
          refine lv_set _ 0 i o r s ρ0 _ _ hz (by rw [Nat.zero_add]; exact hSi) (by rw [Nat.zero_add, hS', if_pos rfl]) (fun j hj => by rw [Nat.zero_add, hS', if_neg hj]) fun j x hj hx' hdo hd => ?_
          rw [Nat.zero_add]
          exact behind j x.1 hj (hzip j x hx') (by simp [confl, sameDst, hd, hdo])
        have hdown' : Down (L.map DOp.oper) (fun j => (listed.setIfInBounds i true).getD j false) := by
          intro j o' ho' hb e he hbi
          simp only [hS'] at hb ⊢
          by_cases hji : j = i
          · subst hji
            rw [List.getElem?_map, hx] at ho'
            simp only [Option.map_some, Option.some.injEq] at ho'
            subst ho'
            have := hedge e (by simpa using he) hbi
            split
            · rfl
            · exact this
          · rw [if_neg hji] at hb
            have := h3 j o' ho' hb e he hbi
            split
            · rfl
            · exact this
        have hcnt' : cnt (listed.setIfInBounds i true).toList = fuel := by
          rw [Array.toList_setIfInBounds]
          have := cnt_set listed.toList i (by rw [Array.getElem?_toList]; exact hli)
          omega
        -- the operation itself
        have go : ∀ v g' w' st', Rel g' w' r v → StRel g' st' w' → Ev g w g' w' → st' = ls st0 (L.zip rs) 0 (fun j => (listed.setIfInBounds i true).getD j false) → wpAny P .any (L.map DOp.oper).toArray Q fuel (listed.setIfInBounds i true) (a.put o.dst v) w' := by
          intro v g' w' st' k1 k2 k3 k4
          subst k4
          refine ih (listed.setIfInBounds i true) (a.put o.dst v) w' g' (by simp [h1]) hcnt' hdown' ?_ ?_ k2 (h7.trans k3) ((put_defers ..).trans h8)
          · unfold Act.put; split <;> simp [h4]
          · intro t
            rw [hlv']
            have hold := Rel.mono k3 _ _ (h5 t)
            cases hdo : o.dst with
            | none => exact hold
            | some d =>
              have hfr : d < N := by
                have := List.all_eq_true.mp hin o (List.mem_of_getElem? hx)
                simp only [Bool.and_eq_true] at this
                have h9 := this.1
                rw [hdo] at h9
                simpa using h9
              simp only [upd, Act.put]
              cases hdt : Nat.beq d t with
              | true =>
                have : d = t := by simpa using hdt
                subst this
                rw [Array.getD_eq_getD_getElem?, Array.getElem?_setIfInBounds, if_pos rfl, if_pos (show d < a.tmps.size by rw [h4]; exact hfr)]
                exact k1
              | false =>
                have : d ≠ t := by intro e; subst e; simp at hdt
                rw [Array.getD_eq_getD_getElem?, Array.getElem?_setIfInBounds, if_neg this, ← Array.getD_eq_getD_getElem?]
                exact hold
        have hquiet : o.k.eff = false → ls st0 (L.zip rs) 0 (fun j => (listed.setIfInBounds i true).getD j false) = ls st0 (L.zip rs) 0 (fun j => listed.getD j false) := by
          intro he
          refine ls_congr _ 0 _ _ _ _ rfl fun j x hj hex => ?_
          rw [Nat.zero_add, hS', if_neg]
          intro e; subst e
          have := hzip _ x hj
          rw [hx] at this
          cases this
          rw [he] at hex; cases hex
        have heff : o.k.eff = true → ls st0 (L.zip rs) 0 (fun j => (listed.setIfInBounds i true).getD j false) = s := by
          intro he
          refine ls_set _ 0 i o r s st0 (fun j => listed.getD j false) _ hz (by rw [Nat.zero_add, hS', if_pos rfl]) (fun j hj => by rw [Nat.zero_add, hS', if_neg hj]) he fun j x hj hx' hex => ?_
          rw [Nat.zero_add]
          refine behind j x.1 hj (hzip j x hx') ?_
          have : x.1.k.reads = true := by cases hk : x.1.k <;> simp [hk, DK.eff] at hex <;> rfl
          simp [confl, he, this]
        have act : o.k.val (evOf (lv ρ0 (L.zip rs) 0 (fun j => decide (j < i)))) (ls st0 (L.zip rs) 0 (fun j => decide (j < i))) = some (r, s) → o.oper.wp P a w (wpAny P .any (L.map DOp.oper).toArray Q fuel (listed.setIfInBounds i true)) Q := by
          intro hval
          rw [o.k.val_congr (evOf_congr fun t ht => hname t (tmps_sub rfl t ht))] at hval
          have hEv : EvR g w (evOf (lv ρ0 (L.zip rs) 0 (fun j => listed.getD j false))) a o.k.xs := by
            intro x _
            cases x with
            | tmp t => exact h5 t
            | const v => exact ofLit_rel g w v
            | func f => exact ⟨#[], #[], rfl, rfl, rfl⟩
            | global _ => trivial
          cases hrd : o.k.reads with
          | true =>
            rw [hstate hrd] at hval
            have htold := o.k.val_sound hval hEv h6
            refine Oper.wp_guard (htold _ Q fun v g' w' k1 k2 k3 => go v g' w' s k1 k2 k3 ?_)
            cases he : o.k.eff with
            | true => exact (heff he).symm
            | false => rw [hquiet he]; exact o.k.val_quiet hval he
          | false =>
            have hval' := o.k.val_pure hval hrd (ls st0 (L.zip rs) 0 (fun j => listed.getD j false))
            have htold := o.k.val_sound hval' hEv h6
            refine Oper.wp_guard (htold _ Q fun v g' w' k1 k2 k3 => go v g' w' _ k1 k2 k3 ?_)
            have he : o.k.eff = false := by cases hk : o.k <;> simp [hk, DK.reads] at hrd <;> rfl
            rw [hquiet he]
        unfold wpOp
        rw [List.getElem?_toArray, List.getElem?_map, hx]
        simp only [Option.map_some]
        unfold DOp.ev at hev
        cases hgr : o.grd with
        | none =>
          rw [hgr] at hev
          rw [if_pos (by simp [Region.wanted, DOp.oper, hgr])]
          exact .inl (act hev)
        | some x =>
          obtain ⟨gi, d, b⟩ := x
          rw [hgr] at hev
          simp only at hev
          have hdn : d ∈ o.names := by simp [DOp.names, hgr]
          have hok' := List.all_eq_true.mp hgd o (List.mem_of_getElem? hx)
          simp only [hgr] at hok'
          have hdd : ((L.map DOp.oper)[gi]?).bind (·.dst) = some d := by
            rw [List.getElem?_map]
            cases hj : L[gi]? with
            | none => rw [hj] at hok'; simp at hok'
            | some y =>
              rw [hj] at hok'
              simp only [Option.bind_some, Option.map_some] at hok' ⊢
              show y.k.oper.dst = some d
              cases hy : y.dst with
              | none => rw [hy] at hok'; simp at hok'
              | some d' => rw [hy] at hok'; have : d' = d := by simpa using hok'
                           rw [← this]; exact hy
          have key : ∀ c : Bool, a.tmps.getD d undef = .bool c → Region.wanted o.oper (yielded (L.map DOp.oper).toArray a.tmps) = (c == b) := by
            intro c hc
            simp only [Region.wanted, DOp.oper, hgr, Option.map_some]
            unfold yielded
            rw [List.getElem?_toArray]
            rw [show (List.map DOp.oper L)[gi]?.bind (fun x => x.dst) = some d from hdd]
            rw [Option.bind_some, getD_of_yield hc]
            cases c <;> cases b <;> rfl
          split at hev
          · rename_i c hc
            have hrel := h5 d
            rw [← hname d hdn, hc] at hrel
            have hrel : a.tmps.getD d undef = .bool c := hrel
            split at hev
            · rename_i hcb
              rw [if_pos (by rw [key c hrel]; exact hcb)]
              exact .inl (act hev)
            · rename_i hcb
              rw [if_neg (by rw [key c hrel, hcb]; simp)]
              simp only [Option.some.injEq, Prod.mk.injEq] at hev
              obtain ⟨hr, hs⟩ := hev
              subst hr
              have hst : ls st0 (L.zip rs) 0 (fun j => (listed.setIfInBounds i true).getD j false) = ls st0 (L.zip rs) 0 (fun j => listed.getD j false) := by
                cases he : o.k.eff with
                | false => exact hquiet he
                | true =>
                  have hrd : o.k.reads = true := by cases hk : o.k <;> simp [hk, DK.eff] at he <;> rfl
                  rw [heff he, ← hs, hstate hrd]
              exact go undef g w _ ⟨#[], rfl, rfl⟩ h6 (Ev.refl g w) hst.symm
          · rename_i hc
            have hrel := h5 d
            rw [← hname d hdn, hc] at hrel
            obtain ⟨vs, hvs, hv0⟩ := hrel
            have hw0 : Region.wanted o.oper (yielded (L.map DOp.oper).toArray a.tmps) = false := by
              simp only [Region.wanted, DOp.oper, hgr, Option.map_some]
              unfold yielded
              rw [List.getElem?_toArray]
              rw [show (List.map DOp.oper L)[gi]?.bind (fun x => x.dst) = some d from hdd]
              rw [Option.bind_some]
              rw [Array.getD_eq_getD_getElem?] at hvs
              cases hxd : a.tmps[d]? with
              | none => cases b <;> rfl
              | some u => rw [hxd] at hvs; simp only [Option.getD_some] at hvs; subst hvs; cases b <;> rfl
            rw [if_neg (by rw [hw0]; simp)]
            simp only [Option.some.injEq, Prod.mk.injEq] at hev
            obtain ⟨hr, hs⟩ := hev
            subst hr
            have hst : ls st0 (L.zip rs) 0 (fun j => (listed.setIfInBounds i true).getD j false) = ls st0 (L.zip rs) 0 (fun j => listed.getD j false) := by
              cases he : o.k.eff with
              | false => exact hquiet he
              | true =>
                have hrd : o.k.reads = true := by cases hk : o.k <;> simp [hk, DK.eff] at he <;> rfl
                rw [heff he, ← hs, hstate hrd]
            exact go undef g w _ ⟨#[], rfl, rfl⟩ h6 (Ev.refl g w) hst.symm
          · cases hev

/-- A region whose order is open. -/
def Sim.draw (id : Nat) (ops : List (DOp P)) (hm : P.follows .mixedOrders = true) (h : okDraw ops = true) : Sim P where
  code := .region id (ops.map DOp.oper).toArray true
  run F K env st := match inFrame env.n ops with
    | true => drun ops (fun env st => K .normal env st) env st
    | false => none
  sound F K env st fin hr g w a he hs Q hp := by
    split at hr
    · rename_i hin
      obtain ⟨rs, env', st', k1, k2, k3, k4, k5⟩ := drun_tr ops env st hin hr
      refine wp_region_any hm ?_
      have hd : Ev g w g { w with drawn := w.drawn + 1 } := ⟨rfl, rfl, rfl, Nat.le_refl _, fun _ _ h => ⟨h, rfl⟩, fun _ _ _ h => ⟨h, fun C _ _ hb => ⟨C, hb, rfl, fun _ _ => rfl⟩⟩, fun _ _ _ h => .inl h, fun _ _ h => h, tk_refl _⟩
      have hrep : ∀ j, (Array.replicate ops.length false).getD j false = false := by
        intro j
        rw [Array.getD_eq_getD_getElem?, Array.getElem?_replicate]
        split <;> rfl
      have hsd : StRel g st { w with drawn := w.drawn + 1 } := ⟨hs.tk, hs.len, fun k b o h1 h2 => ⟨(hs.obj k b o h1 h2).1, (hs.obj k b o h1 h2).2.keep hd rfl rfl⟩, hs.back, hs.rowlt⟩
      rw [show ((ops.map DOp.oper).toArray.size) = ops.length by simp]
      refine draw_any h k1 (N := env.n) (g0 := g) (w0 := w) (ds := a.defers) (fun a1 g1 w1 h1 h2 h3 h4 h5 => ?_) hin ops.length (Array.replicate ops.length false) a _ g (by simp) ?_ ?_ he.size ?_ ?_ hd rfl
      · subst k5
        exact hp .normal env' _ g1 w1 a1 .normal k2 ⟨h1.trans k3.symm, fun t => by rw [k4]; exact h2 t⟩ h3 h4 h5 rfl
      · have : ∀ n, cnt (List.replicate n false) = n := by
          intro n; induction n with
          | zero => rfl
          | succ n ih => simp [List.replicate_succ, cnt, ih]
        simp [this]
      · intro j o _ hb
        have hz := hrep j
        have hb : (Array.replicate ops.length false).getD j false = true := hb
        rw [hz] at hb; cases hb
      · intro t
        rw [lv_none _ _ _ _ (fun i => hrep (0 + i))]
        exact Rel.mono hd _ _ (he.slot t)
      · rw [ls_none _ _ _ _ (fun i => hrep (0 + i))]
        exact hsd
    · cases hr

end
end Go.V

/- Slices written out, made, copied; texts and bytes; callees in regions; callees whose garbage is forgotten. -/
set_option linter.unusedVariables false
set_option linter.unusedSimpArgs false
namespace Go.V
section
variable {P : Program}

/-! ### Slices written out -/
/-- What is put into a slice that never changes grows no more. -/
def frz : AV → AV
  | .lg _ sz l => .sl sz false l
  | .agg cs => .agg (cs.map frz1)
  | x => x
where
  frz1 : AV → AV
    | .lg _ sz l => .sl sz false l
    | x => x

theorem frz1_rel {g : Gh} {w : World} {x : AV} {v : Value} (h : Rel g w x v) : Rel g w (frz.frz1 x) v := by
  unfold frz.frz1
  split
  · obtain ⟨b, cap, C, E, fz, h1, h2, h3, h4, h5, h6, h7, h8⟩ := h
    exact ⟨b, 0, none, cap, h1, h2, (fun e => by cases e), .inl rfl, h8⟩
  · exact h
theorem frzs_rel {g : Gh} {w : World} : ∀ {xs : List AV} {vs : List Value}, RelAll g w xs vs → RelAll g w (xs.map frz.frz1) vs
  | [], _, h => h
  | x :: xs, _, ⟨v, vr, e, h1, h2⟩ => ⟨v, vr, e, frz1_rel h1, frzs_rel h2⟩
theorem frz_rel {g : Gh} {w : World} {x : AV} {v : Value} (h : Rel g w x v) : Rel g w (frz x) v := by
  unfold frz
  split
  · exact frz1_rel (x := .lg _ _ _) h
  · obtain ⟨vs, h1, h2, h3⟩ := h
    exact ⟨vs, h1, frzs_rel h2, h3⟩
  · exact h

theorem deads_rel {g : Gh} {w : World} : ∀ (vs : List Value), RelAll g w (List.replicate vs.length .dead) vs
  | [] => rfl
  | v :: vs => ⟨v, vs, rfl, trivial, deads_rel vs⟩

def abuildSl (sz len : Nat) (parts : List (Nat × Nat × AV)) (k : AV → Ans) : Ans :=
  aparts parts (List.replicate (len * sz) .dead) fun cs => match rowsOf sz len cs with
    | some l => k (.sl sz true l)
    | none => none

theorem zeroArr_cells {z : Value} {sz : Nat} (h1 : z.cells.toList.all Value.oneCell' = true) (hz : z.cells.size = sz) (n : Nat) :
    ∀ u ∈ ((Array.range (n * sz)).map (fun j => z.cells[j % z.cells.size]!)).toList, u.oneCell' = true := by
  intro u hu
  simp only [Array.toList_map, Array.toList_range, List.mem_map, List.mem_range] at hu
  obtain ⟨j, hj, rfl⟩ := hu
  have hpos : 0 < z.cells.size := by
    rcases Nat.eq_zero_or_pos z.cells.size with h | h
    · rw [hz] at h; subst h; simp at hj
    · exact h
  have hlt : j % z.cells.size < z.cells.size := Nat.mod_lt _ hpos
  rw [getElem!_pos z.cells _ hlt]
  exact List.all_eq_true.mp h1 _ (by simp)

theorem parts_evZ {ev ev' : Operand → AV} {sz : Nat} {parts : List (Nat × Operand)} (h : ∀ x ∈ parts.map (·.2), ev x = ev' x) : (parts.map fun p => (p.1 * sz, sz, frz (ev p.2))) = parts.map fun p => (p.1 * sz, sz, frz (ev' p.2)) :=
  List.map_congr_left fun p hp => by rw [h p.2 (List.mem_map_of_mem hp)]

def opBuildSlice (dst : Option Tmp) (T : TypeId) (len : Nat) (parts : List (Nat × Operand)) (e sz bytes : Nat) (z : Value) (hT : ElemOf P T e sz bytes z) (h1 : z.cells.toList.all Value.oneCell' = true) (hl : len * sz ≤ 16777216) (ty : TypeId) (pos : String) (after : Array Edge) : PSim P :=
  PSim.makes (mkOp dst (.buildSlice T len parts.toArray) ty pos after) rfl (parts.map (·.2)) (fun ev k => abuildSl sz len (parts.map fun p => (p.1 * sz, sz, frz (ev p.2))) k)
    (fun ev ev' k h => by rw [parts_evZ h]) fun ev k fin h g w a st he hs => by
    have hbig : ¬ (len * sz > 2 ^ 24) := by omega
    generalize hZ : (if len * sz = 0 then #[] else (Array.range (len * sz)).map (fun j => z.cells[j % z.cells.size]!)) = Z
    have hZ1 : ∀ u ∈ Z.toList, u.oneCell' = true := by
      subst hZ
      split
      · simp
      · exact zeroArr_cells h1 hT.cells len
    have hZs : Z.size = len * sz := by
      subst hZ
      split
      · rename_i h; simp [h]
      · simp
    have hr0 : RelAll g w (List.replicate (len * sz) .dead) Z.toList := by
      have := deads_rel (g := g) (w := w) Z.toList
      rw [Array.length_toList, hZs] at this; exact this
    -- the parts, with what was frozen
    have hfill : ∃ ds us, (match rowsOf sz len ds with | some l => k (.sl sz true l) | none => none) = some fin ∧ Instr.fill (fun i => some (i * sz, sz)) Z (parts.map fun p => (p.1, a.eval p.2)) = some us ∧ RelAll g w ds us.toList ∧ ∀ u ∈ us.toList, u.oneCell' = true := by
      have := aparts_run (ev := fun x => frz (ev x)) (xs := parts.map (·.2)) (fun x hx => frz_rel (he x hx)) (fun i => some (i * sz, sz)) (parts.map fun p => (p.1, p.1 * sz, sz, p.2)) (fun p hp => by
        simp only [List.mem_map] at hp
        obtain ⟨q, hq, rfl⟩ := hp
        exact List.mem_map.mpr ⟨q, hq, rfl⟩) (fun p hp => by
        simp only [List.mem_map] at hp
        obtain ⟨q, hq, rfl⟩ := hp
        rfl) _ Z hr0 hZ1 (by rw [List.map_map]; exact h)
      obtain ⟨ds, us, a1, a2, a3, a4⟩ := this
      exact ⟨ds, us, a1, by rw [List.map_map] at a2; exact a2, a3, a4⟩
    obtain ⟨ds, us, f1, f2, f3, f4⟩ := hfill
    split at f1
    · rename_i l hl'
      obtain ⟨l1, l2, l3⟩ := rowsOf_list sz len ds l hl'
      have hp := Push.alloc w (.cells us e)
      have hE : Ev g w ⟨g.use w.heap.size .solid, g.objs, g.tk⟩ (w.alloc (.cells us e)) := by simpa using Ev.push hp .solid [] g.tk (tk_refl _)
      refine ⟨_, .slice (some ⟨w.heap.size, 0, none⟩) len len, ⟨g.use w.heap.size .solid, g.objs, g.tk⟩, w.alloc (.cells us e), f1, ?_, ⟨w.heap.size, 0, none, len, by rw [l1], by omega, fun _ => l1.symm, .inl rfl, ?_⟩, ?_, hE⟩
      · simp only [execOp, mkOp, Instr.buildSlice, Sem.run_bind, run_underlying hT.ty, Result.andThen_ok, run_sizeOf' hT.size, if_neg hbig]
        by_cases h0 : len * sz = 0
        · rw [if_pos h0] at hZ
          simp only [if_pos h0, Sem.run_bind, Sem.run_pure, Result.andThen_ok, List.map_toArray]
          rw [show Array.range (len * sz) = #[] by rw [h0]; rfl, Array.map_empty, hZ]
          rw [show (Instr.fill (fun i => some (i * sz, sz)) Z (List.map (fun x => (x.fst, a.eval x.snd)) parts)) = some us from f2]
          rfl
        · rw [if_neg h0] at hZ
          simp only [if_neg h0, Sem.run_bind, Sem.run_pure, run_zeroValue' hT.zero, Result.andThen_ok, List.map_toArray]
          rw [hZ]
          rw [show (Instr.fill (fun i => some (i * sz, sz)) Z (List.map (fun x => (x.fst, a.eval x.snd)) parts)) = some us from f2]
          rfl
      · refine RelRows.of sz l (us.toList.take (len * sz)) _ _ l2 (by rw [l3]; exact RelAll.mono hE _ _ (RelAll.take _ _ _ f3)) fun j v hj => ?_
        have hj' : us.toList[j]? = some v := by
          rw [List.getElem?_take] at hj
          split at hj
          · exact hj
          · cases hj
        exact ⟨(solid_cells (g := g) hp g.tk (tk_refl _) g.objs j v hj').1, (solid_cells (g := g) hp g.tk (tk_refl _) g.objs j v hj').2, f4 v (List.mem_of_getElem? hj')⟩
      · have := hs.push hp .solid g.tk (tk_refl _) trivial
        rw [hs.tk] at this ⊢; exact this
    · cases f1

/-! ### Callees -/
/-- A callee whose answer hangs on its arguments alone. -/
structure POrc (P : Program) where
  id : FuncId
  fn : Func
  hf : P.funcs[id]? = some fn
  hname : (fn.name == "runtime.NumGoroutine") = false
  hb : fn.body.isNone = false
  F : List AV → (AV → Ans) → Ans
  sound : ∀ k args fin, F args k = some fin → ∃ r, k r = some fin ∧ ∀ st, CallsTo P id args st (.ret r, st)

def POrc.orcS (O : POrc P) : OrcS P where
  id := O.id
  fn := O.fn
  hf := O.hf
  hname := O.hname
  hb := O.hb
  sem args st k := O.F args fun r => k (.ret r) st
  sound k args st fin h := by
    obtain ⟨r, h1, h2⟩ := O.sound _ _ _ h
    exact ⟨_, st, h1, h2 st⟩

theorem call_told {id : FuncId} {fn : Func} (hf : P.funcs[id]? = some fn) (hname : (fn.name == "runtime.NumGoroutine") = false) (hb : fn.body.isNone = false) {dst : Option Tmp} {args : List Operand} {tys : Array TypeId} {ty : TypeId} {pos : String} {after : Array Edge}
    {ev : Operand → AV} {g : Gh} {w : World} {a : Act} {st : St} (he : EvR g w ev a args) (hs : StRel g st w) {r : AV} {st' : St} (h : CallsTo P id (args.map ev) st (.ret r, st')) :
    Told P (mkOp dst (.call { callee := .value (.func id), args := args.toArray, argTypes := tys }) ty pos after) a g w r st' := by
  intro next Q hn
  show (mkOp dst (.call { callee := .value (.func id), args := args.toArray, argTypes := tys }) ty pos after).upon P a next Q ((execOp a.eval _).run P w)
  have hrun : (execOp a.eval (mkOp dst (.call { callee := .value (.func id), args := args.toArray, argTypes := tys }) ty pos after)).run P w = .ok (.enter id (args.map a.eval).toArray) w := by
    simp only [execOp, mkOp, resolve, Act.eval, Deferred.ofValue]
    simp [invoke, run_callFunc hf hname hb, Act.eval]
  rw [hrun, Oper.upon_enter]
  refine (h g w _ (by simpa using he.list args fun _ h => h) hs).mono fun e w' ⟨g', h1, h2, h3⟩ => ?_
  obtain ⟨v, rfl, hv⟩ := h1
  exact hn v g' w' hv h2 h3

def opCallP (O : POrc P) (dst : Option Tmp) (args : List Operand) (tys : Array TypeId) (ty : TypeId) (pos : String) (after : Array Edge) : PSim P where
  oper := mkOp dst (.call { callee := .value (.func O.id), args := args.toArray, argTypes := tys }) ty pos after
  plain := rfl
  xs := args
  f ev k := O.F (args.map ev) k
  congr ev ev' k h := by rw [map_ev h fun _ h => h]
  sound ev k fin h g w a st he hs := by
    obtain ⟨r, h1, h2⟩ := O.sound _ _ _ h
    exact ⟨r, h1, call_told O.hf O.hname O.hb he hs (h2 st)⟩

def retOnly (k : AV → St → Ans) : Fin → St → Ans := fun r st' =>
  match r with
  | .ret v => k v st'
  | .pan _ => none

def opCallM (O : OrcS P) (dst : Option Tmp) (args : List Operand) (tys : Array TypeId) (ty : TypeId) (pos : String) (after : Array Edge) : MSim P where
  oper := mkOp dst (.call { callee := .value (.func O.id), args := args.toArray, argTypes := tys }) ty pos after
  plain := rfl
  xs := args
  f ev st k := O.sem (args.map ev) st (retOnly k)
  congr ev ev' st k h := by rw [map_ev h fun _ h => h]
  sound ev st k fin h g w a he hs := by
    obtain ⟨r, st', h1, h2⟩ := O.sound _ _ _ _ h
    cases r with
    | ret v => exact ⟨v, st', h1, call_told O.hf O.hname O.hb he hs h2⟩
    | pan v => cases h1

/-- What goes on does not sway a callee's answer. -/
def POrc.Nat (O : POrc P) : Prop := ∀ args k, O.F args k = thenA (O.F args retA) k
theorem opCallP_nat {O : POrc P} (h : O.Nat) {dst : Option Tmp} {args : List Operand} {tys : Array TypeId} {ty : TypeId} {pos : String} {after : Array Edge} : (opCallP O dst args tys ty pos after).Nat := fun ev k => h _ _
def OrcS.NatS (O : OrcS P) : Prop := ∀ args st k, O.sem args st k = (match O.sem args st (fun r st' => some (r, st')) with
  | some (r, st') => k r st'
  | none => none)
theorem opCallM_nat {O : OrcS P} (h : O.NatS) {dst : Option Tmp} {args : List Operand} {tys : Array TypeId} {ty : TypeId} {pos : String} {after : Array Edge} : (opCallM O dst args tys ty pos after).NatM := by
  intro ev st k
  show O.sem _ _ (retOnly k) = thenM (O.sem _ _ (retOnly retM)) k
  rw [h _ _ (retOnly k), h _ _ (retOnly retM)]
  cases O.sem (args.map ev) st (fun r st' => some (r, st')) with
  | none => rfl
  | some x =>
    obtain ⟨r, st'⟩ := x
    cases r <;> rfl

/-! ### What is made and not handed back is forgotten -/
mutual
def Scoped (n m : Nat) : AV → Prop
  | .ptr k _ => k < n
  | .ms k _ _ _ _ => k < n
  | .mp k => k < n
  | .lg t _ l => t < m ∧ ScopedR n m l
  | .sl _ _ l => ScopedR n m l
  | .eptr cs => ScopedL n m cs
  | .fn _ a c => ScopedL n m a ∧ ScopedL n m c
  | .ifc _ v => Scoped n m v
  | .agg cs => ScopedL n m cs
  | .tup cs => ScopedL n m cs
  | _ => True
def ScopedL (n m : Nat) : List AV → Prop
  | [] => True
  | x :: l => Scoped n m x ∧ ScopedL n m l
def ScopedR (n m : Nat) : List (List AV) → Prop
  | [] => True
  | x :: l => ScopedL n m x ∧ ScopedR n m l
end

def Gh.cut (g g' : Gh) (size : Nat) : Gh where
  kind b := if b < size then g.kind b else match g'.kind b with
    | .row t => if t < g.tk.length then .row t else .solid
    | _ => .solid
  objs := g.objs
  tk := g.tk

/-- The two pictures agree on what was there. -/
structure Cut (g g' : Gh) (w w' : World) : Prop where
  kind : ∀ b, b < w.heap.size → g'.kind b = g.kind b
  objs : ∀ k b : Nat, k < g.objs.length → g'.objs[k]? = some b → g.objs[k]? = some b
  tk : ∀ t : Nat, t < g.tk.length → g'.tk[t]? = g.tk[t]?
  row : ∀ b t, b < w.heap.size → g.kind b = .row t → t < g.tk.length

theorem Cut.prot {g g' : Gh} {w w' : World} (h : Cut g g' w w') {b off : Nat} (hp : g'.prot b off) : (g.cut g' w.heap.size).prot b off := by
  unfold Gh.prot at hp ⊢
  simp only [Gh.cut]
  by_cases hb : b < w.heap.size
  · rw [if_pos hb]
    rw [h.kind b hb] at hp
    cases hk : g.kind b with
    | solid => trivial
    | obj k => rw [hk] at hp; exact hp
    | row t =>
      rw [hk] at hp
      obtain ⟨sz, n, h1, h2⟩ := hp
      exact ⟨sz, n, by rw [← h.tk t (h.row b t hb hk)]; exact h1, h2⟩
  · rw [if_neg hb]
    cases hk : g'.kind b with
    | solid => trivial
    | obj k => rw [hk] at hp; exact hp.elim
    | row t =>
      rw [hk] at hp
      obtain ⟨sz, n, h1, h2⟩ := hp
      simp only
      by_cases ht : t < g.tk.length
      · rw [if_pos ht]; exact ⟨sz, n, by rw [← h.tk t ht]; exact h1, h2⟩
      · rw [if_neg ht]; trivial

mutual
theorem Cut.rel {g g' : Gh} {w w' : World} (h : Cut g g' w w') : ∀ (a : AV) (v : Value), Scoped g.objs.length g.tk.length a → Rel g' w' a v → Rel (g.cut g' w.heap.size) w' a v
  | .bool _, _, _, r => r
  | .int _ _, _, _, r => r
  | .str _, _, _, r => r
  | .nilptr, _, _, r => r
  | .nilsl, _, _, r => r
  | .nilmap, _, _, r => r
  | .nilfn, _, _, r => r
  | .nilif, _, _, r => r
  | .ptr k off, _, s, ⟨b, r1, r2⟩ => ⟨b, h.objs k b s r1, r2⟩
  | .eptr cs, _, s, ⟨b, off, r1, r2⟩ => ⟨b, off, r1, Cut.relCells h cs b off s r2⟩
  | .sl sz full l, _, s, ⟨b, off, sp, cap, r1, r2, r3, rs, r4⟩ => ⟨b, off, sp, cap, r1, r2, r3, rs, Cut.relRows h sz l b off s r4⟩
  | .lg t sz l, _, ⟨s1, s2⟩, ⟨b, cap, C, E, fz, r1, r2, r3, r4, r5, r9, ⟨n, r6, r7⟩, r8⟩ => by
    refine ⟨b, cap, C, E, fz, r1, r2, ?_, r4, r5, r9, ⟨n, by rw [show (g.cut g' w.heap.size).tk = g.tk from rfl, ← h.tk t s1]; exact r6, r7⟩, Cut.relRows h sz l b 0 s2 r8⟩
    simp only [Gh.cut]
    by_cases hb : b < w.heap.size
    · rw [if_pos hb, ← h.kind b hb]; exact r3
    · rw [if_neg hb, r3]; simp only; rw [if_pos s1]
  | .ms k sz off n cap, _, s, ⟨b, r1, r2⟩ => ⟨b, h.objs k b s r1, r2⟩
  | .mp k, _, s, ⟨b, r1, r2⟩ => ⟨b, h.objs k b s r1, r2⟩
  | .fn f a c, _, ⟨s1, s2⟩, ⟨va, vc, r1, r2, r3⟩ => ⟨va, vc, r1, Cut.relAll h a va.toList s1 r2, Cut.relAll h c vc.toList s2 r3⟩
  | .ifc t a, _, s, ⟨u, r1, r2⟩ => ⟨u, r1, Cut.rel h a u s r2⟩
  | .agg cs, _, s, ⟨vs, r1, r2, r3⟩ => ⟨vs, r1, Cut.relAll h cs vs.toList s r2, r3⟩
  | .tup cs, _, s, ⟨vs, r1, r2⟩ => ⟨vs, r1, Cut.relAll h cs vs.toList s r2⟩
  | .dead, _, _, _ => trivial
theorem Cut.relAll {g g' : Gh} {w w' : World} (h : Cut g g' w w') : ∀ (ays : List AV) (vs : List Value), ScopedL g.objs.length g.tk.length ays → RelAll g' w' ays vs → RelAll (g.cut g' w.heap.size) w' ays vs
  | [], _, _, r => r
  | a :: ays, _, ⟨s1, s2⟩, ⟨v, vr, r1, r2, r3⟩ => ⟨v, vr, r1, Cut.rel h a v s1 r2, Cut.relAll h ays vr s2 r3⟩
theorem Cut.relCells {g g' : Gh} {w w' : World} (h : Cut g g' w w') : ∀ (ays : List AV) (b off : Nat), ScopedL g.objs.length g.tk.length ays → RelCells g' w' ays b off → RelCells (g.cut g' w.heap.size) w' ays b off
  | [], _, _, _, _ => trivial
  | a :: ays, b, off, ⟨s1, s2⟩, ⟨⟨u, r1, r2, r5, r3⟩, r4⟩ => ⟨⟨u, r1, h.prot r2, r5, Cut.rel h a u s1 r3⟩, Cut.relCells h ays b (off + 1) s2 r4⟩
theorem Cut.relRows {g g' : Gh} {w w' : World} (h : Cut g g' w w') (sz : Nat) : ∀ (l : List (List AV)) (b off : Nat), ScopedR g.objs.length g.tk.length l → RelRows g' w' sz l b off → RelRows (g.cut g' w.heap.size) w' sz l b off
  | [], _, _, _, _ => trivial
  | x :: l, b, off, ⟨s1, s2⟩, ⟨r1, r2, r3⟩ => ⟨r1, Cut.relCells h x b off s1 r2, Cut.relRows h sz l b (off + sz) s2 r3⟩
end

/-! What is related lies within the picture. -/
mutual
theorem Rel.inside {g : Gh} {w : World} : ∀ (a : AV) (v : Value), Rel g w a v → Scoped g.objs.length g.tk.length a
  | .bool _, _, _ => trivial
  | .int _ _, _, _ => trivial
  | .str _, _, _ => trivial
  | .nilptr, _, _ => trivial
  | .nilsl, _, _ => trivial
  | .nilmap, _, _ => trivial
  | .nilfn, _, _ => trivial
  | .nilif, _, _ => trivial
  | .ptr k off, _, ⟨b, r1, r2⟩ => getElem?_lt r1
  | .eptr cs, _, ⟨b, off, r1, r2⟩ => RelCells.inside cs b off r2
  | .sl sz full l, _, ⟨b, off, sp, cap, r1, r2, r3, rs, r4⟩ => RelRows.inside sz l b off r4
  | .lg t sz l, _, ⟨b, cap, C, E, fz, r1, r2, r3, r4, r5, r9, ⟨n, r6, r7⟩, r8⟩ => ⟨getElem?_lt r6, RelRows.inside sz l b 0 r8⟩
  | .ms k sz off n cap, _, ⟨b, r1, r2⟩ => getElem?_lt r1
  | .mp k, _, ⟨b, r1, r2⟩ => getElem?_lt r1
  | .fn f a c, _, ⟨va, vc, r1, r2, r3⟩ => ⟨RelAll.inside a va.toList r2, RelAll.inside c vc.toList r3⟩
  | .ifc t a, _, ⟨u, r1, r2⟩ => Rel.inside a u r2
  | .agg cs, _, ⟨vs, r1, r2, r3⟩ => RelAll.inside cs vs.toList r2
  | .tup cs, _, ⟨vs, r1, r2⟩ => RelAll.inside cs vs.toList r2
  | .dead, _, _ => trivial
theorem RelAll.inside {g : Gh} {w : World} : ∀ (ays : List AV) (vs : List Value), RelAll g w ays vs → ScopedL g.objs.length g.tk.length ays
  | [], _, _ => trivial
  | a :: ays, _, ⟨v, vr, r1, r2, r3⟩ => ⟨Rel.inside a v r2, RelAll.inside ays vr r3⟩
theorem RelCells.inside {g : Gh} {w : World} : ∀ (ays : List AV) (b off : Nat), RelCells g w ays b off → ScopedL g.objs.length g.tk.length ays
  | [], _, _, _ => trivial
  | a :: ays, b, off, ⟨⟨u, r1, r2, r5, r3⟩, r4⟩ => ⟨Rel.inside a u r3, RelCells.inside ays b (off + 1) r4⟩
theorem RelRows.inside {g : Gh} {w : World} (sz : Nat) : ∀ (l : List (List AV)) (b off : Nat), RelRows g w sz l b off → ScopedR g.objs.length g.tk.length l
  | [], _, _, _ => trivial
  | x :: l, b, off, ⟨r1, r2, r3⟩ => ⟨RelCells.inside x b off r2, RelRows.inside sz l b (off + sz) r3⟩
end

def ScopedOb (n m : Nat) : Ob → Prop
  | .cells cs => ScopedL n m cs
  | .map es => ScopedL n m (es.map (·.1)) ∧ ScopedL n m (es.map (·.2))
  | .gone => True

/-- Objects and tokens that were made are forgotten, where nothing leads to them. -/
theorem forget {id : FuncId} {args : List AV} {st : St} {r : AV} {os xo : List Ob} {xt : List (Nat × Nat)} (h : CallsTo P id args st (.ret r, ⟨os ++ xo, st.tk ++ xt⟩)) (hlen : os.length = st.objs.length)
    (hos : os = st.objs ∨ ((∀ o ∈ os, ScopedOb st.objs.length st.tk.length o) ∧ ∀ (k : Nat) (o o' : Ob), st.objs[k]? = some o → os[k]? = some o' → (match o with | .gone => False | _ => True) → (match o' with | .gone => False | _ => True)))
    (hr' : ScopedL st.objs.length st.tk.length args → Scoped st.objs.length st.tk.length (frz r)) : CallsTo P id args st (.ret (frz r), ⟨os, st.tk⟩) := by
  intro g w vals hv hs
  have hr := hr' (by have := RelAll.inside args vals.toList hv; rw [hs.len, hs.tk] at this; exact this)
  refine (h g w vals hv hs).mono fun e w' ⟨g', h1, h2, h3⟩ => ?_
  obtain ⟨v, rfl, hv'⟩ := h1
  have hgone : ∀ (k : Nat) (o o' : Ob), st.objs[k]? = some o → os[k]? = some o' → (match o with | .gone => False | _ => True) → (match o' with | .gone => False | _ => True) := by
    rcases hos with rfl | hos
    · intro k o o' h1 h2 h3; rw [h1] at h2; cases h2; exact h3
    · exact hos.2
  have hobs : ∀ (k b : Nat) (o : Ob), g.objs[k]? = some b → os[k]? = some o → ScopedOb g.objs.length g.tk.length o := by
    intro k b o hk ho
    rcases hos with rfl | hos
    · obtain ⟨_, hr⟩ := hs.obj k b o hk ho
      cases o with
      | cells cs => obtain ⟨_, C, E, _, hr, _⟩ := hr; exact RelAll.inside _ _ hr
      | map es => obtain ⟨_, M, c, _, hr, hr'⟩ := hr; exact ⟨RelAll.inside _ _ hr, RelAll.inside _ _ hr'⟩
      | gone => trivial
    · rw [hs.len, hs.tk]; exact hos.1 o (List.mem_of_getElem? ho)
  have hcut : Cut g g' w w' := by
    refine ⟨fun b hb => ?_, fun k b hk hb => ?_, fun t ht => ?_, fun b t hb hk => by rw [hs.tk]; exact hs.rowlt b t hb hk⟩
    · cases hk : g.kind b with
      | solid => exact (h3.solid b hb hk).1
      | row t => exact (h3.row b t hb hk).1
      | obj k =>
        obtain ⟨o, o1, o2, o3⟩ := hs.back b k hb hk
        have hkl : k < os.length := by rw [hlen]; exact getElem?_lt o1
        have ho' : os[k]? = some os[k] := List.getElem?_eq_getElem hkl
        have := hgone k o _ o1 ho' o3
        have hob := (h2.obj k b os[k] (h3.objs k b o2) (by rw [List.getElem?_append_left hkl]; exact ho')).2
        generalize os[k] = o' at this hob
        cases o' with
        | cells cs => exact hob.1
        | map es => exact hob.1
        | gone => exact this.elim
    · have : g.objs[k]? = some g.objs[k] := List.getElem?_eq_getElem hk
      have h4 := h3.objs k _ this
      rw [hb] at h4
      rw [this]
      exact h4.symm
    · rw [h2.tk, hs.tk, List.getElem?_append_left (by rw [← hs.tk]; exact ht)]
  have hE : Ev g w (g.cut g' w.heap.size) w' := by
    refine ⟨h3.os, h3.tape, h3.output, h3.size, fun b hb hk => ⟨by simp only [Gh.cut]; rw [if_pos hb]; exact hk, (h3.solid b hb hk).2⟩, fun b t hb hk => ⟨by simp only [Gh.cut]; rw [if_pos hb]; exact hk, (h3.row b t hb hk).2⟩, fun b k hb hk => .inl (by simp only [Gh.cut]; rw [if_pos hb]; exact hk), fun _ _ h => h, tk_refl _⟩
  refine ⟨g.cut g' w.heap.size, ⟨v, rfl, hcut.rel _ _ (by rw [hs.len, hs.tk]; exact hr) (frz_rel hv')⟩, ⟨hs.tk, by rw [hlen]; exact hs.len, fun k b o hk ho => ?_, fun b k hb hk => ?_, fun b t hb hk => ?_⟩, hE⟩
  · have hkl : k < os.length := getElem?_lt ho
    obtain ⟨p1, p2⟩ := h2.obj k b o (h3.objs k b hk) (by rw [List.getElem?_append_left hkl]; exact ho)
    have hblt : b < w.heap.size := (hs.obj k b _ hk (List.getElem?_eq_getElem (by omega))).1
    refine ⟨p1, ?_⟩
    have hsc := hobs k b o hk ho
    cases o with
    | cells cs =>
      obtain ⟨q1, C, E, q2, q3, q4⟩ := p2
      exact ⟨by simp only [Gh.cut]; rw [if_pos hblt, ← hcut.kind b hblt]; exact q1, C, E, q2, hcut.relAll _ _ hsc q3, q4⟩
    | map es =>
      obtain ⟨q1, M, c, q2, q3, q4⟩ := p2
      exact ⟨by simp only [Gh.cut]; rw [if_pos hblt, ← hcut.kind b hblt]; exact q1, M, c, q2, hcut.relAll _ _ hsc.1 q3, hcut.relAll _ _ hsc.2 q4⟩
    | gone => trivial
  · simp only [Gh.cut] at hk
    by_cases hb' : b < w.heap.size
    · rw [if_pos hb'] at hk
      obtain ⟨o, o1, o2, o3⟩ := hs.back b k hb' hk
      have hkl : k < os.length := by rw [hlen]; exact getElem?_lt o1
      exact ⟨os[k], List.getElem?_eq_getElem hkl, o2, hgone k o _ o1 (List.getElem?_eq_getElem hkl) o3⟩
    · rw [if_neg hb'] at hk
      split at hk
      · split at hk <;> cases hk
      · cases hk
  · simp only [Gh.cut] at hk
    by_cases hb' : b < w.heap.size
    · rw [if_pos hb'] at hk; exact hs.rowlt b t hb' hk
    · rw [if_neg hb'] at hk
      split at hk
      · split at hk
        · rename_i ht
          cases hk
          show t < st.tk.length
          rw [← hs.tk]; exact ht
        · cases hk
      · cases hk

/-- A function whose answer hangs on its arguments alone, and that leaves all objects: as a callee. -/
def Fun.pure (f : Fun P) (G : List AV → Option AV) (hG : ∀ args r, G args = some r → (∀ n m, ScopedL n m args → Scoped n m r) ∧ ∃ F, ∀ st, ∃ r' xo xt, frz r' = r ∧ f.run F args st = some (.ret r', ⟨st.objs ++ xo, st.tk ++ xt⟩)) : POrc P where
  id := f.id
  fn := f.fn
  hf := f.hf
  hname := f.hname
  hb := by rw [f.hbody]; rfl
  F args k := match G args with
    | some r => k r
    | none => none
  sound k args fin h := by
    split at h
    · rename_i r hr
      obtain ⟨h2, F, h3⟩ := hG args r hr
      refine ⟨r, h, fun st => ?_⟩
      obtain ⟨r', xo, xt, h1, h4⟩ := h3 st
      have := forget (f.sound h4) rfl (.inl rfl) (by rw [h1]; exact h2 _ _)
      rwa [h1] at this
    · cases h

end
end Go.V

/- Equality of structs whose fields are numbers, bools, texts. -/
set_option linter.unusedVariables false
set_option linter.unusedSimpArgs false
namespace Go.V
section
variable {P : Program}

def kindB (P : Program) (t : TypeId) (c : Nat) : Bool :=
  match P.underlying t with
  | some (.int _) => Nat.beq c 0
  | some .bool => Nat.beq c 1
  | some .string => Nat.beq c 2
  | _ => false
def eqFlat (P : Program) : List Field → List (Nat × Nat) → Bool
  | [], [] => true
  | f :: fs, x :: l => !(f.name == "_") && (Nat.beq f.offset x.1 && (kindB P f.type x.2 && eqFlat P fs l))
  | _, _ => false
/-- A struct that is compared field by field: where each lies, and what it is (0: a number, 1: a bool, 2: a text). -/
def eqFlatB (P : Program) (t : TypeId) (l : List (Nat × Nat)) : Bool :=
  match P.underlying t with
  | some (.struct fs) => !P.stoodInHeld t && (!P.eqGuardType P.depth t && eqFlat P fs.toList l)
  | _ => false

def eqCell (c : Nat) (x y : Option AV) : Option Bool :=
  match x, y with
  | some (.int k a), some (.int k' b) => if k = k' ∧ c = 0 then some (a == b) else none
  | some (.bool a), some (.bool b) => if c = 1 then some (a == b) else none
  | some (.str a), some (.str b) => if c = 2 then some (a.toList == b.toList) else none
  | _, _ => none
def eqCells (xs ys : List AV) : List (Nat × Nat) → Option Bool
  | [] => some true
  | x :: l => match eqCell x.2 xs[x.1]? ys[x.1]? with
    | some b => match eqCells xs ys l with
      | some r => some (b && r)
      | none => none
    | none => none
def aeqS (l : List (Nat × Nat)) (x y : AV) (k : Bool → Ans) : Ans :=
  match x, y with
  | .agg xs, .agg ys => match eqCells xs ys l with
    | some b => k b
    | none => none
  | _, _ => none

theorem RelAll.at {g : Gh} {w : World} : ∀ {ays : List AV} {vs : List Value} {i : Nat} {a : AV}, RelAll g w ays vs → ays[i]? = some a → ∃ v, vs[i]? = some v ∧ Rel g w a v
  | [], _, i, a, _, h => by simp at h
  | x :: ays, _, 0, a, ⟨v, vr, rfl, h1, h2⟩, h => by simp at h; subst h; exact ⟨v, by simp, h1⟩
  | x :: ays, _, i + 1, a, ⟨v, vr, rfl, h1, h2⟩, h => by
    obtain ⟨u, k1, k2⟩ := RelAll.at h2 (by simpa using h)
    exact ⟨u, by simpa using k1, k2⟩

theorem part_one {t : TypeId} {c : Nat} (h : kindB P t c = true) {vs : Array Value} {o : Nat} {v : Value} (hv : vs.toList[o]? = some v) (w : World) : (part t vs o).run P w = .ok v w := by
  have hv' : vs[o]? = some v := by simpa using hv
  unfold kindB at h
  unfold part
  split at h <;> first
    | (rename_i hd; simp [run_isAgg hd, isAggD, hv'])
    | cases h

theorem eqFields_run {g : Gh} {w : World} {xs ys : List AV} {vs us : Array Value} (hx : RelAll g w xs vs.toList) (hy : RelAll g w ys us.toList) (d : Nat) : ∀ (fs : List Field) (l : List (Nat × Nat)) (r : Bool), eqFlat P fs l = true → eqCells xs ys l = some r →
    (Op.eqFields (d + 1) vs us fs).run P w = .ok r w
  | [], [], r, _, h => by simp only [eqCells, Option.some.injEq] at h; subst h; simp [Op.eqFields]
  | [], _ :: _, r, h, _ => by simp [eqFlat] at h
  | _ :: _, [], r, h, _ => by simp [eqFlat] at h
  | f :: fs, (o, c) :: l, r, h, hr => by
    simp only [eqFlat, Bool.and_eq_true] at h
    obtain ⟨h1, h2, h3, h4⟩ := h
    simp only [eqCells] at hr
    cases h5 : eqCell c xs[o]? ys[o]? with
    | none => rw [h5] at hr; cases hr
    | some b =>
      rw [h5] at hr
      simp only at hr
      cases h6 : eqCells xs ys l with
      | none => rw [h6] at hr; cases hr
      | some r' =>
        rw [h6] at hr
        simp only [Option.some.injEq] at hr
        subst hr
        have ih := eqFields_run hx hy d fs l r' h4 h6
        have ho : f.offset = o := by simpa using h2
        have key : ∃ a v, (part f.type vs f.offset).run P w = .ok a w ∧ (part f.type us f.offset).run P w = .ok v w ∧ (Op.equalIn (d + 1) f.type a v).run P w = .ok b w := by
          rw [ho]
          unfold eqCell at h5
          split at h5
          · rename_i k a k' b' e1 e2
            split at h5
            · rename_i hk
              obtain ⟨rfl, rfl⟩ := hk
              simp only [Option.some.injEq] at h5
              obtain ⟨v, p1, p2⟩ := RelAll.at hx e1
              obtain ⟨u, q1, q2⟩ := RelAll.at hy e2
              obtain rfl : v = .int k a := p2
              obtain rfl : u = .int k b' := q2
              refine ⟨_, _, part_one h3 p1 w, part_one h3 q1 w, ?_⟩
              unfold kindB at h3
              split at h3
              · rename_i hd; rw [← h5]; exact run_equalIn_int w d f.type _ _ a b' hd
              · cases h3
              · cases h3
              · cases h3
            · cases h5
          · rename_i a b' e1 e2
            split at h5
            · rename_i hk
              subst hk
              simp only [Option.some.injEq] at h5
              obtain ⟨v, p1, p2⟩ := RelAll.at hx e1
              obtain ⟨u, q1, q2⟩ := RelAll.at hy e2
              obtain rfl : v = .bool a := p2
              obtain rfl : u = .bool b' := q2
              refine ⟨_, _, part_one h3 p1 w, part_one h3 q1 w, ?_⟩
              unfold kindB at h3
              split at h3
              · cases h3
              · rename_i hd; rw [← h5]; exact run_equalIn_bool' w d f.type a b' hd
              · cases h3
              · cases h3
            · cases h5
          · rename_i a b' e1 e2
            split at h5
            · rename_i hk
              subst hk
              simp only [Option.some.injEq] at h5
              obtain ⟨v, p1, p2⟩ := RelAll.at hx e1
              obtain ⟨u, q1, q2⟩ := RelAll.at hy e2
              obtain rfl : v = .string a := p2
              obtain rfl : u = .string b' := q2
              refine ⟨_, _, part_one h3 p1 w, part_one h3 q1 w, ?_⟩
              unfold kindB at h3
              split at h3
              · cases h3
              · cases h3
              · rename_i hd; rw [← h5]; exact run_equalIn_string w d f.type a b' hd
              · cases h3
            · cases h5
          · cases h5
        obtain ⟨a, v, p1, p2, p3⟩ := key
        have hn : f.name ≠ "_" := by simpa using h1
        rw [Op.eqFields]
        simp only [if_pos hn, Sem.run_bind, p1, p2, p3, Result.andThen_ok]
        cases b
        · simp
        · simpa using ih

theorem aeqS_run {t : TypeId} {l : List (Nat × Nat)} (ht : eqFlatB P t l = true) {g : Gh} {w : World} {X Y : AV} {a b : Value} (hx : Rel g w X a) (hy : Rel g w Y b) {k : Bool → Ans} {fin : Fin × St} (h : aeqS l X Y k = some fin) (x y : Operand) :
    ∃ r, k r = some fin ∧ (do eqGuard .eql t x y a b; binOp .eql t a b : Sem Value).run P w = .ok (.bool r) w ∧ (do eqGuard .neq t x y a b; binOp .neq t a b : Sem Value).run P w = .ok (.bool !r) w := by
  unfold aeqS at h
  split at h
  · rename_i xs ys
    split at h
    · rename_i r hr
      obtain ⟨vs, rfl, h1, _⟩ := hx
      obtain ⟨us, rfl, h2, _⟩ := hy
      unfold eqFlatB at ht
      split at ht
      · rename_i fs hu
        simp only [Bool.and_eq_true, Bool.not_eq_true'] at ht
        obtain ⟨t1, t2, t3⟩ := ht
        have hf : P.fieldsOf t = fs := by simp [Program.fieldsOf, hu]
        have he : (Op.equalIn 10000 t (.agg vs) (.agg us)).run P w = .ok r w := by
          rw [run_equalIn_struct w 9999 t vs us (by rw [hf]; exact hu) t1, hf]
          exact eqFields_run h1 h2 9998 fs.toList l r t3 hr
        refine ⟨r, h, ?_, ?_⟩
        · simp only [Sem.run_bind, run_eqGuard_agg w .eql t x y vs us t2, Result.andThen_ok, run_eql_struct, he]
        · simp only [Sem.run_bind, run_eqGuard_agg w .neq t x y vs us t2, Result.andThen_ok, run_neq_struct, he]
      · cases ht
    · cases h
  · cases h

def opEqS (dst : Option Tmp) (T : TypeId) (l : List (Nat × Nat)) (ht : eqFlatB P T l = true) (x y : Operand) (T' : TypeId) (ty : TypeId) (pos : String) (after : Array Edge) : PSim P :=
  PSim.quiet (mkOp dst (.binOp .eql T x y T') ty pos after) rfl [x, y] (fun ev k => aeqS l (ev x) (ev y) fun b => k (.bool b)) (fun ev ev' k h => by simp only [h x (by simp), h y (by simp)]) fun ev k fin h g w a st he hs => by
    obtain ⟨r, h1, h2, h3⟩ := aeqS_run (P := P) ht (he x (by simp)) (he y (by simp)) h x y
    exact ⟨_, _, h1, by simp only [execOp, mkOp]; rw [Sem.run_bind, h2]; rfl, rfl⟩
def opNeS (dst : Option Tmp) (T : TypeId) (l : List (Nat × Nat)) (ht : eqFlatB P T l = true) (x y : Operand) (T' : TypeId) (ty : TypeId) (pos : String) (after : Array Edge) : PSim P :=
  PSim.quiet (mkOp dst (.binOp .neq T x y T') ty pos after) rfl [x, y] (fun ev k => aeqS l (ev x) (ev y) fun b => k (.bool !b)) (fun ev ev' k h => by simp only [h x (by simp), h y (by simp)]) fun ev k fin h g w a st he hs => by
    obtain ⟨r, h1, h2, h3⟩ := aeqS_run (P := P) ht (he x (by simp)) (he y (by simp)) h x y
    exact ⟨_, _, h1, by simp only [execOp, mkOp]; rw [Sem.run_bind, h3]; rfl, rfl⟩
end
end Go.V

/- What goes on does not sway an operation's value: for the operations of regions whose order is open. -/
set_option linter.unusedVariables false
set_option linter.unusedSimpArgs false
namespace Go.V
section
variable {P : Program}

theorem thenA_none (k : AV → Ans) : thenA none k = none := rfl
theorem thenA_ret (r : AV) (k : AV → Ans) : thenA (retA r) k = k r := rfl

theorem onInt_nat {x : AV} {s s' : IntKind → Int → Ans} {K : AV → Ans} (h : ∀ k n, s k n = thenA (s' k n) K) : onInt x s = thenA (onInt x s') K := by
  cases x <;> first | exact h _ _ | rfl
theorem onStr_nat {x : AV} {s s' : ByteArray → Ans} {K : AV → Ans} (h : ∀ b, s b = thenA (s' b) K) : onStr x s = thenA (onStr x s') K := by
  cases x <;> first | exact h _ | rfl
theorem aint_nat (op : BinOp) (kx : IntKind) (a : Int) (ky : IntKind) (b : Int) (k : AV → Ans) : aint op kx a ky b k = thenA (aint op kx a ky b retA) k := by
  cases op <;> simp only [aint] <;> (repeat' split) <;> rfl
theorem atext_nat (op : BinOp) (a b : ByteArray) (k : AV → Ans) : atext op a b k = thenA (atext op a b retA) k := by
  cases op <;> simp only [atext] <;> (repeat' split) <;> rfl
theorem opBin_nat {dst : Option Tmp} {op : BinOp} {T : TypeId} {x y : Operand} {T' ty : TypeId} {pos : String} {after : Array Edge} : (opBin (P := P) dst op T x y T' ty pos after).Nat :=
  fun ev k => onInt_nat fun _ _ => onInt_nat fun _ _ => aint_nat _ _ _ _ _ _
theorem opBinS_nat {dst : Option Tmp} {op : BinOp} {T : TypeId} {x y : Operand} {T' ty : TypeId} {pos : String} {after : Array Edge} : (opBinS (P := P) dst op T x y T' ty pos after).Nat :=
  fun ev k => onStr_nat fun _ => onStr_nat fun _ => atext_nat _ _ _ _

theorem apart_nat (ag : Bool) (sz : Nat) (cs : List AV) (k : AV → Ans) : apart ag sz cs k = thenA (apart ag sz cs retA) k := by
  cases ag with
  | true => simp only [apart]; cases takeN sz cs <;> rfl
  | false => cases cs <;> rfl
theorem aidx_nat (sz : Nat) (x i : AV) (k : AV → Ans) : aidx sz x i k = thenA (aidx sz x i retA) k := by
  cases i <;> try rfl
  cases x <;> try rfl
  · rename_i n s f l
    simp only [aidx]
    cases Nat.beq s sz <;> try rfl
    cases elemAt l n <;> rfl
  · rename_i n t s l
    simp only [aidx]
    cases Nat.beq s sz <;> try rfl
    cases elemAt l n <;> rfl
  · rename_i n j s o m c
    simp only [aidx]
    cases Nat.beq s sz <;> try rfl
    simp only
    split <;> rfl
theorem opIndexAddr_nat {dst : Option Tmp} {T : TypeId} {x i : Operand} {e sz : Nat} {hT : P.underlying T = some (.slice e)} {hz : (P.info? e).map (·.size) = some sz} {ty : TypeId} {pos : String} {after : Array Edge} : (opIndexAddr (P := P) dst T x i e sz hT hz ty pos after).Nat :=
  fun ev k => aidx_nat _ _ _ _
theorem aload_nat (ag : Bool) (sz : Nat) (p : AV) (st : St) (k : AV → Ans) : aload ag sz p st k = thenA (aload ag sz p st retA) k := by
  cases p <;> try rfl
  · rename_i j o
    simp only [aload]
    cases st.objs[j]? with
    | none => rfl
    | some ob => cases ob <;> first | exact apart_nat _ _ _ _ | rfl
  · exact apart_nat _ _ _ _
theorem opLoad_nat {dst : Option Tmp} {T : TypeId} {x : Operand} {d : TypeDesc} {hd : P.underlying T = some d} {sz : Nat} {hz : (P.info? T).map (·.size) = some sz} {ty : TypeId} {pos : String} {after : Array Edge} : (opLoad (P := P) dst T x d hd sz hz ty pos after).Nat :=
  fun ev st k => aload_nat _ _ _ _ _
theorem opLoadF_nat {dst : Option Tmp} {T : TypeId} {x : Operand} {d : TypeDesc} {hd : P.underlying T = some d} {sz : Nat} {hz : (P.info? T).map (·.size) = some sz} {ty : TypeId} {pos : String} {after : Array Edge} : (opLoadF (P := P) dst T x d hd sz hz ty pos after).Nat := by
  intro ev k
  show aloadF _ _ (ev x) k = thenA (aloadF _ _ (ev x) retA) k
  cases ev x <;> first | exact apart_nat _ _ _ _ | rfl
theorem astr_nat (x i : AV) (k : AV → Ans) : astr x i k = thenA (astr x i retA) k := by
  cases x <;> try rfl
  cases i <;> try rfl
  rename_i s kd j
  simp only [astr]
  cases (if 0 ≤ j then s[j.toNat]? else none) <;> rfl
theorem opIndexStr_nat {dst : Option Tmp} {T : TypeId} {x i : Operand} {hT : P.underlying T = some .string} {ty : TypeId} {pos : String} {after : Array Edge} : (opIndexStr (P := P) dst T x i hT ty pos after).Nat :=
  fun ev k => astr_nat _ _ _
theorem opField_nat {dst : Option Tmp} {T : TypeId} {x : Operand} {f off sz : Nat} {ag : Bool} {hf : fieldB P T f off sz ag = true} {ty : TypeId} {pos : String} {after : Array Edge} : (opField (P := P) dst T x f off sz ag hf ty pos after).Nat := by
  intro ev k
  show afield _ _ _ (ev x) k = thenA (afield _ _ _ (ev x) retA) k
  cases ev x <;> first | exact apart_nat _ _ _ _ | rfl
theorem opFieldAddr_nat {dst : Option Tmp} {T : TypeId} {x : Operand} {f off sz : Nat} {ag : Bool} {hf : fieldB P T f off sz ag = true} {h0 : sz ≠ 0} {ty : TypeId} {pos : String} {after : Array Edge} : (opFieldAddr (P := P) dst T x f off sz ag hf h0 ty pos after).Nat := by
  intro ev k
  show aoff off (ev x) k = thenA (aoff off (ev x) retA) k
  unfold aoff
  (repeat' split) <;> rfl
theorem aeqS_nat (l : List (Nat × Nat)) (x y : AV) (f : Bool → AV) (k : AV → Ans) : (aeqS l x y fun b => k (f b)) = thenA (aeqS l x y fun b => retA (f b)) k := by
  unfold aeqS
  (repeat' split) <;> rfl
theorem opEqS_nat {dst : Option Tmp} {T : TypeId} {l : List (Nat × Nat)} {ht : eqFlatB P T l = true} {x y : Operand} {T' ty : TypeId} {pos : String} {after : Array Edge} : (opEqS (P := P) dst T l ht x y T' ty pos after).Nat :=
  fun ev k => aeqS_nat _ _ _ (fun b => .bool b) _
theorem opNeS_nat {dst : Option Tmp} {T : TypeId} {l : List (Nat × Nat)} {ht : eqFlatB P T l = true} {x y : Operand} {T' ty : TypeId} {pos : String} {after : Array Edge} : (opNeS (P := P) dst T l ht x y T' ty pos after).Nat :=
  fun ev k => aeqS_nat _ _ _ (fun b => .bool !b) _
theorem opConvInt_nat {dst : Option Tmp} {S T : TypeId} {x : Operand} {d : TypeDesc} {hS : P.underlying S = some d} {kd : IntKind} {hT : P.underlying T = some (.int kd)} {ty : TypeId} {pos : String} {after : Array Edge} : (opConvInt (P := P) dst S T x d hS kd hT ty pos after).Nat := by
  intro ev k
  show aconv kd (ev x) k = thenA (aconv kd (ev x) retA) k
  unfold aconv
  (repeat' split) <;> rfl
end
end Go.V

/- Words in which runs are told: tests on what is not known. -/
set_option linter.unusedVariables false
namespace Go.V

def onSome {α : Type} (o : Option α) (n : Ans) (s : α → Ans) : Ans :=
  match o with
  | none => n
  | some x => s x
def onCons {α : Type} (l : List α) (n : Ans) (s : α → List α → Ans) : Ans :=
  match l with
  | [] => n
  | x :: r => s x r
@[simp] theorem onSome_some {α : Type} (x : α) (n : Ans) (s : α → Ans) : onSome (some x) n s = s x := rfl
@[simp] theorem onSome_none {α : Type} (n : Ans) (s : α → Ans) : onSome none n s = n := rfl
@[simp] theorem onCons_cons {α : Type} (x : α) (r : List α) (n : Ans) (s : α → List α → Ans) : onCons (x :: r) n s = s x r := rfl
@[simp] theorem onCons_nil {α : Type} (n : Ans) (s : α → List α → Ans) : onCons [] n s = n := rfl
@[simp] theorem onInt_int (k : IntKind) (n : Int) (s : IntKind → Int → Ans) : onInt (.int k n) s = s k n := rfl
@[simp] theorem onStr_str (b : ByteArray) (s : ByteArray → Ans) : onStr (.str b) s = s b := rfl
@[simp] theorem onBool_bool (b : Bool) (s : Bool → Ans) : onBool (.bool b) s = s b := rfl
@[simp] theorem branch_true (y n : Ans) : branch (.bool true) y n = y := rfl
@[simp] theorem branch_false (y n : Ans) : branch (.bool false) y n = n := rfl
theorem branch_of {b : Bool} {y n : Ans} (h : b = true) : branch (.bool b) y n = y := by rw [h]; rfl
theorem branch_not {b : Bool} {y n : Ans} (h : b = false) : branch (.bool b) y n = n := by rw [h]; rfl
theorem branch_ite (b : Bool) (y n : Ans) : branch (.bool b) y n = if b then y else n := by cases b <;> rfl

/-- An element of a list of rows made of a plain list. -/
theorem elemAt_map {α : Type} (f : α → List AV) (l : List α) (i : Int) (h0 : 0 ≤ i) (h : i.toNat < l.length) : elemAt (l.map f) i = some (f l[i.toNat]) := by
  simp [elemAt, h0, h]
theorem elemAt_nat {α : Type} (f : α → List AV) (l : List α) (i : Nat) (h : i < l.length) : elemAt (l.map f) (i : Int) = some (f l[i]) := by
  simp [elemAt, h]

section
variable {P : Program}

/-- A function whose answer hangs on its arguments alone, told by a plain function of what the arguments stand for. -/
def Fun.pureOf {α : Type} (f : Fun P) (dec : List AV → Option α) (enc : α → List AV) (hde : ∀ l a, dec l = some a → l = enc a) (g : α → AV)
    (hs : ∀ a, frz (g a) = g a ∧ ∀ n m, Scoped n m (g a)) (hrun : ∀ a, ∃ F, ∀ st, f.run F (enc a) st = some (.ret (g a), st)) : POrc P :=
  f.pure (fun l => (dec l).map g) fun args r h => by
    cases hd : dec args with
    | none => rw [hd] at h; cases h
    | some a =>
      rw [hd] at h
      obtain rfl : g a = r := by simpa using h
      obtain ⟨F, hF⟩ := hrun a
      refine ⟨fun n m _ => (hs a).2 n m, F, fun st => ⟨g a, [], [], (hs a).1, ?_⟩⟩
      rw [hde args a hd, hF st]
      simp

/-- The same, where it makes things that it doesn't hand back. -/
def Fun.pureOfX {α : Type} (f : Fun P) (dec : List AV → Option α) (enc : α → List AV) (hde : ∀ l a, dec l = some a → l = enc a) (g : α → AV)
    (hs : ∀ a, ∀ n m, Scoped n m (g a)) (hrun : ∀ a, ∃ F, ∀ st, ∃ r' xo xt, frz r' = g a ∧ f.run F (enc a) st = some (.ret r', ⟨st.objs ++ xo, st.tk ++ xt⟩)) : POrc P :=
  f.pure (fun l => (dec l).map g) fun args r h => by
    cases hd : dec args with
    | none => rw [hd] at h; cases h
    | some a =>
      rw [hd] at h
      obtain rfl : g a = r := by simpa using h
      obtain ⟨F, hF⟩ := hrun a
      refine ⟨fun n m _ => hs a n m, F, fun st => ?_⟩
      rw [hde args a hd]
      exact hF st

/-- The same, where something must hold of the arguments. -/
def Fun.pureIf {α : Type} (f : Fun P) (dec : List AV → Option α) (enc : α → List AV) (hde : ∀ l a, dec l = some a → l = enc a) (pre : α → Bool) (g : α → AV)
    (hs : ∀ a, pre a = true → frz (g a) = g a ∧ ∀ n m, Scoped n m (g a)) (hrun : ∀ a, pre a = true → ∃ F, ∀ st, f.run F (enc a) st = some (.ret (g a), st)) : POrc P where
  id := f.id
  fn := f.fn
  hf := f.hf
  hname := f.hname
  hb := by rw [f.hbody]; rfl
  F args k := match dec args with
    | some a => match pre a with
      | true => k (g a)
      | false => none
    | none => none
  sound k args fin h := by
    split at h
    · rename_i a hd
      split at h
      · rename_i hp
        refine ⟨g a, h, fun st => ?_⟩
        obtain ⟨F, hF⟩ := hrun a hp
        have h4 := hF st
        rw [← hde args a hd] at h4
        have := forget (xo := []) (xt := []) (f.sound (by rw [h4, List.append_nil, List.append_nil] : f.run F args st = some (.ret (g a), ⟨st.objs ++ [], st.tk ++ []⟩))) rfl (.inl rfl) (fun _ => by rw [(hs a hp).1]; exact (hs a hp).2 _ _)
        rwa [(hs a hp).1] at this
      · cases h
    · cases h

/-- The same, where it makes things that it doesn't hand back. -/
def Fun.pureIfX {α : Type} (f : Fun P) (dec : List AV → Option α) (enc : α → List AV) (hde : ∀ l a, dec l = some a → l = enc a) (pre : α → Bool) (g : α → AV)
    (hs : ∀ a n m, Scoped n m (g a)) (hrun : ∀ a, pre a = true → ∃ F, ∀ st, ∃ r' xo xt, frz r' = g a ∧ f.run F (enc a) st = some (.ret r', ⟨st.objs ++ xo, st.tk ++ xt⟩)) : POrc P where
  id := f.id
  fn := f.fn
  hf := f.hf
  hname := f.hname
  hb := by rw [f.hbody]; rfl
  F args k := match dec args with
    | some a => match pre a with
      | true => k (g a)
      | false => none
    | none => none
  sound k args fin h := by
    split at h
    · rename_i a hd
      split at h
      · rename_i hp
        refine ⟨g a, h, fun st => ?_⟩
        obtain ⟨F, hF⟩ := hrun a hp
        obtain ⟨r', xo, xt, h1, h4⟩ := hF st
        rw [← hde args a hd] at h4
        have := forget (f.sound h4) rfl (.inl rfl) (fun _ => by rw [h1]; exact hs a _ _)
        rwa [h1] at this
      · cases h
    · cases h

/-- A function told by what it answers and what it makes of the state. -/
def Fun.effIf {α : Type} (f : Fun P) (dec : List AV → Option α) (enc : α → List AV) (hde : ∀ l a, dec l = some a → l = enc a) (pre : α → St → Bool) (g : α → St → AV × St)
    (hrun : ∀ a st, pre a st = true → ∃ F, f.run F (enc a) st = some (.ret (g a st).1, (g a st).2)) : OrcS P where
  id := f.id
  fn := f.fn
  hf := f.hf
  hname := f.hname
  hb := by rw [f.hbody]; rfl
  sem args st k := match dec args with
    | some a => match pre a st with
      | true => k (.ret (g a st).1) (g a st).2
      | false => none
    | none => none
  sound k args st fin h := by
    split at h
    · rename_i a hd
      split at h
      · rename_i hp
        obtain ⟨F, hF⟩ := hrun a st hp
        rw [← hde args a hd] at hF
        exact ⟨_, _, h, f.sound hF⟩
      · cases h
    · cases h

/-- A callee that looks at frozen arguments alone. -/
theorem frzs_all {g : Gh} {w : World} : ∀ {xs : List AV} {vs : List Value}, RelAll g w xs vs → RelAll g w (xs.map frz) vs
  | [], _, h => h
  | x :: xs, _, ⟨v, vr, e, h1, h2⟩ => ⟨v, vr, e, frz_rel h1, frzs_all h2⟩
def POrc.fz (O : POrc P) : POrc P where
  id := O.id
  fn := O.fn
  hf := O.hf
  hname := O.hname
  hb := O.hb
  F args k := O.F (args.map frz) k
  sound k args fin h := by
    obtain ⟨r, h1, h2⟩ := O.sound _ _ _ h
    exact ⟨r, h1, fun st g w vals hr hs => h2 st g w vals (frzs_all hr) hs⟩

theorem scoped_ints (n m : Nat) (k : IntKind) : ∀ l : List Int, ScopedR n m (l.map fun x => [.int k x])
  | [] => trivial
  | x :: l => ⟨⟨trivial, trivial⟩, scoped_ints n m k l⟩

def dec0 : List AV → Option Unit
  | [] => some ()
  | _ => none
def dec1i : List AV → Option Int
  | [.int .i64 a] => some a
  | _ => none
def dec2i : List AV → Option (Int × Int)
  | [.int .i64 a, .int .i64 b] => some (a, b)
  | _ => none
theorem dec0_enc (l : List AV) (a : Unit) (h : dec0 l = some a) : l = [] := by
  unfold dec0 at h; split at h <;> first | rfl | cases h
theorem dec1i_enc (l : List AV) (a : Int) (h : dec1i l = some a) : l = [.int .i64 a] := by
  unfold dec1i at h; split at h <;> first | (cases h; rfl) | cases h
theorem dec2i_enc (l : List AV) (a : Int × Int) (h : dec2i l = some a) : l = [.int .i64 a.1, .int .i64 a.2] := by
  unfold dec2i at h; split at h <;> first | (cases h; rfl) | cases h
end

/-! ### Numbers that fit -/
theorem wrapS {n : Int} (h1 : -9223372036854775808 ≤ n) (h2 : n ≤ 9223372036854775807) : IntKind.i64.wrap n = n := by
  unfold IntKind.wrap
  simp only [IntKind.bits, IntKind.signed, Bool.true_and]
  split
  · rename_i h; simp only [ge_iff_le, decide_eq_true_eq] at h; omega
  · rename_i h; simp only [ge_iff_le, decide_eq_true_eq] at h; omega
theorem wrapU {k : IntKind} {n : Int} (hs : k.signed = false) (h1 : 0 ≤ n) (h2 : n < 2 ^ k.bits) : k.wrap n = n := by
  unfold IntKind.wrap
  simp only [hs, Bool.false_and, Bool.false_eq_true, if_false]
  exact Int.emod_eq_of_lt h1 h2
end Go.V

/- From a law's abstract run to what its call comes to. -/
set_option linter.unusedVariables false
namespace Go.V
open Go.RowKit
section
variable {P : Program}

/-- The picture at a law's start: nothing is known to be owned; all blocks stay. -/
def g0 : Gh := ⟨fun _ => .solid, [], []⟩

theorem StRel.zero (W : World) : StRel g0 ⟨[], []⟩ W :=
  ⟨rfl, rfl, fun k b o h => by simp [g0] at h, fun b k _ h => by simp [g0] at h, fun b t _ h => by simp [g0] at h⟩

theorem Ev.below {W W' : World} {g : Gh} (h : Ev g0 W g W') : Below W.heap.size W W' :=
  ⟨h.os, h.tape, h.output, h.size, fun k hk => (h.solid k hk rfl).2⟩

/-- A law's walk. -/
theorem Fun.walk (f : Fun P) {F : Nat} {args : List AV} {st : St} (h : f.run F args ⟨[], []⟩ = some (.ret (.bool true), st)) (W : World) (vals : Array Value) (hr : RelAll g0 W args vals.toList) :
    Calls P f.id vals W fun e W' => e = .returned (.bool true) ∧ Below W.heap.size W W' := by
  refine (f.sound h g0 W vals hr (StRel.zero W)).mono fun e w' ⟨g', h1, h2, h3⟩ => ?_
  obtain ⟨v, rfl, hv⟩ := h1
  exact ⟨by rw [show v = .bool true from hv], h3.below⟩
end
end Go.V

/- What a law's arguments are, as abstract values: read off their reading. -/
set_option linter.unusedVariables false
set_option linter.unusedSimpArgs false
namespace Go.V
open Go.WideShapes

/-- A shape of values. -/
inductive Ty where
  | bool
  | int (k : IntKind)
  | str
  | sl (e : Ty) (bytes : Nat)
  | st (fs : List Ty)

mutual
def Ty.size : Ty → Nat
  | .bool => 1
  | .int _ => 1
  | .str => 1
  | .sl _ _ => 1
  | .st fs => Ty.sizes fs
def Ty.sizes : List Ty → Nat
  | [] => 0
  | y :: r => y.size + Ty.sizes r
end

mutual
/-- A type of the program has this shape. -/
def Ty.ok (P : Program) : Ty → TypeId → Bool
  | .bool, t => match P.underlying t with
    | some .bool => true
    | _ => false
  | .int k, t => match P.underlying t with
    | some (.int k') => decide (k' = k)
    | _ => false
  | .str, t => match P.underlying t with
    | some .string => true
    | _ => false
  | .sl e b, t => match P.underlying t with
    | some (.slice u) => Nat.beq (P.cellsOf u) e.size && (Nat.blt 0 e.size && (Nat.beq (P.bytesOf u) b && e.ok P u))
    | _ => false
  | .st fs, t => match P.underlying t with
    | some (.struct F) => Nat.beq (P.cellsOf t) (Ty.sizes fs) && Ty.oks P fs F.toList 0
    | _ => false
def Ty.oks (P : Program) : List Ty → List Field → Nat → Bool
  | [], [], _ => true
  | y :: r, f :: F, o => Nat.beq f.offset o && (Nat.beq (P.cellsOf f.type) y.size && (y.ok P f.type && Ty.oks P r F (o + y.size)))
  | _, _, _ => false
end

mutual
/-- Cells of this shape. -/
def Ty.Shape : Ty → List AV → Prop
  | .bool, ays => ∃ b, ays = [.bool b]
  | .int k, ays => ∃ n, ays = [.int k n] ∧ (Lit.int k n).wf = true
  | .str, ays => ∃ s : ByteArray, ays = [.str s] ∧ s.size ≤ reachBytes
  | .sl e b, ays => ays = [.nilsl] ∨ ∃ l, ays = [.sl e.size false l] ∧ l.length * b ≤ reachBytes ∧ l.length ≤ maxLen ∧ ∀ r ∈ l, e.Shape r
  | .st fs, ays => Ty.Shapes fs ays
def Ty.Shapes : List Ty → List AV → Prop
  | [], ays => ays = []
  | y :: r, ays => ∃ a b, ays = a ++ b ∧ y.Shape a ∧ Ty.Shapes r b
end

section
variable {P : Program} {H : Type} {enc : TypeId × Value → H} {W : World} {base : Nat} {spare : Nat → Bool} {held : Bool}

theorem RelCells.ofCells : ∀ (ays : List AV) (cs : List Value) (b off : Nat), RelAll g0 W ays cs → (∀ u ∈ cs, u.oneCell' = true) → (∀ i u, cs[i]? = some u → W.cell? ⟨b, off + i, none⟩ = some u) → RelCells g0 W ays b off
  | [], _, _, _, _, _, _ => trivial
  | a :: ays, _, b, off, ⟨v, vr, rfl, h1, h2⟩, h3, h4 => by
    refine ⟨⟨v, by simpa using h4 0 v rfl, trivial, h3 v (by simp), h1⟩, RelCells.ofCells ays vr b (off + 1) h2 (fun u hu => h3 u (by simp [hu])) fun i u hu => ?_⟩
    have := h4 (i + 1) u (by simpa using hu)
    rwa [show off + (i + 1) = off + 1 + i by omega] at this

theorem cell_spot {a : Addr} {u : Value} (h : W.cell? a = some u) : a.spot = none := by
  unfold World.cell? at h
  split at h
  · split at h
    · cases h
    · rename_i hs; cases hsp : a.spot with
      | none => rfl
      | some s => rw [hsp] at hs; simp at hs
  · cases h

/-- Rows, one by one. -/
theorem rows_of_reads {sz : Nat} (hsz : 0 < sz) {Q : List AV → Prop} {b off : Nat} : ∀ (n k : Nat), (∀ i, i < n → ∃ ays cs, RelAll g0 W ays cs ∧ ays.length = sz ∧ Q ays ∧ (∀ u ∈ cs, u.oneCell' = true) ∧ ∀ j u, cs[j]? = some u → W.cell? ⟨b, off + (k + i) * sz + j, none⟩ = some u) →
    ∃ l, l.length = n ∧ (∀ r ∈ l, Q r) ∧ RelRows g0 W sz l b (off + k * sz)
  | 0, k, _ => ⟨[], rfl, by simp, trivial⟩
  | n + 1, k, h => by
    obtain ⟨l, h1, h2, h3⟩ := rows_of_reads hsz (b := b) (off := off) (Q := Q) n (k + 1) fun i hi => by
      have := h (i + 1) (by omega)
      rwa [show k + (i + 1) = k + 1 + i by omega] at this
    obtain ⟨ays, cs, k1, k2, k3, k4, k5⟩ := h 0 (by omega)
    refine ⟨ays :: l, by simp [h1], fun r hr => ?_, k2, RelCells.ofCells ays cs b _ k1 k4 (by simpa using k5), ?_⟩
    · rcases List.mem_cons.mp hr with rfl | hr
      · exact k3
      · exact h2 r hr
    · rw [show off + k * sz + sz = off + (k + 1) * sz by rw [Nat.add_mul]; omega]; exact h3

mutual
theorem Ty.read : ∀ (y : Ty) (t : TypeId) (cs : List Value) (x : DataW H × List MemPlace) (fuel : Nat), y.ok P t = true → DataW.trod enc P W base spare held fuel t cs = some x → (∀ n ∈ x.1.weights P t, n ≤ reachBytes) →
    ∃ ays, RelAll g0 W ays cs ∧ y.Shape ays ∧ ays.length = y.size ∧ ∀ u ∈ cs, u.oneCell' = true
  | .bool, t, cs, x, fuel, hk, h, hw => by
    unfold Ty.ok at hk
    split at hk
    · rename_i ht
      obtain ⟨b, rfl, _⟩ := DataW.trod_bool ht h
      exact ⟨[.bool b], ⟨_, _, rfl, rfl, rfl⟩, ⟨b, rfl⟩, rfl, by simp [Value.oneCell']⟩
    · cases hk
  | .int k, t, cs, x, fuel, hk, h, hw => by
    unfold Ty.ok at hk
    split at hk
    · rename_i k' ht
      obtain rfl : k' = k := by simpa using hk
      obtain ⟨n, rfl, _, hwf⟩ := DataW.trod_int ht h
      exact ⟨[.int k' n], ⟨_, _, rfl, rfl, rfl⟩, ⟨n, rfl, hwf⟩, rfl, by simp [Value.oneCell']⟩
    · cases hk
  | .str, t, cs, x, fuel, hk, h, hw => by
    unfold Ty.ok at hk
    split at hk
    · rename_i ht
      obtain ⟨s, rfl, rfl, _⟩ := DataW.trod_string ht h
      refine ⟨[.str s], ⟨_, _, rfl, rfl, rfl⟩, ⟨s, rfl, ?_⟩, rfl, by simp [Value.oneCell']⟩
      have := hw s.data.toList.length (by simp [DataW.weights])
      simpa using this
    · cases hk
  | .sl e b, t, cs, x, fuel, hk, h, hw => by
    unfold Ty.ok at hk
    split at hk
    · rename_i u ht
      simp only [Bool.and_eq_true] at hk
      obtain ⟨hc, h0, hb, he⟩ := hk
      have hc : P.cellsOf u = e.size := by simpa using hc
      have h0 : 0 < e.size := by simpa using h0
      have hb : P.bytesOf u = b := by simpa using hb
      rcases DataW.trod_slice ht h with ⟨rfl, _⟩ | ⟨a, len, cap, elems, rest, n, _, rfl, rfl, _, hl, hm, hlen, hel, hsp, hns⟩
      · exact ⟨[.nilsl], ⟨_, _, rfl, rfl, rfl⟩, .inl rfl, rfl, by simp [Value.oneCell']⟩
      · have hws : ∀ (i : Nat) (y : DataW H × List MemPlace), elems[i]? = some y → ∀ m ∈ y.1.weights P u, m ≤ reachBytes := by
          intro i y hy m hm'
          refine hw m ?_
          simp only [DataW.weights, ht]
          refine List.mem_cons_of_mem _ (List.mem_append_left _ ?_)
          have : y.1 ∈ elems.map (·.1) := List.mem_map.mpr ⟨y, List.mem_of_getElem? hy, rfl⟩
          clear hw hel hsp hns
          generalize elems.map (·.1) = ds at this
          induction ds with
          | nil => simp at this
          | cons d ds ih =>
            simp only [DataW.weightsAll]
            rcases List.mem_cons.mp this with rfl | h'
            · exact List.mem_append_left _ hm'
            · exact List.mem_append_right _ (ih h')
        have hsize : len * b ≤ reachBytes := by
          have := hw ((elems.map (·.1)).length * P.bytesOf u + (rest.map (·.1)).length * P.bytesOf u) (by
            simp only [DataW.weights, ht]
            rw [← Nat.add_mul]
            exact List.mem_cons_self)
          rw [hb, List.length_map, hlen] at this
          omega
        obtain ⟨bl, off, sp⟩ := a
        have hspot : sp = none ∨ len = 0 := by
          rcases Nat.eq_zero_or_pos len with h1 | h1
          · exact .inr h1
          · have h2 := hel 0 h1
            rw [List.getElem?_eq_getElem (by omega)] at h2
            obtain ⟨ci, k1, k2⟩ := Option.bind_eq_some_iff.mp h2
            obtain ⟨_, k4, k5⟩ := World.cells?_some k1
            have k6 := k5 0 (by omega)
            rw [List.getElem?_eq_getElem (by omega)] at k6
            have := cell_spot k6
            simp [Addr.add] at this
            exact .inl this
        have hrow : ∀ i, i < len → ∃ ays cs, RelAll g0 W ays cs ∧ ays.length = e.size ∧ e.Shape ays ∧ (∀ u ∈ cs, u.oneCell' = true) ∧ ∀ j u, cs[j]? = some u → W.cell? ⟨bl, off + (0 + i) * e.size + j, none⟩ = some u := by
          intro i hi
          have h2 := hel i hi
          rw [List.getElem?_eq_getElem (by omega)] at h2
          obtain ⟨ci, k1, k2⟩ := Option.bind_eq_some_iff.mp h2
          obtain ⟨ays, r1, r2, r3, r4⟩ := Ty.read e u ci _ n he k2 (hws i _ (List.getElem?_eq_getElem (by omega)))
          obtain ⟨_, k4, k5⟩ := World.cells?_some k1
          obtain rfl : sp = none := hspot.resolve_right (by omega)
          refine ⟨ays, ci, r1, r3, r2, r4, fun j v hj => ?_⟩
          have := k5 j (by rw [← k4]; exact getElem?_lt hj)
          rw [hj, hc, add_none, add_none] at this
          rw [Nat.zero_add]; exact this
        obtain ⟨l, l1, l2, l3⟩ := rows_of_reads h0 len 0 hrow
        refine ⟨[.sl e.size false l], ⟨_, _, rfl, ⟨bl, off, sp, cap, by rw [l1], by omega, (fun h => by cases h), ?_, by simpa using l3⟩, rfl⟩, .inr ⟨l, rfl, by rw [l1]; exact hsize, by omega, l2⟩, rfl, by simp [Value.oneCell']⟩
        rcases hspot with h1 | h1
        · exact .inl h1
        · exact .inr (List.eq_nil_of_length_eq_zero (by omega))
    · cases hk
  | .st fs, t, cs, x, fuel, hk, h, hw => by
    unfold Ty.ok at hk
    split at hk
    · rename_i F ht
      simp only [Bool.and_eq_true] at hk
      obtain ⟨hc, hos⟩ := hk
      have hc : P.cellsOf t = Ty.sizes fs := by simpa using hc
      obtain ⟨xs, n, _, rfl, hl, hxl, hel⟩ := DataW.trod_struct ht h
      obtain ⟨ays, r1, r2, r3, r4⟩ := Ty.reads fs F.toList 0 cs n xs hos (fun i f hf => hel i f (by simpa using hf)) (by simpa using hxl) (by omega) (fun m hm => hw m (by simpa [DataW.weights, ht] using hm))
      exact ⟨ays, by simpa using r1, r2, r3, by simpa using r4⟩
    · cases hk
theorem Ty.reads : ∀ (ys : List Ty) (F : List Field) (o : Nat) (cs : List Value) (n : Nat) (xs : List (DataW H × List MemPlace)), Ty.oks P ys F o = true →
    (∀ (i : Nat) f, F[i]? = some f → DataW.trod enc P W base spare held n f.type ((cs.drop f.offset).take (P.cellsOf f.type)) = xs[i]?) → xs.length = F.length → cs.length = o + Ty.sizes ys →
    (∀ m ∈ DataW.weightsEach P (F.map (·.type)) (xs.map (·.1)), m ≤ reachBytes) →
    ∃ ays, RelAll g0 W ays (cs.drop o) ∧ Ty.Shapes ys ays ∧ ays.length = Ty.sizes ys ∧ ∀ u ∈ cs.drop o, u.oneCell' = true
  | [], [], o, cs, n, xs, hk, hel, hxl, hl, hw => by
    have : cs.drop o = [] := List.drop_eq_nil_of_le (by simp [Ty.sizes] at hl; omega)
    exact ⟨[], this, rfl, rfl, by simp [this]⟩
  | [], _ :: _, o, cs, n, xs, hk, hel, hxl, hl, hw => by simp [Ty.oks] at hk
  | _ :: _, [], o, cs, n, xs, hk, hel, hxl, hl, hw => by simp [Ty.oks] at hk
  | y :: ys, f :: F, o, cs, n, [], hk, hel, hxl, hl, hw => by simp at hxl
  | y :: ys, f :: F, o, cs, n, x :: xs, hk, hel, hxl, hl, hw => by
    simp only [Ty.oks, Bool.and_eq_true] at hk
    obtain ⟨h1, h2, h3, h4⟩ := hk
    have h1 : f.offset = o := by simpa using h1
    have h2 : P.cellsOf f.type = y.size := by simpa using h2
    have hx := hel 0 f rfl
    rw [h1, h2] at hx
    obtain ⟨ays, r1, r2, r3, r4⟩ := Ty.read y f.type _ x n h3 hx (fun m hm => hw m (by simp only [List.map_cons, DataW.weightsEach]; exact List.mem_append_left _ hm))
    obtain ⟨bs, s1, s2, s3, s4⟩ := Ty.reads ys F (o + y.size) cs n xs h4 (fun i g hg => by have := hel (i + 1) g (by simpa using hg); simpa using this) (by simpa using hxl) (by rw [hl, Ty.sizes]; omega) (fun m hm => hw m (by simp only [List.map_cons, DataW.weightsEach]; exact List.mem_append_right _ hm))
    have hsplit : cs.drop o = (cs.drop o).take y.size ++ cs.drop (o + y.size) := by
      rw [← List.drop_drop, List.take_append_drop]
    refine ⟨ays ++ bs, by rw [hsplit]; exact RelAll.append _ _ _ _ r1 s1, ⟨ays, bs, rfl, r2, s2⟩, by rw [List.length_append, r3, s3, Ty.sizes], fun u hu => ?_⟩
    rw [hsplit] at hu
    rcases List.mem_append.mp hu with hu | hu
    · exact r4 u hu
    · exact s4 u hu
end

/-- An argument. -/
def Ty.AV' : Ty → List AV → AV
  | .st _, ays => .agg ays
  | _, ays => ays.headD .dead

theorem Ty.arg {y : Ty} {t : TypeId} {v : Value} {d : DataW H} {ps : List MemPlace} {r : Reach} {b0 : Nat} (hk : y.ok P t = true) (hval : Value.okWide P W r b0 t v) (h : DataW.Trod enc P W base spare held t v d ps) (hw : ∀ n ∈ d.weights P t, n ≤ reachBytes) :
    ∃ ays, y.Shape ays ∧ Rel g0 W (y.AV' ays) v := by
  obtain ⟨fuel, hf⟩ := h
  obtain ⟨ays, r1, r2, r3, r4⟩ := Ty.read y t _ _ fuel hk hf hw
  refine ⟨ays, r2, ?_⟩
  cases y with
  | st fs =>
    unfold Ty.ok at hk
    split at hk
    · rename_i F ht
      obtain ⟨cs, rfl, hcs⟩ := okWide_struct ht hval
      exact ⟨cs, rfl, by simpa [Value.cells] using r1, by simpa [Value.cells] using r4⟩
    · cases hk
  | bool =>
    obtain ⟨b, rfl⟩ := r2
    unfold Ty.ok at hk
    split at hk
    · rename_i ht
      obtain ⟨u, rfl⟩ := okWide_bool ht hval
      obtain ⟨w, wr, e, k1, _⟩ := r1
      simp [Value.cells] at e
      rw [← e.1] at k1; exact k1
    · cases hk
  | int k =>
    obtain ⟨b, rfl, _⟩ := r2
    unfold Ty.ok at hk
    split at hk
    · rename_i ht
      obtain ⟨u, rfl⟩ := okWide_int ht hval
      obtain ⟨w, wr, e, k1, _⟩ := r1
      simp [Value.cells] at e
      rw [← e.1] at k1; exact k1
    · cases hk
  | str =>
    obtain ⟨b, rfl, _⟩ := r2
    unfold Ty.ok at hk
    split at hk
    · rename_i ht
      obtain ⟨u, rfl⟩ := okWide_string ht hval
      obtain ⟨w, wr, e, k1, _⟩ := r1
      simp [Value.cells] at e
      rw [← e.1] at k1; exact k1
    · cases hk
  | sl e b =>
    unfold Ty.ok at hk
    split at hk
    · rename_i u ht
      obtain ⟨a, n, c, rfl⟩ := okWide_slice ht hval
      rcases r2 with rfl | ⟨l, rfl, _⟩
      all_goals
        obtain ⟨w, wr, e', k1, _⟩ := r1
        simp [Value.cells] at e'
        rw [← e'.1] at k1; exact k1
    · cases hk
end
end Go.V

/- Texts and bytes; copies. -/
set_option linter.unusedVariables false
set_option linter.unusedSimpArgs false
namespace Go.V
section
variable {P : Program}

/-- The numbers of rows of one byte each. -/
def numsOf : List (List AV) → Option (List Int)
  | [] => some []
  | r :: l => match r with
    | [.int .u8 n] => match numsOf l with
      | some ns => some (n :: ns)
      | none => none
    | _ => none

theorem numsOf_rows {g : Gh} {w : World} : ∀ {l : List (List AV)} {ns : List Int} {vs : List Value}, numsOf l = some ns → RelAll g w l.flatten vs → vs = ns.map (Value.int .u8) ∧ ns.length = l.length
  | [], ns, vs, h, hr => by
    simp only [numsOf, Option.some.injEq] at h
    subst h
    obtain rfl : vs = [] := hr
    exact ⟨rfl, rfl⟩
  | r :: l, ns, vs, h, hr => by
    unfold numsOf at h
    split at h
    · rename_i n
      split at h
      · rename_i ns' hn
        simp only [Option.some.injEq] at h
        subst h
        obtain ⟨v, vr, rfl, h1, h2⟩ := hr
        obtain rfl : v = .int .u8 n := h1
        obtain ⟨k1, k2⟩ := numsOf_rows hn h2
        exact ⟨by rw [k1]; rfl, by simp [k2]⟩
      · cases h
    · cases h

theorem numsOf_map (bs : List Int) : numsOf (bs.map fun b => [.int .u8 b]) = some bs := by
  induction bs with
  | nil => rfl
  | cons b bs ih => simp [numsOf, ih]

/-- A text out of bytes. -/
def textOf (ns : List Int) : ByteArray := ns.foldl (fun r n => r.push (UInt8.ofNat n.toNat)) ByteArray.empty

def abytes (x : AV) (st : St) (k : AV → Ans) : Ans :=
  match x with
  | .str _ => k .dead
  | x => match rowsA 1 x st with
    | some l => match numsOf l with
      | some ns => k (.str (textOf ns))
      | none => none
    | none => none

def opBytesStr (dst : Option Tmp) (S T : TypeId) (x : Operand) (e : TypeId) (hS : P.underlying S = some (.slice e)) (he : P.underlying e = some (.int .u8)) (hT : P.underlying T = some .string) (ty : TypeId) (pos : String) (after : Array Edge) : QSim P :=
  QSim.quiet (mkOp dst (.convert S T x) ty pos after) rfl [x] (fun ev st k => match ev x with | .str _ => none | _ => abytes (ev x) st k) (fun ev ev' st k h => by simp only [h x (by simp)]) fun ev st k fin h g w a hev hs => by
    have hv := hev x (by simp)
    have hns : ∀ s, ev x ≠ .str s := by intro s hb; rw [hb] at h; cases h
    have h' : abytes (ev x) st k = some fin := by
      revert h
      cases hx : ev x <;> simp only [imp_self]
      rename_i s; exact absurd hx (hns s)
    clear h
    have h := h'
    unfold abytes at h
    split at h
    · rename_i s hb; exact absurd hb (hns s)
    · split at h
      · rename_i l hl
        split at h
        · rename_i ns hn
          obtain ⟨vs, r1, r2, r3, r4, r5, r6⟩ := rowsA_run (P := P) hs hv hl
          obtain ⟨rfl, hlen⟩ := numsOf_rows hn r1
          have hsl : (a.eval x = .slice none 0 0 ∧ l = []) ∨ ∃ p n c, a.eval x = .slice (some p) n c := by
            unfold rowsA at hl
            revert hv
            cases hx : ev x <;> rw [hx] at hl <;> simp at hl <;> intro hv
            · rename_i s; exact absurd hx (hns s)
            · exact .inl ⟨hv, hl⟩
            · obtain ⟨_, _, _, _, hv, _⟩ := hv; exact .inr ⟨_, _, _, hv⟩
            · obtain ⟨_, _, _, _, _, hv, _⟩ := hv; exact .inr ⟨_, _, _, hv⟩
            · obtain ⟨_, _, hv, _⟩ := hv; exact .inr ⟨_, _, _, hv⟩
          refine ⟨_, .string (textOf ns), h, ?_, rfl⟩
          simp only [execOp, mkOp]
          rcases hsl with ⟨hx, rfl⟩ | ⟨p, n, c, hx⟩
          · have h0 : ns = [] := List.eq_nil_of_length_eq_zero (by simpa using hlen)
            subst h0
            rw [Sem.run_bind, hx, run_convert_bytes_string w S T e none 0 0 hS he hT]
            simp [Conv.bytesToString, textOf]
          · have hn' : n = l.length := by
              have := r5 w
              rw [hx] at this
              simp [Builtin.lenOf] at this
              exact this
            rw [Sem.run_bind, hx, run_convert_bytes_string w S T e (some p) n c hS he hT]
            have h3 := r6 w rfl
            rw [hx] at h3
            simp only [Builtin.firstCells, Nat.mul_one] at h3
            rw [run_bytesToString w p n c ns (by rw [hn']; exact h3)]
            rfl
        · cases h
      · cases h

/-- The bytes of a text, as rows. -/
def rowsOfStr (s : ByteArray) : List (List AV) := s.data.toList.map fun c => [.int .u8 c.toNat]

def opStrBytes (dst : Option Tmp) (S T : TypeId) (x : Operand) (e : TypeId) (hS : P.underlying S = some .string) (hT : P.underlying T = some (.slice e)) (he : P.underlying e = some (.int .u8)) (ty : TypeId) (pos : String) (after : Array Edge) : PSim P where
  oper := mkOp dst (.convert S T x) ty pos after
  plain := rfl
  xs := [x]
  f ev k := match ev x with
    | .str s => k (.sl 1 false (rowsOfStr s))
    | _ => none
  congr ev ev' k h := by simp only [h x (by simp)]
  sound ev k fin h g w a st hev hs := by
    have hv := hev x (by simp)
    split at h
    · rename_i s hb
      rw [hb] at hv
      have hv : a.eval x = .string s := hv
      refine ⟨_, h, ?_⟩
      generalize hcap : grownCap w s.size 0 e = cap
      have hge : s.size ≤ cap := by rw [← hcap]; exact grownCap_ge w s.size 0 e
      have hp := Push.drew w (.cells (bytesRow s cap) e ((bytesRow s cap).size, (bytesRow s cap).size + 1))
      have hE : Ev g w ⟨g.use w.heap.size .solid, g.objs, g.tk⟩ (w.drew.alloc (.cells (bytesRow s cap) e ((bytesRow s cap).size, (bytesRow s cap).size + 1))) := by simpa using Ev.push hp .solid [] g.tk (tk_refl _)
      have hlen : (rowsOfStr s).length = s.size := by simp [rowsOfStr]
      refine told_value (g' := ⟨g.use w.heap.size .solid, g.objs, g.tk⟩) (w' := w.drew.alloc (.cells (bytesRow s cap) e ((bytesRow s cap).size, (bytesRow s cap).size + 1))) (v := .slice (some ⟨w.heap.size, 0, none⟩) s.size cap) ?_ ⟨w.heap.size, 0, none, cap, by rw [hlen], by rw [hlen]; exact hge, (fun h => by cases h), .inl rfl, ?_⟩ ?_ hE
      · simp only [execOp, mkOp]
        rw [Sem.run_bind, hv, run_bytes_of_string w S T e s hS hT he, hcap]
        rfl
      · refine RelRows.of 1 (rowsOfStr s) (s.data.toList.map fun b => Value.int .u8 b.toNat) _ _ ?_ ?_ fun j v hj => ?_
        · intro r hr
          simp only [rowsOfStr, List.mem_map] at hr
          obtain ⟨b, _, rfl⟩ := hr; rfl
        · exact flat_bytes _
        · have hlt := getElem?_lt hj
          have hcell : (bytesRow s cap)[j]? = some v := by
            unfold bytesRow
            rw [Array.getElem?_append_left (by simpa using hlt), ← hj]
            simp
          refine ⟨?_, ?_, ?_⟩
          · rw [Nat.zero_add, cell_of hp.new]; exact hcell
          · simp [Gh.prot, Gh.use]
          · simp only [List.getElem?_map, Option.map_eq_some_iff] at hj
            obtain ⟨b, _, rfl⟩ := hj; rfl
      · have := hs.push hp .solid g.tk (tk_refl _) trivial
        rw [hs.tk] at this ⊢; exact this
    · cases h
end
end Go.V

/- The functions' pieces, as told by gen.py. -/
set_option linter.unusedVariables false
set_option maxRecDepth 20000
namespace Go.Proofs.Ytjdpfblmhahfkaa.V
open Go Go.V Go.RowKit

theorem sz5 : (Try.prog.info? 5).map (·.size) = some 1 := by kernel_rfl
theorem ze5 : (Try.prog.info? 5).bind (·.zero) = some (.int .u8 0) := by kernel_rfl
theorem by5 : (Try.prog.info? 5).map (·.bytes) = some 1 := by kernel_rfl
theorem el22 : ElemOf Try.prog 22 5 1 1 (.int .u8 0) := ⟨Try.underlying22, sz5, by5, ze5, by kernel_rfl, by decide⟩
theorem fl48_0 : fieldB Try.prog 48 0 0 1 false = true := by kernel_rfl
theorem sz22 : (Try.prog.info? 22).map (·.size) = some 1 := by kernel_rfl
theorem fl48_1 : fieldB Try.prog 48 1 1 1 false = true := by kernel_rfl
theorem sz4 : (Try.prog.info? 4).map (·.size) = some 1 := by kernel_rfl
theorem mixed : Try.prog.follows .mixedOrders = true := by kernel_rfl

/-! ### 33: interlock/bits.digits (22); results 2, 3; slots: 0 b, 1 b, 4 u, 5 i, 6 c, 7 d -/
/-- A loop's round; at its head live: 4 u, 12 , 13 , 14  -/
noncomputable def f33_l0 : Sim Try.prog :=
  (.seq (.live [4, 12, 13, 14, 15] (.region 3 [
    ⟨(opBin (some 15) .lss 3 (.tmp 14) (.tmp 13) 3 0 "bits.go:55" #[]).op, none⟩
  ] (by kernel_rfl)))
  (.seq (.cond (.tmp 15)
    .skip
    (.live [] (.exit 0)))
  (.seq (.block 1 (.seq (.live [4, 5, 6, 12, 13, 14] (.region 4 [
      ⟨(opMove (some 16) (.tmp 14) 3 "bits.go:55" #[]).op, none⟩,
      ⟨(opIndexAddr (some 17) 22 (.tmp 12) (.tmp 14) 5 1 Try.underlying22 sz5 0 "bits.go:55" #[]).op, none⟩,
      ⟨(opLoad (some 18) 5 (.tmp 17) (.int .u8) Try.underlying5 1 sz5 5 "bits.go:55" #[{ on := 1, ground := Ground.data }]).op, none⟩,
      ⟨(opAssign (some 5) (.tmp 16) 3 "bits.go:55" #[{ on := 0, ground := Ground.data }, { on := 0, ground := Ground.phase }, { on := 1, ground := Ground.phase }, { on := 2, ground := Ground.phase }]).op, none⟩,
      ⟨(opAssign (some 6) (.tmp 18) 5 "bits.go:55" #[{ on := 2, ground := Ground.data }, { on := 3, ground := Ground.chain }, { on := 0, ground := Ground.phase }, { on := 1, ground := Ground.phase }, { on := 2, ground := Ground.phase }, { on := 3, ground := Ground.phase }]).op, none⟩
    ] (by kernel_rfl)))
    (.seq (.live [4, 5, 6, 7, 12, 13, 14] (.region 5 [
      ⟨(opMove (some 19) (.tmp 6) 5 "bits.go:56" #[]).op, none⟩,
      ⟨(opBin (some 20) .andNot 5 (.tmp 19) (.const (Value.int IntKind.u8 128)) 5 5 "bits.go:56" #[{ on := 0, ground := Ground.data }]).op, none⟩,
      ⟨(opConvInt (some 21) 5 49 (.tmp 20) (.int .u8) Try.underlying5 .u64 Try.underlying49 49 "bits.go:56" #[{ on := 1, ground := Ground.data }]).op, none⟩,
      ⟨(opAssign (some 7) (.tmp 21) 49 "bits.go:56" #[{ on := 2, ground := Ground.data }, { on := 0, ground := Ground.phase }, { on := 1, ground := Ground.phase }, { on := 2, ground := Ground.phase }]).op, none⟩
    ] (by kernel_rfl)))
    (.seq (.seq (.live [4, 5, 6, 7, 12, 13, 14, 27] (.region 6 [
      ⟨(opMove (some 22) (.tmp 5) 3 "bits.go:57" #[]).op, none⟩,
      ⟨(opBin (some 23) .eql 3 (.tmp 22) (.const (Value.int IntKind.i64 9)) 3 4 "bits.go:57" #[{ on := 0, ground := Ground.data }]).op, none⟩,
      ⟨(opMove (some 24) (.tmp 23) 4 "bits.go:57" #[{ on := 1, ground := Ground.data }]).op, none⟩,
      ⟨(opMove (some 25) (.tmp 7) 49 "bits.go:57" #[{ on := 2, ground := Ground.guard }]).op, (some (2, 24, true))⟩,
      ⟨(opBin (some 26) .gtr 49 (.tmp 25) (.const (Value.int IntKind.u64 1)) 49 4 "bits.go:57" #[{ on := 3, ground := Ground.data }, { on := 2, ground := Ground.guard }]).op, (some (2, 24, true))⟩,
      ⟨(opPick (some 27) (.tmp 24) (.tmp 26) (.const (Value.bool false)) 4 "bits.go:57" #[{ on := 2, ground := Ground.data }, { on := 4, ground := Ground.data }]).op, none⟩
    ] (by kernel_rfl)))
    (.cond (.tmp 27)
      (.seq (.live [2, 3] (.region 7 [
        ⟨(opAssign (some 2) (.const (Value.int IntKind.u64 0)) 49 "bits.go:58" #[]).op, none⟩,
        ⟨(opAssign (some 3) (.const (Value.int IntKind.i64 0)) 3 "bits.go:58" #[{ on := 0, ground := Ground.chain }, { on := 0, ground := Ground.phase }]).op, none⟩
      ] (by kernel_rfl)))
      (.live [2, 3] .ret))
      .skip))
    (.seq (.live [4, 5, 6, 7, 12, 13, 14] (.region 8 [
      ⟨(opMove (some 28) (.tmp 4) 49 "bits.go:60" #[]).op, none⟩,
      ⟨(opMove (some 29) (.tmp 7) 49 "bits.go:60" #[]).op, none⟩,
      ⟨(opMove (some 30) (.tmp 5) 3 "bits.go:60" #[]).op, none⟩,
      ⟨(opBin (some 31) .mul 3 (.const (Value.int IntKind.i64 7)) (.tmp 30) 3 3 "bits.go:60" #[{ on := 2, ground := Ground.data }]).op, none⟩,
      ⟨(opBin (some 32) .shl 49 (.tmp 29) (.tmp 31) 3 49 "bits.go:60" #[{ on := 1, ground := Ground.data }, { on := 3, ground := Ground.data }]).op, none⟩,
      ⟨(opBin (some 33) .or 49 (.tmp 28) (.tmp 32) 49 49 "bits.go:60" #[{ on := 0, ground := Ground.data }, { on := 4, ground := Ground.data }]).op, none⟩,
      ⟨(opAssign (some 4) (.tmp 33) 49 "bits.go:60" #[{ on := 5, ground := Ground.data }, { on := 0, ground := Ground.phase }, { on := 1, ground := Ground.phase }, { on := 2, ground := Ground.phase }, { on := 3, ground := Ground.phase }, { on := 4, ground := Ground.phase }, { on := 5, ground := Ground.phase }]).op, none⟩
    ] (by kernel_rfl)))
    (.seq (.live [4, 5, 7, 12, 13, 14, 35] (.region 9 [
      ⟨(opMove (some 34) (.tmp 6) 5 "bits.go:61" #[]).op, none⟩,
      ⟨(opBin (some 35) .lss 5 (.tmp 34) (.const (Value.int IntKind.u8 128)) 5 4 "bits.go:61" #[{ on := 0, ground := Ground.data }]).op, none⟩
    ] (by kernel_rfl)))
    (.cond (.tmp 35)
      (.seq (.seq (.live [4, 5, 41] (.region 10 [
        ⟨(opMove (some 36) (.tmp 7) 49 "bits.go:62" #[]).op, none⟩,
        ⟨(opBin (some 37) .eql 49 (.tmp 36) (.const (Value.int IntKind.u64 0)) 49 4 "bits.go:62" #[{ on := 0, ground := Ground.data }]).op, none⟩,
        ⟨(opMove (some 38) (.tmp 37) 4 "bits.go:62" #[{ on := 1, ground := Ground.data }]).op, none⟩,
        ⟨(opMove (some 39) (.tmp 5) 3 "bits.go:62" #[{ on := 2, ground := Ground.guard }]).op, (some (2, 38, true))⟩,
        ⟨(opBin (some 40) .gtr 3 (.tmp 39) (.const (Value.int IntKind.i64 0)) 3 4 "bits.go:62" #[{ on := 3, ground := Ground.data }, { on := 2, ground := Ground.guard }]).op, (some (2, 38, true))⟩,
        ⟨(opPick (some 41) (.tmp 38) (.tmp 40) (.const (Value.bool false)) 4 "bits.go:62" #[{ on := 2, ground := Ground.data }, { on := 4, ground := Ground.data }]).op, none⟩
      ] (by kernel_rfl)))
      (.cond (.tmp 41)
        (.seq (.live [2, 3] (.region 11 [
          ⟨(opAssign (some 2) (.const (Value.int IntKind.u64 0)) 49 "bits.go:63" #[]).op, none⟩,
          ⟨(opAssign (some 3) (.const (Value.int IntKind.i64 0)) 3 "bits.go:63" #[{ on := 0, ground := Ground.chain }, { on := 0, ground := Ground.phase }]).op, none⟩
        ] (by kernel_rfl)))
        (.live [2, 3] .ret))
        .skip))
      (.seq (.live [2, 3] (.region 12 [
        ⟨(opMove (some 42) (.tmp 4) 49 "bits.go:65" #[]).op, none⟩,
        ⟨(opMove (some 43) (.tmp 5) 3 "bits.go:65" #[{ on := 3, ground := (Ground.gcOnly Departure.lateStores) }]).op, none⟩,
        ⟨(opBin (some 44) .add 3 (.tmp 43) (.const (Value.int IntKind.i64 1)) 3 3 "bits.go:65" #[{ on := 1, ground := Ground.data }, { on := 3, ground := (Ground.gcOnly Departure.lateStores) }]).op, none⟩,
        ⟨(opAssign (some 2) (.tmp 42) 49 "bits.go:65" #[{ on := 0, ground := Ground.data }, { on := 0, ground := Ground.phase }, { on := 1, ground := (Ground.textOnly Departure.lateStores) }, { on := 2, ground := (Ground.textOnly Departure.lateStores) }]).op, none⟩,
        ⟨(opAssign (some 3) (.tmp 44) 3 "bits.go:65" #[{ on := 2, ground := Ground.data }, { on := 3, ground := Ground.chain }, { on := 0, ground := Ground.phase }, { on := 1, ground := Ground.phase }, { on := 2, ground := Ground.phase }, { on := 3, ground := Ground.phase }]).op, none⟩
      ] (by kernel_rfl)))
      (.live [2, 3] .ret)))
      .skip)))))))
  (.live [4, 12, 13, 14] (.region 13 [
    ⟨(opBin (some 45) .add 3 (.tmp 14) (.const (Value.int IntKind.i64 1)) 3 3 "bits.go:55" #[]).op, none⟩,
    ⟨(opMove (some 14) (.tmp 45) 3 "bits.go:55" #[{ on := 0, ground := Ground.data }]).op, none⟩
  ] (by kernel_rfl))))))

/-- What follows a loop. -/
noncomputable def f33_r0 : Sim Try.prog :=
  (.seq (.live [2, 3] (.region 14 [
    ⟨(opAssign (some 2) (.const (Value.int IntKind.u64 0)) 49 "bits.go:68" #[]).op, none⟩,
    ⟨(opAssign (some 3) (.const (Value.int IntKind.i64 0)) 3 "bits.go:68" #[{ on := 0, ground := Ground.chain }, { on := 0, ground := Ground.phase }]).op, none⟩
  ] (by kernel_rfl)))
  (.live [2, 3] .ret))

noncomputable def f33_b : Sim Try.prog :=
  (.seq (.live [0] (.region 0 [
    ⟨(opAssign (some 2) (.const (Value.int IntKind.u64 0)) 49 "bits.go:53" #[]).op, none⟩,
    ⟨(opAssign (some 3) (.const (Value.int IntKind.i64 0)) 3 "bits.go:53" #[{ on := 0, ground := Ground.chain }]).op, none⟩
  ] (by kernel_rfl)))
  (.seq (.live [0, 4] (.region 1 [
    ⟨(opAssign (some 4) (.const (Value.int IntKind.u64 0)) 49 "bits.go:54" #[]).op, none⟩
  ] (by kernel_rfl)))
  (.seq (.seq (.live [4, 12, 13, 14] (.region 2 [
    ⟨(opMove (some 8) (.tmp 0) 22 "bits.go:55" #[]).op, none⟩,
    ⟨(opMove (some 9) (.tmp 0) 22 "bits.go:55" #[]).op, none⟩,
    ⟨(opLen (some 10) (.tmp 9) 22 (.slice 5) Try.underlying22 3 "bits.go:55" #[{ on := 1, ground := Ground.data }]).op, none⟩,
    ⟨(opMinMax (some 11) false (.tmp 10) [(.const (Value.int IntKind.i64 10))] #[3, 3] 3 "bits.go:55" #[{ on := 2, ground := Ground.data }]).op, none⟩,
    ⟨(opSlice (some 12) 22 (.tmp 8) none (some (.tmp 11)) none 5 1 Try.underlying22 sz5 22 "bits.go:55" #[{ on := 0, ground := Ground.data }, { on := 3, ground := Ground.data }]).op, none⟩,
    ⟨(opLen (some 13) (.tmp 12) 22 (.slice 5) Try.underlying22 3 "bits.go:55" #[{ on := 4, ground := Ground.data }]).op, none⟩,
    ⟨(opMove (some 14) (.const (Value.int IntKind.i64 0)) 3 "bits.go:55" #[]).op, none⟩
  ] (by kernel_rfl)))
  (.block 0 (.loop [4, 12, 13, 14] f33_l0)))
  f33_r0)))

noncomputable def f33 : Fun Try.prog where
  id := 33
  fn := Try.f33
  hf := Try.func33
  hname := by kernel_rfl
  body := f33_b
  hbody := by kernel_rfl
  res := [rTmp 2, rTmp 3]
  hres := by kernel_rfl
  n := 46
  hn := by kernel_rfl

/-! ### 35: interlock/bits.unfold (49); results 2; slots: 0 u, 1 u -/
noncomputable def f35_b : Sim Try.prog :=
  (.seq (.live [0] (.region 0 [
    ⟨(opAssign (some 2) (.const (Value.int IntKind.i64 0)) 3 "bits.go:16" #[]).op, none⟩
  ] (by kernel_rfl)))
  (.seq (.live [2] (.region 1 [
    ⟨(opMove (some 3) (.tmp 0) 49 "bits.go:16" #[]).op, none⟩,
    ⟨(opBin (some 4) .shr 49 (.tmp 3) (.const (Value.int IntKind.u64 1)) 54 49 "bits.go:16" #[{ on := 0, ground := Ground.data }]).op, none⟩,
    ⟨(opConvInt (some 5) 49 3 (.tmp 4) (.int .u64) Try.underlying49 .i64 Try.underlying3 3 "bits.go:16" #[{ on := 1, ground := Ground.data }]).op, none⟩,
    ⟨(opMove (some 6) (.tmp 0) 49 "bits.go:16" #[]).op, none⟩,
    ⟨(opBin (some 7) .and 49 (.tmp 6) (.const (Value.int IntKind.u64 1)) 49 49 "bits.go:16" #[{ on := 3, ground := Ground.data }]).op, none⟩,
    ⟨(opConvInt (some 8) 49 3 (.tmp 7) (.int .u64) Try.underlying49 .i64 Try.underlying3 3 "bits.go:16" #[{ on := 4, ground := Ground.data }]).op, none⟩,
    ⟨(opNeg (some 9) 3 (.tmp 8) 3 "bits.go:16" #[{ on := 5, ground := Ground.data }]).op, none⟩,
    ⟨(opBin (some 10) .xor 3 (.tmp 5) (.tmp 9) 3 3 "bits.go:16" #[{ on := 2, ground := Ground.data }, { on := 6, ground := Ground.data }]).op, none⟩,
    ⟨(opAssign (some 2) (.tmp 10) 3 "bits.go:16" #[{ on := 7, ground := Ground.data }, { on := 0, ground := Ground.phase }, { on := 1, ground := Ground.phase }, { on := 2, ground := Ground.phase }, { on := 3, ground := Ground.phase }, { on := 4, ground := Ground.phase }, { on := 5, ground := Ground.phase }, { on := 6, ground := Ground.phase }, { on := 7, ground := Ground.phase }]).op, none⟩
  ] (by kernel_rfl)))
  (.live [2] .ret)))

noncomputable def f35 : Fun Try.prog where
  id := 35
  fn := Try.f35
  hf := Try.func35
  hname := by kernel_rfl
  body := f35_b
  hbody := by kernel_rfl
  res := [rTmp 2]
  hres := by kernel_rfl
  n := 11
  hn := by kernel_rfl

/-! ### 36: interlock/bits.fold (3); results 2; slots: 0 n, 1 n -/
noncomputable def f36_b : Sim Try.prog :=
  (.seq (.live [0] (.region 0 [
    ⟨(opAssign (some 2) (.const (Value.int IntKind.u64 0)) 49 "bits.go:13" #[]).op, none⟩
  ] (by kernel_rfl)))
  (.seq (.live [2] (.region 1 [
    ⟨(opMove (some 3) (.tmp 0) 3 "bits.go:13" #[]).op, none⟩,
    ⟨(opConvInt (some 4) 3 49 (.tmp 3) (.int .i64) Try.underlying3 .u64 Try.underlying49 49 "bits.go:13" #[{ on := 0, ground := Ground.data }]).op, none⟩,
    ⟨(opBin (some 5) .shl 49 (.tmp 4) (.const (Value.int IntKind.u64 1)) 54 49 "bits.go:13" #[{ on := 1, ground := Ground.data }]).op, none⟩,
    ⟨(opMove (some 6) (.tmp 0) 3 "bits.go:13" #[]).op, none⟩,
    ⟨(opBin (some 7) .shr 3 (.tmp 6) (.const (Value.int IntKind.u64 63)) 54 3 "bits.go:13" #[{ on := 3, ground := Ground.data }]).op, none⟩,
    ⟨(opConvInt (some 8) 3 49 (.tmp 7) (.int .i64) Try.underlying3 .u64 Try.underlying49 49 "bits.go:13" #[{ on := 4, ground := Ground.data }]).op, none⟩,
    ⟨(opBin (some 9) .xor 49 (.tmp 5) (.tmp 8) 49 49 "bits.go:13" #[{ on := 2, ground := Ground.data }, { on := 5, ground := Ground.data }]).op, none⟩,
    ⟨(opAssign (some 2) (.tmp 9) 49 "bits.go:13" #[{ on := 6, ground := Ground.data }, { on := 0, ground := Ground.phase }, { on := 1, ground := Ground.phase }, { on := 2, ground := Ground.phase }, { on := 3, ground := Ground.phase }, { on := 4, ground := Ground.phase }, { on := 5, ground := Ground.phase }, { on := 6, ground := Ground.phase }]).op, none⟩
  ] (by kernel_rfl)))
  (.live [2] .ret)))

noncomputable def f36 : Fun Try.prog where
  id := 36
  fn := Try.f36
  hf := Try.func36
  hname := by kernel_rfl
  body := f36_b
  hbody := by kernel_rfl
  res := [rTmp 2]
  hres := by kernel_rfl
  n := 10
  hn := by kernel_rfl

/-! ### 14: interlock/interlockref00.SameBytes (22, 22); results 4; slots: 0 a, 1 b, 2 a, 3 b, 5 i -/
/-- A loop's round; at its head live: 0 a, 1 b, 5 i -/
noncomputable def f14_l0 : Sim Try.prog :=
  (.seq (.seq (.live [0, 1, 5, 14] (.region 4 [
    ⟨(opMove (some 11) (.tmp 5) 3 "ref.go:18" #[]).op, none⟩,
    ⟨(opMove (some 12) (.tmp 0) 22 "ref.go:18" #[]).op, none⟩,
    ⟨(opLen (some 13) (.tmp 12) 22 (.slice 5) Try.underlying22 3 "ref.go:18" #[{ on := 1, ground := Ground.data }]).op, none⟩,
    ⟨(opBin (some 14) .lss 3 (.tmp 11) (.tmp 13) 3 4 "ref.go:18" #[{ on := 0, ground := Ground.data }, { on := 2, ground := Ground.data }]).op, none⟩
  ] (by kernel_rfl)))
  (.cond (.tmp 14)
    .skip
    (.live [] (.exit 0))))
  (.seq (.block 1 (.seq (.live [0, 1, 5, 25] (.draw 6 [
      ⟨.p (opMove (some 17) (.tmp 0) 22 "ref.go:19" #[]), none⟩,
      ⟨.p (opMove (some 18) (.tmp 5) 3 "ref.go:19" #[]), none⟩,
      ⟨.pn (opIndexAddr (some 19) 22 (.tmp 17) (.tmp 18) 5 1 Try.underlying22 sz5 0 "ref.go:19" #[{ on := 0, ground := Ground.data }, { on := 1, ground := Ground.data }]) opIndexAddr_nat, none⟩,
      ⟨.qn (opLoad (some 20) 5 (.tmp 19) (.int .u8) Try.underlying5 1 sz5 5 "ref.go:19" #[{ on := 2, ground := Ground.data }]) opLoad_nat, none⟩,
      ⟨.p (opMove (some 21) (.tmp 1) 22 "ref.go:19" #[]), none⟩,
      ⟨.p (opMove (some 22) (.tmp 5) 3 "ref.go:19" #[]), none⟩,
      ⟨.pn (opIndexAddr (some 23) 22 (.tmp 21) (.tmp 22) 5 1 Try.underlying22 sz5 0 "ref.go:19" #[{ on := 4, ground := Ground.data }, { on := 5, ground := Ground.data }]) opIndexAddr_nat, none⟩,
      ⟨.qn (opLoad (some 24) 5 (.tmp 23) (.int .u8) Try.underlying5 1 sz5 5 "ref.go:19" #[{ on := 6, ground := Ground.data }]) opLoad_nat, none⟩,
      ⟨.pn (opBin (some 25) .neq 5 (.tmp 20) (.tmp 24) 5 4 "ref.go:19" #[{ on := 3, ground := Ground.data }, { on := 7, ground := Ground.data }]) opBin_nat, none⟩
    ] mixed (by kernel_rfl)))
    (.cond (.tmp 25)
      (.seq (.live [4] (.region 7 [
        ⟨(opAssign (some 4) (.const (Value.bool false)) 4 "ref.go:20" #[]).op, none⟩
      ] (by kernel_rfl)))
      (.live [4] .ret))
      .skip)))
  (.live [0, 1, 5] (.region 5 [
    ⟨(opMove (some 15) (.tmp 5) 3 "ref.go:18" #[]).op, none⟩,
    ⟨(opBin (some 16) .add 3 (.tmp 15) (.const (Value.int IntKind.i64 1)) 3 3 "ref.go:18" #[{ on := 0, ground := Ground.data }]).op, none⟩,
    ⟨(opAssign (some 5) (.tmp 16) 3 "ref.go:18" #[{ on := 1, ground := Ground.data }, { on := 0, ground := Ground.phase }, { on := 1, ground := Ground.phase }]).op, none⟩
  ] (by kernel_rfl)))))

/-- What follows a loop. -/
noncomputable def f14_r0 : Sim Try.prog :=
  (.seq (.live [4] (.region 8 [
    ⟨(opAssign (some 4) (.const (Value.bool true)) 4 "ref.go:23" #[]).op, none⟩
  ] (by kernel_rfl)))
  (.live [4] .ret))

noncomputable def f14_b : Sim Try.prog :=
  (.seq (.live [0, 1] (.region 0 [
    ⟨(opAssign (some 4) (.const (Value.bool false)) 4 "ref.go:14" #[]).op, none⟩
  ] (by kernel_rfl)))
  (.seq (.seq (.live [0, 1, 10] (.region 1 [
    ⟨(opMove (some 6) (.tmp 0) 22 "ref.go:15" #[]).op, none⟩,
    ⟨(opLen (some 7) (.tmp 6) 22 (.slice 5) Try.underlying22 3 "ref.go:15" #[{ on := 0, ground := Ground.data }]).op, none⟩,
    ⟨(opMove (some 8) (.tmp 1) 22 "ref.go:15" #[]).op, none⟩,
    ⟨(opLen (some 9) (.tmp 8) 22 (.slice 5) Try.underlying22 3 "ref.go:15" #[{ on := 2, ground := Ground.data }]).op, none⟩,
    ⟨(opBin (some 10) .neq 3 (.tmp 7) (.tmp 9) 3 4 "ref.go:15" #[{ on := 1, ground := Ground.data }, { on := 3, ground := Ground.data }]).op, none⟩
  ] (by kernel_rfl)))
  (.cond (.tmp 10)
    (.seq (.live [4] (.region 2 [
      ⟨(opAssign (some 4) (.const (Value.bool false)) 4 "ref.go:16" #[]).op, none⟩
    ] (by kernel_rfl)))
    (.live [4] .ret))
    .skip))
  (.seq (.seq (.live [0, 1, 5] (.region 3 [
    ⟨(opAssign (some 5) (.const (Value.int IntKind.i64 0)) 3 "ref.go:18" #[]).op, none⟩
  ] (by kernel_rfl)))
  (.block 0 (.loop [0, 1, 5] f14_l0)))
  f14_r0)))

noncomputable def f14 : Fun Try.prog where
  id := 14
  fn := Try.f14
  hf := Try.func14
  hname := by kernel_rfl
  body := f14_b
  hbody := by kernel_rfl
  res := [rTmp 4]
  hres := by kernel_rfl
  n := 26
  hn := by kernel_rfl

/-! ### 25: interlock/interlockref00.CopyBytes (22); results 2; slots: 0 b, 1 b, 3 out -/
noncomputable def f25_b : Sim Try.prog :=
  (.seq (.live [0] (.region 0 [
    ⟨(opAssign (some 2) (.const (Value.slice none 0 0)) 22 "ref.go:7" #[]).op, none⟩
  ] (by kernel_rfl)))
  (.seq (.live [0, 3] (.region 1 [
    ⟨(opBuildSlice (some 4) 22 0 [] 5 1 1 (.int .u8 0) el22 (by kernel_rfl) (by decide) 22 "ref.go:8" #[]).op, none⟩,
    ⟨(opAssign (some 3) (.tmp 4) 22 "ref.go:8" #[{ on := 0, ground := Ground.data }, { on := 0, ground := Ground.phase }]).op, none⟩
  ] (by kernel_rfl)))
  (.seq (.live [3] (.region 2 [
    ⟨(opMove (some 5) (.tmp 3) 22 "ref.go:9" #[]).op, none⟩,
    ⟨(opMove (some 6) (.tmp 0) 22 "ref.go:9" #[]).op, none⟩,
    ⟨(opAppend (some 7) (.tmp 5) (.tmp 6) 22 22 5 1 1 (.int .u8 0) el22 (.slice 5) Try.underlying22 rfl 22 "ref.go:9" #[{ on := 0, ground := Ground.data }, { on := 1, ground := Ground.data }]).op, none⟩,
    ⟨(opAssign (some 3) (.tmp 7) 22 "ref.go:9" #[{ on := 2, ground := Ground.data }, { on := 2, ground := Ground.chain }, { on := 0, ground := Ground.phase }, { on := 1, ground := Ground.phase }, { on := 2, ground := Ground.phase }]).op, none⟩
  ] (by kernel_rfl)))
  (.seq (.live [2] (.region 3 [
    ⟨(opMove (some 8) (.tmp 3) 22 "ref.go:10" #[]).op, none⟩,
    ⟨(opAssign (some 2) (.tmp 8) 22 "ref.go:10" #[{ on := 0, ground := Ground.data }, { on := 0, ground := Ground.phase }]).op, none⟩
  ] (by kernel_rfl)))
  (.live [2] .ret)))))

noncomputable def f25 : Fun Try.prog where
  id := 25
  fn := Try.f25
  hf := Try.func25
  hname := by kernel_rfl
  body := f25_b
  hbody := by kernel_rfl
  res := [rTmp 2]
  hres := by kernel_rfl
  n := 9
  hn := by kernel_rfl

/-! ### 34: (*interlock/bits.Reader).fail (24); results ; slots: 0 r, 1 r -/
noncomputable def f34_b : Sim Try.prog :=
  (.live [] (.region 0 [
    ⟨(opMove (some 2) (.tmp 0) 24 "bits.go:50" #[]).op, none⟩,
    ⟨(opMove (some 3) (.tmp 0) 24 "bits.go:50" #[{ on := 4, ground := (Ground.gcOnly Departure.lateStores) }]).op, none⟩,
    ⟨(opNilCheck (some 4) (.tmp 2) 0 "bits.go:50" #[{ on := 0, ground := Ground.data }, { on := 0, ground := Ground.phase }, { on := 1, ground := (Ground.textOnly Departure.lateStores) }]).op, none⟩,
    ⟨(opFieldAddr (some 5) 48 (.tmp 4) 0 0 1 false fl48_0 (by decide) 0 "bits.go:50" #[{ on := 2, ground := Ground.data }, { on := 0, ground := Ground.phase }, { on := 1, ground := (Ground.textOnly Departure.lateStores) }]).op, none⟩,
    ⟨(opStore none 22 (.tmp 5) (.const (Value.slice none 0 0)) 1 sz22 0 "bits.go:50" #[{ on := 3, ground := Ground.data }, { on := 0, ground := Ground.phase }, { on := 1, ground := (Ground.textOnly Departure.lateStores) }]).op, none⟩,
    ⟨(opNilCheck (some 6) (.tmp 3) 0 "bits.go:50" #[{ on := 1, ground := Ground.data }, { on := 0, ground := Ground.phase }, { on := 1, ground := Ground.phase }, { on := 2, ground := Ground.phase }, { on := 3, ground := Ground.phase }, { on := 4, ground := Ground.phase }]).op, none⟩,
    ⟨(opFieldAddr (some 7) 48 (.tmp 6) 1 1 1 false fl48_1 (by decide) 0 "bits.go:50" #[{ on := 5, ground := Ground.data }, { on := 0, ground := Ground.phase }, { on := 1, ground := Ground.phase }, { on := 2, ground := Ground.phase }, { on := 3, ground := Ground.phase }, { on := 4, ground := Ground.phase }]).op, none⟩,
    ⟨(opStore none 4 (.tmp 7) (.const (Value.bool true)) 1 sz4 0 "bits.go:50" #[{ on := 6, ground := Ground.data }, { on := 4, ground := Ground.chain }, { on := 0, ground := Ground.phase }, { on := 1, ground := Ground.phase }, { on := 2, ground := Ground.phase }, { on := 3, ground := Ground.phase }, { on := 4, ground := Ground.phase }]).op, none⟩
  ] (by kernel_rfl)))

noncomputable def f34 : Fun Try.prog where
  id := 34
  fn := Try.f34
  hf := Try.func34
  hname := by kernel_rfl
  body := f34_b
  hbody := by kernel_rfl
  res := []
  hres := by kernel_rfl
  n := 8
  hn := by kernel_rfl

/-! ### 12: (*interlock/bits.Reader).Bad (24); results 2; slots: 0 r, 1 r -/
noncomputable def f12_b : Sim Try.prog :=
  (.seq (.live [0] (.region 0 [
    ⟨(opAssign (some 2) (.const (Value.bool false)) 4 "bits.go:129" #[]).op, none⟩
  ] (by kernel_rfl)))
  (.seq (.live [2] (.region 1 [
    ⟨(opMove (some 3) (.tmp 0) 24 "bits.go:129" #[]).op, none⟩,
    ⟨(opNilCheck (some 4) (.tmp 3) 0 "bits.go:129" #[{ on := 0, ground := Ground.data }]).op, none⟩,
    ⟨(opFieldAddr (some 5) 48 (.tmp 4) 1 1 1 false fl48_1 (by decide) 0 "bits.go:129" #[{ on := 1, ground := Ground.data }]).op, none⟩,
    ⟨(opLoad (some 6) 4 (.tmp 5) .bool Try.underlying4 1 sz4 4 "bits.go:129" #[{ on := 2, ground := Ground.data }]).op, none⟩,
    ⟨(opAssign (some 2) (.tmp 6) 4 "bits.go:129" #[{ on := 3, ground := Ground.data }, { on := 0, ground := Ground.phase }, { on := 1, ground := Ground.phase }, { on := 2, ground := Ground.phase }, { on := 3, ground := Ground.phase }]).op, none⟩
  ] (by kernel_rfl)))
  (.live [2] .ret)))

noncomputable def f12 : Fun Try.prog where
  id := 12
  fn := Try.f12
  hf := Try.func12
  hname := by kernel_rfl
  body := f12_b
  hbody := by kernel_rfl
  res := [rTmp 2]
  hres := by kernel_rfl
  n := 7
  hn := by kernel_rfl

/-! ### 13: (*interlock/bits.Reader).Left (24); results 2; slots: 0 r, 1 r -/
noncomputable def f13_b : Sim Try.prog :=
  (.seq (.live [0] (.region 0 [
    ⟨(opAssign (some 2) (.const (Value.int IntKind.i64 0)) 3 "bits.go:126" #[]).op, none⟩
  ] (by kernel_rfl)))
  (.seq (.live [2] (.region 1 [
    ⟨(opMove (some 3) (.tmp 0) 24 "bits.go:126" #[]).op, none⟩,
    ⟨(opNilCheck (some 4) (.tmp 3) 0 "bits.go:126" #[{ on := 0, ground := Ground.data }]).op, none⟩,
    ⟨(opFieldAddr (some 5) 48 (.tmp 4) 0 0 1 false fl48_0 (by decide) 0 "bits.go:126" #[{ on := 1, ground := Ground.data }]).op, none⟩,
    ⟨(opLoad (some 6) 22 (.tmp 5) (.slice 5) Try.underlying22 1 sz22 22 "bits.go:126" #[{ on := 2, ground := Ground.data }]).op, none⟩,
    ⟨(opLen (some 7) (.tmp 6) 22 (.slice 5) Try.underlying22 3 "bits.go:126" #[{ on := 3, ground := Ground.data }]).op, none⟩,
    ⟨(opAssign (some 2) (.tmp 7) 3 "bits.go:126" #[{ on := 4, ground := Ground.data }, { on := 0, ground := Ground.phase }, { on := 1, ground := Ground.phase }, { on := 2, ground := Ground.phase }, { on := 3, ground := Ground.phase }, { on := 4, ground := Ground.phase }]).op, none⟩
  ] (by kernel_rfl)))
  (.live [2] .ret)))

noncomputable def f13 : Fun Try.prog where
  id := 13
  fn := Try.f13
  hf := Try.func13
  hname := by kernel_rfl
  body := f13_b
  hbody := by kernel_rfl
  res := [rTmp 2]
  hres := by kernel_rfl
  n := 8
  hn := by kernel_rfl

/-! ### 24: (*interlock/bits.Reader).Done (24); results 2; slots: 0 r, 1 r -/
noncomputable def f24_b : Sim Try.prog :=
  (.seq (.live [0] (.region 0 [
    ⟨(opAssign (some 2) (.const (Value.bool false)) 4 "bits.go:132" #[]).op, none⟩
  ] (by kernel_rfl)))
  (.seq (.live [2] (.region 1 [
    ⟨(opMove (some 3) (.tmp 0) 24 "bits.go:132" #[]).op, none⟩,
    ⟨(opNilCheck (some 4) (.tmp 3) 0 "bits.go:132" #[{ on := 0, ground := Ground.data }]).op, none⟩,
    ⟨(opFieldAddr (some 5) 48 (.tmp 4) 1 1 1 false fl48_1 (by decide) 0 "bits.go:132" #[{ on := 1, ground := Ground.data }]).op, none⟩,
    ⟨(opLoad (some 6) 4 (.tmp 5) .bool Try.underlying4 1 sz4 4 "bits.go:132" #[{ on := 2, ground := Ground.data }]).op, none⟩,
    ⟨(opNot (some 7) 4 (.tmp 6) 4 "bits.go:132" #[{ on := 3, ground := Ground.data }]).op, none⟩,
    ⟨(opMove (some 8) (.tmp 7) 4 "bits.go:132" #[{ on := 4, ground := Ground.data }]).op, none⟩,
    ⟨(opMove (some 9) (.tmp 0) 24 "bits.go:132" #[{ on := 5, ground := Ground.guard }]).op, (some (5, 8, true))⟩,
    ⟨(opNilCheck (some 10) (.tmp 9) 0 "bits.go:132" #[{ on := 6, ground := Ground.data }, { on := 5, ground := Ground.guard }]).op, (some (5, 8, true))⟩,
    ⟨(opFieldAddr (some 11) 48 (.tmp 10) 0 0 1 false fl48_0 (by decide) 0 "bits.go:132" #[{ on := 7, ground := Ground.data }, { on := 5, ground := Ground.guard }]).op, (some (5, 8, true))⟩,
    ⟨(opLoad (some 12) 22 (.tmp 11) (.slice 5) Try.underlying22 1 sz22 22 "bits.go:132" #[{ on := 8, ground := Ground.data }, { on := 5, ground := Ground.guard }]).op, (some (5, 8, true))⟩,
    ⟨(opLen (some 13) (.tmp 12) 22 (.slice 5) Try.underlying22 3 "bits.go:132" #[{ on := 9, ground := Ground.data }, { on := 5, ground := Ground.guard }]).op, (some (5, 8, true))⟩,
    ⟨(opBin (some 14) .eql 3 (.tmp 13) (.const (Value.int IntKind.i64 0)) 3 4 "bits.go:132" #[{ on := 10, ground := Ground.data }, { on := 5, ground := Ground.guard }]).op, (some (5, 8, true))⟩,
    ⟨(opPick (some 15) (.tmp 8) (.tmp 14) (.const (Value.bool false)) 4 "bits.go:132" #[{ on := 5, ground := Ground.data }, { on := 11, ground := Ground.data }]).op, none⟩,
    ⟨(opAssign (some 2) (.tmp 15) 4 "bits.go:132" #[{ on := 12, ground := Ground.data }, { on := 5, ground := Ground.chain }, { on := 0, ground := Ground.phase }, { on := 1, ground := Ground.phase }, { on := 2, ground := Ground.phase }, { on := 3, ground := Ground.phase }, { on := 4, ground := Ground.phase }, { on := 5, ground := Ground.phase }, { on := 6, ground := Ground.phase }, { on := 7, ground := Ground.phase }, { on := 8, ground := Ground.phase }, { on := 9, ground := Ground.phase }, { on := 10, ground := Ground.phase }, { on := 11, ground := Ground.phase }, { on := 12, ground := Ground.phase }]).op, none⟩
  ] (by kernel_rfl)))
  (.live [2] .ret)))

noncomputable def f24 : Fun Try.prog where
  id := 24
  fn := Try.f24
  hf := Try.func24
  hname := by kernel_rfl
  body := f24_b
  hbody := by kernel_rfl
  res := [rTmp 2]
  hres := by kernel_rfl
  n := 16
  hn := by kernel_rfl

/-! ### 18: interlock/interlockref01.Int (3); results 2; slots: 0 n, 1 n, 3 u, 4 out -/
/-- A loop's round; at its head live: 3 u, 4 out -/
noncomputable def f18_l0 : Sim Try.prog :=
  (.seq (.seq (.live [3, 4, 18] (.region 5 [
    ⟨(opMove (some 17) (.tmp 3) 49 "ref.go:11" #[]).op, none⟩,
    ⟨(opBin (some 18) .geq 49 (.tmp 17) (.const (Value.int IntKind.u64 128)) 49 4 "ref.go:11" #[{ on := 0, ground := Ground.data }]).op, none⟩
  ] (by kernel_rfl)))
  (.cond (.tmp 18)
    .skip
    (.live [3, 4] (.exit 0))))
  (.block 1 (.seq (.live [3, 4] (.region 6 [
      ⟨(opMove (some 19) (.tmp 4) 22 "ref.go:12" #[]).op, none⟩,
      ⟨(opMove (some 20) (.tmp 3) 49 "ref.go:12" #[]).op, none⟩,
      ⟨(opBin (some 21) .rem 49 (.tmp 20) (.const (Value.int IntKind.u64 128)) 49 49 "ref.go:12" #[{ on := 1, ground := Ground.data }]).op, none⟩,
      ⟨(opConvInt (some 22) 49 5 (.tmp 21) (.int .u64) Try.underlying49 .u8 Try.underlying5 5 "ref.go:12" #[{ on := 2, ground := Ground.data }]).op, none⟩,
      ⟨(opBin (some 23) .add 5 (.tmp 22) (.const (Value.int IntKind.u8 128)) 5 5 "ref.go:12" #[{ on := 3, ground := Ground.data }]).op, none⟩,
      ⟨(opBuildSlice (some 24) 22 1 [(0, (.tmp 23))] 5 1 1 (.int .u8 0) el22 (by kernel_rfl) (by decide) 22 "ref.go:12" #[{ on := 4, ground := Ground.data }]).op, none⟩,
      ⟨(opAppend (some 25) (.tmp 19) (.tmp 24) 22 22 5 1 1 (.int .u8 0) el22 (.slice 5) Try.underlying22 rfl 22 "ref.go:12" #[{ on := 0, ground := Ground.data }, { on := 5, ground := Ground.data }]).op, none⟩,
      ⟨(opAssign (some 4) (.tmp 25) 22 "ref.go:12" #[{ on := 6, ground := Ground.data }, { on := 6, ground := Ground.chain }, { on := 0, ground := Ground.phase }, { on := 1, ground := Ground.phase }, { on := 2, ground := Ground.phase }, { on := 3, ground := Ground.phase }, { on := 4, ground := Ground.phase }, { on := 5, ground := Ground.phase }, { on := 6, ground := Ground.phase }]).op, none⟩
    ] (by kernel_rfl)))
    (.live [3, 4] (.region 7 [
      ⟨(opMove (some 26) (.tmp 3) 49 "ref.go:13" #[]).op, none⟩,
      ⟨(opBin (some 27) .quo 49 (.tmp 26) (.const (Value.int IntKind.u64 128)) 49 49 "ref.go:13" #[{ on := 0, ground := Ground.data }]).op, none⟩,
      ⟨(opAssign (some 3) (.tmp 27) 49 "ref.go:13" #[{ on := 1, ground := Ground.data }, { on := 0, ground := Ground.phase }, { on := 1, ground := Ground.phase }]).op, none⟩
    ] (by kernel_rfl))))))

/-- What follows a loop. -/
noncomputable def f18_r0 : Sim Try.prog :=
  (.seq (.live [2] (.region 8 [
    ⟨(opMove (some 28) (.tmp 4) 22 "ref.go:15" #[]).op, none⟩,
    ⟨(opMove (some 29) (.tmp 3) 49 "ref.go:15" #[]).op, none⟩,
    ⟨(opConvInt (some 30) 49 5 (.tmp 29) (.int .u64) Try.underlying49 .u8 Try.underlying5 5 "ref.go:15" #[{ on := 1, ground := Ground.data }]).op, none⟩,
    ⟨(opBuildSlice (some 31) 22 1 [(0, (.tmp 30))] 5 1 1 (.int .u8 0) el22 (by kernel_rfl) (by decide) 22 "ref.go:15" #[{ on := 2, ground := Ground.data }]).op, none⟩,
    ⟨(opAppend (some 32) (.tmp 28) (.tmp 31) 22 22 5 1 1 (.int .u8 0) el22 (.slice 5) Try.underlying22 rfl 22 "ref.go:15" #[{ on := 0, ground := Ground.data }, { on := 3, ground := Ground.data }]).op, none⟩,
    ⟨(opAssign (some 2) (.tmp 32) 22 "ref.go:15" #[{ on := 4, ground := Ground.data }, { on := 4, ground := Ground.chain }, { on := 0, ground := Ground.phase }, { on := 1, ground := Ground.phase }, { on := 2, ground := Ground.phase }, { on := 3, ground := Ground.phase }, { on := 4, ground := Ground.phase }]).op, none⟩
  ] (by kernel_rfl)))
  (.live [2] .ret))

noncomputable def f18_b : Sim Try.prog :=
  (.seq (.live [0] (.region 0 [
    ⟨(opAssign (some 2) (.const (Value.slice none 0 0)) 22 "ref.go:5" #[]).op, none⟩
  ] (by kernel_rfl)))
  (.seq (.live [0, 3] (.region 1 [
    ⟨(opMove (some 5) (.tmp 0) 3 "ref.go:6" #[]).op, none⟩,
    ⟨(opConvInt (some 6) 3 49 (.tmp 5) (.int .i64) Try.underlying3 .u64 Try.underlying49 49 "ref.go:6" #[{ on := 0, ground := Ground.data }]).op, none⟩,
    ⟨(opBin (some 7) .mul 49 (.tmp 6) (.const (Value.int IntKind.u64 2)) 49 49 "ref.go:6" #[{ on := 1, ground := Ground.data }]).op, none⟩,
    ⟨(opAssign (some 3) (.tmp 7) 49 "ref.go:6" #[{ on := 2, ground := Ground.data }, { on := 0, ground := Ground.phase }, { on := 1, ground := Ground.phase }, { on := 2, ground := Ground.phase }]).op, none⟩
  ] (by kernel_rfl)))
  (.seq (.seq (.live [0, 3, 9] (.region 2 [
    ⟨(opMove (some 8) (.tmp 0) 3 "ref.go:7" #[]).op, none⟩,
    ⟨(opBin (some 9) .lss 3 (.tmp 8) (.const (Value.int IntKind.i64 0)) 3 4 "ref.go:7" #[{ on := 0, ground := Ground.data }]).op, none⟩
  ] (by kernel_rfl)))
  (.cond (.tmp 9)
    (.live [3] (.region 3 [
      ⟨(opMove (some 10) (.tmp 0) 3 "ref.go:8" #[]).op, none⟩,
      ⟨(opBin (some 11) .add 3 (.tmp 10) (.const (Value.int IntKind.i64 1)) 3 3 "ref.go:8" #[{ on := 0, ground := Ground.data }]).op, none⟩,
      ⟨(opNeg (some 12) 3 (.tmp 11) 3 "ref.go:8" #[{ on := 1, ground := Ground.data }]).op, none⟩,
      ⟨(opConvInt (some 13) 3 49 (.tmp 12) (.int .i64) Try.underlying3 .u64 Try.underlying49 49 "ref.go:8" #[{ on := 2, ground := Ground.data }]).op, none⟩,
      ⟨(opBin (some 14) .mul 49 (.tmp 13) (.const (Value.int IntKind.u64 2)) 49 49 "ref.go:8" #[{ on := 3, ground := Ground.data }]).op, none⟩,
      ⟨(opBin (some 15) .add 49 (.tmp 14) (.const (Value.int IntKind.u64 1)) 49 49 "ref.go:8" #[{ on := 4, ground := Ground.data }]).op, none⟩,
      ⟨(opAssign (some 3) (.tmp 15) 49 "ref.go:8" #[{ on := 5, ground := Ground.data }, { on := 0, ground := Ground.phase }, { on := 1, ground := Ground.phase }, { on := 2, ground := Ground.phase }, { on := 3, ground := Ground.phase }, { on := 4, ground := Ground.phase }, { on := 5, ground := Ground.phase }]).op, none⟩
    ] (by kernel_rfl)))
    .skip))
  (.seq (.live [3, 4] (.region 4 [
    ⟨(opBuildSlice (some 16) 22 0 [] 5 1 1 (.int .u8 0) el22 (by kernel_rfl) (by decide) 22 "ref.go:10" #[]).op, none⟩,
    ⟨(opAssign (some 4) (.tmp 16) 22 "ref.go:10" #[{ on := 0, ground := Ground.data }, { on := 0, ground := Ground.phase }]).op, none⟩
  ] (by kernel_rfl)))
  (.seq (.block 0 (.loop [3, 4] f18_l0))
  f18_r0)))))

noncomputable def f18 : Fun Try.prog where
  id := 18
  fn := Try.f18
  hf := Try.func18
  hname := by kernel_rfl
  body := f18_b
  hbody := by kernel_rfl
  res := [rTmp 2]
  hres := by kernel_rfl
  n := 33
  hn := by kernel_rfl

/-! ### 32: slices.Clone[[]byte,byte] (22); results 2; slots: 0 s, 1 s -/
noncomputable def f32_b : Sim Try.prog :=
  (.seq (.live [0] (.region 0 [
    ⟨(opAssign (some 2) (.const (Value.slice none 0 0)) 22 "slices.go:355" #[]).op, none⟩
  ] (by kernel_rfl)))
  (.seq (.seq (.live [0, 4] (.region 1 [
    ⟨(opMove (some 3) (.tmp 0) 22 "slices.go:357" #[]).op, none⟩,
    ⟨(opEq (some 4) 22 (.slice 5) Try.underlying22 (.tmp 3) (.const (Value.slice none 0 0)) (.inl rfl) 22 4 "slices.go:357" #[{ on := 0, ground := Ground.data }]).op, none⟩
  ] (by kernel_rfl)))
  (.cond (.tmp 4)
    (.seq (.live [2] (.region 2 [
      ⟨(opAssign (some 2) (.const (Value.slice none 0 0)) 22 "slices.go:358" #[]).op, none⟩
    ] (by kernel_rfl)))
    (.live [2] .ret))
    .skip))
  (.seq (.live [2] (.region 3 [
    ⟨(opBuildSlice (some 5) 22 0 [] 5 1 1 (.int .u8 0) el22 (by kernel_rfl) (by decide) 22 "slices.go:362" #[]).op, none⟩,
    ⟨(opMove (some 6) (.tmp 0) 22 "slices.go:362" #[]).op, none⟩,
    ⟨(opAppend (some 7) (.tmp 5) (.tmp 6) 22 22 5 1 1 (.int .u8 0) el22 (.slice 5) Try.underlying22 rfl 22 "slices.go:362" #[{ on := 0, ground := Ground.data }, { on := 1, ground := Ground.data }]).op, none⟩,
    ⟨(opAssign (some 2) (.tmp 7) 22 "slices.go:362" #[{ on := 2, ground := Ground.data }, { on := 2, ground := Ground.chain }, { on := 0, ground := Ground.phase }, { on := 1, ground := Ground.phase }, { on := 2, ground := Ground.phase }]).op, none⟩
  ] (by kernel_rfl)))
  (.live [2] .ret))))

noncomputable def f32 : Fun Try.prog where
  id := 32
  fn := Try.f32
  hf := Try.func32
  hname := by kernel_rfl
  body := f32_b
  hbody := by kernel_rfl
  res := [rTmp 2]
  hres := by kernel_rfl
  n := 8
  hn := by kernel_rfl

end Go.Proofs.Ytjdpfblmhahfkaa.V

/- What the functions' runs come to; the right sides were printed by a tool, Lean checks them. -/
set_option linter.unusedVariables false
set_option maxRecDepth 100000
namespace Go.Proofs.Ytjdpfblmhahfkaa.V
open Go Go.V Go.RowKit

theorem fold_run (n : Int) (st : St) :
    (f36.run 0 [.int .i64 n] st : Ans) =
    some
      (Fin.ret
          (AV.int IntKind.u64
            (bitsI BinOp.xor IntKind.u64 (IntKind.u64.wrap (IntKind.u64.wrap n * 2))
              (IntKind.u64.wrap (n.fdiv 9223372036854775808)))),
        st) := by kernel_rfl

theorem unfold_run (u : Int) (st : St) :
    (f35.run 0 [.int .u64 u] st : Ans) =
    some
      (Fin.ret
          (AV.int IntKind.i64
            (bitsI BinOp.xor IntKind.i64 (IntKind.i64.wrap (u.fdiv 2))
              (IntKind.i64.wrap (0 - IntKind.i64.wrap (bitsI BinOp.and IntKind.u64 u 1))))),
        st) := by kernel_rfl

theorem digits_run (F : Nat) (f : Bool) (l : List (List AV)) (st : St) :
    (f33.run F [.sl 1 f l] st : Ans) =
    if 0 ≤ leastI false (↑l.length : Int) 10 ∧ leastI false (↑l.length : Int) 10 ≤ (↑l.length : Int) then
      loopRun (f33_l0.run F) [4, 12, 13, 14]
        (Cont.block 0 (Cont.then (f33_r0.run F (f33.leaveK Fun.done)) (f33.leaveK Fun.done))) F
        (Env.mk 46
          [(4, AV.int IntKind.u64 0),
            (12,
              AV.sl 1 (f && (leastI false (↑l.length : Int) 10).toNat.beq l.length)
                (List.drop 0 (List.take (leastI false (↑l.length : Int) 10).toNat l))),
            (13, AV.int IntKind.i64 (↑(List.drop 0 (List.take (leastI false (↑l.length : Int) 10).toNat l)).length : Int)),
            (14, AV.int IntKind.i64 0)])
        st
    else none := by kernel_rfl

theorem digits_nil (F : Nat) (st : St) :
    (f33.run F.succ [.nilsl] st : Ans) =
    some (Fin.ret (AV.tup [AV.int IntKind.u64 0, AV.int IntKind.i64 0]), st) := by kernel_rfl

theorem digits_round_raw (F n : Nat) (K : Cont) (u i c : Int) (f : Bool) (l : List (List AV)) (st : St) :
    (loopRun (f33_l0.run F) [4, 12, 13, 14] K n.succ (Env.mk 46 [(4, .int .u64 u), (12, .sl 1 f l), (13, .int .i64 l.length), (14, .int .i64 i)]) st : Ans) =
    branch (AV.bool (decide (i < (↑l.length : Int))))
      (onSome (elemAt l i) none fun (o : List AV) =>
        onCons o none fun (x : AV) (l_1 : List AV) =>
          onInt x fun (a : IntKind) (a_1 : Int) =>
            if a = IntKind.u8 then
              branch (AV.bool (i == 9))
                (branch (AV.bool (decide (IntKind.u64.wrap (bitsI BinOp.andNot a a_1 128) > 1)))
                  (K AX.ret (Env.mk 46 [(2, AV.int IntKind.u64 0), (3, AV.int IntKind.i64 0)]) st)
                  (if 0 ≤ IntKind.i64.wrap (7 * i) then
                    onInt x fun (a_2 : IntKind) (a_3 : Int) =>
                      if a_2 = IntKind.u8 then
                        branch (AV.bool (decide (a_3 < 128)))
                          (branch (AV.bool (IntKind.u64.wrap (bitsI BinOp.andNot a a_1 128) == 0))
                            (branch (AV.bool (decide (i > 0)))
                              (K AX.ret (Env.mk 46 [(2, AV.int IntKind.u64 0), (3, AV.int IntKind.i64 0)]) st)
                              (K AX.ret
                                (Env.mk 46
                                  [(2,
                                      AV.int IntKind.u64
                                        (bitsI BinOp.or IntKind.u64 u
                                          (IntKind.u64.wrap
                                            (IntKind.u64.wrap (bitsI BinOp.andNot a a_1 128) *
                                              2 ^ min (IntKind.i64.wrap (7 * i)).toNat 64)))),
                                    (3, AV.int IntKind.i64 (IntKind.i64.wrap (i + 1)))])
                                st))
                            (K AX.ret
                              (Env.mk 46
                                [(2,
                                    AV.int IntKind.u64
                                      (bitsI BinOp.or IntKind.u64 u
                                        (IntKind.u64.wrap
                                          (IntKind.u64.wrap (bitsI BinOp.andNot a a_1 128) *
                                            2 ^ min (IntKind.i64.wrap (7 * i)).toNat 64)))),
                                  (3, AV.int IntKind.i64 (IntKind.i64.wrap (i + 1)))])
                              st))
                          (loopRun (f33_l0.run F) [4, 12, 13, 14] K n
                            (Env.mk 46
                              [(4,
                                  AV.int IntKind.u64
                                    (bitsI BinOp.or IntKind.u64 u
                                      (IntKind.u64.wrap
                                        (IntKind.u64.wrap (bitsI BinOp.andNot a a_1 128) *
                                          2 ^ min (IntKind.i64.wrap (7 * i)).toNat 64)))),
                                (12, AV.sl 1 f l), (13, AV.int IntKind.i64 (↑l.length : Int)),
                                (14, AV.int IntKind.i64 (IntKind.i64.wrap (i + 1)))])
                            st)
                      else none
                  else none))
                (if 0 ≤ IntKind.i64.wrap (7 * i) then
                  onInt x fun (a_2 : IntKind) (a_3 : Int) =>
                    if a_2 = IntKind.u8 then
                      branch (AV.bool (decide (a_3 < 128)))
                        (branch (AV.bool (IntKind.u64.wrap (bitsI BinOp.andNot a a_1 128) == 0))
                          (branch (AV.bool (decide (i > 0)))
                            (K AX.ret (Env.mk 46 [(2, AV.int IntKind.u64 0), (3, AV.int IntKind.i64 0)]) st)
                            (K AX.ret
                              (Env.mk 46
                                [(2,
                                    AV.int IntKind.u64
                                      (bitsI BinOp.or IntKind.u64 u
                                        (IntKind.u64.wrap
                                          (IntKind.u64.wrap (bitsI BinOp.andNot a a_1 128) *
                                            2 ^ min (IntKind.i64.wrap (7 * i)).toNat 64)))),
                                  (3, AV.int IntKind.i64 (IntKind.i64.wrap (i + 1)))])
                              st))
                          (K AX.ret
                            (Env.mk 46
                              [(2,
                                  AV.int IntKind.u64
                                    (bitsI BinOp.or IntKind.u64 u
                                      (IntKind.u64.wrap
                                        (IntKind.u64.wrap (bitsI BinOp.andNot a a_1 128) *
                                          2 ^ min (IntKind.i64.wrap (7 * i)).toNat 64)))),
                                (3, AV.int IntKind.i64 (IntKind.i64.wrap (i + 1)))])
                            st))
                        (loopRun (f33_l0.run F) [4, 12, 13, 14] K n
                          (Env.mk 46
                            [(4,
                                AV.int IntKind.u64
                                  (bitsI BinOp.or IntKind.u64 u
                                    (IntKind.u64.wrap
                                      (IntKind.u64.wrap (bitsI BinOp.andNot a a_1 128) *
                                        2 ^ min (IntKind.i64.wrap (7 * i)).toNat 64)))),
                              (12, AV.sl 1 f l), (13, AV.int IntKind.i64 (↑l.length : Int)),
                              (14, AV.int IntKind.i64 (IntKind.i64.wrap (i + 1)))])
                          st)
                    else none
                else none)
            else none)
      (K (AX.exit 0) (Env.mk 46 []) st) := by kernel_rfl

theorem digits_round (F n : Nat) (K : Cont) (u i c : Int) (f : Bool) (l : List (List AV)) (st : St) (h0 : elemAt l i = some [.int .u8 c]) :
    (loopRun (f33_l0.run F) [4, 12, 13, 14] K n.succ (Env.mk 46 [(4, .int .u64 u), (12, .sl 1 f l), (13, .int .i64 l.length), (14, .int .i64 i)]) st : Ans) =
    branch (AV.bool (decide (i < (↑l.length : Int))))
      (branch (AV.bool (i == 9))
        (branch (AV.bool (decide (IntKind.u64.wrap (bitsI BinOp.andNot IntKind.u8 c 128) > 1)))
          (K AX.ret (Env.mk 46 [(2, AV.int IntKind.u64 0), (3, AV.int IntKind.i64 0)]) st)
          (if 0 ≤ IntKind.i64.wrap (7 * i) then
            branch (AV.bool (decide (c < 128)))
              (branch (AV.bool (IntKind.u64.wrap (bitsI BinOp.andNot IntKind.u8 c 128) == 0))
                (branch (AV.bool (decide (i > 0)))
                  (K AX.ret (Env.mk 46 [(2, AV.int IntKind.u64 0), (3, AV.int IntKind.i64 0)]) st)
                  (K AX.ret
                    (Env.mk 46
                      [(2,
                          AV.int IntKind.u64
                            (bitsI BinOp.or IntKind.u64 u
                              (IntKind.u64.wrap
                                (IntKind.u64.wrap (bitsI BinOp.andNot IntKind.u8 c 128) *
                                  2 ^ min (IntKind.i64.wrap (7 * i)).toNat 64)))),
                        (3, AV.int IntKind.i64 (IntKind.i64.wrap (i + 1)))])
                    st))
                (K AX.ret
                  (Env.mk 46
                    [(2,
                        AV.int IntKind.u64
                          (bitsI BinOp.or IntKind.u64 u
                            (IntKind.u64.wrap
                              (IntKind.u64.wrap (bitsI BinOp.andNot IntKind.u8 c 128) *
                                2 ^ min (IntKind.i64.wrap (7 * i)).toNat 64)))),
                      (3, AV.int IntKind.i64 (IntKind.i64.wrap (i + 1)))])
                  st))
              (loopRun (f33_l0.run F) [4, 12, 13, 14] K n
                (Env.mk 46
                  [(4,
                      AV.int IntKind.u64
                        (bitsI BinOp.or IntKind.u64 u
                          (IntKind.u64.wrap
                            (IntKind.u64.wrap (bitsI BinOp.andNot IntKind.u8 c 128) *
                              2 ^ min (IntKind.i64.wrap (7 * i)).toNat 64)))),
                    (12, AV.sl 1 f l), (13, AV.int IntKind.i64 (↑l.length : Int)),
                    (14, AV.int IntKind.i64 (IntKind.i64.wrap (i + 1)))])
                st)
          else none))
        (if 0 ≤ IntKind.i64.wrap (7 * i) then
          branch (AV.bool (decide (c < 128)))
            (branch (AV.bool (IntKind.u64.wrap (bitsI BinOp.andNot IntKind.u8 c 128) == 0))
              (branch (AV.bool (decide (i > 0)))
                (K AX.ret (Env.mk 46 [(2, AV.int IntKind.u64 0), (3, AV.int IntKind.i64 0)]) st)
                (K AX.ret
                  (Env.mk 46
                    [(2,
                        AV.int IntKind.u64
                          (bitsI BinOp.or IntKind.u64 u
                            (IntKind.u64.wrap
                              (IntKind.u64.wrap (bitsI BinOp.andNot IntKind.u8 c 128) *
                                2 ^ min (IntKind.i64.wrap (7 * i)).toNat 64)))),
                      (3, AV.int IntKind.i64 (IntKind.i64.wrap (i + 1)))])
                  st))
              (K AX.ret
                (Env.mk 46
                  [(2,
                      AV.int IntKind.u64
                        (bitsI BinOp.or IntKind.u64 u
                          (IntKind.u64.wrap
                            (IntKind.u64.wrap (bitsI BinOp.andNot IntKind.u8 c 128) *
                              2 ^ min (IntKind.i64.wrap (7 * i)).toNat 64)))),
                    (3, AV.int IntKind.i64 (IntKind.i64.wrap (i + 1)))])
                st))
            (loopRun (f33_l0.run F) [4, 12, 13, 14] K n
              (Env.mk 46
                [(4,
                    AV.int IntKind.u64
                      (bitsI BinOp.or IntKind.u64 u
                        (IntKind.u64.wrap
                          (IntKind.u64.wrap (bitsI BinOp.andNot IntKind.u8 c 128) *
                            2 ^ min (IntKind.i64.wrap (7 * i)).toNat 64)))),
                  (12, AV.sl 1 f l), (13, AV.int IntKind.i64 (↑l.length : Int)),
                  (14, AV.int IntKind.i64 (IntKind.i64.wrap (i + 1)))])
              st)
        else none))
      (K (AX.exit 0) (Env.mk 46 []) st) := by
  rw [digits_round_raw F n K u i c f l st, h0]
  kernel_rfl

theorem digits_end_raw (F n : Nat) (K : Cont) (u i : Int) (f : Bool) (l : List (List AV)) (st : St) :
    (loopRun (f33_l0.run F) [4, 12, 13, 14] K n.succ (Env.mk 46 [(4, .int .u64 u), (12, .sl 1 f l), (13, .int .i64 l.length), (14, .int .i64 i)]) st : Ans) =
    branch (AV.bool (decide (i < (↑l.length : Int))))
      (onSome (elemAt l i) none fun (o : List AV) =>
        onCons o none fun (x : AV) (l_1 : List AV) =>
          onInt x fun (a : IntKind) (a_1 : Int) =>
            if a = IntKind.u8 then
              branch (AV.bool (i == 9))
                (branch (AV.bool (decide (IntKind.u64.wrap (bitsI BinOp.andNot a a_1 128) > 1)))
                  (K AX.ret (Env.mk 46 [(2, AV.int IntKind.u64 0), (3, AV.int IntKind.i64 0)]) st)
                  (if 0 ≤ IntKind.i64.wrap (7 * i) then
                    onInt x fun (a_2 : IntKind) (a_3 : Int) =>
                      if a_2 = IntKind.u8 then
                        branch (AV.bool (decide (a_3 < 128)))
                          (branch (AV.bool (IntKind.u64.wrap (bitsI BinOp.andNot a a_1 128) == 0))
                            (branch (AV.bool (decide (i > 0)))
                              (K AX.ret (Env.mk 46 [(2, AV.int IntKind.u64 0), (3, AV.int IntKind.i64 0)]) st)
                              (K AX.ret
                                (Env.mk 46
                                  [(2,
                                      AV.int IntKind.u64
                                        (bitsI BinOp.or IntKind.u64 u
                                          (IntKind.u64.wrap
                                            (IntKind.u64.wrap (bitsI BinOp.andNot a a_1 128) *
                                              2 ^ min (IntKind.i64.wrap (7 * i)).toNat 64)))),
                                    (3, AV.int IntKind.i64 (IntKind.i64.wrap (i + 1)))])
                                st))
                            (K AX.ret
                              (Env.mk 46
                                [(2,
                                    AV.int IntKind.u64
                                      (bitsI BinOp.or IntKind.u64 u
                                        (IntKind.u64.wrap
                                          (IntKind.u64.wrap (bitsI BinOp.andNot a a_1 128) *
                                            2 ^ min (IntKind.i64.wrap (7 * i)).toNat 64)))),
                                  (3, AV.int IntKind.i64 (IntKind.i64.wrap (i + 1)))])
                              st))
                          (loopRun (f33_l0.run F) [4, 12, 13, 14] K n
                            (Env.mk 46
                              [(4,
                                  AV.int IntKind.u64
                                    (bitsI BinOp.or IntKind.u64 u
                                      (IntKind.u64.wrap
                                        (IntKind.u64.wrap (bitsI BinOp.andNot a a_1 128) *
                                          2 ^ min (IntKind.i64.wrap (7 * i)).toNat 64)))),
                                (12, AV.sl 1 f l), (13, AV.int IntKind.i64 (↑l.length : Int)),
                                (14, AV.int IntKind.i64 (IntKind.i64.wrap (i + 1)))])
                            st)
                      else none
                  else none))
                (if 0 ≤ IntKind.i64.wrap (7 * i) then
                  onInt x fun (a_2 : IntKind) (a_3 : Int) =>
                    if a_2 = IntKind.u8 then
                      branch (AV.bool (decide (a_3 < 128)))
                        (branch (AV.bool (IntKind.u64.wrap (bitsI BinOp.andNot a a_1 128) == 0))
                          (branch (AV.bool (decide (i > 0)))
                            (K AX.ret (Env.mk 46 [(2, AV.int IntKind.u64 0), (3, AV.int IntKind.i64 0)]) st)
                            (K AX.ret
                              (Env.mk 46
                                [(2,
                                    AV.int IntKind.u64
                                      (bitsI BinOp.or IntKind.u64 u
                                        (IntKind.u64.wrap
                                          (IntKind.u64.wrap (bitsI BinOp.andNot a a_1 128) *
                                            2 ^ min (IntKind.i64.wrap (7 * i)).toNat 64)))),
                                  (3, AV.int IntKind.i64 (IntKind.i64.wrap (i + 1)))])
                              st))
                          (K AX.ret
                            (Env.mk 46
                              [(2,
                                  AV.int IntKind.u64
                                    (bitsI BinOp.or IntKind.u64 u
                                      (IntKind.u64.wrap
                                        (IntKind.u64.wrap (bitsI BinOp.andNot a a_1 128) *
                                          2 ^ min (IntKind.i64.wrap (7 * i)).toNat 64)))),
                                (3, AV.int IntKind.i64 (IntKind.i64.wrap (i + 1)))])
                            st))
                        (loopRun (f33_l0.run F) [4, 12, 13, 14] K n
                          (Env.mk 46
                            [(4,
                                AV.int IntKind.u64
                                  (bitsI BinOp.or IntKind.u64 u
                                    (IntKind.u64.wrap
                                      (IntKind.u64.wrap (bitsI BinOp.andNot a a_1 128) *
                                        2 ^ min (IntKind.i64.wrap (7 * i)).toNat 64)))),
                              (12, AV.sl 1 f l), (13, AV.int IntKind.i64 (↑l.length : Int)),
                              (14, AV.int IntKind.i64 (IntKind.i64.wrap (i + 1)))])
                          st)
                    else none
                else none)
            else none)
      (K (AX.exit 0) (Env.mk 46 []) st) := by kernel_rfl

theorem digits_end (F n : Nat) (K : Cont) (u i : Int) (f : Bool) (l : List (List AV)) (st : St) (h0 : decide (i < (l.length : Int)) = false) :
    (loopRun (f33_l0.run F) [4, 12, 13, 14] K n.succ (Env.mk 46 [(4, .int .u64 u), (12, .sl 1 f l), (13, .int .i64 l.length), (14, .int .i64 i)]) st : Ans) =
    K (AX.exit 0) (Env.mk 46 []) st := by
  rw [digits_end_raw F n K u i f l st, h0]
  kernel_rfl

theorem digits_out (F : Nat) (st : St) :
    ((Cont.block 0 (Cont.then (f33_r0.run F (f33.leaveK Fun.done)) (f33.leaveK Fun.done))) (.exit 0) (Env.mk 46 []) st : Ans) =
    some (Fin.ret (AV.tup [AV.int IntKind.u64 0, AV.int IntKind.i64 0]), st) := by kernel_rfl

theorem digits_ret (F : Nat) (u m : Int) (st : St) :
    ((Cont.block 0 (Cont.then (f33_r0.run F (f33.leaveK Fun.done)) (f33.leaveK Fun.done))) .ret (Env.mk 46 [(2, .int .u64 u), (3, .int .i64 m)]) st : Ans) =
    some (Fin.ret (AV.tup [AV.int IntKind.u64 u, AV.int IntKind.i64 m]), st) := by kernel_rfl

theorem same_run (F : Nat) (f f' : Bool) (l l' : List (List AV)) (st : St) :
    (f14.run F [.sl 1 f l, .sl 1 f' l'] st : Ans) =
    branch (AV.bool ((↑l.length : Int) != (↑l'.length : Int))) (some (Fin.ret (AV.bool false), st))
      (loopRun (f14_l0.run F) [0, 1, 5]
        (Cont.block 0 (Cont.then (f14_r0.run F (f14.leaveK Fun.done)) (f14.leaveK Fun.done))) F
        (Env.mk 26 [(0, AV.sl 1 f l), (1, AV.sl 1 f' l'), (5, AV.int IntKind.i64 0)]) st) := by kernel_rfl

theorem same_round_raw (F n : Nat) (K : Cont) (i a b : Int) (f f' : Bool) (l l' : List (List AV)) (st : St) :
    (loopRun (f14_l0.run F) [0, 1, 5] K n.succ (Env.mk 26 [(0, .sl 1 f l), (1, .sl 1 f' l'), (5, .int .i64 i)]) st : Ans) =
    branch (AV.bool (decide (i < (↑l.length : Int))))
      (onSome (elemAt l i) none fun (o : List AV) =>
        onCons o none fun (x : AV) (l_1 : List AV) =>
          onSome (elemAt l' i) none fun (o : List AV) =>
            onCons o none fun (x_1 : AV) (l_2 : List AV) =>
              onInt x fun (a : IntKind) (a_1 : Int) =>
                onInt x_1 fun (a_2 : IntKind) (a_3 : Int) =>
                  if a = a_2 then
                    branch (AV.bool (a_1 != a_3)) (K AX.ret (Env.mk 26 [(4, AV.bool false)]) st)
                      (loopRun (f14_l0.run F) [0, 1, 5] K n
                        (Env.mk 26
                          [(0, AV.sl 1 f l), (1, AV.sl 1 f' l'), (5, AV.int IntKind.i64 (IntKind.i64.wrap (i + 1)))])
                        st)
                  else none)
      (K (AX.exit 0) (Env.mk 26 []) st) := by kernel_rfl

theorem same_round (F n : Nat) (K : Cont) (i a b : Int) (f f' : Bool) (l l' : List (List AV)) (st : St) (h0 : elemAt l i = some [.int .u8 a]) (h1 : elemAt l' i = some [.int .u8 b]) :
    (loopRun (f14_l0.run F) [0, 1, 5] K n.succ (Env.mk 26 [(0, .sl 1 f l), (1, .sl 1 f' l'), (5, .int .i64 i)]) st : Ans) =
    branch (AV.bool (decide (i < (↑l.length : Int))))
      (branch (AV.bool (a != b)) (K AX.ret (Env.mk 26 [(4, AV.bool false)]) st)
        (loopRun (f14_l0.run F) [0, 1, 5] K n
          (Env.mk 26 [(0, AV.sl 1 f l), (1, AV.sl 1 f' l'), (5, AV.int IntKind.i64 (IntKind.i64.wrap (i + 1)))]) st))
      (K (AX.exit 0) (Env.mk 26 []) st) := by
  rw [same_round_raw F n K i a b f f' l l' st, h0, h1]
  kernel_rfl

theorem copy_run (F : Nat) (f : Bool) (l : List (List AV)) (st : St) :
    (f25.run F [.sl 1 f l] st : Ans) =
    onCons l (some (Fin.ret (AV.sl 1 true []), st)) fun (x : List AV) (l : List (List AV)) =>
      if (0 + (x :: l).length) * 1 ≤ 140737488355328 then
        some (Fin.ret (AV.lg st.tk.length 1 (x :: l)), St.mk st.objs (st.tk ++ [(1, (x :: l).length)]))
      else none := by kernel_rfl

theorem copy_nil (F : Nat) (st : St) :
    (f25.run F [.nilsl] st : Ans) =
    some (Fin.ret (AV.sl 1 true []), st) := by kernel_rfl

theorem clone_run (F : Nat) (f : Bool) (l : List (List AV)) (st : St) :
    (f32.run F [.sl 1 f l] st : Ans) =
    onCons l (some (Fin.ret (AV.sl 1 true []), st)) fun (x : List AV) (l : List (List AV)) =>
      if (0 + (x :: l).length) * 1 ≤ 140737488355328 then
        some (Fin.ret (AV.lg st.tk.length 1 (x :: l)), St.mk st.objs (st.tk ++ [(1, (x :: l).length)]))
      else none := by kernel_rfl

theorem clone_lg (F t : Nat) (l : List (List AV)) (st : St) :
    (f32.run F [.lg t 1 l] st : Ans) =
    onCons l (some (Fin.ret (AV.sl 1 true []), st)) fun (x : List AV) (l : List (List AV)) =>
      if (0 + (x :: l).length) * 1 ≤ 140737488355328 then
        some (Fin.ret (AV.lg st.tk.length 1 (x :: l)), St.mk st.objs (st.tk ++ [(1, (x :: l).length)]))
      else none := by kernel_rfl

theorem clone_nil (F : Nat) (st : St) :
    (f32.run F [.nilsl] st : Ans) =
    some (Fin.ret AV.nilsl, st) := by kernel_rfl

theorem rint_run (F : Nat) (n : Int) (st : St) :
    (f18.run F [.int .i64 n] st : Ans) =
    branch (AV.bool (decide (n < 0)))
      (loopRun (f18_l0.run F) [3, 4] (Cont.block 0 (Cont.then (f18_r0.run F (f18.leaveK Fun.done)) (f18.leaveK Fun.done))) F
        (Env.mk 33
          [(3,
              AV.int IntKind.u64
                (IntKind.u64.wrap
                  (IntKind.u64.wrap (IntKind.u64.wrap (IntKind.i64.wrap (0 - IntKind.i64.wrap (n + 1))) * 2) + 1))),
            (4, AV.sl 1 true [])])
        st)
      (loopRun (f18_l0.run F) [3, 4] (Cont.block 0 (Cont.then (f18_r0.run F (f18.leaveK Fun.done)) (f18.leaveK Fun.done))) F
        (Env.mk 33 [(3, AV.int IntKind.u64 (IntKind.u64.wrap (IntKind.u64.wrap n * 2))), (4, AV.sl 1 true [])]) st) := by kernel_rfl

theorem rint_first (F n : Nat) (K : Cont) (u : Int) (st : St) :
    (loopRun (f18_l0.run F) [3, 4] K n.succ (Env.mk 33 [(3, .int .u64 u), (4, .sl 1 true [])]) st : Ans) =
    branch (AV.bool (decide (u ≥ 128)))
      (loopRun (f18_l0.run F) [3, 4] K n
        (Env.mk 33
          [(3, AV.int IntKind.u64 (IntKind.u64.wrap (u.tdiv 128))),
            (4, AV.lg st.tk.length 1 [[AV.int IntKind.u8 (IntKind.u8.wrap (IntKind.u8.wrap (u.tmod 128) + 128))]])])
        (St.mk st.objs (st.tk ++ [(1, 1)])))
      (K (AX.exit 0) (Env.mk 33 [(3, AV.int IntKind.u64 u), (4, AV.sl 1 true [])]) st) := by kernel_rfl

theorem rint_round (F n t : Nat) (K : Cont) (u : Int) (l : List (List AV)) (st : St) :
    (loopRun (f18_l0.run F) [3, 4] K n.succ (Env.mk 33 [(3, .int .u64 u), (4, .lg t 1 l)]) st : Ans) =
    branch (AV.bool (decide (u ≥ 128)))
      (if st.tk[t]? = some (1, l.length) ∧ (l.length + 1) * 1 ≤ 140737488355328 then
        loopRun (f18_l0.run F) [3, 4] K n
          (Env.mk 33
            [(3, AV.int IntKind.u64 (IntKind.u64.wrap (u.tdiv 128))),
              (4, AV.lg t 1 (l ++ [[AV.int IntKind.u8 (IntKind.u8.wrap (IntKind.u8.wrap (u.tmod 128) + 128))]]))])
          (St.mk st.objs (st.tk.set t (1, l.length + 1)))
      else none)
      (K (AX.exit 0) (Env.mk 33 [(3, AV.int IntKind.u64 u), (4, AV.lg t 1 l)]) st) := by kernel_rfl

theorem rint_out (F t : Nat) (u : Int) (l : List (List AV)) (st : St) :
    ((Cont.block 0 (Cont.then (f18_r0.run F (f18.leaveK Fun.done)) (f18.leaveK Fun.done))) (.exit 0) (Env.mk 33 [(3, .int .u64 u), (4, .lg t 1 l)]) st : Ans) =
    if st.tk[t]? = some (1, l.length) ∧ (l.length + 1) * 1 ≤ 140737488355328 then
      some
        (Fin.ret (AV.lg t 1 (l ++ [[AV.int IntKind.u8 (IntKind.u8.wrap u)]])),
          St.mk st.objs (st.tk.set t (1, l.length + 1)))
    else none := by kernel_rfl

theorem rint_out0 (F : Nat) (u : Int) (st : St) :
    ((Cont.block 0 (Cont.then (f18_r0.run F (f18.leaveK Fun.done)) (f18.leaveK Fun.done))) (.exit 0) (Env.mk 33 [(3, .int .u64 u), (4, .sl 1 true [])]) st : Ans) =
    some (Fin.ret (AV.lg st.tk.length 1 [[AV.int IntKind.u8 (IntKind.u8.wrap u)]]), St.mk st.objs (st.tk ++ [(1, 1)])) := by kernel_rfl

theorem same_end_raw (F n : Nat) (K : Cont) (i : Int) (f f' : Bool) (l l' : List (List AV)) (st : St) :
    (loopRun (f14_l0.run F) [0, 1, 5] K n.succ (Env.mk 26 [(0, .sl 1 f l), (1, .sl 1 f' l'), (5, .int .i64 i)]) st : Ans) =
    branch (AV.bool (decide (i < (↑l.length : Int))))
      (onSome (elemAt l i) none fun (o : List AV) =>
        onCons o none fun (x : AV) (l_1 : List AV) =>
          onSome (elemAt l' i) none fun (o : List AV) =>
            onCons o none fun (x_1 : AV) (l_2 : List AV) =>
              onInt x fun (a : IntKind) (a_1 : Int) =>
                onInt x_1 fun (a_2 : IntKind) (a_3 : Int) =>
                  if a = a_2 then
                    branch (AV.bool (a_1 != a_3)) (K AX.ret (Env.mk 26 [(4, AV.bool false)]) st)
                      (loopRun (f14_l0.run F) [0, 1, 5] K n
                        (Env.mk 26
                          [(0, AV.sl 1 f l), (1, AV.sl 1 f' l'), (5, AV.int IntKind.i64 (IntKind.i64.wrap (i + 1)))])
                        st)
                  else none)
      (K (AX.exit 0) (Env.mk 26 []) st) := by kernel_rfl

theorem same_end (F n : Nat) (K : Cont) (i : Int) (f f' : Bool) (l l' : List (List AV)) (st : St) (h0 : decide (i < (l.length : Int)) = false) :
    (loopRun (f14_l0.run F) [0, 1, 5] K n.succ (Env.mk 26 [(0, .sl 1 f l), (1, .sl 1 f' l'), (5, .int .i64 i)]) st : Ans) =
    K (AX.exit 0) (Env.mk 26 []) st := by
  rw [same_end_raw F n K i f f' l l' st, h0]
  kernel_rfl

theorem same_out (F : Nat) (st : St) :
    ((Cont.block 0 (Cont.then (f14_r0.run F (f14.leaveK Fun.done)) (f14.leaveK Fun.done))) (.exit 0) (Env.mk 26 []) st : Ans) =
    some (Fin.ret (AV.bool true), st) := by kernel_rfl

theorem same_ret (F : Nat) (st : St) :
    ((Cont.block 0 (Cont.then (f14_r0.run F (f14.leaveK Fun.done)) (f14.leaveK Fun.done))) .ret (Env.mk 26 [(4, .bool false)]) st : Ans) =
    some (Fin.ret (AV.bool false), st) := by kernel_rfl

theorem same_nn (F : Nat) (st : St) :
    (f14.run F.succ [.nilsl, .nilsl] st : Ans) =
    some (Fin.ret (AV.bool true), st) := by kernel_rfl

theorem same_ns (F : Nat) (f : Bool) (l : List (List AV)) (st : St) :
    (f14.run F.succ [.nilsl, .sl 1 f l] st : Ans) =
    branch (AV.bool (0 != (↑l.length : Int))) (some (Fin.ret (AV.bool false), st)) (some (Fin.ret (AV.bool true), st)) := by kernel_rfl

theorem same_sn (F : Nat) (f : Bool) (l : List (List AV)) (st : St) :
    (f14.run F.succ [.sl 1 f l, .nilsl] st : Ans) =
    branch (AV.bool ((↑l.length : Int) != 0)) (some (Fin.ret (AV.bool false), st))
      (branch (AV.bool (decide (0 < (↑l.length : Int))))
        (onSome (elemAt l 0) none fun (o : List AV) => onCons o none fun (x : AV) (l : List AV) => none)
        (some (Fin.ret (AV.bool true), st))) := by kernel_rfl

end Go.Proofs.Ytjdpfblmhahfkaa.V

/- Facts on numbers as bits. -/
set_option linter.unusedVariables false
set_option linter.unusedSimpArgs false
namespace Go.V

theorem ofIntNat {w : Nat} {x : Nat} (h : x < 2 ^ w) : (BitVec.ofInt w (x : Int)).toNat = x := by
  rw [BitVec.toNat_ofInt]
  have : ((x : Int) % ((2 ^ w : Nat) : Int)) = (x : Int) := Int.emod_eq_of_lt (by omega) (by exact_mod_cast h)
  rw [this]; rfl

theorem wrapNat {k : IntKind} (hs : k.signed = false) {n : Nat} (h : n < 2 ^ k.bits) : k.wrap (n : Int) = n :=
  wrapU hs (by omega) (by exact_mod_cast h)

theorem bitsOr {k : IntKind} (hs : k.signed = false) {x y : Nat} (hx : x < 2 ^ k.bits) (hy : y < 2 ^ k.bits) : bitsI .or k (x : Int) (y : Int) = ((x ||| y : Nat) : Int) := by
  simp only [bitsI, BitVec.toNat_or, ofIntNat hx, ofIntNat hy]
  exact wrapNat hs (Nat.or_lt_two_pow hx hy)
theorem bitsAnd {k : IntKind} (hs : k.signed = false) {x y : Nat} (hx : x < 2 ^ k.bits) (hy : y < 2 ^ k.bits) : bitsI .and k (x : Int) (y : Int) = ((x &&& y : Nat) : Int) := by
  simp only [bitsI, BitVec.toNat_and, ofIntNat hx, ofIntNat hy]
  exact wrapNat hs (Nat.and_lt_two_pow _ hy)
theorem bitsXor {k : IntKind} (hs : k.signed = false) {x y : Nat} (hx : x < 2 ^ k.bits) (hy : y < 2 ^ k.bits) : bitsI .xor k (x : Int) (y : Int) = ((x ^^^ y : Nat) : Int) := by
  simp only [bitsI, BitVec.toNat_xor, ofIntNat hx, ofIntNat hy]
  exact wrapNat hs (Nat.xor_lt_two_pow hx hy)

theorem or128 {x : Nat} (h : x < 256) : bitsI .or .u8 (x : Int) 128 = ((x % 128 + 128 : Nat) : Int) := by
  have : ∀ x : _root_.Fin 256, (x.1 ||| 128) = x.1 % 128 + 128 := by decide +kernel
  rw [show (128 : Int) = ((128 : Nat) : Int) from rfl, bitsOr rfl (by simpa [IntKind.bits] using h) (by decide)]
  rw [this ⟨x, h⟩]
theorem andNot128 {x : Nat} (h : x < 256) : bitsI .andNot .u8 (x : Int) 128 = ((x % 128 : Nat) : Int) := by
  have h2 : ∀ x : _root_.Fin 256, (BitVec.ofNat 8 x.1 &&& ~~~ BitVec.ofInt 8 128).toNat = x.1 % 128 := by decide +kernel
  have h3 : BitVec.ofInt 8 (x : Int) = BitVec.ofNat 8 x := by
    apply BitVec.eq_of_toNat_eq
    rw [ofIntNat (by simpa using h)]
    simp; omega
  have h4 : (BitVec.ofNat 8 x &&& ~~~ BitVec.ofInt 8 128).toNat = x % 128 := h2 ⟨x, h⟩
  show IntKind.u8.wrap (((BitVec.ofInt 8 (x : Int)) &&& ~~~ BitVec.ofInt 8 128).toNat : Int) = _
  rw [h3, h4]
  exact wrapNat rfl (by simp [IntKind.bits]; omega)

/-- A piece put above what is there. -/
theorem or_above {u d i : Nat} (h : u < 2 ^ i) : u ||| d * 2 ^ i = u + d * 2 ^ i := by
  rw [Nat.or_comm, Nat.mul_comm, ← Nat.two_pow_add_eq_or_of_lt h, Nat.add_comm]

theorem xor_ones {x : Nat} (h : x < 2 ^ 64) : x ^^^ (2 ^ 64 - 1) = 2 ^ 64 - 1 - x := by
  have h1 : ((BitVec.ofNat 64 x) ^^^ BitVec.allOnes 64).toNat = 2 ^ 64 - 1 - x := by
    rw [BitVec.xor_allOnes, BitVec.toNat_not]
    simp [Nat.mod_eq_of_lt h]
  rw [BitVec.toNat_xor, BitVec.toNat_allOnes] at h1
  simpa [Nat.mod_eq_of_lt h] using h1
end Go.V

/- The functions' pieces, as told by gen.py. -/
set_option linter.unusedVariables false
set_option maxRecDepth 20000
namespace Go.Proofs.Ytjdpfblmhahfkaa.V
open Go Go.V Go.RowKit


/-! ### 15: interlock/bits.Int (3); results 2; slots: 0 n, 1 n, 3 out, 4 u -/
/-- A loop's round; at its head live: 3 out, 4 u -/
noncomputable def f15_l0 : Sim Try.prog :=
  (.seq (.seq (.live [3, 4, 8] (.region 3 [
    ⟨(opMove (some 7) (.tmp 4) 49 "bits.go:22" #[]).op, none⟩,
    ⟨(opBin (some 8) .geq 49 (.tmp 7) (.const (Value.int IntKind.u64 128)) 49 4 "bits.go:22" #[{ on := 0, ground := Ground.data }]).op, none⟩
  ] (by kernel_rfl)))
  (.cond (.tmp 8)
    .skip
    (.live [3, 4] (.exit 0))))
  (.seq (.block 1 (.live [3, 4] (.region 5 [
      ⟨(opMove (some 11) (.tmp 3) 22 "bits.go:23" #[]).op, none⟩,
      ⟨(opMove (some 12) (.tmp 4) 49 "bits.go:23" #[]).op, none⟩,
      ⟨(opConvInt (some 13) 49 5 (.tmp 12) (.int .u64) Try.underlying49 .u8 Try.underlying5 5 "bits.go:23" #[{ on := 1, ground := Ground.data }]).op, none⟩,
      ⟨(opBin (some 14) .or 5 (.tmp 13) (.const (Value.int IntKind.u8 128)) 5 5 "bits.go:23" #[{ on := 2, ground := Ground.data }]).op, none⟩,
      ⟨(opBuildSlice (some 15) 22 1 [(0, (.tmp 14))] 5 1 1 (.int .u8 0) el22 (by kernel_rfl) (by decide) 22 "bits.go:23" #[{ on := 3, ground := Ground.data }]).op, none⟩,
      ⟨(opAppend (some 16) (.tmp 11) (.tmp 15) 22 22 5 1 1 (.int .u8 0) el22 (.slice 5) Try.underlying22 rfl 22 "bits.go:23" #[{ on := 0, ground := Ground.data }, { on := 4, ground := Ground.data }]).op, none⟩,
      ⟨(opAssign (some 3) (.tmp 16) 22 "bits.go:23" #[{ on := 5, ground := Ground.data }, { on := 5, ground := Ground.chain }, { on := 0, ground := Ground.phase }, { on := 1, ground := Ground.phase }, { on := 2, ground := Ground.phase }, { on := 3, ground := Ground.phase }, { on := 4, ground := Ground.phase }, { on := 5, ground := Ground.phase }]).op, none⟩
    ] (by kernel_rfl))))
  (.live [3, 4] (.region 4 [
    ⟨(opMove (some 9) (.tmp 4) 49 "bits.go:22" #[]).op, none⟩,
    ⟨(opBin (some 10) .shr 49 (.tmp 9) (.const (Value.int IntKind.u64 7)) 54 49 "bits.go:22" #[{ on := 0, ground := Ground.data }]).op, none⟩,
    ⟨(opAssign (some 4) (.tmp 10) 49 "bits.go:22" #[{ on := 1, ground := Ground.data }, { on := 0, ground := Ground.phase }, { on := 1, ground := Ground.phase }]).op, none⟩
  ] (by kernel_rfl)))))

/-- What follows a loop. -/
noncomputable def f15_r0 : Sim Try.prog :=
  (.seq (.live [2] (.region 6 [
    ⟨(opMove (some 17) (.tmp 3) 22 "bits.go:25" #[]).op, none⟩,
    ⟨(opMove (some 18) (.tmp 4) 49 "bits.go:25" #[]).op, none⟩,
    ⟨(opConvInt (some 19) 49 5 (.tmp 18) (.int .u64) Try.underlying49 .u8 Try.underlying5 5 "bits.go:25" #[{ on := 1, ground := Ground.data }]).op, none⟩,
    ⟨(opBuildSlice (some 20) 22 1 [(0, (.tmp 19))] 5 1 1 (.int .u8 0) el22 (by kernel_rfl) (by decide) 22 "bits.go:25" #[{ on := 2, ground := Ground.data }]).op, none⟩,
    ⟨(opAppend (some 21) (.tmp 17) (.tmp 20) 22 22 5 1 1 (.int .u8 0) el22 (.slice 5) Try.underlying22 rfl 22 "bits.go:25" #[{ on := 0, ground := Ground.data }, { on := 3, ground := Ground.data }]).op, none⟩,
    ⟨(opAssign (some 2) (.tmp 21) 22 "bits.go:25" #[{ on := 4, ground := Ground.data }, { on := 4, ground := Ground.chain }, { on := 0, ground := Ground.phase }, { on := 1, ground := Ground.phase }, { on := 2, ground := Ground.phase }, { on := 3, ground := Ground.phase }, { on := 4, ground := Ground.phase }]).op, none⟩
  ] (by kernel_rfl)))
  (.live [2] .ret))

noncomputable def f15_b : Sim Try.prog :=
  (.seq (.live [0] (.region 0 [
    ⟨(opAssign (some 2) (.const (Value.slice none 0 0)) 22 "bits.go:19" #[]).op, none⟩
  ] (by kernel_rfl)))
  (.seq (.live [0, 3] (.region 1 [
    ⟨(opAssign (some 3) (.const (Value.slice none 0 0)) 22 "bits.go:20" #[]).op, none⟩
  ] (by kernel_rfl)))
  (.seq (.live [3, 4] (.region 2 [
    ⟨(opMove (some 5) (.tmp 0) 3 "bits.go:21" #[]).op, none⟩,
    ⟨opCall (f36.orc 0) (some 6) [(.tmp 5)] #[3] 49 "bits.go:21" #[{ on := 0, ground := Ground.data }], none⟩,
    ⟨(opAssign (some 4) (.tmp 6) 49 "bits.go:21" #[{ on := 1, ground := Ground.data }, { on := 1, ground := Ground.chain }, { on := 0, ground := Ground.phase }, { on := 1, ground := Ground.phase }]).op, none⟩
  ] (by kernel_rfl)))
  (.seq (.block 0 (.loop [3, 4] f15_l0))
  f15_r0))))

noncomputable def f15 : Fun Try.prog where
  id := 15
  fn := Try.f15
  hf := Try.func15
  hname := by kernel_rfl
  body := f15_b
  hbody := by kernel_rfl
  res := [rTmp 2]
  hres := by kernel_rfl
  n := 22
  hn := by kernel_rfl

end Go.Proofs.Ytjdpfblmhahfkaa.V

/- What the functions' runs come to; the right sides were printed by a tool, Lean checks them. -/
set_option linter.unusedVariables false
set_option maxRecDepth 100000
namespace Go.Proofs.Ytjdpfblmhahfkaa.V
open Go Go.V Go.RowKit

theorem int_run (F : Nat) (n : Int) (st : St) :
    (f15.run F [.int .i64 n] st : Ans) =
    loopRun (f15_l0.run F) [3, 4] (Cont.block 0 (Cont.then (f15_r0.run F (f15.leaveK Fun.done)) (f15.leaveK Fun.done))) F
      (Env.mk 22
        [(3, AV.nilsl),
          (4,
            AV.int IntKind.u64
              (bitsI BinOp.xor IntKind.u64 (IntKind.u64.wrap (IntKind.u64.wrap n * 2))
                (IntKind.u64.wrap (n.fdiv 9223372036854775808))))])
      st := by kernel_rfl

theorem int_first (F n : Nat) (K : Cont) (u : Int) (st : St) :
    (loopRun (f15_l0.run F) [3, 4] K n.succ (Env.mk 22 [(3, .nilsl), (4, .int .u64 u)]) st : Ans) =
    branch (AV.bool (decide (u ≥ 128)))
      (loopRun (f15_l0.run F) [3, 4] K n
        (Env.mk 22
          [(3, AV.lg st.tk.length 1 [[AV.int IntKind.u8 (bitsI BinOp.or IntKind.u8 (IntKind.u8.wrap u) 128)]]),
            (4, AV.int IntKind.u64 (u.fdiv 128))])
        (St.mk st.objs (st.tk ++ [(1, 1)])))
      (K (AX.exit 0) (Env.mk 22 [(3, AV.nilsl), (4, AV.int IntKind.u64 u)]) st) := by kernel_rfl

theorem int_round (F n t : Nat) (K : Cont) (u : Int) (l : List (List AV)) (st : St) :
    (loopRun (f15_l0.run F) [3, 4] K n.succ (Env.mk 22 [(3, .lg t 1 l), (4, .int .u64 u)]) st : Ans) =
    branch (AV.bool (decide (u ≥ 128)))
      (if st.tk[t]? = some (1, l.length) ∧ (l.length + 1) * 1 ≤ 140737488355328 then
        loopRun (f15_l0.run F) [3, 4] K n
          (Env.mk 22
            [(3, AV.lg t 1 (l ++ [[AV.int IntKind.u8 (bitsI BinOp.or IntKind.u8 (IntKind.u8.wrap u) 128)]])),
              (4, AV.int IntKind.u64 (u.fdiv 128))])
          (St.mk st.objs (st.tk.set t (1, l.length + 1)))
      else none)
      (K (AX.exit 0) (Env.mk 22 [(3, AV.lg t 1 l), (4, AV.int IntKind.u64 u)]) st) := by kernel_rfl

theorem int_out (F t : Nat) (u : Int) (l : List (List AV)) (st : St) :
    ((Cont.block 0 (Cont.then (f15_r0.run F (f15.leaveK Fun.done)) (f15.leaveK Fun.done))) (.exit 0) (Env.mk 22 [(3, .lg t 1 l), (4, .int .u64 u)]) st : Ans) =
    if st.tk[t]? = some (1, l.length) ∧ (l.length + 1) * 1 ≤ 140737488355328 then
      some
        (Fin.ret (AV.lg t 1 (l ++ [[AV.int IntKind.u8 (IntKind.u8.wrap u)]])),
          St.mk st.objs (st.tk.set t (1, l.length + 1)))
    else none := by kernel_rfl

theorem int_out0 (F : Nat) (u : Int) (st : St) :
    ((Cont.block 0 (Cont.then (f15_r0.run F (f15.leaveK Fun.done)) (f15.leaveK Fun.done))) (.exit 0) (Env.mk 22 [(3, .nilsl), (4, .int .u64 u)]) st : Ans) =
    some (Fin.ret (AV.lg st.tk.length 1 [[AV.int IntKind.u8 (IntKind.u8.wrap u)]]), St.mk st.objs (st.tk ++ [(1, 1)])) := by kernel_rfl

end Go.Proofs.Ytjdpfblmhahfkaa.V

/- Bits: numbers as bytes. -/
set_option linter.unusedVariables false
namespace Go.Proofs.Ytjdpfblmhahfkaa.V
open Go Go.V Go.RowKit

/-- Bytes as rows. -/
def rb (bs : List Nat) : List (List AV) := bs.map fun (b : Nat) => [.int .u8 (b : Int)]
/-- A number's digits, the lowest first; k: how many may follow the first. -/
def encN : Nat → Nat → List Nat
  | 0, u => [u]
  | k + 1, u => if u < 128 then [u] else (u % 128 + 128) :: encN k (u / 128)
/-- A number without a sign. -/
def foldN (n : Int) : Nat := if n < 0 then (-n).toNat * 2 - 1 else n.toNat * 2

theorem rb_append (a b : List Nat) : rb (a ++ b) = rb a ++ rb b := by simp [rb]
theorem rb_length (a : List Nat) : (rb a).length = a.length := by simp [rb]
theorem scoped_rb (n m : Nat) : ∀ l : List Nat, ScopedR n m (rb l)
  | [] => trivial
  | x :: l => ⟨⟨trivial, trivial⟩, scoped_rb n m l⟩
theorem encN_len : ∀ k u, (encN k u).length ≤ k + 1
  | 0, u => by simp [encN]
  | k + 1, u => by
    rw [encN]; split
    · simp
    · simp; exact encN_len k (u / 128)

theorem wrapU64 {n : Nat} (h : n < 18446744073709551616) : IntKind.u64.wrap (n : Int) = n := wrapNat rfl (by simpa [IntKind.bits] using h)
theorem wrapU8 {n : Nat} (h : n < 256) : IntKind.u8.wrap (n : Int) = n := wrapNat rfl (by simpa [IntKind.bits] using h)
theorem wrapU8mod (n : Nat) : IntKind.u8.wrap (n : Int) = ((n % 256 : Nat) : Int) := by
  unfold IntKind.wrap
  simp [IntKind.signed, IntKind.bits]

theorem tk_at (tk : List (Nat × Nat)) (x : Nat × Nat) : (tk ++ [x])[tk.length]? = some x := by simp
theorem tk_set (tk : List (Nat × Nat)) (x y : Nat × Nat) : (tk ++ [x]).set tk.length y = tk ++ [y] := by simp

theorem u_div {u : Nat} (h : u < 18446744073709551616) : IntKind.u64.wrap ((u : Int).tdiv 128) = ((u / 128 : Nat) : Int) := by
  rw [show (u : Int).tdiv 128 = ((u / 128 : Nat) : Int) by rw [show (128 : Int) = ((128 : Nat) : Int) from rfl]; exact (Int.ofNat_tdiv u 128).symm]
  exact wrapU64 (by omega)
theorem u_mod (u : Nat) : IntKind.u8.wrap (IntKind.u8.wrap ((u : Int).tmod 128) + 128) = ((u % 128 + 128 : Nat) : Int) := by
  rw [show (u : Int).tmod 128 = ((u % 128 : Nat) : Int) by rw [show (128 : Int) = ((128 : Nat) : Int) from rfl]; exact (Int.ofNat_tmod u 128).symm]
  rw [wrapU8 (by omega), show ((u % 128 : Nat) : Int) + 128 = ((u % 128 + 128 : Nat) : Int) by omega]
  exact wrapU8 (by omega)

theorem u_shr (u : Nat) : (u : Int).fdiv 128 = ((u / 128 : Nat) : Int) := by
  rw [Int.fdiv_eq_ediv_of_nonneg _ (by omega)]; rfl
theorem u_or (u : Nat) : bitsI .or .u8 (IntKind.u8.wrap (u : Int)) 128 = ((u % 128 + 128 : Nat) : Int) := by
  rw [wrapU8mod, or128 (by omega), show u % 256 % 128 = u % 128 by omega]

theorem rint_loop (F : Nat) (objs : List Ob) (tk : List (Nat × Nat)) : ∀ (k n u : Nat) (l : List (List AV)), u < 128 ^ (k + 1) → u < 18446744073709551616 → k < n → l.length + k < 1000 →
    loopRun (f18_l0.run F) [3, 4] (Cont.block 0 (Cont.then (f18_r0.run F (f18.leaveK Fun.done)) (f18.leaveK Fun.done))) n (Env.mk 33 [(3, .int .u64 u), (4, .lg tk.length 1 l)]) ⟨objs, tk ++ [(1, l.length)]⟩
      = some (.ret (.lg tk.length 1 (l ++ rb (encN k u))), ⟨objs, tk ++ [(1, l.length + (encN k u).length)]⟩)
  | k, 0, u, l, h, hu, hk, hl => by omega
  | 0, n + 1, u, l, h, hu, hk, hl => by
    rw [show n + 1 = n.succ from rfl, rint_round, branch_not (by simp; omega), rint_out, if_pos ⟨tk_at _ _, by omega⟩]
    rw [wrapU8 (by omega)]
    simp [encN, rb]
  | k + 1, n + 1, u, l, h, hu, hk, hl => by
    rw [show n + 1 = n.succ from rfl, rint_round]
    by_cases hb : u < 128
    · rw [branch_not (by simp; omega), rint_out, if_pos ⟨tk_at _ _, by omega⟩, wrapU8 (by omega)]
      simp [encN, rb, hb]
    · rw [branch_of (by simp; omega), if_pos ⟨tk_at _ _, by omega⟩, u_div hu, u_mod]
      simp only [tk_set]
      have ih := rint_loop F objs tk k n (u / 128) (l ++ [[.int .u8 ((u % 128 + 128 : Nat) : Int)]]) (Nat.div_lt_of_lt_mul (by rw [Nat.pow_succ] at h; omega)) (by omega) (by omega) (by simp; omega)
      rw [List.length_append, List.length_singleton] at ih
      rw [ih, show l.length + 1 + (encN k (u / 128)).length = l.length + ((encN k (u / 128)).length + 1) by omega]
      simp only [encN, if_neg hb, rb, List.map_cons, List.append_assoc, List.singleton_append, List.length_cons]

theorem int_loop (F : Nat) (objs : List Ob) (tk : List (Nat × Nat)) : ∀ (k n u : Nat) (l : List (List AV)), u < 128 ^ (k + 1) → u < 18446744073709551616 → k < n → l.length + k < 1000 →
    loopRun (f15_l0.run F) [3, 4] (Cont.block 0 (Cont.then (f15_r0.run F (f15.leaveK Fun.done)) (f15.leaveK Fun.done))) n (Env.mk 22 [(3, .lg tk.length 1 l), (4, .int .u64 u)]) ⟨objs, tk ++ [(1, l.length)]⟩
      = some (.ret (.lg tk.length 1 (l ++ rb (encN k u))), ⟨objs, tk ++ [(1, l.length + (encN k u).length)]⟩)
  | k, 0, u, l, h, hu, hk, hl => by omega
  | 0, n + 1, u, l, h, hu, hk, hl => by
    rw [show n + 1 = n.succ from rfl, int_round, branch_not (by simp; omega), int_out, if_pos ⟨tk_at _ _, by omega⟩]
    rw [wrapU8 (by omega)]
    simp [encN, rb]
  | k + 1, n + 1, u, l, h, hu, hk, hl => by
    rw [show n + 1 = n.succ from rfl, int_round]
    by_cases hb : u < 128
    · rw [branch_not (by simp; omega), int_out, if_pos ⟨tk_at _ _, by omega⟩, wrapU8 (by omega)]
      simp [encN, rb, hb]
    · rw [branch_of (by simp; omega), if_pos ⟨tk_at _ _, by omega⟩, u_shr, u_or]
      simp only [tk_set]
      have ih := int_loop F objs tk k n (u / 128) (l ++ [[.int .u8 ((u % 128 + 128 : Nat) : Int)]]) (Nat.div_lt_of_lt_mul (by rw [Nat.pow_succ] at h; omega)) (by omega) (by omega) (by simp; omega)
      rw [List.length_append, List.length_singleton] at ih
      rw [ih, show l.length + 1 + (encN k (u / 128)).length = l.length + ((encN k (u / 128)).length + 1) by omega]
      simp only [encN, if_neg hb, rb, List.map_cons, List.append_assoc, List.singleton_append, List.length_cons]

theorem rint_all (F n : Nat) (st : St) (u : Nat) (hu : u < 18446744073709551616) :
    loopRun (f18_l0.run F) [3, 4] (Cont.block 0 (Cont.then (f18_r0.run F (f18.leaveK Fun.done)) (f18.leaveK Fun.done))) (n + 11) (Env.mk 33 [(3, .int .u64 u), (4, .sl 1 true [])]) st
      = some (.ret (.lg st.tk.length 1 (rb (encN 9 u))), ⟨st.objs, st.tk ++ [(1, (encN 9 u).length)]⟩) := by
  rw [show n + 11 = (n + 10).succ from rfl, rint_first]
  by_cases hb : u < 128
  · rw [branch_not (by simp; omega), rint_out0, wrapU8 (by omega)]
    simp [encN, rb, hb]
  · rw [branch_of (by simp; omega), u_div hu, u_mod]
    have ih := rint_loop F st.objs st.tk 8 (n + 10) (u / 128) [[.int .u8 ((u % 128 + 128 : Nat) : Int)]] (by omega) (by omega) (by omega) (by simp)
    rw [List.length_singleton] at ih
    rw [ih, show 1 + (encN 8 (u / 128)).length = (encN 8 (u / 128)).length + 1 by omega]
    rw [show encN 9 u = (u % 128 + 128) :: encN 8 (u / 128) from if_neg hb]
    simp only [rb, List.map_cons, List.singleton_append, List.length_cons]
theorem int_all (F n : Nat) (st : St) (u : Nat) (hu : u < 18446744073709551616) :
    loopRun (f15_l0.run F) [3, 4] (Cont.block 0 (Cont.then (f15_r0.run F (f15.leaveK Fun.done)) (f15.leaveK Fun.done))) (n + 11) (Env.mk 22 [(3, .nilsl), (4, .int .u64 u)]) st
      = some (.ret (.lg st.tk.length 1 (rb (encN 9 u))), ⟨st.objs, st.tk ++ [(1, (encN 9 u).length)]⟩) := by
  rw [show n + 11 = (n + 10).succ from rfl, int_first]
  by_cases hb : u < 128
  · rw [branch_not (by simp; omega), int_out0, wrapU8 (by omega)]
    simp [encN, rb, hb]
  · rw [branch_of (by simp; omega), u_shr, u_or]
    have ih := int_loop F st.objs st.tk 8 (n + 10) (u / 128) [[.int .u8 ((u % 128 + 128 : Nat) : Int)]] (by omega) (by omega) (by omega) (by simp)
    rw [List.length_singleton] at ih
    rw [ih, show 1 + (encN 8 (u / 128)).length = (encN 8 (u / 128)).length + 1 by omega]
    rw [show encN 9 u = (u % 128 + 128) :: encN 8 (u / 128) from if_neg hb]
    simp only [rb, List.map_cons, List.singleton_append, List.length_cons]

theorem foldN_lt {n : Int} (h1 : -9223372036854775808 ≤ n) (h2 : n ≤ 9223372036854775807) : foldN n < 18446744073709551616 := by
  unfold foldN; split <;> omega
/-- The reference's fold. -/
theorem rfold_neg {n : Int} (h1 : -9223372036854775808 ≤ n) (h : n < 0) : IntKind.u64.wrap (IntKind.u64.wrap (IntKind.u64.wrap (IntKind.i64.wrap (0 - IntKind.i64.wrap (n + 1))) * 2) + 1) = ((foldN n : Nat) : Int) := by
  rw [wrapS (n := n + 1) (by omega) (by omega), wrapS (by omega) (by omega)]
  obtain ⟨m, hm⟩ : ∃ m : Nat, 0 - (n + 1) = m := ⟨(0 - (n + 1)).toNat, by omega⟩
  rw [hm, wrapU64 (by omega), show (m : Int) * 2 = ((m * 2 : Nat) : Int) by omega, wrapU64 (by omega), show ((m * 2 : Nat) : Int) + 1 = ((m * 2 + 1 : Nat) : Int) by omega, wrapU64 (by omega)]
  unfold foldN
  rw [if_pos h]
  omega
theorem rfold_pos {n : Int} (h2 : n ≤ 9223372036854775807) (h : ¬ n < 0) : IntKind.u64.wrap (IntKind.u64.wrap n * 2) = ((foldN n : Nat) : Int) := by
  obtain ⟨m, rfl⟩ : ∃ m : Nat, n = m := ⟨n.toNat, by omega⟩
  rw [wrapU64 (by omega), show (m : Int) * 2 = ((m * 2 : Nat) : Int) by omega, wrapU64 (by omega)]
  unfold foldN
  rw [if_neg h]
  omega
/-- The program's fold. -/
theorem fold_eq {n : Int} (h1 : -9223372036854775808 ≤ n) (h2 : n ≤ 9223372036854775807) :
    bitsI .xor .u64 (IntKind.u64.wrap (IntKind.u64.wrap n * 2)) (IntKind.u64.wrap (n.fdiv 9223372036854775808)) = ((foldN n : Nat) : Int) := by
  by_cases h : n < 0
  · have e1 : n.fdiv 9223372036854775808 = -1 := by
      rw [Int.fdiv_eq_ediv_of_nonneg _ (by omega)]; omega
    have e2 : IntKind.u64.wrap (-1) = ((18446744073709551615 : Nat) : Int) := by decide
    obtain ⟨m, rfl⟩ : ∃ m : Nat, n = -(m : Int) := ⟨(-n).toNat, by omega⟩
    have e3 : IntKind.u64.wrap (-(m : Int)) = ((18446744073709551616 - m : Nat) : Int) := by
      unfold IntKind.wrap
      simp only [IntKind.signed, IntKind.bits, Bool.false_and, Bool.false_eq_true, if_false]
      omega
    have e4 : IntKind.u64.wrap (((18446744073709551616 - m : Nat) : Int) * 2) = ((18446744073709551616 - 2 * m : Nat) : Int) := by
      unfold IntKind.wrap
      simp only [IntKind.signed, IntKind.bits, Bool.false_and, Bool.false_eq_true, if_false]
      omega
    rw [e1, e2, e3, e4, bitsXor rfl (by simp only [IntKind.bits]; omega) (by decide), show (18446744073709551615 : Nat) = 2 ^ 64 - 1 from rfl, xor_ones (by omega)]
    unfold foldN
    rw [if_pos h]
    omega
  · obtain ⟨m, rfl⟩ : ∃ m : Nat, n = m := ⟨n.toNat, by omega⟩
    have e1 : (m : Int).fdiv 9223372036854775808 = 0 := by
      rw [Int.fdiv_eq_ediv_of_nonneg _ (by omega)]; omega
    rw [e1, rfold_pos h2 h, show IntKind.u64.wrap 0 = ((0 : Nat) : Int) from rfl, bitsXor rfl (by have := foldN_lt (n := (m : Int)) (by omega) h2; simpa [IntKind.bits] using this) (by decide), Nat.xor_zero]

def i64B (n : Int) : Bool := decide (-9223372036854775808 ≤ n) && decide (n ≤ 9223372036854775807)
theorem i64B_spec {n : Int} (h : i64B n = true) : -9223372036854775808 ≤ n ∧ n ≤ 9223372036854775807 := by
  simpa [i64B] using h
/-- A number's bytes. -/
def intBytes (n : Int) : List Nat := encN 9 (foldN n)

theorem f18_spec (n : Int) (h : i64B n = true) (st : St) : f18.run 11 [.int .i64 n] st = some (.ret (.lg st.tk.length 1 (rb (intBytes n))), ⟨st.objs, st.tk ++ [(1, (intBytes n).length)]⟩) := by
  obtain ⟨h1, h2⟩ := i64B_spec h
  rw [rint_run]
  by_cases hn : n < 0
  · rw [branch_of (by simpa using hn), rfold_neg h1 hn]
    exact rint_all 11 0 st _ (foldN_lt h1 h2)
  · rw [branch_not (by simpa using hn), rfold_pos h2 hn]
    exact rint_all 11 0 st _ (foldN_lt h1 h2)
theorem f15_spec (n : Int) (h : i64B n = true) (st : St) : f15.run 11 [.int .i64 n] st = some (.ret (.lg st.tk.length 1 (rb (intBytes n))), ⟨st.objs, st.tk ++ [(1, (intBytes n).length)]⟩) := by
  obtain ⟨h1, h2⟩ := i64B_spec h
  rw [int_run, fold_eq h1 h2]
  exact int_all 11 0 st _ (foldN_lt h1 h2)
end Go.Proofs.Ytjdpfblmhahfkaa.V

/- Bits: numbers as bytes, as callees; equal bytes; copies. -/
set_option linter.unusedVariables false
namespace Go.Proofs.Ytjdpfblmhahfkaa.V
open Go Go.V Go.RowKit

noncomputable def p15 : POrc Try.prog := f15.pureIfX dec1i (fun m => [.int .i64 m]) dec1i_enc i64B (fun n => .sl 1 false (rb (intBytes n))) (fun _ n m => scoped_rb n m _) fun n h =>
  ⟨11, fun st => ⟨_, [], [(1, (intBytes n).length)], rfl, by rw [f15_spec n h, List.append_nil]⟩⟩
noncomputable def p18 : POrc Try.prog := f18.pureIfX dec1i (fun m => [.int .i64 m]) dec1i_enc i64B (fun n => .sl 1 false (rb (intBytes n))) (fun _ n m => scoped_rb n m _) fun n h =>
  ⟨11, fun st => ⟨_, [], [(1, (intBytes n).length)], rfl, by rw [f18_spec n h, List.append_nil]⟩⟩

noncomputable def q15 : OrcS Try.prog := f15.effIf dec1i (fun m => [.int .i64 m]) dec1i_enc (fun n _ => i64B n) (fun n st => (.lg st.tk.length 1 (rb (intBytes n)), ⟨st.objs, st.tk ++ [(1, (intBytes n).length)]⟩)) fun n st h => ⟨11, f15_spec n h st⟩
noncomputable def q18 : OrcS Try.prog := f18.effIf dec1i (fun m => [.int .i64 m]) dec1i_enc (fun n _ => i64B n) (fun n st => (.lg st.tk.length 1 (rb (intBytes n)), ⟨st.objs, st.tk ++ [(1, (intBytes n).length)]⟩)) fun n st h => ⟨11, f18_spec n h st⟩

/-! ### Equal bytes -/
def bytesA (x : AV) : Option (Option (Bool × List (List AV))) :=
  match x with
  | .nilsl => some none
  | .sl 1 f l => some (some (f, l))
  | _ => none
def sameRows : List Int → List Int → Bool
  | [], [] => true
  | a :: l, b :: m => a == b && sameRows l m
  | _, _ => false
theorem same_loop (F : Nat) (f f' : Bool) (st : St) (K : Cont) (bs cs : List Int) (hl : bs.length = cs.length) (hb : bs.length < 9223372036854775807) : ∀ (k i n : Nat), i + k = bs.length → k < n →
    loopRun (f14_l0.run F) [0, 1, 5] K n (Env.mk 26 [(0, .sl 1 f (bs.map fun b => [.int .u8 b])), (1, .sl 1 f' (cs.map fun b => [.int .u8 b])), (5, .int .i64 i)]) st
      = branch (.bool (sameRows (bs.drop i) (cs.drop i))) (K (.exit 0) (Env.mk 26 []) st) (K .ret (Env.mk 26 [(4, .bool false)]) st)
  | 0, i, n + 1, hi, hk => by
    have e1 : bs.drop i = [] := List.drop_eq_nil_of_le (by omega)
    have e2 : cs.drop i = [] := List.drop_eq_nil_of_le (by omega)
    rw [e1, e2, show n + 1 = n.succ from rfl, same_end _ _ _ _ _ _ _ _ _ (by simp; omega)]
    rfl
  | k + 1, i, n + 1, hi, hk => by
    have hi1 : i < bs.length := by omega
    have hi2 : i < cs.length := by omega
    have ih := same_loop F f f' st K bs cs hl hb k (i + 1) n (by omega) (by omega)
    rw [show n + 1 = n.succ from rfl, same_round F n K i bs[i] cs[i] f f' _ _ st (elemAt_nat _ _ _ hi1) (elemAt_nat _ _ _ hi2), branch_of (by simp; omega), wrapS (by omega) (by omega)]
    rw [show ((i : Int) + 1) = ((i + 1 : Nat) : Int) by omega, ih]
    rw [List.drop_eq_getElem_cons hi1, List.drop_eq_getElem_cons hi2]
    simp only [sameRows, branch_ite, bne]
    cases (bs[i] == cs[i]) <;> simp
end Go.Proofs.Ytjdpfblmhahfkaa.V

/- Bits: equal bytes and copies, as callees. -/
set_option linter.unusedVariables false
namespace Go.Proofs.Ytjdpfblmhahfkaa.V
open Go Go.V Go.RowKit

/-- A slice of bytes. -/
inductive Bt where
  | nil
  | sl (f : Bool) (bs : List Int)
def ri (bs : List Int) : List (List AV) := bs.map fun b => [.int .u8 b]
def Bt.av : Bt → AV
  | .nil => .nilsl
  | .sl f bs => .sl 1 f (ri bs)
def Bt.list : Bt → List Int
  | .nil => []
  | .sl _ bs => bs
def decBt (x : AV) : Option Bt :=
  match x with
  | .nilsl => some .nil
  | .sl 1 f l => match numsOf l with
    | some bs => some (.sl f bs)
    | none => none
  | _ => none
theorem numsOf_eq : ∀ {l : List (List AV)} {bs : List Int}, numsOf l = some bs → l = ri bs
  | [], bs, h => by simp only [numsOf, Option.some.injEq] at h; subst h; rfl
  | r :: l, bs, h => by
    unfold numsOf at h
    split at h
    · split at h
      · rename_i n _ ns hn
        simp only [Option.some.injEq] at h
        subst h
        rw [numsOf_eq hn]; rfl
      · cases h
    · cases h
theorem decBt_av {x : AV} {b : Bt} (h : decBt x = some b) : x = b.av := by
  unfold decBt at h
  split at h
  · cases h; rfl
  · split at h
    · rename_i hn; cases h; rw [numsOf_eq hn]; rfl
    · cases h
  · cases h
theorem decBt_of (b : Bt) : decBt b.av = some b := by
  cases b with
  | nil => rfl
  | sl f bs => simp [Bt.av, decBt, ri, numsOf_map]

def dec2b : List AV → Option (Bt × Bt)
  | [x, y] => match decBt x, decBt y with
    | some a, some b => some (a, b)
    | _, _ => none
  | _ => none
theorem dec2b_enc (l : List AV) (a : Bt × Bt) (h : dec2b l = some a) : l = [a.1.av, a.2.av] := by
  unfold dec2b at h
  split at h
  · split at h
    · rename_i h1 h2; cases h; rw [decBt_av h1, decBt_av h2]
    · cases h
  · cases h
def dec1b : List AV → Option Bt
  | [x] => decBt x
  | _ => none
theorem dec1b_enc (l : List AV) (a : Bt) (h : dec1b l = some a) : l = [a.av] := by
  unfold dec1b at h
  split at h
  · rw [decBt_av h]
  · cases h
def small (b : Bt) : Bool := decide (b.list.length < 140737488355328)

theorem sameRows_len : ∀ {a b : List Int}, a.length ≠ b.length → sameRows a b = false
  | [], [], h => absurd rfl h
  | [], _ :: _, _ => rfl
  | _ :: _, [], _ => rfl
  | x :: a, y :: b, h => by
    simp only [sameRows, sameRows_len (a := a) (b := b) (by simpa using h), Bool.and_false]
theorem sameRows_iff : ∀ {a b : List Int}, sameRows a b = true ↔ a = b
  | [], [] => by simp [sameRows]
  | [], _ :: _ => by simp [sameRows]
  | _ :: _, [] => by simp [sameRows]
  | x :: a, y :: b => by simp [sameRows, sameRows_iff (a := a) (b := b)]

noncomputable def p14 : POrc Try.prog := (f14.pureIf dec2b (fun a => [a.1.av, a.2.av]) dec2b_enc (fun a => small a.1) (fun a => .bool (sameRows a.1.list a.2.list)) (fun a _ => ⟨rfl, fun _ _ => trivial⟩) fun a h => by
  obtain ⟨x, y⟩ := a
  refine ⟨x.list.length + 1, fun st => ?_⟩
  cases x with
  | nil =>
    cases y with
    | nil => exact same_nn 0 st
    | sl f bs =>
      show f14.run (0 + 1) [.nilsl, .sl 1 f (ri bs)] st = _
      rw [show 0 + 1 = Nat.succ 0 from rfl, same_ns]
      cases bs with
      | nil => rfl
      | cons b bs => rw [branch_of (by simp [ri, bne]; omega)]; rfl
  | sl f bs =>
    have hs : bs.length < 140737488355328 := of_decide_eq_true h
    cases y with
    | nil =>
      show f14.run (bs.length + 1) [.sl 1 f (ri bs), .nilsl] st = _
      rw [show bs.length + 1 = Nat.succ bs.length from rfl, same_sn]
      cases bs with
      | nil => rfl
      | cons b bs => rw [branch_of (by simp [ri, bne]; omega)]; rfl
    | sl f' cs =>
      show f14.run (bs.length + 1) [.sl 1 f (ri bs), .sl 1 f' (ri cs)] st = some (.ret (.bool (sameRows bs cs)), st)
      rw [same_run]
      by_cases hl : bs.length = cs.length
      · rw [branch_not (by simp [ri, hl])]
        have := same_loop (bs.length + 1) f f' st (Cont.block 0 (Cont.then (f14_r0.run (bs.length + 1) (f14.leaveK Fun.done)) (f14.leaveK Fun.done))) bs cs hl (by omega) bs.length 0 (bs.length + 1) (by omega) (by omega)
        simp only [ri]
        rw [show ((0 : Nat) : Int) = 0 from rfl] at this
        rw [this, same_out, same_ret]
        simp only [List.drop_zero]
        cases sameRows bs cs <;> rfl
      · rw [branch_of (by simp [ri, bne]; omega), sameRows_len hl]).fz

theorem small_sl {f : Bool} {bs : List Int} (h : small (.sl f bs) = true) : bs.length < 140737488355328 := of_decide_eq_true h
/-- What a copy is. -/
noncomputable def p25 : POrc Try.prog := (f25.pureIfX dec1b (fun a => [a.av]) dec1b_enc small (fun a => .sl 1 a.list.isEmpty (ri a.list)) (fun a n m => scoped_ints _ _ _ _) fun a h => ⟨1, fun st => by
  cases a with
  | nil => exact ⟨.sl 1 true [], [], [], rfl, by show f25.run 1 [.nilsl] st = _; rw [copy_nil]; simp⟩
  | sl f bs =>
    have hs := small_sl h
    cases bs with
    | nil => exact ⟨.sl 1 true [], [], [], rfl, by show f25.run 1 [.sl 1 f []] st = _; rw [copy_run]; simp⟩
    | cons b bs =>
      refine ⟨.lg st.tk.length 1 (ri (b :: bs)), [], [(1, (b :: bs).length)], rfl, ?_⟩
      show f25.run 1 [.sl 1 f ([.int .u8 b] :: ri bs)] st = _
      rw [copy_run, onCons_cons, if_pos (by simp only [List.length_cons, ri, List.length_map] at hs ⊢; omega), List.append_nil]
      simp [ri]⟩).fz
noncomputable def p32 : POrc Try.prog := (f32.pureIfX dec1b (fun a => [a.av]) dec1b_enc small (fun a => match a with | .nil => .nilsl | .sl _ bs => .sl 1 bs.isEmpty (ri bs)) (fun a n m => by cases a with | nil => trivial | sl f bs => exact scoped_ints _ _ _ _) fun a h => ⟨1, fun st => by
  cases a with
  | nil => exact ⟨.nilsl, [], [], rfl, by show f32.run 1 [.nilsl] st = _; rw [clone_nil]; simp⟩
  | sl f bs =>
    have hs := small_sl h
    cases bs with
    | nil => exact ⟨.sl 1 true [], [], [], rfl, by show f32.run 1 [.sl 1 f []] st = _; rw [clone_run]; simp⟩
    | cons b bs =>
      refine ⟨.lg st.tk.length 1 (ri (b :: bs)), [], [(1, (b :: bs).length)], rfl, ?_⟩
      show f32.run 1 [.sl 1 f ([.int .u8 b] :: ri bs)] st = _
      rw [clone_run, onCons_cons, if_pos (by simp only [List.length_cons, ri, List.length_map] at hs ⊢; omega), List.append_nil]
      simp [ri]⟩).fz
end Go.Proofs.Ytjdpfblmhahfkaa.V
