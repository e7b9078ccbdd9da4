/- Merged out of 23 texts: what the claim's code comes to, and why. -/
import Derived.Orders
import Derived.OrdersIn
import Derived.Laws.StructEq
import Derived.Laws.IdiomStrings
import Derived.Laws.BytesArg
import Derived.Laws.MakeOwn
import Derived.Lib.SlBytesConst
import Derived.Test.YtnhdjhcpbjggmaaR41
set_option linter.unusedVariables false
set_option linter.unusedSimpArgs false
set_option maxRecDepth 100000
namespace Go.V
section
variable {P : Program}
def QSim.Mono (x : QSim P) : Prop := ∀ ev st o k fin, x.f ev st k = some fin → x.f ev ⟨st.objs ++ [o], st.tk⟩ k = some fin
def MSim.Adds (x : MSim P) : Prop := ∀ ev st r st', x.f ev st (fun r st' => some (.ret r, st')) = some (.ret r, st') → ∃ o, st' = ⟨st.objs ++ [o], st.tk⟩
inductive DK (P : Program) where
 | p (x : PSim P)
 | q (x : QSim P)
 | m (x : MSim P)
 | pn (x : PSim P) (h : x.Nat)
 | qn (x : QSim P) (h : x.Nat)
 | mn (x : MSim P) (h : x.NatM)
 | qm (x : QSim P) (h : x.Nat) (hm : x.Mono)
 | ma (x : MSim P) (ha : x.Adds)
def DK.oper : DK P → Oper
 | .p x => x.oper
 | .q x => x.oper
 | .m x => x.oper
 | .pn x _ => x.oper
 | .qn x _ => x.oper
 | .mn x _ => x.oper
 | .qm x _ _ => x.oper
 | .ma x _ => x.oper
def DK.xs : DK P → List Operand
 | .p x => x.xs
 | .q x => x.xs
 | .m x => x.xs
 | .pn x _ => x.xs
 | .qn x _ => x.xs
 | .mn x _ => x.xs
 | .qm x _ _ => x.xs
 | .ma x _ => x.xs
def DK.reads : DK P → Bool
 | .p _ => false
 | .pn _ _ => false
 | _ => true
def DK.eff : DK P → Bool
 | .m _ => true
 | .mn _ _ => true
 | .ma _ _ => true
 | _ => false
def DK.isQm : DK P → Bool
 | .qm _ _ _ => true
 | _ => false
def DK.isMa : DK P → Bool
 | .ma _ _ => true
 | _ => false
def DK.val : DK P → (Operand → AV) → St → Option (AV × St)
 | .p x, ev, st => match x.f ev fun r => some (.ret r, default) with
  | some (.ret r, _) => some (r, st)
  | _ => none
 | .q x, ev, st => match x.f ev st fun r => some (.ret r, default) with
  | some (.ret r, _) => some (r, st)
  | _ => none
 | .m x, ev, st => match x.f ev st fun r st' => some (.ret r, st') with
  | some (.ret r, st') => some (r, st')
  | _ => none
 | .pn x _, ev, st => match x.f ev fun r => some (.ret r, default) with
  | some (.ret r, _) => some (r, st)
  | _ => none
 | .qn x _, ev, st => match x.f ev st fun r => some (.ret r, default) with
  | some (.ret r, _) => some (r, st)
  | _ => none
 | .mn x _, ev, st => match x.f ev st fun r st' => some (.ret r, st') with
  | some (.ret r, st') => some (r, st')
  | _ => none
 | .qm x _ _, ev, st => match x.f ev st fun r => some (.ret r, default) with
  | some (.ret r, _) => some (r, st)
  | _ => none
 | .ma x _, ev, st => match x.f ev st fun r st' => some (.ret r, st') with
  | some (.ret r, st') => some (r, st')
  | _ => none
def DK.run : DK P → (Operand → AV) → St → (AV → St → Ans) → Ans
 | .pn x _, ev, st, k => x.f ev fun r => k r st
 | .qn x _, ev, st, k => x.f ev st fun r => k r st
 | .mn x _, ev, st, k => x.f ev st k
 | .qm x _ _, ev, st, k => x.f ev st fun r => k r st
 | .ma x ha, ev, st, k => match DK.val (.ma x ha) ev st with
  | some (r, st') => k r st'
  | none => none
 | .p x, ev, st, k => match DK.val (.p x) ev st with
  | some (r, st') => k r st'
  | none => none
 | .q x, ev, st, k => match DK.val (.q x) ev st with
  | some (r, st') => k r st'
  | none => none
 | .m x, ev, st, k => match DK.val (.m x) ev st with
  | some (r, st') => k r st'
  | none => none
theorem thenA_some {a : Ans} {k : AV → Ans} {fin : Fin × St} (h : thenA a k = some fin) : ∃ r s, a = some (.ret r, s) ∧ k r = some fin := by
 unfold thenA at h
 split at h
 ·exact ⟨_, _, rfl, h⟩
 ·cases h
theorem thenM_some {a : Ans} {k : AV → St → Ans} {fin : Fin × St} (h : thenM a k = some fin) : ∃ r s, a = some (.ret r, s) ∧ k r s = some fin := by
 unfold thenM at h
 split at h
 ·exact ⟨_, _, rfl, h⟩
 ·cases h
theorem DK.run_val {x : DK P} {ev : Operand → AV} {st : St} {k : AV → St → Ans} {fin : Fin × St} (h : x.run ev st k = some fin) : ∃ r st', x.val ev st = some (r, st') ∧ k r st' = some fin := by
 cases x with
 | pn x hn =>
  simp only [DK.run] at h
  rw [hn] at h
  obtain ⟨r, s, h1, h2⟩ := thenA_some h
  refine ⟨r, st, ?_, h2⟩
  simp only [DK.val]
  rw [show (x.f ev fun r => some (Fin.ret r, default)) = some (.ret r, s) from h1]
 | qn x hn =>
  simp only [DK.run] at h
  rw [hn] at h
  obtain ⟨r, s, h1, h2⟩ := thenA_some h
  refine ⟨r, st, ?_, h2⟩
  simp only [DK.val]
  rw [show (x.f ev st fun r => some (Fin.ret r, default)) = some (.ret r, s) from h1]
 | mn x hn =>
  simp only [DK.run] at h
  rw [hn] at h
  obtain ⟨r, s, h1, h2⟩ := thenM_some h
  refine ⟨r, s, ?_, h2⟩
  simp only [DK.val]
  rw [show (x.f ev st fun r st' => some (Fin.ret r, st')) = some (.ret r, s) from h1]
 | p x =>
  simp only [DK.run] at h
  split at h
  ·exact ⟨_, _, by assumption, h⟩
  ·cases h
 | q x =>
  simp only [DK.run] at h
  split at h
  ·exact ⟨_, _, by assumption, h⟩
  ·cases h
 | m x =>
  simp only [DK.run] at h
  split at h
  ·exact ⟨_, _, by assumption, h⟩
  ·cases h
 | qm x hn hm =>
  simp only [DK.run] at h
  rw [hn] at h
  obtain ⟨r, s, h1, h2⟩ := thenA_some h
  refine ⟨r, st, ?_, h2⟩
  simp only [DK.val]
  rw [show (x.f ev st fun r => some (Fin.ret r, default)) = some (.ret r, s) from h1]
 | ma x ha =>
  simp only [DK.run] at h
  split at h
  ·exact ⟨_, _, by assumption, h⟩
  ·cases h
theorem DK.val_sound (x : DK P) {ev : Operand → AV} {st st' : St} {r : AV} (h : x.val ev st = some (r, st')) {g : Gh} {w : World} {a : Act} (he : EvR g w ev a x.xs) (hs : StRel g st w) : Told P x.oper a g w r st' := by
 cases x with
 | p x =>
  simp only [DK.val] at h
  split at h
  ·rename_i r' z hx
   simp only [Option.some.injEq, Prod.mk.injEq] at h
   obtain ⟨rfl, rfl⟩ := h
   obtain ⟨r2, h1, h2⟩ := x.sound ev _ _ hx g w a st he hs
   simp only [Option.some.injEq, Prod.mk.injEq, Fin.ret.injEq] at h1
   rw [← h1.1]; exact h2
  ·cases h
 | q x =>
  simp only [DK.val] at h
  split at h
  ·rename_i r' z hx
   simp only [Option.some.injEq, Prod.mk.injEq] at h
   obtain ⟨rfl, rfl⟩ := h
   obtain ⟨r2, h1, h2⟩ := x.sound ev st _ _ hx g w a he hs
   simp only [Option.some.injEq, Prod.mk.injEq, Fin.ret.injEq] at h1
   rw [← h1.1]; exact h2
  ·cases h
 | m x =>
  simp only [DK.val] at h
  split at h
  ·rename_i r' st2 hx
   simp only [Option.some.injEq, Prod.mk.injEq] at h
   obtain ⟨rfl, rfl⟩ := h
   obtain ⟨r2, st3, h1, h2⟩ := x.sound ev st _ _ hx g w a he hs
   simp only [Option.some.injEq, Prod.mk.injEq, Fin.ret.injEq] at h1
   rw [← h1.1, ← h1.2]; exact h2
  ·cases h
 | pn x _ =>
  simp only [DK.val] at h
  split at h
  ·rename_i r' z hx
   simp only [Option.some.injEq, Prod.mk.injEq] at h
   obtain ⟨rfl, rfl⟩ := h
   obtain ⟨r2, h1, h2⟩ := x.sound ev _ _ hx g w a st he hs
   simp only [Option.some.injEq, Prod.mk.injEq, Fin.ret.injEq] at h1
   rw [← h1.1]; exact h2
  ·cases h
 | qn x _ =>
  simp only [DK.val] at h
  split at h
  ·rename_i r' z hx
   simp only [Option.some.injEq, Prod.mk.injEq] at h
   obtain ⟨rfl, rfl⟩ := h
   obtain ⟨r2, h1, h2⟩ := x.sound ev st _ _ hx g w a he hs
   simp only [Option.some.injEq, Prod.mk.injEq, Fin.ret.injEq] at h1
   rw [← h1.1]; exact h2
  ·cases h
 | mn x _ =>
  simp only [DK.val] at h
  split at h
  ·rename_i r' st2 hx
   simp only [Option.some.injEq, Prod.mk.injEq] at h
   obtain ⟨rfl, rfl⟩ := h
   obtain ⟨r2, st3, h1, h2⟩ := x.sound ev st _ _ hx g w a he hs
   simp only [Option.some.injEq, Prod.mk.injEq, Fin.ret.injEq] at h1
   rw [← h1.1, ← h1.2]; exact h2
  ·cases h
 | qm x _ _ =>
  simp only [DK.val] at h
  split at h
  ·rename_i r' z hx
   simp only [Option.some.injEq, Prod.mk.injEq] at h
   obtain ⟨rfl, rfl⟩ := h
   obtain ⟨r2, h1, h2⟩ := x.sound ev st _ _ hx g w a he hs
   simp only [Option.some.injEq, Prod.mk.injEq, Fin.ret.injEq] at h1
   rw [← h1.1]; exact h2
  ·cases h
 | ma x _ =>
  simp only [DK.val] at h
  split at h
  ·rename_i r' st2 hx
   simp only [Option.some.injEq, Prod.mk.injEq] at h
   obtain ⟨rfl, rfl⟩ := h
   obtain ⟨r2, st3, h1, h2⟩ := x.sound ev st _ _ hx g w a he hs
   simp only [Option.some.injEq, Prod.mk.injEq, Fin.ret.injEq] at h1
   rw [← h1.1, ← h1.2]; exact h2
  ·cases h
theorem DK.val_congr (x : DK P) {ev ev' : Operand → AV} (h : ∀ o ∈ x.xs, ev o = ev' o) (st : St) : x.val ev st = x.val ev' st := by
 cases x with
 | p x => simp only [DK.val, x.congr ev ev' _ h]
 | q x => simp only [DK.val, x.congr ev ev' st _ h]
 | m x => simp only [DK.val, x.congr ev ev' st _ h]
 | pn x _ => simp only [DK.val, x.congr ev ev' _ h]
 | qn x _ => simp only [DK.val, x.congr ev ev' st _ h]
 | mn x _ => simp only [DK.val, x.congr ev ev' st _ h]
 | qm x _ _ => simp only [DK.val, x.congr ev ev' st _ h]
 | ma x _ => simp only [DK.val, x.congr ev ev' st _ h]
theorem DK.val_quiet (x : DK P) {ev : Operand → AV} {st st' : St} {r : AV} (h : x.val ev st = some (r, st')) (he : x.eff = false) : st' = st := by
 cases x with
 | p x =>
  simp only [DK.val] at h
  split at h
  ·simp only [Option.some.injEq, Prod.mk.injEq] at h; exact h.2.symm
  ·cases h
 | q x =>
  simp only [DK.val] at h
  split at h
  ·simp only [Option.some.injEq, Prod.mk.injEq] at h; exact h.2.symm
  ·cases h
 | m x => cases he
 | mn x _ => cases he
 | pn x _ =>
  simp only [DK.val] at h
  split at h
  ·simp only [Option.some.injEq, Prod.mk.injEq] at h; exact h.2.symm
  ·cases h
 | qn x _ =>
  simp only [DK.val] at h
  split at h
  ·simp only [Option.some.injEq, Prod.mk.injEq] at h; exact h.2.symm
  ·cases h
 | ma x _ => cases he
 | qm x _ _ =>
  simp only [DK.val] at h
  split at h
  ·simp only [Option.some.injEq, Prod.mk.injEq] at h; exact h.2.symm
  ·cases h
theorem DK.val_pure (x : DK P) {ev : Operand → AV} {st st' : St} {r : AV} (h : x.val ev st = some (r, st')) (he : x.reads = false) (st2 : St) : x.val ev st2 = some (r, st2) := by
 cases x with
 | p x =>
  simp only [DK.val] at h ⊢
  split at h
  ·rename_i r' z hx
   simp only [Option.some.injEq, Prod.mk.injEq] at h
   rw [h.1]
  ·cases h
 | q x => cases he
 | m x => cases he
 | mn x _ => cases he
 | pn x _ =>
  simp only [DK.val] at h ⊢
  split at h
  ·rename_i r' z hx
   simp only [Option.some.injEq, Prod.mk.injEq] at h
   rw [h.1]
  ·cases h
 | qn x _ => cases he
 | qm x _ _ => cases he
 | ma x _ => cases he
theorem DK.val_mono (x : DK P) {ev : Operand → AV} {st st' : St} {r : AV} (h : x.val ev st = some (r, st')) (he : x.isQm = true) (o : Ob) : x.val ev ⟨st.objs ++ [o], st.tk⟩ = some (r, ⟨st.objs ++ [o], st.tk⟩) := by
 cases x with
 | qm x hn hm =>
  simp only [DK.val] at h ⊢
  split at h
  ·rename_i r' z hx
   simp only [Option.some.injEq, Prod.mk.injEq] at h
   rw [hm ev st o _ _ hx, h.1]
  ·cases h
 | _ => cases he
theorem DK.val_adds (x : DK P) {ev : Operand → AV} {st st' : St} {r : AV} (h : x.val ev st = some (r, st')) (he : x.isMa = true) : ∃ o, st' = ⟨st.objs ++ [o], st.tk⟩ := by
 cases x with
 | ma x ha =>
  simp only [DK.val] at h
  split at h
  ·rename_i r' st2 hx
   simp only [Option.some.injEq, Prod.mk.injEq] at h
   rw [← h.2]
   exact ha ev st _ _ hx
  ·cases h
 | _ => cases he
structure DOp (P : Program) where
 k : DK P
 grd : Option (Nat × Nat × Bool)
def DOp.oper (d : DOp P) : Oper := { d.k.oper with guard := d.grd.map fun x => (x.1, x.2.2) }
def DOp.dst (d : DOp P) : Option Tmp := d.k.oper.dst
def tmpsOf : List Operand → List Nat
 | [] => []
 | .tmp t :: r => t :: tmpsOf r
 | _ :: r => tmpsOf r
def DOp.names (d : DOp P) : List Nat :=
 match d.grd with
 | some (_, s, _) => s :: tmpsOf d.k.xs
 | none => tmpsOf d.k.xs
def evOf (ρ : Nat → AV) : Operand → AV
 | .tmp t => ρ t
 | .const v => ofLit v
 | .func f => .fn (.func f) [] []
 | .global _ => .dead
theorem evOf_look (e : Env) : e.eval = evOf (look e.m) := by
 funext x; cases x <;> rfl
theorem evOf_congr {ρ ρ' : Nat → AV} : ∀ {xs : List Operand}, (∀ t ∈ tmpsOf xs, ρ t = ρ' t) → ∀ x ∈ xs, evOf ρ x = evOf ρ' x
 | [], _, x, hx => by simp at hx
 | y :: xs, h, x, hx => by
  simp only [List.mem_cons] at hx
  rcases hx with rfl | hx
  ·cases x with
   | tmp t => exact h t (by simp [tmpsOf])
   | const v => rfl
   | func f => rfl
   | global g => rfl
  ·exact evOf_congr (fun t ht => h t (by cases y <;> simp [tmpsOf, ht])) x hx
def upd (ρ : Nat → AV) (d : Option Tmp) (r : AV) : Nat → AV :=
 match d with
 | none => ρ
 | some d => fun t => match Nat.beq d t with
  | true => r
  | false => ρ t
def DOp.ev (d : DOp P) (ρ : Nat → AV) (st : St) : Option (AV × St) :=
 match d.grd with
 | none => d.k.val (evOf ρ) st
 | some (_, s, b) => match ρ s with
  | .bool c => match c == b with
   | true => d.k.val (evOf ρ) st
   | false => some (.tup [], st)
  | .tup [] => some (.tup [], st)
  | _ => none
def Tr : List (DOp P) → (Nat → AV) → St → List (AV × St) → Prop
 | [], _, _, rs => rs = []
 | o :: l, ρ, st, rs => ∃ r st' rs', rs = (r, st') :: rs' ∧ o.ev ρ st = some (r, st') ∧ Tr l (upd ρ o.dst r) st' rs'
def dstep (d : DK P) (env : Env) (st : St) (k : Env → St → Ans) : Ans :=
 d.run env.eval st fun r st' => k (env.putO d.oper.dst r) st'
def drun : List (DOp P) → (Env → St → Ans) → Env → St → Ans
 | [], k, env, st => k env st
 | o :: l, k, env, st =>
  match o.grd with
  | none => dstep o.k env st (drun l k)
  | some (_, d, b) => gate (look env.m d) b (dstep o.k (env.put d (.bool b)) st (drun l k)) (drun l k ((env.put d (.bool !b)).off o.dst) st) (drun l k (env.off o.dst) st)
def inFrame (n : Nat) (ops : List (DOp P)) : Bool :=
 ops.all fun o => (match o.dst with | some d => Nat.blt d n | none => true) && (match o.grd with | some (_, d, _) => Nat.blt d n | none => true)
theorem look_put {e : Env} {d : Nat} (h : Nat.blt d e.n = true) (v : AV) : look (e.put d v).m = upd (look e.m) (some d) v := by
 funext t
 unfold Env.put
 rw [h]
 simp only [look, upd]
 cases Nat.beq d t <;> rfl
theorem put_n (e : Env) (d : Nat) (v : AV) : (e.put d v).n = e.n := by unfold Env.put; split <;> rfl
theorem look_assume {e : Env} {d : Nat} (h : Nat.blt d e.n = true) {b : Bool} (hl : look e.m d = .bool b) : look (e.put d (.bool b)).m = look e.m := by
 rw [look_put h]
 funext t
 simp only [upd]
 split
 ·rename_i ht
  have : d = t := by simpa using ht
  subst this; exact hl.symm
 ·rfl
theorem drun_tr {k : Env → St → Ans} {fin : Fin × St} : ∀ (ops : List (DOp P)) (env : Env) (st : St), inFrame env.n ops = true → drun ops k env st = some fin →
  ∃ rs env' st', Tr ops (look env.m) st rs ∧ k env' st' = some fin ∧ env'.n = env.n ∧ look env'.m = (ops.zip rs).foldl (fun ρ x => upd ρ x.1.dst x.2.1) (look env.m) ∧ st' = ((rs.getLast?).map (·.2)).getD st
 | [], env, st, _, h => ⟨[], env, st, rfl, h, rfl, rfl, rfl⟩
 | o :: l, env, st, hn, h => by
  have hn' := hn
  simp only [inFrame, List.all_cons, Bool.and_eq_true] at hn'
  obtain ⟨⟨hd, hg⟩, hl⟩ := hn'
  have act : ∀ env1, env1.n = env.n → look env1.m = look env.m → (∀ st, o.ev (look env.m) st = o.k.val (evOf (look env.m)) st) → dstep o.k env1 st (drun l k) = some fin → ∃ rs env' st', Tr (o :: l) (look env.m) st rs ∧ k env' st' = some fin ∧ env'.n = env.n ∧ look env'.m = ((o :: l).zip rs).foldl (fun ρ x => upd ρ x.1.dst x.2.1) (look env.m) ∧ st' = ((rs.getLast?).map (·.2)).getD st := by
   intro env1 h1 h2 h3 h4
   unfold dstep at h4
   obtain ⟨r, st1, hv, h4⟩ := DK.run_val h4
   ·have hp : (env1.putO o.k.oper.dst r).n = env.n ∧ look (env1.putO o.k.oper.dst r).m = upd (look env.m) o.dst r := by
     unfold Env.putO DOp.dst
     cases hdst : o.k.oper.dst with
     | none => exact ⟨h1, h2⟩
     | some d =>
      simp only [DOp.dst, hdst] at hd
      refine ⟨(put_n _ _ _).trans h1, ?_⟩
      simp only
      rw [look_put (by rw [h1]; exact hd), h2]
    obtain ⟨rs, env', st', k1, k2, k3, k4, k5⟩ := drun_tr l (env1.putO o.k.oper.dst r) st1 (by rw [hp.1]; exact hl) h4
    rw [hp.2] at k1 k4
    refine ⟨(r, st1) :: rs, env', st', ⟨r, st1, rs, rfl, ?_, k1⟩, k2, k3.trans hp.1, ?_, ?_⟩
    ·rw [h3, ← h2, ← evOf_look]; exact hv
    ·simpa using k4
    ·rw [k5]; cases rs with
     | nil => rfl
     | cons x rs => simp [List.getLast?_cons]
  unfold drun at h
  cases hgr : o.grd with
  | none =>
   rw [hgr] at h
   exact act env rfl rfl (fun st => by simp [DOp.ev, hgr]) h
  | some x =>
   obtain ⟨j, d, b⟩ := x
   rw [hgr] at h hg
   have hg : Nat.blt d env.n = true := hg
   have yes : look env.m d = .bool b → dstep o.k (env.put d (.bool b)) st (drun l k) = some fin → _ := fun hb h4 =>
    act (env.put d (.bool b)) (put_n _ _ _) (look_assume hg hb) (fun st => by simp [DOp.ev, hgr, hb]) h4
   have no : look env.m d = .bool (!b) → drun l k ((env.put d (.bool !b)).off o.dst) st = some fin → ∃ rs env' st', Tr (o :: l) (look env.m) st rs ∧ k env' st' = some fin ∧ env'.n = env.n ∧ look env'.m = ((o :: l).zip rs).foldl (fun ρ x => upd ρ x.1.dst x.2.1) (look env.m) ∧ st' = ((rs.getLast?).map (·.2)).getD st := by
    intro hb h4
    have hp : ((env.put d (.bool !b)).off o.dst).n = env.n ∧ look ((env.put d (.bool !b)).off o.dst).m = upd (look env.m) o.dst (.tup []) := by
     unfold Env.off
     cases hdst : o.dst with
     | none => exact ⟨put_n _ _ _, look_assume hg hb⟩
     | some d' =>
      rw [hdst] at hd
      refine ⟨(put_n _ _ _).trans (put_n _ _ _), ?_⟩
      simp only
      rw [look_put (by rw [put_n]; exact hd), look_assume hg hb]
    obtain ⟨rs, env', st', k1, k2, k3, k4, k5⟩ := drun_tr l _ st (by rw [hp.1]; exact hl) h4
    rw [hp.2] at k1 k4
    refine ⟨(.tup [], st) :: rs, env', st', ⟨.tup [], st, rs, rfl, ?_, k1⟩, k2, k3.trans hp.1, ?_, ?_⟩
    ·simp only [DOp.ev, hgr, hb]; cases b <;> rfl
    ·simpa using k4
    ·rw [k5]; cases rs with
     | nil => rfl
     | cons x rs => simp [List.getLast?_cons]
   have out : look env.m d = .tup [] → drun l k (env.off o.dst) st = some fin → ∃ rs env' st', Tr (o :: l) (look env.m) st rs ∧ k env' st' = some fin ∧ env'.n = env.n ∧ look env'.m = ((o :: l).zip rs).foldl (fun ρ x => upd ρ x.1.dst x.2.1) (look env.m) ∧ st' = ((rs.getLast?).map (·.2)).getD st := by
    intro hb h4
    have hp : (env.off o.dst).n = env.n ∧ look (env.off o.dst).m = upd (look env.m) o.dst (.tup []) := by
     unfold Env.off
     cases hdst : o.dst with
     | none => exact ⟨rfl, rfl⟩
     | some d' =>
      rw [hdst] at hd
      refine ⟨put_n _ _ _, ?_⟩
      simp only
      rw [look_put hd]
    obtain ⟨rs, env', st', k1, k2, k3, k4, k5⟩ := drun_tr l _ st (by rw [hp.1]; exact hl) h4
    rw [hp.2] at k1 k4
    refine ⟨(.tup [], st) :: rs, env', st', ⟨.tup [], st, rs, rfl, ?_, k1⟩, k2, k3.trans hp.1, ?_, ?_⟩
    ·simp only [DOp.ev, hgr, hb]
    ·simpa using k4
    ·rw [k5]; cases rs with
     | nil => rfl
     | cons x rs => simp [List.getLast?_cons]
   simp only at h
   unfold gate at h
   split at h
   ·rename_i c hc
    cases b with
    | true =>
     cases c with
     | true => exact yes hc h
     | false => exact no hc h
    | false =>
     cases c with
     | true => exact no hc h
     | false => exact yes hc h
   ·rename_i hc; exact out hc h
   ·cases h
def lv (ρ : Nat → AV) : List (DOp P × AV × St) → Nat → (Nat → Bool) → (Nat → AV)
 | [], _, _ => ρ
 | (o, r, _) :: l, k, S => lv (match S k with | true => upd ρ o.dst r | false => ρ) l (k + 1) S
def ls (st : St) : List (DOp P × AV × St) → Nat → (Nat → Bool) → St
 | [], _, _ => st
 | (o, _, s) :: l, k, S => ls (match S k && o.k.eff with | true => s | false => st) l (k + 1) S
theorem upd_other {ρ : Nat → AV} {d : Option Tmp} {r : AV} {t : Nat} (h : d ≠ some t) : upd ρ d r t = ρ t := by
 cases d with
 | none => rfl
 | some d =>
  simp only [upd]
  split
  ·rename_i hd
   have : d = t := by simpa using hd
   subst this; exact absurd rfl h
  ·rfl
theorem upd_same {ρ : Nat → AV} {t : Nat} {r : AV} : upd ρ (some t) r t = r := by simp [upd]
theorem lv_congr {t : Nat} : ∀ (l : List (DOp P × AV × St)) (k : Nat) (ρ ρ' : Nat → AV) (S S' : Nat → Bool), ρ t = ρ' t → (∀ i x, l[i]? = some x → x.1.dst = some t → S (k + i) = S' (k + i)) → lv ρ l k S t = lv ρ' l k S' t
 | [], k, ρ, ρ', S, S', h, _ => h
 | (o, r, s) :: l, k, ρ, ρ', S, S', h, hS => by
  simp only [lv]
  refine lv_congr l (k + 1) _ _ S S' ?_ fun i x hx hd => by have := hS (i + 1) x (by simpa using hx) hd; rwa [show k + (i + 1) = k + 1 + i by omega] at this
  by_cases hd : o.dst = some t
  ·have h0 := hS 0 _ rfl hd
   rw [Nat.add_zero] at h0
   rw [h0]
   cases S' k with
   | true => simp only [hd, upd_same]
   | false => exact h
  ·cases S k <;> cases S' k <;> simp only [upd_other hd] <;> exact h
theorem ls_congr : ∀ (l : List (DOp P × AV × St)) (k : Nat) (st st' : St) (S S' : Nat → Bool), st = st' → (∀ i x, l[i]? = some x → x.1.k.eff = true → S (k + i) = S' (k + i)) → ls st l k S = ls st' l k S'
 | [], k, st, st', S, S', h, _ => h
 | (o, r, s) :: l, k, st, st', S, S', h, hS => by
  simp only [ls]
  refine ls_congr l (k + 1) _ _ S S' ?_ fun i x hx hd => by have := hS (i + 1) x (by simpa using hx) hd; rwa [show k + (i + 1) = k + 1 + i by omega] at this
  cases he : o.k.eff with
  | true =>
   have h0 := hS 0 _ rfl he
   rw [Nat.add_zero] at h0
   rw [h0]
   cases S' k <;> simp [h]
  | false => simp [h]
theorem lv_none : ∀ (l : List (DOp P × AV × St)) (k : Nat) (ρ : Nat → AV) (S : Nat → Bool), (∀ i, S (k + i) = false) → lv ρ l k S = ρ
 | [], _, _, _, _ => rfl
 | (o, r, s) :: l, k, ρ, S, h => by
  simp only [lv]
  rw [show S k = false from h 0]
  exact lv_none l (k + 1) ρ S fun i => by have := h (i + 1); rwa [show k + (i + 1) = k + 1 + i by omega] at this
theorem ls_none : ∀ (l : List (DOp P × AV × St)) (k : Nat) (st : St) (S : Nat → Bool), (∀ i, S (k + i) = false) → ls st l k S = st
 | [], _, _, _, _ => rfl
 | (o, r, s) :: l, k, st, S, h => by
  simp only [ls]
  rw [show S k = false from h 0]
  exact ls_none l (k + 1) st S fun i => by have := h (i + 1); rwa [show k + (i + 1) = k + 1 + i by omega] at this
theorem lv_set {t : Nat} : ∀ (l : List (DOp P × AV × St)) (k i : Nat) (o : DOp P) (r : AV) (s : St) (ρ : Nat → AV) (S S' : Nat → Bool), l[i]? = some (o, r, s) → S (k + i) = false → S' (k + i) = true → (∀ j, j ≠ i → S' (k + j) = S (k + j)) →
  (∀ j x, i < j → l[j]? = some x → o.dst = some t → x.1.dst = some t → S (k + j) = false) → lv ρ l k S' t = upd (lv ρ l k S) o.dst r t
 | [], k, i, o, r, s, ρ, S, S', h, _, _, _, _ => by simp at h
 | (o', r', s') :: l, k, 0, o, r, s, ρ, S, S', h, h0, h1, h2, h3 => by
  simp only [List.getElem?_cons_zero, Option.some.injEq, Prod.mk.injEq] at h
  obtain ⟨rfl, rfl, rfl⟩ := h
  simp only [lv]
  rw [show S k = false from h0, show S' k = true from h1]
  have same : ∀ ρ', lv ρ' l (k + 1) S' t = lv ρ' l (k + 1) S t := fun ρ' => lv_congr l (k + 1) ρ' ρ' S' S rfl fun j x hx hd => by have := h2 (j + 1) (by omega); rwa [show k + (j + 1) = k + 1 + j by omega] at this
  simp only [same]
  by_cases hd : o'.dst = some t
  ·rw [hd, upd_same]
   have hz : ∀ ρ', lv ρ' l (k + 1) S t = ρ' t := fun ρ' => by
    rw [lv_congr l (k + 1) ρ' ρ' S (fun _ => false) rfl fun j x hx hd' => by have := h3 (j + 1) x (by omega) (by simpa using hx) hd hd'; rwa [show k + (j + 1) = k + 1 + j by omega] at this]
    rw [lv_none l (k + 1) ρ' _ fun _ => rfl]
   rw [hz, upd_same]
  ·rw [upd_other hd]
   exact lv_congr l (k + 1) _ _ S S (upd_other hd) fun _ _ _ _ => rfl
 | (o', r', s') :: l, k, i + 1, o, r, s, ρ, S, S', h, h0, h1, h2, h3 => by
  simp only [lv]
  rw [show S' k = S k from h2 0 (by omega)]
  refine lv_set l (k + 1) i o r s _ S S' (by simpa using h) ?_ ?_ ?_ ?_
  ·rwa [show k + (i + 1) = k + 1 + i by omega] at h0
  ·rwa [show k + (i + 1) = k + 1 + i by omega] at h1
  ·intro j hj; have := h2 (j + 1) (by omega); rwa [show k + (j + 1) = k + 1 + j by omega] at this
  ·intro j x hj hx hd hd'; have := h3 (j + 1) x (by omega) (by simpa using hx) hd hd'; rwa [show k + (j + 1) = k + 1 + j by omega] at this
theorem ls_set : ∀ (l : List (DOp P × AV × St)) (k i : Nat) (o : DOp P) (r : AV) (s : St) (st : St) (S S' : Nat → Bool), l[i]? = some (o, r, s) → S' (k + i) = true → (∀ j, j ≠ i → S' (k + j) = S (k + j)) → o.k.eff = true →
  (∀ j x, i < j → l[j]? = some x → x.1.k.eff = true → S (k + j) = false) → ls st l k S' = s
 | [], k, i, o, r, s, st, S, S', h, _, _, _, _ => by simp at h
 | (o', r', s') :: l, k, 0, o, r, s, st, S, S', h, h1, h2, he, h3 => by
  simp only [List.getElem?_cons_zero, Option.some.injEq, Prod.mk.injEq] at h
  obtain ⟨rfl, rfl, rfl⟩ := h
  simp only [ls]
  rw [show S' k = true from h1, he]
  simp only [Bool.and_self]
  rw [ls_congr l (k + 1) s' s' S' (fun _ => false) rfl fun j x hx hd => ?_]
  ·exact ls_none l (k + 1) s' _ fun _ => rfl
  ·have a := h2 (j + 1) (by omega)
   have b := h3 (j + 1) x (by omega) (by simpa using hx) hd
   rw [show k + (j + 1) = k + 1 + j by omega] at a b
   rw [a, b]
 | (o', r', s') :: l, k, i + 1, o, r, s, st, S, S', h, h1, h2, he, h3 => by
  simp only [ls]
  refine ls_set l (k + 1) i o r s _ S S' (by simpa using h) ?_ ?_ he ?_
  ·rwa [show k + (i + 1) = k + 1 + i by omega] at h1
  ·intro j hj; have := h2 (j + 1) (by omega); rwa [show k + (j + 1) = k + 1 + j by omega] at this
  ·intro j x hj hx hd; have := h3 (j + 1) x (by omega) (by simpa using hx) hd; rwa [show k + (j + 1) = k + 1 + j by omega] at this
theorem DOp.ev_quiet (o : DOp P) {ρ : Nat → AV} {st st' : St} {r : AV} (h : o.ev ρ st = some (r, st')) (he : o.k.eff = false) : st' = st := by
 unfold DOp.ev at h
 split at h
 ·exact o.k.val_quiet h he
 ·split at h
  ·split at h
   ·exact o.k.val_quiet h he
   ·simp only [Option.some.injEq, Prod.mk.injEq] at h; exact h.2.symm
  ·simp only [Option.some.injEq, Prod.mk.injEq] at h; exact h.2.symm
  ·cases h
theorem Tr.at : ∀ (L : List (DOp P)) (rs : List (AV × St)) (ρ : Nat → AV) (st : St) (k : Nat), Tr L ρ st rs → rs.length = L.length ∧ ∀ (i : Nat) (o : DOp P) (r : AV) (s : St), (L.zip rs)[i]? = some (o, r, s) →
  o.ev (lv ρ (L.zip rs) k fun j => decide (j < k + i)) (ls st (L.zip rs) k fun j => decide (j < k + i)) = some (r, s)
 | [], rs, ρ, st, k, h => by obtain rfl : rs = [] := h; exact ⟨rfl, fun i o r s hi => by simp at hi⟩
 | o' :: L, rs, ρ, st, k, ⟨r', s', rs', e, h1, h2⟩ => by
  subst e
  obtain ⟨k1, k2⟩ := Tr.at L rs' _ s' (k + 1) h2
  refine ⟨by simp [k1], fun i o r s hi => ?_⟩
  cases i with
  | zero =>
   simp only [List.zip_cons_cons, List.getElem?_cons_zero, Option.some.injEq, Prod.mk.injEq] at hi
   obtain ⟨rfl, rfl, rfl⟩ := hi
   rw [lv_none _ _ _ _ (fun i => by simp), ls_none _ _ _ _ (fun i => by simp)]
   exact h1
  | succ i =>
   have := k2 i o r s (by simpa using hi)
   simp only [List.zip_cons_cons, lv, ls]
   rw [show decide (k < k + (i + 1)) = true by simp]
   simp only [Bool.true_and]
   rw [show (match o'.k.eff with | true => s' | false => st) = s' by
    cases he : o'.k.eff with
    | true => rfl
    | false => exact (o'.ev_quiet h1 he).symm]
   rw [show (fun j => decide (j < k + (i + 1))) = (fun j => decide (j < k + 1 + i)) by funext j; congr 1; apply propext; omega]
   exact this
theorem lv_all : ∀ (L : List (DOp P)) (rs : List (AV × St)) (ρ : Nat → AV) (k : Nat) (S : Nat → Bool), (∀ i, i < L.length → S (k + i) = true) → lv ρ (L.zip rs) k S = (L.zip rs).foldl (fun ρ x => upd ρ x.1.dst x.2.1) ρ
 | [], rs, ρ, k, S, _ => rfl
 | o :: L, [], ρ, k, S, _ => rfl
 | o :: L, (r, s) :: rs, ρ, k, S, h => by
  simp only [List.zip_cons_cons, lv, List.foldl_cons]
  rw [show S k = true from h 0 (by simp)]
  exact lv_all L rs _ (k + 1) S fun i hi => by have := h (i + 1) (by simp; omega); rwa [show k + (i + 1) = k + 1 + i by omega] at this
theorem ls_all : ∀ (L : List (DOp P)) (rs : List (AV × St)) (ρ : Nat → AV) (st : St) (k : Nat) (S : Nat → Bool), Tr L ρ st rs → (∀ i, i < L.length → S (k + i) = true) → ls st (L.zip rs) k S = ((rs.getLast?).map (·.2)).getD st
 | [], rs, ρ, st, k, S, h, _ => by obtain rfl : rs = [] := h; rfl
 | o :: L, rs, ρ, st, k, S, ⟨r', s', rs', e, h1, h2⟩, hS => by
  subst e
  simp only [List.zip_cons_cons, ls]
  rw [show S k = true from hS 0 (by simp)]
  simp only [Bool.true_and]
  rw [show (match o.k.eff with | true => s' | false => st) = s' by
   cases he : o.k.eff with
   | true => rfl
   | false => exact (o.ev_quiet h1 he).symm]
  rw [ls_all L rs' _ s' (k + 1) S h2 fun i hi => by have := hS (i + 1) (by simp; omega); rwa [show k + (i + 1) = k + 1 + i by omega] at this]
  cases rs' with
  | nil => rfl
  | cons x rs => simp [List.getLast?_cons]
def memB (x : Nat) : List Nat → Bool
 | [] => false
 | y :: l => Nat.beq y x || memB x l
theorem memB_mem {x : Nat} : ∀ {l : List Nat}, memB x l = true ↔ x ∈ l
 | [] => by simp [memB]
 | y :: l => by
  simp only [memB, Bool.or_eq_true, memB_mem (l := l), List.mem_cons]
  constructor
  ·rintro (h | h)
   ·exact .inl (by simpa using (show y = x by simpa using h).symm)
   ·exact .inr h
  ·rintro (h | h)
   ·exact .inl (by subst h; simp)
   ·exact .inr h
def addL (xs : List Nat) : List Nat → List Nat
 | [] => xs
 | y :: l => addL (match memB y xs with | true => xs | false => y :: xs) l
theorem mem_addL {i : Nat} : ∀ {ys xs : List Nat}, i ∈ addL xs ys → i ∈ xs ∨ i ∈ ys
 | [], xs, h => .inl h
 | y :: ys, xs, h => by
  rcases mem_addL (ys := ys) h with h | h
  ·split at h
   ·exact .inl h
   ·simp only [List.mem_cons] at h ⊢; rcases h with h | h
    ·exact .inr (.inl h)
    ·exact .inl h
  ·exact .inr (by simp [h])
def bef1 (acc : List (List Nat)) : List Edge → List Nat → List Nat
 | [], s => s
 | e :: es, s => bef1 acc es (match Region.binds .any e with | true => addL s (e.on :: acc.getD e.on []) | false => s)
def befs : List Oper → List (List Nat) → List (List Nat)
 | [], acc => acc
 | o :: r, acc => befs r (acc ++ [bef1 acc o.after.toList []])
theorem mem_bef1 {acc : List (List Nat)} {i : Nat} : ∀ {es : List Edge} {s : List Nat}, i ∈ bef1 acc es s → i ∈ s ∨ ∃ e ∈ es, Region.binds .any e = true ∧ (i = e.on ∨ i ∈ acc.getD e.on [])
 | [], s, h => .inl h
 | e :: es, s, h => by
  rcases mem_bef1 (es := es) h with h | ⟨e', h1, h2, h3⟩
  ·split at h
   ·rename_i hb
    rcases mem_addL h with h | h
    ·exact .inl h
    ·simp only [List.mem_cons] at h
     exact .inr ⟨e, by simp, hb, h⟩
   ·exact .inl h
  ·exact .inr ⟨e', by simp [h1], h2, h3⟩
theorem befs_at : ∀ (l : List Oper) (acc : List (List Nat)), (befs l acc).take acc.length = acc ∧ ∀ i o, l[i]? = some o → (befs l acc)[acc.length + i]? = some (bef1 ((befs l acc).take (acc.length + i)) o.after.toList [])
 | [], acc => ⟨by simp [befs], fun i o h => by simp at h⟩
 | o :: l, acc => by
  obtain ⟨h1, h2⟩ := befs_at l (acc ++ [bef1 acc o.after.toList []])
  simp only [List.length_append, List.length_singleton] at h1 h2
  have h3 : (befs (o :: l) acc).take acc.length = acc := by
   have := congrArg (List.take acc.length) h1
   rw [List.take_take, Nat.min_eq_left (by omega)] at this
   simpa [befs] using this
  refine ⟨h3, fun i o' hi => ?_⟩
  cases i with
  | zero =>
   simp only [List.getElem?_cons_zero, Option.some.injEq] at hi
   subst hi
   rw [Nat.add_zero, h3]
   have := congrArg (fun l => l[acc.length]?) h1
   simp only [List.getElem?_take, Nat.lt_succ_self, if_true] at this
   simpa [befs] using this
  | succ i =>
   have := h2 i o' (by simpa using hi)
   rw [show acc.length + (i + 1) = acc.length + 1 + i by omega]
   exact this
def Down (ops : List Oper) (S : Nat → Bool) : Prop := ∀ (j : Nat) (o : Oper), ops[j]? = some o → S j = true → ∀ e ∈ o.after.toList, Region.binds .any e = true → S e.on = true
theorem befs_down {ops : List Oper} {S : Nat → Bool} (hS : Down ops S) : ∀ (n j : Nat) (o : Oper), j < n → ops[j]? = some o → (∀ e ∈ o.after.toList, Region.binds .any e = true → S e.on = true) → ∀ i ∈ (befs ops []).getD j [], S i = true
 | 0, j, o, hj, _, _, i, _ => by omega
 | n + 1, j, o, hj, ho, he, i, hi => by
  have h := (befs_at ops []).2 j o ho
  simp only [List.length_nil, Nat.zero_add] at h
  rw [List.getD_eq_getElem?_getD, h, Option.getD_some] at hi
  rcases mem_bef1 hi with hi | ⟨e, h1, h2, h3⟩
  ·simp at hi
  ·rcases h3 with rfl | h3
   ·exact he e h1 h2
   ·rw [List.getD_eq_getElem?_getD, List.getElem?_take] at h3
    by_cases hlt : e.on < j
    ·rw [if_pos hlt] at h3
     cases ho' : ops[e.on]? with
     | none =>
      have hl : (befs ops [])[e.on]? = none ∨ True := .inr trivial
      have hge : ops.length ≤ e.on := by
       rcases Nat.lt_or_ge e.on ops.length with h' | h'
       ·rw [List.getElem?_eq_getElem h'] at ho'; cases ho'
       ·exact h'
      have := getElem?_lt ho
      omega
     | some o' => exact befs_down hS n e.on o' (by omega) ho' (fun e' h4 h5 => hS e.on o' ho' (he e h1 h2) e' h4 h5) i (by rw [List.getD_eq_getElem?_getD]; exact h3)
    ·rw [if_neg hlt] at h3; simp at h3
def isMem (d : Option Tmp) (l : List Nat) : Bool :=
 match d with
 | some d => memB d l
 | none => false
def sameDst (x y : Option Tmp) : Bool :=
 match x, y with
 | some a, some b => Nat.beq a b
 | _, _ => false
def confl (x y : DOp P) : Bool :=
 isMem x.dst y.names || (isMem y.dst x.names || (sameDst x.dst y.dst || ((x.k.eff && y.k.reads) || ((x.k.reads && y.k.eff) && !(x.k.isQm && y.k.isMa)))))
def chk : List (DOp P) → Nat → DOp P → List Nat → Bool
 | [], _, _, _ => true
 | x :: p, i, y, d => (!confl x y || memB i d) && chk p (i + 1) y d
theorem chk_spec {y : DOp P} {d : List Nat} : ∀ {p : List (DOp P)} {k : Nat}, chk p k y d = true → ∀ i x, p[i]? = some x → confl x y = true → k + i ∈ d
 | [], k, _, i, x, hx, _ => by simp at hx
 | z :: p, k, h, i, x, hx, hc => by
  simp only [chk, Bool.and_eq_true] at h
  cases i with
  | zero =>
   simp only [List.getElem?_cons_zero, Option.some.injEq] at hx
   subst hx
   have := h.1
   rw [hc] at this
   exact memB_mem.mp (by simpa using this)
  | succ i =>
   have := chk_spec h.2 i x (by simpa using hx) hc
   rwa [show k + 1 + i = k + (i + 1) by omega] at this
def backB (j : Nat) : List Edge → Bool
 | [] => true
 | e :: es => (!Region.binds .any e || Nat.blt e.on j) && backB j es
theorem backB_spec {j : Nat} : ∀ {es : List Edge}, backB j es = true → ∀ e ∈ es, Region.binds .any e = true → e.on < j
 | [], _, e, he, _ => by simp at he
 | x :: es, h, e, he, hb => by
  simp only [backB, Bool.and_eq_true] at h
  simp only [List.mem_cons] at he
  rcases he with rfl | he
  ·have := h.1; rw [hb] at this; simpa using this
  ·exact backB_spec h.2 e he hb
def okPairs (L : List (DOp P)) (D : List (List Nat)) : Nat → List (DOp P) → Bool
 | _, [] => true
 | j, y :: r => chk (L.take j) 0 y (D.getD j []) && (backB j y.oper.after.toList && okPairs L D (j + 1) r)
theorem okPairs_spec {L : List (DOp P)} {D : List (List Nat)} : ∀ {l : List (DOp P)} {k : Nat}, okPairs L D k l = true → ∀ j y, l[j]? = some y → chk (L.take (k + j)) 0 y (D.getD (k + j) []) = true ∧ backB (k + j) y.oper.after.toList = true
 | [], _, _, j, y, hy => by simp at hy
 | z :: l, k, h, j, y, hy => by
  simp only [okPairs, Bool.and_eq_true] at h
  cases j with
  | zero =>
   simp only [List.getElem?_cons_zero, Option.some.injEq] at hy
   subst hy
   exact ⟨h.1, h.2.1⟩
  | succ j =>
   have := okPairs_spec h.2.2 j y (by simpa using hy)
   rwa [show k + 1 + j = k + (j + 1) by omega] at this
def okGuardsD (ops : List (DOp P)) : Bool :=
 ops.all fun r => match r.grd with
  | none => true
  | some (j, d, _) => match (ops[j]?).bind (·.dst) with
   | some d' => Nat.beq d' d
   | none => false
def okMa : Bool → List (DOp P) → Bool
 | _, [] => true
 | b, o :: l => (!o.k.isMa || !b) && okMa (b || o.k.eff) l
theorem okMa_true : ∀ (l : List (DOp P)), okMa true l = true → ∀ (j : Nat) (y : DOp P), l[j]? = some y → y.k.isMa = false
 | [], _, j, y, hj => by simp at hj
 | o :: l, h, j, y, hj => by
  simp only [okMa, Bool.not_true, Bool.or_false, Bool.true_or, Bool.and_eq_true] at h
  cases j with
  | zero => simp only [List.getElem?_cons_zero, Option.some.injEq] at hj; subst hj; simpa using h.1
  | succ j => exact okMa_true l h.2 j y (by simpa using hj)
theorem okMa_spec : ∀ (l : List (DOp P)), okMa false l = true → ∀ (i j : Nat) (x y : DOp P), i < j → l[i]? = some x → l[j]? = some y → y.k.isMa = true → x.k.eff = false
 | [], _, i, j, x, y, _, hi, _, _ => by simp at hi
 | o :: l, h, i, j, x, y, hij, hi, hj, hy => by
  simp only [okMa, Bool.not_false, Bool.or_true, Bool.true_and, Bool.false_or] at h
  cases j with
  | zero => omega
  | succ j =>
   have hj' : l[j]? = some y := by simpa using hj
   cases ho : o.k.eff with
   | true =>
    rw [ho] at h
    have := okMa_true l h j y hj'
    rw [this] at hy; cases hy
   | false =>
    rw [ho] at h
    cases i with
    | zero => simp only [List.getElem?_cons_zero, Option.some.injEq] at hi; subst hi; exact ho
    | succ i => exact okMa_spec l h i j x y (by omega) (by simpa using hi) hj' hy
def okDraw (L : List (DOp P)) : Bool := okGuardsD L && (okMa false L && okPairs L (befs (L.map DOp.oper) []) 0 L)
def cnt : List Bool → Nat
 | [] => 0
 | true :: l => cnt l
 | false :: l => cnt l + 1
theorem cnt_set : ∀ (l : List Bool) (i : Nat), l[i]? = some false → cnt (l.set i true) + 1 = cnt l
 | [], i, h => by simp at h
 | b :: l, 0, h => by simp at h; subst h; simp [cnt]
 | b :: l, i + 1, h => by
  have := cnt_set l i (by simpa using h)
  cases b <;> simp [cnt] <;> omega
theorem cnt_zero : ∀ (l : List Bool) (i : Nat), cnt l = 0 → i < l.length → l[i]? = some true
 | [], i, _, h => by simp at h
 | true :: l, 0, h, _ => rfl
 | true :: l, i + 1, h, hi => by simpa using cnt_zero l i (by simpa [cnt] using h) (by simpa using hi)
 | false :: l, i, h, _ => by simp [cnt] at h
theorem isMem_spec {d : Option Tmp} {l : List Nat} {t : Nat} (hd : d = some t) (h : t ∈ l) : isMem d l = true := by subst hd; exact memB_mem.mpr h
theorem tmps_sub {xs : List Operand} {d : DOp P} (hx : xs = d.k.xs) : ∀ t ∈ tmpsOf xs, t ∈ d.names := by
 intro t ht
 subst hx
 unfold DOp.names
 split
 ·exact List.mem_cons_of_mem _ ht
 ·exact ht
theorem draw_any {L : List (DOp P)} (hok : okDraw L = true) {rs : List (AV × St)} {ρ0 : Nat → AV} {st0 : St} (htr : Tr L ρ0 st0 rs) {N : Nat} {g0 : Gh} {w0 : World} {ds : List Deferred} {ρ : Option Nat} {Q : Exit → Act → World → Prop}
  (hQ : ∀ a g w, a.tmps.size = N → (∀ t, Rel g w ((L.zip rs).foldl (fun ρ x => upd ρ x.1.dst x.2.1) ρ0 t) (a.tmps.getD t undef)) → StRel g (((rs.getLast?).map (·.2)).getD st0) w → Ev g0 w0 g w → a.defers = ds → Q .normal a w)
  (hin : inFrame N L = true) : ∀ (fuel : Nat) (listed : Array Bool) (a : Act) (w : World) (g : Gh), listed.size = L.length → cnt listed.toList = fuel → Down (L.map DOp.oper) (fun i => listed.getD i false) →
   a.tmps.size = N → (∀ t, Rel g w (lv ρ0 (L.zip rs) 0 (fun i => listed.getD i false) t) (a.tmps.getD t undef)) → StRel g (ls st0 (L.zip rs) 0 (fun i => listed.getD i false)) w → Ev g0 w0 g w → a.defers = ds →
   wpAnyIn (Rd ρ) 0 P .any (L.map DOp.oper).toArray Q fuel listed a w := by
 obtain ⟨hlen, hat⟩ := Tr.at L rs ρ0 st0 0 htr
 simp only [okDraw, Bool.and_eq_true] at hok
 obtain ⟨hgd, hma, hpairs⟩ := hok
 have hpair : ∀ (i j : Nat) (x y : DOp P), i < j → L[i]? = some x → L[j]? = some y → confl x y = true → i ∈ (befs (L.map DOp.oper) []).getD j [] := by
  intro i j x y hij hx hy hc
  have h1 := (okPairs_spec hpairs j y hy).1
  rw [Nat.zero_add] at h1
  have h2 := chk_spec h1 i x (by rw [List.getElem?_take, if_pos hij]; exact hx) hc
  rwa [Nat.zero_add] at h2
 have hback : ∀ (j : Nat) (y : DOp P), L[j]? = some y → ∀ e ∈ y.oper.after.toList, Region.binds .any e = true → e.on < j := by
  intro j y hy
  have h1 := (okPairs_spec hpairs j y hy).2
  rw [Nat.zero_add] at h1
  exact backB_spec h1
 intro fuel
 induction fuel with
 | zero =>
  intro listed a w g h1 h2 h3 h4 h5 h6 h7 h8
  have hall : ∀ i, i < L.length → listed.getD i false = true := by
   intro i hi
   have := cnt_zero listed.toList i h2 (by simpa [h1] using hi)
   rw [Array.getD_eq_getD_getElem?]
   rw [Array.getElem?_toList] at this
   rw [this]; rfl
  have hlv := lv_all L rs ρ0 0 (fun i => listed.getD i false) (fun i hi => by rw [Nat.zero_add]; exact hall i hi)
  have hls := ls_all L rs ρ0 st0 0 (fun i => listed.getD i false) htr (fun i hi => by rw [Nat.zero_add]; exact hall i hi)
  refine ⟨?_, hQ a g w h4 (fun t => by have := h5 t; rw [hlv] at this; exact this) (by rw [hls] at h6; exact h6) h7 h8⟩
  apply List.eq_nil_iff_forall_not_mem.mpr
  intro j hj
  obtain ⟨hf, o, ho, _⟩ := mem_ready.mp hj
  have hlt : j < L.length := by
   rw [List.getElem?_toArray] at ho
   simpa using getElem?_lt ho
  have := hall j hlt
  rw [Array.getD_eq_getD_getElem?] at this hf
  cases hx : listed[j]? with
  | none => rw [hx] at this; cases this
  | some b => rw [hx] at this hf; simp only [Option.getD_some] at this hf; rw [this] at hf; cases hf
 | succ fuel ih =>
  intro listed a w g h1 h2 h3 h4 h5 h6 h7 h8
  refine ⟨fun hr => ?_, fun i hi => ?_⟩
  ·
   exfalso
   have hall : ∀ n i, i < n → i < L.length → listed.getD i false = true := by
    intro n
    induction n with
    | zero => intro i hi; omega
    | succ n ihn =>
     intro i hi hlt
     cases hb : listed.getD i false with
     | true => rfl
     | false =>
      exfalso
      have hx : L[i]? = some L[i] := List.getElem?_eq_getElem hlt
      have : i ∈ Region.ready .any (L.map DOp.oper).toArray listed := by
       refine mem_ready.mpr ⟨?_, L[i].oper, by rw [List.getElem?_toArray, List.getElem?_map, hx]; rfl, fun e he hbi => ?_⟩
       ·rw [Array.getD_eq_getD_getElem?] at hb ⊢
        have : listed[i]? = some listed[i] := Array.getElem?_eq_getElem (by omega)
        rw [this] at hb ⊢; exact hb
       ·have := hback i L[i] hx e (by simpa using he) hbi
        exact ihn e.on (by omega) (by omega)
      rw [hr] at this; simp at this
   have : ∀ (l : List Bool), (∀ i, i < l.length → l[i]? = some true) → cnt l = 0 := by
    intro l
    induction l with
    | nil => intro _; rfl
    | cons b l ihl =>
     intro hh
     have hb := hh 0 (by simp)
     simp only [List.getElem?_cons_zero, Option.some.injEq] at hb
     subst hb
     exact ihl fun i hi => by simpa using hh (i + 1) (by simpa using hi)
   have h0 := this listed.toList fun i hi => by
    have hlt : i < L.length := by simpa [h1] using hi
    have := hall (i + 1) i (by omega) hlt
    rw [Array.getD_eq_getD_getElem?] at this
    rw [Array.getElem?_toList]
    cases hx : listed[i]? with
    | none => rw [hx] at this; cases this
    | some b => rw [hx] at this; simp only [Option.getD_some] at this; rw [this]
   omega
  ·obtain ⟨hf, oo, hoo, hedge⟩ := mem_ready.mp hi
   rw [List.getElem?_toArray, List.getElem?_map] at hoo
   cases hx : L[i]? with
   | none => rw [hx] at hoo; cases hoo
   | some o =>
    rw [hx] at hoo
    simp only [Option.map_some, Option.some.injEq] at hoo
    subst hoo
    have hlt : i < L.length := getElem?_lt hx
    have hli : listed[i]? = some false := by
     rw [Array.getD_eq_getD_getElem?] at hf
     have : listed[i]? = some listed[i] := Array.getElem?_eq_getElem (by omega)
     rw [this] at hf ⊢
     simpa using hf
    have hSi : listed.getD i false = false := by rw [Array.getD_eq_getD_getElem?, hli]; rfl
    have before : ∀ (j : Nat) (x : DOp P), j < i → L[j]? = some x → confl x o = true → listed.getD j false = true := by
     intro j x hj hx' hc
     exact befs_down h3 (i + 1) i o.oper (by omega) (by rw [List.getElem?_map, hx]; rfl) (fun e he hb => hedge e (by simpa using he) hb) j (hpair j i x o hj hx' hx hc)
    have behind : ∀ (j : Nat) (y : DOp P), i < j → L[j]? = some y → confl o y = true → listed.getD j false = false := by
     intro j y hj hy hc
     cases hb : listed.getD j false with
     | false => rfl
     | true =>
      have hd := h3 j y.oper (by rw [List.getElem?_map, hy]; rfl) hb
      have := befs_down h3 (j + 1) j y.oper (by omega) (by rw [List.getElem?_map, hy]; rfl) hd i (hpair i j o y hj hx hy hc)
      rw [hSi] at this; cases this
    obtain ⟨r, s, hz⟩ : ∃ r s, (L.zip rs)[i]? = some (o, r, s) := by
     have hr : i < rs.length := by omega
     refine ⟨rs[i].1, rs[i].2, ?_⟩
     rw [List.getElem?_zip_eq_some]
     exact ⟨hx, by rw [List.getElem?_eq_getElem hr]⟩
    have hzip : ∀ (j : Nat) (x : DOp P × AV × St), (L.zip rs)[j]? = some x → L[j]? = some x.1 := by
     intro j x hj
     exact (List.getElem?_zip_eq_some.mp hj).1
    have hev := hat i o r s hz
    rw [Nat.zero_add] at hev
    have hname : ∀ t ∈ o.names, lv ρ0 (L.zip rs) 0 (fun j => decide (j < i)) t = lv ρ0 (L.zip rs) 0 (fun j => listed.getD j false) t := by
     intro t ht
     refine lv_congr _ 0 _ _ _ _ rfl fun j x hj hd => ?_
     rw [Nat.zero_add]
     have hL := hzip j x hj
     by_cases hji : j < i
     ·rw [before j x.1 hji hL (by simp [confl, isMem_spec hd ht])]; simpa using hji
     ·by_cases hje : j = i
      ·subst hje; rw [hSi]; simp
      ·rw [behind j x.1 (by omega) hL (by simp [confl, isMem_spec hd ht])]; simpa using (by omega : i ≤ j)
    have hstate : o.k.reads = true → o.k.isQm = false → ls st0 (L.zip rs) 0 (fun j => decide (j < i)) = ls st0 (L.zip rs) 0 (fun j => listed.getD j false) := by
     intro hrd hqm
     refine ls_congr _ 0 _ _ _ _ rfl fun j x hj he => ?_
     rw [Nat.zero_add]
     have hL := hzip j x hj
     by_cases hji : j < i
     ·rw [before j x.1 hji hL (by simp [confl, he, hrd])]; simpa using hji
     ·by_cases hje : j = i
      ·subst hje; rw [hSi]; simp
      ·rw [behind j x.1 (by omega) hL (by simp [confl, he, hrd, hqm])]; simpa using (by omega : i ≤ j)
    have hqms : o.k.isQm = true → ls st0 (L.zip rs) 0 (fun j => decide (j < i)) = ls st0 (L.zip rs) 0 (fun j => listed.getD j false) ∨ ∃ ob, ls st0 (L.zip rs) 0 (fun j => listed.getD j false) = ⟨(ls st0 (L.zip rs) 0 (fun j => decide (j < i))).objs ++ [ob], (ls st0 (L.zip rs) 0 (fun j => decide (j < i))).tk⟩ := by
     intro hqm
     have hrd : o.k.reads = true := by cases hk : o.k <;> simp [hk, DK.isQm] at hqm <;> rfl
     by_cases hex : ∃ j y, i < j ∧ L[j]? = some y ∧ y.k.isMa = true ∧ listed.getD j false = true
     ·obtain ⟨j, y, hij, hy, hyma, hlj⟩ := hex
      have hyeff : y.k.eff = true := by cases hk : y.k <;> simp [hk, DK.isMa] at hyma <;> rfl
      have hnone : ∀ n, n ≤ j → ls st0 (L.zip rs) 0 (fun m => decide (m < n)) = st0 := by
       intro n hn
       rw [ls_congr _ 0 st0 st0 (fun m => decide (m < n)) (fun _ => false) rfl fun m x hm he => ?_]
       ·exact ls_none _ 0 st0 _ fun _ => rfl
       ·have hL := hzip m x hm
        rw [Nat.zero_add]
        by_cases hmj : m < j
        ·have := okMa_spec L hma m j x.1 y hmj hL hy hyma
         rw [this] at he; cases he
        ·exact decide_eq_false (by omega)
      rw [hnone i (by omega)]
      obtain ⟨r2, s2, hz2⟩ : ∃ r s, (L.zip rs)[j]? = some (y, r, s) := by
       have hr : j < rs.length := by have := getElem?_lt hy; omega
       refine ⟨rs[j].1, rs[j].2, ?_⟩
       rw [List.getElem?_zip_eq_some]
       exact ⟨hy, by rw [List.getElem?_eq_getElem hr]⟩
      have hev2 := hat j y r2 s2 hz2
      rw [Nat.zero_add, hnone j (Nat.le_refl _)] at hev2
      have hls : ls st0 (L.zip rs) 0 (fun m => listed.getD m false) = s2 := by
       refine ls_set _ 0 j y r2 s2 st0 (fun m => if m = j then false else listed.getD m false) _ hz2 (by rw [Nat.zero_add]; exact hlj) (fun m hm => by rw [Nat.zero_add, if_neg hm]) hyeff fun m x hm hx' hex => ?_
       rw [Nat.zero_add, if_neg (by omega)]
       have hL := hzip m x hx'
       have hnm : x.1.k.isMa = false := by
        cases hq : x.1.k.isMa with
        | false => rfl
        | true =>
         have := okMa_spec L hma j m y x.1 hm hy hL hq
         rw [this] at hyeff; cases hyeff
       exact behind m x.1 (by omega) hL (by simp [confl, hex, hrd, hnm])
      rw [hls]
      have fin : y.k.val (evOf (lv ρ0 (L.zip rs) 0 (fun m => decide (m < j)))) st0 = some (r2, s2) → ∃ ob, s2 = ⟨st0.objs ++ [ob], st0.tk⟩ := fun h => y.k.val_adds h hyma
      unfold DOp.ev at hev2
      split at hev2
      ·exact .inr (fin hev2)
      ·split at hev2
       ·split at hev2
        ·exact .inr (fin hev2)
        ·simp only [Option.some.injEq, Prod.mk.injEq] at hev2; exact .inl hev2.2
       ·simp only [Option.some.injEq, Prod.mk.injEq] at hev2; exact .inl hev2.2
       ·cases hev2
     ·left
      refine ls_congr _ 0 _ _ _ _ rfl fun j x hj he => ?_
      rw [Nat.zero_add]
      have hL := hzip j x hj
      by_cases hji : j < i
      ·rw [before j x.1 hji hL (by simp [confl, he, hrd])]; simpa using hji
      ·by_cases hje : j = i
       ·subst hje; rw [hSi]; simp
       ·have hf : listed.getD j false = false := by
         cases hq : x.1.k.isMa with
         | false => exact behind j x.1 (by omega) hL (by simp [confl, he, hrd, hq])
         | true =>
          cases hb : listed.getD j false with
          | false => rfl
          | true => exact absurd ⟨j, x.1, by omega, hL, hq, hb⟩ hex
        rw [hf]; simpa using (by omega : i ≤ j)
    have hS' : ∀ j, (listed.setIfInBounds i true).getD j false = if j = i then true else listed.getD j false := by
     intro j
     rw [Array.getD_eq_getD_getElem?, Array.getElem?_setIfInBounds]
     by_cases hji : j = i
     ·subst hji; rw [if_pos rfl, if_pos rfl, if_pos (by omega)]; rfl
     ·rw [if_neg (fun e => hji e.symm), if_neg hji, Array.getD_eq_getD_getElem?]
    have hlv' : ∀ t, lv ρ0 (L.zip rs) 0 (fun j => (listed.setIfInBounds i true).getD j false) t = upd (lv ρ0 (L.zip rs) 0 (fun j => listed.getD j false)) o.dst r t := by
     intro t
     refine lv_set _ 0 i o r s ρ0 _ _ hz (by rw [Nat.zero_add]; exact hSi) (by rw [Nat.zero_add, hS', if_pos rfl]) (fun j hj => by rw [Nat.zero_add, hS', if_neg hj]) fun j x hj hx' hdo hd => ?_
     rw [Nat.zero_add]
     exact behind j x.1 hj (hzip j x hx') (by simp [confl, sameDst, hd, hdo])
    have hdown' : Down (L.map DOp.oper) (fun j => (listed.setIfInBounds i true).getD j false) := by
     intro j o' ho' hb e he hbi
     simp only [hS'] at hb ⊢
     by_cases hji : j = i
     ·subst hji
      rw [List.getElem?_map, hx] at ho'
      simp only [Option.map_some, Option.some.injEq] at ho'
      subst ho'
      have := hedge e (by simpa using he) hbi
      split
      ·rfl
      ·exact this
     ·rw [if_neg hji] at hb
      have := h3 j o' ho' hb e he hbi
      split
      ·rfl
      ·exact this
    have hcnt' : cnt (listed.setIfInBounds i true).toList = fuel := by
     rw [Array.toList_setIfInBounds]
     have := cnt_set listed.toList i (by rw [Array.getElem?_toList]; exact hli)
     omega
    have go : ∀ v g' w' st', Rel g' w' r v → StRel g' st' w' → Ev g w g' w' → st' = ls st0 (L.zip rs) 0 (fun j => (listed.setIfInBounds i true).getD j false) → wpAnyIn (Rd ρ) 0 P .any (L.map DOp.oper).toArray Q fuel (listed.setIfInBounds i true) (a.put o.dst v) w' := by
     intro v g' w' st' k1 k2 k3 k4
     subst k4
     refine ih (listed.setIfInBounds i true) (a.put o.dst v) w' g' (by simp [h1]) hcnt' hdown' ?_ ?_ k2 (h7.trans k3) ((put_defers ..).trans h8)
     ·unfold Act.put; split <;> simp [h4]
     ·intro t
      rw [hlv']
      have hold := Rel.mono k3 _ _ (h5 t)
      cases hdo : o.dst with
      | none => exact hold
      | some d =>
       have hfr : d < N := by
        have := List.all_eq_true.mp hin o (List.mem_of_getElem? hx)
        simp only [Bool.and_eq_true] at this
        have h9 := this.1
        rw [hdo] at h9
        simpa using h9
       simp only [upd, Act.put]
       cases hdt : Nat.beq d t with
       | true =>
        have : d = t := by simpa using hdt
        subst this
        rw [Array.getD_eq_getD_getElem?, Array.getElem?_setIfInBounds, if_pos rfl, if_pos (show d < a.tmps.size by rw [h4]; exact hfr)]
        exact k1
       | false =>
        have : d ≠ t := by intro e; subst e; simp at hdt
        rw [Array.getD_eq_getD_getElem?, Array.getElem?_setIfInBounds, if_neg this, ← Array.getD_eq_getD_getElem?]
        exact hold
    have hquiet : o.k.eff = false → ls st0 (L.zip rs) 0 (fun j => (listed.setIfInBounds i true).getD j false) = ls st0 (L.zip rs) 0 (fun j => listed.getD j false) := by
     intro he
     refine ls_congr _ 0 _ _ _ _ rfl fun j x hj hex => ?_
     rw [Nat.zero_add, hS', if_neg]
     intro e; subst e
     have := hzip _ x hj
     rw [hx] at this
     cases this
     rw [he] at hex; cases hex
    have heff : o.k.eff = true → ls st0 (L.zip rs) 0 (fun j => (listed.setIfInBounds i true).getD j false) = s := by
     intro he
     refine ls_set _ 0 i o r s st0 (fun j => listed.getD j false) _ hz (by rw [Nat.zero_add, hS', if_pos rfl]) (fun j hj => by rw [Nat.zero_add, hS', if_neg hj]) he fun j x hj hx' hex => ?_
     rw [Nat.zero_add]
     refine behind j x.1 hj (hzip j x hx') ?_
     have : x.1.k.reads = true := by cases hk : x.1.k <;> simp [hk, DK.eff] at hex <;> rfl
     simp [confl, he, this]
    have act : o.k.val (evOf (lv ρ0 (L.zip rs) 0 (fun j => decide (j < i)))) (ls st0 (L.zip rs) 0 (fun j => decide (j < i))) = some (r, s) → o.oper.wpIn (Rd ρ) 0 P a w (wpAnyIn (Rd ρ) 0 P .any (L.map DOp.oper).toArray Q fuel (listed.setIfInBounds i true)) Q := by
     intro hval
     rw [o.k.val_congr (evOf_congr fun t ht => hname t (tmps_sub rfl t ht))] at hval
     have hEv : EvR g w (evOf (lv ρ0 (L.zip rs) 0 (fun j => listed.getD j false))) a o.k.xs := by
      intro x _
      cases x with
      | tmp t => exact h5 t
      | const v => exact ofLit_rel g w v
      | func f => exact ⟨#[], #[], rfl, rfl, rfl⟩
      | global _ => trivial
     cases hrd : o.k.reads with
     | true =>
      have hval : o.k.val (evOf (lv ρ0 (L.zip rs) 0 (fun j => listed.getD j false))) (ls st0 (L.zip rs) 0 (fun j => listed.getD j false)) = some (r, match o.k.isQm with | true => ls st0 (L.zip rs) 0 (fun j => listed.getD j false) | false => s) := by
       cases hq : o.k.isQm with
       | false => rw [← hstate hrd hq]; exact hval
       | true =>
        have he : o.k.eff = false := by cases hk : o.k <;> simp [hk, DK.isQm] at hq <;> rfl
        rcases hqms hq with h | ⟨ob, h⟩
        ·rw [← h]
         have := o.k.val_quiet hval he
         rw [this] at hval; exact hval
        ·rw [h]; exact o.k.val_mono hval hq ob
      have htold := o.k.val_sound hval hEv h6
      refine Oper.wp_guard (htold _ Q (fun v g' w' k1 k2 k3 => go v g' w' _ k1 k2 k3 ?_) ρ)
      cases he : o.k.eff with
      | true =>
       have hq : o.k.isQm = false := by cases hk : o.k <;> simp [hk, DK.eff] at he <;> rfl
       rw [hq]; exact (heff he).symm
      | false => rw [hquiet he]; exact o.k.val_quiet hval he
     | false =>
      have hval' := o.k.val_pure hval hrd (ls st0 (L.zip rs) 0 (fun j => listed.getD j false))
      have htold := o.k.val_sound hval' hEv h6
      refine Oper.wp_guard (htold _ Q (fun v g' w' k1 k2 k3 => go v g' w' _ k1 k2 k3 ?_) ρ)
      have he : o.k.eff = false := by cases hk : o.k <;> simp [hk, DK.reads] at hrd <;> rfl
      rw [hquiet he]
    unfold wpOpIn
    rw [List.getElem?_toArray, List.getElem?_map, hx]
    simp only [Option.map_some]
    unfold DOp.ev at hev
    cases hgr : o.grd with
    | none =>
     rw [hgr] at hev
     rw [if_pos (by simp [Region.wanted, DOp.oper, hgr])]
     exact act hev
    | some x =>
     obtain ⟨gi, d, b⟩ := x
     rw [hgr] at hev
     simp only at hev
     have hdn : d ∈ o.names := by simp [DOp.names, hgr]
     have hok' := List.all_eq_true.mp hgd o (List.mem_of_getElem? hx)
     simp only [hgr] at hok'
     have hdd : ((L.map DOp.oper)[gi]?).bind (·.dst) = some d := by
      rw [List.getElem?_map]
      cases hj : L[gi]? with
      | none => rw [hj] at hok'; simp at hok'
      | some y =>
       rw [hj] at hok'
       simp only [Option.bind_some, Option.map_some] at hok' ⊢
       show y.k.oper.dst = some d
       cases hy : y.dst with
       | none => rw [hy] at hok'; simp at hok'
       | some d' => rw [hy] at hok'; have : d' = d := by simpa using hok'
                    rw [← this]; exact hy
     have key : ∀ c : Bool, a.tmps.getD d undef = .bool c → Region.wanted o.oper (yielded (L.map DOp.oper).toArray a.tmps) = (c == b) := by
      intro c hc
      simp only [Region.wanted, DOp.oper, hgr, Option.map_some]
      unfold yielded
      rw [List.getElem?_toArray]
      rw [show (List.map DOp.oper L)[gi]?.bind (fun x => x.dst) = some d from hdd]
      rw [Option.bind_some, getD_of_yield hc]
      cases c <;> cases b <;> rfl
     split at hev
     ·rename_i c hc
      have hrel := h5 d
      rw [← hname d hdn, hc] at hrel
      have hrel : a.tmps.getD d undef = .bool c := hrel
      split at hev
      ·rename_i hcb
       rw [if_pos (by rw [key c hrel]; exact hcb)]
       exact act hev
      ·rename_i hcb
       rw [if_neg (by rw [key c hrel, hcb]; simp)]
       simp only [Option.some.injEq, Prod.mk.injEq] at hev
       obtain ⟨hr, hs⟩ := hev
       subst hr
       have hst : ls st0 (L.zip rs) 0 (fun j => (listed.setIfInBounds i true).getD j false) = ls st0 (L.zip rs) 0 (fun j => listed.getD j false) := by
        cases he : o.k.eff with
        | false => exact hquiet he
        | true =>
         have hrd : o.k.reads = true := by cases hk : o.k <;> simp [hk, DK.eff] at he <;> rfl
         rw [heff he, ← hs, hstate hrd (by cases hk : o.k <;> simp [hk, DK.eff] at he <;> rfl)]
       exact ⟨fun _ _ => trivial, go undef g w _ ⟨#[], rfl, rfl⟩ h6 (Ev.refl g w) hst.symm⟩
     ·rename_i hc
      have hrel := h5 d
      rw [← hname d hdn, hc] at hrel
      obtain ⟨vs, hvs, hv0⟩ := hrel
      have hw0 : Region.wanted o.oper (yielded (L.map DOp.oper).toArray a.tmps) = false := by
       simp only [Region.wanted, DOp.oper, hgr, Option.map_some]
       unfold yielded
       rw [List.getElem?_toArray]
       rw [show (List.map DOp.oper L)[gi]?.bind (fun x => x.dst) = some d from hdd]
       rw [Option.bind_some]
       rw [Array.getD_eq_getD_getElem?] at hvs
       cases hxd : a.tmps[d]? with
       | none => cases b <;> rfl
       | some u => rw [hxd] at hvs; simp only [Option.getD_some] at hvs; subst hvs; cases b <;> rfl
      rw [if_neg (by rw [hw0]; simp)]
      simp only [Option.some.injEq, Prod.mk.injEq] at hev
      obtain ⟨hr, hs⟩ := hev
      subst hr
      have hst : ls st0 (L.zip rs) 0 (fun j => (listed.setIfInBounds i true).getD j false) = ls st0 (L.zip rs) 0 (fun j => listed.getD j false) := by
       cases he : o.k.eff with
       | false => exact hquiet he
       | true =>
        have hrd : o.k.reads = true := by cases hk : o.k <;> simp [hk, DK.eff] at he <;> rfl
        rw [heff he, ← hs, hstate hrd (by cases hk : o.k <;> simp [hk, DK.eff] at he <;> rfl)]
      exact ⟨fun _ _ => trivial, go undef g w _ ⟨#[], rfl, rfl⟩ h6 (Ev.refl g w) hst.symm⟩
     ·cases hev
def Sim.draw (id : Nat) (ops : List (DOp P)) (hm : P.follows .mixedOrders = true) (h : okDraw ops = true) : Sim P where
 code := .region id (ops.map DOp.oper).toArray true
 run F K env st := match inFrame env.n ops with
  | true => drun ops (fun env st => K .normal env st) env st
  | false => none
 sound F K env st fin hr g w a he hs Q hp ρ _ := by
  split at hr
  ·rename_i hin
   obtain ⟨rs, env', st', k1, k2, k3, k4, k5⟩ := drun_tr ops env st hin hr
   refine wpIn_region_any hm ?_
   have hd : Ev g w g { w with drawn := w.drawn + 1 } := ⟨rfl, rfl, rfl, Nat.le_refl _, fun _ _ _ => ⟨rfl, rfl⟩, fun _ _ _ h => ⟨h, fun C _ _ hb => ⟨C, hb, rfl, fun _ _ => rfl⟩⟩, fun _ _ _ h => .inl h, fun _ _ h => h, tk_refl _, fun _ _ => Nat.le_refl _, fun _ _ _ _ h _ => ⟨h, fun C _ _ hb => ⟨C, hb, rfl⟩⟩, fun _ C _ fz h => ⟨C, fz, h, rfl⟩⟩
   have hrep : ∀ j, (Array.replicate ops.length false).getD j false = false := by
    intro j
    rw [Array.getD_eq_getD_getElem?, Array.getElem?_replicate]
    split <;> rfl
   have hsd : StRel g st { w with drawn := w.drawn + 1 } := ⟨hs.tk, hs.len, fun k b o h1 h2 => ⟨(hs.obj k b o h1 h2).1, (hs.obj k b o h1 h2).2.keep hd rfl rfl (fun _ _ h => ⟨rfl, h⟩) rfl⟩, hs.back, hs.rowlt, hs.vec, hs.glob.mono hd⟩
   rw [show ((ops.map DOp.oper).toArray.size) = ops.length by simp]
   refine draw_any h k1 (N := env.n) (g0 := g) (w0 := w) (ds := a.defers) (fun a1 g1 w1 h1 h2 h3 h4 h5 => ?_) hin ops.length (Array.replicate ops.length false) a _ g (by simp) ?_ ?_ he.size ?_ ?_ hd rfl
   ·subst k5
    exact hp .normal env' _ g1 w1 a1 .normal k2 ⟨h1.trans k3.symm, fun t => by rw [k4]; exact h2 t⟩ h3 h4 (.of_eq h5) rfl
   ·have : ∀ n, cnt (List.replicate n false) = n := by
     intro n; induction n with
     | zero => rfl
     | succ n ih => simp [List.replicate_succ, cnt, ih]
    simp [this]
   ·intro j o _ hb
    have hz := hrep j
    have hb : (Array.replicate ops.length false).getD j false = true := hb
    rw [hz] at hb; cases hb
   ·intro t
    rw [lv_none _ _ _ _ (fun i => hrep (0 + i))]
    exact Rel.mono hd _ _ (he.slot t)
   ·rw [ls_none _ _ _ _ (fun i => hrep (0 + i))]
    exact hsd
  ·cases hr
end
end Go.V
namespace Go.V
section
variable {P : Program}
def frz : AV → AV
 | .lg _ sz l => .sl sz false l
 | .agg cs => .agg (cs.map frz1)
 | .tup cs => .tup (cs.map frz1)
 | x => x
where
 frz1 : AV → AV
  | .lg _ sz l => .sl sz false l
  | x => x
theorem frz1_rel {g : Gh} {w : World} {x : AV} {v : Value} (h : Rel g w x v) : Rel g w (frz.frz1 x) v := by
 unfold frz.frz1
 split
 ·obtain ⟨b, cap, C, E, fz, h1, h2, h3, h4, h5, h6, h7, h8⟩ := h
  exact ⟨b, 0, none, cap, h1, h2, (fun e => by cases e), .inl rfl, h8⟩
 ·exact h
theorem frzs_rel {g : Gh} {w : World} : ∀ {xs : List AV} {vs : List Value}, RelAll g w xs vs → RelAll g w (xs.map frz.frz1) vs
 | [], _, h => h
 | x :: xs, _, ⟨v, vr, e, h1, h2⟩ => ⟨v, vr, e, frz1_rel h1, frzs_rel h2⟩
theorem frz_rel {g : Gh} {w : World} {x : AV} {v : Value} (h : Rel g w x v) : Rel g w (frz x) v := by
 unfold frz
 split
 ·exact frz1_rel (x := .lg _ _ _) h
 ·obtain ⟨vs, h1, h2, h3⟩ := h
  exact ⟨vs, h1, frzs_rel h2, h3⟩
 ·obtain ⟨vs, h1, h2⟩ := h
  exact ⟨vs, h1, frzs_rel h2⟩
 ·exact h
theorem deads_rel {g : Gh} {w : World} : ∀ (vs : List Value), RelAll g w (List.replicate vs.length .dead) vs
 | [] => rfl
 | v :: vs => ⟨v, vs, rfl, trivial, deads_rel vs⟩
def abuildSl (sz len : Nat) (parts : List (Nat × Nat × AV)) (k : AV → Ans) : Ans :=
 aparts parts (List.replicate (len * sz) .dead) fun cs => match rowsOf sz len cs with
  | some l => k (.sl sz true l)
  | none => none
theorem zeroArr_cells {z : Value} {sz : Nat} (h1 : z.cells.toList.all Value.oneCell' = true) (hz : z.cells.size = sz) (n : Nat) :
  ∀ u ∈ ((Array.range (n * sz)).map (fun j => z.cells[j % z.cells.size]!)).toList, u.oneCell' = true := by
 intro u hu
 simp only [Array.toList_map, Array.toList_range, List.mem_map, List.mem_range] at hu
 obtain ⟨j, hj, rfl⟩ := hu
 have hpos : 0 < z.cells.size := by
  rcases Nat.eq_zero_or_pos z.cells.size with h | h
  ·rw [hz] at h; subst h; simp at hj
  ·exact h
 have hlt : j % z.cells.size < z.cells.size := Nat.mod_lt _ hpos
 rw [getElem!_pos z.cells _ hlt]
 exact List.all_eq_true.mp h1 _ (by simp)
theorem parts_evZ {ev ev' : Operand → AV} {sz : Nat} {parts : List (Nat × Operand)} (h : ∀ x ∈ parts.map (·.2), ev x = ev' x) : (parts.map fun p => (p.1 * sz, sz, frz (ev p.2))) = parts.map fun p => (p.1 * sz, sz, frz (ev' p.2)) :=
 List.map_congr_left fun p hp => by rw [h p.2 (List.mem_map_of_mem hp)]
def opBuildSlice (dst : Option Tmp) (T : TypeId) (len : Nat) (parts : List (Nat × Operand)) (e sz bytes : Nat) (z : Value) (hT : ElemOf P T e sz bytes z) (h1 : z.cells.toList.all Value.oneCell' = true) (hl : len * sz ≤ 16777216) (ty : TypeId) (pos : String) (after : Array Edge) : PSim P :=
 PSim.makes (mkOp dst (.buildSlice T len parts.toArray) ty pos after) rfl (parts.map (·.2)) (fun ev k => abuildSl sz len (parts.map fun p => (p.1 * sz, sz, frz (ev p.2))) k)
  (fun ev ev' k h => by rw [parts_evZ h]) fun ev k fin h g w a st he hs => by
  have hbig : ¬ (len * sz > 2 ^ 24) := by omega
  generalize hZ : (if len * sz = 0 then #[] else (Array.range (len * sz)).map (fun j => z.cells[j % z.cells.size]!)) = Z
  have hZ1 : ∀ u ∈ Z.toList, u.oneCell' = true := by
   subst hZ
   split
   ·simp
   ·exact zeroArr_cells h1 hT.cells len
  have hZs : Z.size = len * sz := by
   subst hZ
   split
   ·rename_i h; simp [h]
   ·simp
  have hr0 : RelAll g w (List.replicate (len * sz) .dead) Z.toList := by
   have := deads_rel (g := g) (w := w) Z.toList
   rw [Array.length_toList, hZs] at this; exact this
  have hfill : ∃ ds us, (match rowsOf sz len ds with | some l => k (.sl sz true l) | none => none) = some fin ∧ Instr.fill (fun i => some (i * sz, sz)) Z (parts.map fun p => (p.1, a.eval p.2)) = some us ∧ RelAll g w ds us.toList ∧ ∀ u ∈ us.toList, u.oneCell' = true := by
   have := aparts_run (ev := fun x => frz (ev x)) (xs := parts.map (·.2)) (fun x hx => frz_rel (he x hx)) (fun i => some (i * sz, sz)) (parts.map fun p => (p.1, p.1 * sz, sz, p.2)) (fun p hp => by
    simp only [List.mem_map] at hp
    obtain ⟨q, hq, rfl⟩ := hp
    exact List.mem_map.mpr ⟨q, hq, rfl⟩) (fun p hp => by
    simp only [List.mem_map] at hp
    obtain ⟨q, hq, rfl⟩ := hp
    rfl) _ Z hr0 hZ1 (by rw [List.map_map]; exact h)
   obtain ⟨ds, us, a1, a2, a3, a4⟩ := this
   exact ⟨ds, us, a1, by rw [List.map_map] at a2; exact a2, a3, a4⟩
  obtain ⟨ds, us, f1, f2, f3, f4⟩ := hfill
  split at f1
  ·rename_i l hl'
   obtain ⟨l1, l2, l3⟩ := rowsOf_list sz len ds l hl'
   have hp := Push.alloc w (.cells us e)
   have hE : Ev g w ⟨g.use w.heap.size .solid, g.objs, g.tk, g.ver⟩ (w.alloc (.cells us e)) := by simpa using Ev.push hp .solid [] g.tk (tk_refl _)
   refine ⟨_, .slice (some ⟨w.heap.size, 0, none⟩) len len, ⟨g.use w.heap.size .solid, g.objs, g.tk, g.ver⟩, w.alloc (.cells us e), f1, ?_, ⟨w.heap.size, 0, none, len, by rw [l1], by omega, fun _ => l1.symm, .inl rfl, ?_⟩, ?_, hE⟩
   ·simp only [execOp, mkOp, Instr.buildSlice, Sem.run_bind, run_underlying hT.ty, Result.andThen_ok, run_sizeOf' hT.size, if_neg hbig]
    by_cases h0 : len * sz = 0
    ·rw [if_pos h0] at hZ
     simp only [if_pos h0, Sem.run_bind, Sem.run_pure, Result.andThen_ok, List.map_toArray]
     rw [show Array.range (len * sz) = #[] by rw [h0]; rfl, Array.map_empty, hZ]
     rw [show (Instr.fill (fun i => some (i * sz, sz)) Z (List.map (fun x => (x.fst, a.eval x.snd)) parts)) = some us from f2]
     rfl
    ·rw [if_neg h0] at hZ
     simp only [if_neg h0, Sem.run_bind, Sem.run_pure, run_zeroValue' hT.zero, Result.andThen_ok, List.map_toArray]
     rw [hZ]
     rw [show (Instr.fill (fun i => some (i * sz, sz)) Z (List.map (fun x => (x.fst, a.eval x.snd)) parts)) = some us from f2]
     rfl
   ·refine RelRows.of sz l (us.toList.take (len * sz)) _ _ l2 (by rw [l3]; exact RelAll.mono hE _ _ (RelAll.take _ _ _ f3)) fun j v hj => ?_
    have hj' : us.toList[j]? = some v := by
     rw [List.getElem?_take] at hj
     split at hj
     ·exact hj
     ·cases hj
    exact ⟨(solid_cells (g := g) hp g.tk (tk_refl _) g.objs j v hj').1, (solid_cells (g := g) hp g.tk (tk_refl _) g.objs j v hj').2, f4 v (List.mem_of_getElem? hj')⟩
   ·have := hs.push hp .solid g.tk (tk_refl _) trivial
    rw [hs.tk] at this ⊢; exact this
  ·cases f1
structure POrc (P : Program) where
 id : FuncId
 fn : Func
 hf : P.funcs[id]? = some fn
 hname : (fn.name == "runtime.NumGoroutine") = false
 hb : fn.body.isNone = false
 F : List AV → (AV → Ans) → Ans
 sound : ∀ k args fin, F args k = some fin → ∃ r, k r = some fin ∧ ∀ st, CallsTo P id args st (.ret r, st)
def POrc.orcS (O : POrc P) : OrcS P where
 id := O.id
 fn := O.fn
 hf := O.hf
 hname := O.hname
 hb := O.hb
 sem args st k := O.F args fun r => k (.ret r) st
 sound k args st fin h := by
  obtain ⟨r, h1, h2⟩ := O.sound _ _ _ h
  exact ⟨_, st, h1, h2 st⟩
theorem call_told {id : FuncId} {fn : Func} (hf : P.funcs[id]? = some fn) (hname : (fn.name == "runtime.NumGoroutine") = false) (hb : fn.body.isNone = false) {dst : Option Tmp} {args : List Operand} {tys : Array TypeId} {ty : TypeId} {pos : String} {after : Array Edge}
  {ev : Operand → AV} {g : Gh} {w : World} {a : Act} {st : St} (he : EvR g w ev a args) (hs : StRel g st w) {r : AV} {st' : St} (h : CallsTo P id (args.map ev) st (.ret r, st')) :
  Told P (mkOp dst (.call { callee := .value (.func id), args := args.toArray, argTypes := tys }) ty pos after) a g w r st' := by
 intro next Q hn ρ
 have hrun : (execOp a.eval (mkOp dst (.call { callee := .value (.func id), args := args.toArray, argTypes := tys }) ty pos after)).run P w = .ok (.enter id (args.map a.eval).toArray) w := by
  simp only [execOp, mkOp, resolve, Act.eval, Deferred.ofValue]
  simp [invoke, run_callFunc hf hname hb, Act.eval]
 refine wpIn_enter hrun (upon_enter' ((h g w _ (by simpa using he.list args fun _ h => h) hs).mono fun e w' ⟨g', h1, h2, h3⟩ => ?_))
 obtain ⟨v, rfl, hv⟩ := h1
 exact ⟨fun _ e => (by cases e; exact hn v g' w' hv h2 h3), fun _ e => (by cases e), fun e => (by cases e)⟩
def opCallP (O : POrc P) (dst : Option Tmp) (args : List Operand) (tys : Array TypeId) (ty : TypeId) (pos : String) (after : Array Edge) : PSim P where
 oper := mkOp dst (.call { callee := .value (.func O.id), args := args.toArray, argTypes := tys }) ty pos after
 plain := rfl
 xs := args
 f ev k := O.F (args.map ev) k
 congr ev ev' k h := by rw [map_ev h fun _ h => h]
 sound ev k fin h g w a st he hs := by
  obtain ⟨r, h1, h2⟩ := O.sound _ _ _ h
  exact ⟨r, h1, call_told O.hf O.hname O.hb he hs (h2 st)⟩
def retOnly (k : AV → St → Ans) : Fin → St → Ans := fun r st' =>
 match r with
 | .ret v => k v st'
 | .pan _ => none
def opCallM (O : OrcS P) (dst : Option Tmp) (args : List Operand) (tys : Array TypeId) (ty : TypeId) (pos : String) (after : Array Edge) : MSim P where
 oper := mkOp dst (.call { callee := .value (.func O.id), args := args.toArray, argTypes := tys }) ty pos after
 plain := rfl
 xs := args
 f ev st k := O.sem (args.map ev) st (retOnly k)
 congr ev ev' st k h := by rw [map_ev h fun _ h => h]
 sound ev st k fin h g w a he hs := by
  obtain ⟨r, st', h1, h2⟩ := O.sound _ _ _ _ h
  cases r with
  | ret v => exact ⟨v, st', h1, call_told O.hf O.hname O.hb he hs h2⟩
  | pan v => cases h1
def POrc.Nat (O : POrc P) : Prop := ∀ args k, O.F args k = thenA (O.F args retA) k
theorem opCallP_nat {O : POrc P} (h : O.Nat) {dst : Option Tmp} {args : List Operand} {tys : Array TypeId} {ty : TypeId} {pos : String} {after : Array Edge} : (opCallP O dst args tys ty pos after).Nat := fun ev k => h _ _
def OrcS.NatS (O : OrcS P) : Prop := ∀ args st k, O.sem args st k = (match O.sem args st (fun r st' => some (r, st')) with
 | some (r, st') => k r st'
 | none => none)
theorem opCallM_nat {O : OrcS P} (h : O.NatS) {dst : Option Tmp} {args : List Operand} {tys : Array TypeId} {ty : TypeId} {pos : String} {after : Array Edge} : (opCallM O dst args tys ty pos after).NatM := by
 intro ev st k
 show O.sem _ _ (retOnly k) = thenM (O.sem _ _ (retOnly retM)) k
 rw [h _ _ (retOnly k), h _ _ (retOnly retM)]
 cases O.sem (args.map ev) st (fun r st' => some (r, st')) with
 | none => rfl
 | some x =>
  obtain ⟨r, st'⟩ := x
  cases r <;> rfl
def ScF (n : Nat) : Fn → Prop
 | .yield k => k < n
 | _ => True
mutual
def Scoped (n m : Nat) : AV → Prop
 | .ptr k _ => k < n
 | .tp k _ _ => k < n
 | .ms k _ _ _ _ => k < n
 | .mp k => k < n
 | .lg t _ l => t < m ∧ ScopedR n m l
 | .sl _ _ l => ScopedR n m l
 | .ns _ _ l => ScopedR n m l
 | .vs k _ _ _ => k < n
 | .vp k _ _ => k < n
 | .eptr cs => ScopedL n m cs
 | .fn f a c => ScF n f ∧ ScopedL n m a ∧ ScopedL n m c
 | .ifc _ v => Scoped n m v
 | .agg cs => ScopedL n m cs
 | .tup cs => ScopedL n m cs
 | _ => True
def ScopedL (n m : Nat) : List AV → Prop
 | [] => True
 | x :: l => Scoped n m x ∧ ScopedL n m l
def ScopedR (n m : Nat) : List (List AV) → Prop
 | [] => True
 | x :: l => ScopedL n m x ∧ ScopedR n m l
end
theorem globs_scoped : ∀ x ∈ globs, ScopedL 0 0 x.2 := by unfold globs; simp [ScopedL, Scoped]
def Gh.cut (g g' : Gh) (size : Nat) : Gh where
 kind b := if b < size then g.kind b else match g'.kind b with
  | .row t => if t < g.tk.length then .row t else .solid
  | _ => .solid
 objs := g.objs
 tk := g.tk
 ver := g'.ver
structure Cut (g g' : Gh) (w w' : World) : Prop where
 kind : ∀ b, b < w.heap.size → g'.kind b = g.kind b
 objs : ∀ k b : Nat, k < g.objs.length → g'.objs[k]? = some b → g.objs[k]? = some b
 tk : ∀ t : Nat, t < g.tk.length → g'.tk[t]? = g.tk[t]?
 row : ∀ b t, b < w.heap.size → g.kind b = .row t → t < g.tk.length
 vec : ∀ b k, k < g.objs.length → b < w'.heap.size → g'.kind b = .vec k → b < w.heap.size
theorem Cut.vkind {g g' : Gh} {w w' : World} (h : Cut g g' w w') {b k : Nat} (hk : k < g.objs.length) (hb : b < w'.heap.size) (he : g'.kind b = .vec k) : (g.cut g' w.heap.size).kind b = .vec k := by
 have := h.vec b k hk hb he
 simp only [Gh.cut]
 rw [if_pos this, ← h.kind b this]
 exact he
theorem Cut.prot {g g' : Gh} {w w' : World} (h : Cut g g' w w') {b off : Nat} (hp : g'.prot b off) : (g.cut g' w.heap.size).prot b off := by
 unfold Gh.prot at hp ⊢
 simp only [Gh.cut]
 by_cases hb : b < w.heap.size
 ·rw [if_pos hb]
  rw [h.kind b hb] at hp
  cases hk : g.kind b with
  | solid => trivial
  | part S => rw [hk] at hp; exact hp
  | obj k => rw [hk] at hp; exact hp
  | vec k => rw [hk] at hp; exact hp
  | row t =>
   rw [hk] at hp
   obtain ⟨sz, n, h1, h2⟩ := hp
   exact ⟨sz, n, by rw [← h.tk t (h.row b t hb hk)]; exact h1, h2⟩
 ·rw [if_neg hb]
  cases hk : g'.kind b with
  | solid => trivial
  | part S => trivial
  | obj k => rw [hk] at hp; exact hp.elim
  | vec k => rw [hk] at hp; exact hp.elim
  | row t =>
   rw [hk] at hp
   obtain ⟨sz, n, h1, h2⟩ := hp
   simp only
   by_cases ht : t < g.tk.length
   ·rw [if_pos ht]; exact ⟨sz, n, by rw [← h.tk t ht]; exact h1, h2⟩
   ·rw [if_neg ht]; trivial
theorem FnR.cut {g g' : Gh} {f : Fn} {v : Value} {va vc : Array Value} {n : Nat} (h : FnR g' f v va vc) (hs : ScF n f) (ho : ∀ k b : Nat, k < n → g'.objs[k]? = some b → g.objs[k]? = some b) {sz : Nat} : FnR (g.cut g' sz) f v va vc := by
 cases f with
 | yield k => obtain ⟨b, h1, h2⟩ := h; exact ⟨b, ho k b hs h1, h2⟩
 | _ => exact h
theorem FnR.inside {g : Gh} {f : Fn} {v : Value} {va vc : Array Value} (h : FnR g f v va vc) : ScF g.objs.length f := by
 cases f with
 | yield k => obtain ⟨b, h1, h2⟩ := h; exact getElem?_lt h1
 | _ => exact trivial
mutual
theorem Cut.rel {g g' : Gh} {w w' : World} (h : Cut g g' w w') : ∀ (a : AV) (v : Value), Scoped g.objs.length g.tk.length a → Rel g' w' a v → Rel (g.cut g' w.heap.size) w' a v
 | .bool _, _, _, r => r
 | .int _ _, _, _, r => r
 | .str _, _, _, r => r
 | .nilptr, _, _, r => r
 | .nilsl, _, _, r => r
 | .nilmap, _, _, r => r
 | .nilfn, _, _, r => r
 | .nilif, _, _, r => r
 | .ptr k off, _, s, ⟨b, r1, r2⟩ => ⟨b, h.objs k b s r1, r2⟩
 | .tp k E m', _, s, ⟨b, r1, r2⟩ => ⟨b, h.objs k b s r1, r2⟩
 | .eptr cs, _, s, ⟨b, off, r1, r2⟩ => ⟨b, off, r1, Cut.relCells h cs b off s r2⟩
 | .sl sz full l, _, s, ⟨b, off, sp, cap, r1, r2, r3, rs, r4⟩ => ⟨b, off, sp, cap, r1, r2, r3, rs, Cut.relRows h sz l b off s r4⟩
 | .lg t sz l, _, ⟨s1, s2⟩, ⟨b, cap, C, E, fz, r1, r2, r3, r4, r5, r9, ⟨n, r6, r7⟩, r8⟩ => by
  refine ⟨b, cap, C, E, fz, r1, r2, ?_, r4, r5, r9, ⟨n, by rw [show (g.cut g' w.heap.size).tk = g.tk from rfl, ← h.tk t s1]; exact r6, r7⟩, Cut.relRows h sz l b 0 s2 r8⟩
  simp only [Gh.cut]
  by_cases hb : b < w.heap.size
  ·rw [if_pos hb, ← h.kind b hb]; exact r3
  ·rw [if_neg hb, r3]; simp only; rw [if_pos s1]
 | .ms k sz off n cap, _, s, ⟨b, r1, r2⟩ => ⟨b, h.objs k b s r1, r2⟩
 | .mp k, _, s, ⟨b, r1, r2⟩ => ⟨b, h.objs k b s r1, r2⟩
 | .fn f a c, _, ⟨s0, s1, s2⟩, ⟨va, vc, r1, r2, r3⟩ => ⟨va, vc, r1.cut s0 h.objs, Cut.relAll h a va.toList s1 r2, Cut.relAll h c vc.toList s2 r3⟩
 | .ifc t a, _, s, ⟨u, r1, r2⟩ => ⟨u, r1, Cut.rel h a u s r2⟩
 | .agg cs, _, s, ⟨vs, r1, r2, r3⟩ => ⟨vs, r1, Cut.relAll h cs vs.toList s r2, r3⟩
 | .tup cs, _, s, ⟨vs, r1, r2⟩ => ⟨vs, r1, Cut.relAll h cs vs.toList s r2⟩
 | .dead, _, _, _ => trivial
 | .ns z sz l, _, s, .inl r => .inl r
 | .ns z sz l, _, s, .inr ⟨r0, b, off, sp, cap, r1, r2, rs, r4⟩ => .inr ⟨r0, b, off, sp, cap, r1, r2, rs, Cut.relRows h sz l b off s r4⟩
 | .vs k v sz n, _, s, ⟨b, c, r1, r2, r3, r4, r5⟩ => ⟨b, c, r1, r2, s, r4, fun e => by
  obtain ⟨k1, C, E, fz, k2, k3⟩ := r5 e
  exact ⟨h.vkind s (lt_of_block k2) k1, C, E, fz, k2, k3⟩⟩
 | .vp k v off, _, s, ⟨b, r1, r3, r4, r5⟩ => ⟨b, r1, s, r4, fun e => by
  obtain ⟨k1, k2⟩ := r5 e
  exact ⟨h.vkind s k2 k1, k2⟩⟩
theorem Cut.relAll {g g' : Gh} {w w' : World} (h : Cut g g' w w') : ∀ (ays : List AV) (vs : List Value), ScopedL g.objs.length g.tk.length ays → RelAll g' w' ays vs → RelAll (g.cut g' w.heap.size) w' ays vs
 | [], _, _, r => r
 | a :: ays, _, ⟨s1, s2⟩, ⟨v, vr, r1, r2, r3⟩ => ⟨v, vr, r1, Cut.rel h a v s1 r2, Cut.relAll h ays vr s2 r3⟩
theorem Cut.relCells {g g' : Gh} {w w' : World} (h : Cut g g' w w') : ∀ (ays : List AV) (b off : Nat), ScopedL g.objs.length g.tk.length ays → RelCells g' w' ays b off → RelCells (g.cut g' w.heap.size) w' ays b off
 | [], _, _, _, _ => trivial
 | a :: ays, b, off, ⟨s1, s2⟩, ⟨⟨u, r1, r2, r5, r3⟩, r4⟩ => ⟨⟨u, r1, h.prot r2, r5, Cut.rel h a u s1 r3⟩, Cut.relCells h ays b (off + 1) s2 r4⟩
theorem Cut.relRows {g g' : Gh} {w w' : World} (h : Cut g g' w w') (sz : Nat) : ∀ (l : List (List AV)) (b off : Nat), ScopedR g.objs.length g.tk.length l → RelRows g' w' sz l b off → RelRows (g.cut g' w.heap.size) w' sz l b off
 | [], _, _, _, _ => trivial
 | x :: l, b, off, ⟨s1, s2⟩, ⟨r1, r2, r3⟩ => ⟨r1, Cut.relCells h x b off s1 r2, Cut.relRows h sz l b (off + sz) s2 r3⟩
end
mutual
theorem Rel.inside {g : Gh} {w : World} : ∀ (a : AV) (v : Value), Rel g w a v → Scoped g.objs.length g.tk.length a
 | .bool _, _, _ => trivial
 | .int _ _, _, _ => trivial
 | .str _, _, _ => trivial
 | .nilptr, _, _ => trivial
 | .nilsl, _, _ => trivial
 | .nilmap, _, _ => trivial
 | .nilfn, _, _ => trivial
 | .nilif, _, _ => trivial
 | .ptr k off, _, ⟨b, r1, r2⟩ => getElem?_lt r1
 | .tp k E m', _, ⟨b, r1, r2⟩ => getElem?_lt r1
 | .eptr cs, _, ⟨b, off, r1, r2⟩ => RelCells.inside cs b off r2
 | .sl sz full l, _, ⟨b, off, sp, cap, r1, r2, r3, rs, r4⟩ => RelRows.inside sz l b off r4
 | .lg t sz l, _, ⟨b, cap, C, E, fz, r1, r2, r3, r4, r5, r9, ⟨n, r6, r7⟩, r8⟩ => ⟨getElem?_lt r6, RelRows.inside sz l b 0 r8⟩
 | .ms k sz off n cap, _, ⟨b, r1, r2⟩ => getElem?_lt r1
 | .mp k, _, ⟨b, r1, r2⟩ => getElem?_lt r1
 | .fn f a c, _, ⟨va, vc, r1, r2, r3⟩ => ⟨r1.inside, RelAll.inside a va.toList r2, RelAll.inside c vc.toList r3⟩
 | .ifc t a, _, ⟨u, r1, r2⟩ => Rel.inside a u r2
 | .agg cs, _, ⟨vs, r1, r2, r3⟩ => RelAll.inside cs vs.toList r2
 | .tup cs, _, ⟨vs, r1, r2⟩ => RelAll.inside cs vs.toList r2
 | .dead, _, _ => trivial
 | .ns z sz l, _, .inl ⟨_, rl, _⟩ => by subst rl; exact trivial
 | .ns z sz l, _, .inr ⟨r0, b, off, sp, cap, r1, r2, rs, r4⟩ => RelRows.inside sz l b off r4
 | .vs k v sz n, _, ⟨b, c, r1, r2, r3, r4⟩ => r3
 | .vp k v off, _, ⟨b, r1, r3, r4⟩ => r3
theorem RelAll.inside {g : Gh} {w : World} : ∀ (ays : List AV) (vs : List Value), RelAll g w ays vs → ScopedL g.objs.length g.tk.length ays
 | [], _, _ => trivial
 | a :: ays, _, ⟨v, vr, r1, r2, r3⟩ => ⟨Rel.inside a v r2, RelAll.inside ays vr r3⟩
theorem RelCells.inside {g : Gh} {w : World} : ∀ (ays : List AV) (b off : Nat), RelCells g w ays b off → ScopedL g.objs.length g.tk.length ays
 | [], _, _, _ => trivial
 | a :: ays, b, off, ⟨⟨u, r1, r2, r5, r3⟩, r4⟩ => ⟨Rel.inside a u r3, RelCells.inside ays b (off + 1) r4⟩
theorem RelRows.inside {g : Gh} {w : World} (sz : Nat) : ∀ (l : List (List AV)) (b off : Nat), RelRows g w sz l b off → ScopedR g.objs.length g.tk.length l
 | [], _, _, _ => trivial
 | x :: l, b, off, ⟨r1, r2, r3⟩ => ⟨RelCells.inside x b off r2, RelRows.inside sz l b (off + sz) r3⟩
end
def ScopedOb (n m : Nat) : Ob → Prop
 | .cells cs => ScopedL n m cs
 | .map es => ScopedL n m (es.map (·.1)) ∧ ScopedL n m (es.map (·.2))
 | .gone => True
 | .nov _ => True
 | .lp _ _ _ tm => ScopedL n m tm
 | .vec _ cs => ScopedL n m cs
def okNext (o o' : Ob) : Prop :=
 match o' with
 | .vec v' _ => match o with
  | .vec v _ => v = v'
  | _ => False
 | .gone => match o with
  | .gone => True
  | _ => False
 | .nov v' => match o with
  | .nov v => v = v'
  | _ => False
 | _ => match o with
  | .vec .. => False
  | .nov _ => False
  | _ => True
theorem okNext.refl (o : Ob) : okNext o o := by cases o <;> simp [okNext]
theorem okNext.gone {o o' : Ob} : okNext o o' → (match o with | .gone => False | .vec .. => False | .nov _ => False | _ => True) → match o' with | .gone => False | .vec .. => False | .nov _ => False | _ => True := by
 cases o <;> cases o' <;> simp [okNext]
theorem okNext.vec {v : Nat} {cs : List AV} {o' : Ob} (h : okNext (.vec v cs) o') : ∃ cs', o' = .vec v cs' := by
 cases o' <;> simp_all [okNext]
theorem okNext.vecB {v : Nat} {cs : List AV} {o : Ob} (h : okNext o (.vec v cs)) : ∃ cs', o = .vec v cs' := by
 cases o <;> simp_all [okNext]
theorem forgetS {id : FuncId} {args : List AV} {st : St} {r : AV} {os xo : List Ob} {xt : List (Nat × Nat)} (h : CallsTo P id args st (.ret r, ⟨os ++ xo, st.tk ++ xt⟩)) (hlen : os.length = st.objs.length)
  (hos : ∀ (k : Nat) (o o' : Ob), st.objs[k]? = some o → os[k]? = some o' → o' = o ∨ (ScopedOb st.objs.length st.tk.length o' ∧ okNext o o'))
  (hr' : ScopedL st.objs.length st.tk.length args → Scoped st.objs.length st.tk.length (frz r)) : CallsTo P id args st (.ret (frz r), ⟨os, st.tk⟩) := by
 intro g w vals hv hs
 have hr := hr' (by have := RelAll.inside args vals.toList hv; rw [hs.len, hs.tk] at this; exact this)
 refine (h g w vals hv hs).mono fun e w' ⟨g', h1, h2, h3⟩ => ?_
 obtain ⟨v, rfl, hv'⟩ := h1
 have hnext : ∀ (k : Nat) (o o' : Ob), st.objs[k]? = some o → os[k]? = some o' → okNext o o' := by
  intro k o o' h1 h2
  rcases hos k o o' h1 h2 with rfl | h4
  ·exact okNext.refl _
  ·exact h4.2
 have hobs : ∀ (k b : Nat) (o : Ob), g.objs[k]? = some b → os[k]? = some o → ScopedOb g.objs.length g.tk.length o := by
  intro k b o hk ho
  have hkl : k < st.objs.length := by rw [← hlen]; exact getElem?_lt ho
  have hst : st.objs[k]? = some st.objs[k] := List.getElem?_eq_getElem hkl
  rcases hos k _ o hst ho with h4 | h4
  ·obtain ⟨_, hr⟩ := hs.obj k b _ hk hst
   rw [h4]
   revert hr
   generalize st.objs[k] = y
   intro hr
   cases y with
   | cells cs => obtain ⟨_, C, E, _, hr, _⟩ := hr; exact RelAll.inside _ _ hr
   | map es => obtain ⟨_, M, c, _, hr, hr'⟩ := hr; exact ⟨RelAll.inside _ _ hr, RelAll.inside _ _ hr'⟩
   | lp _ _ _ _ => obtain ⟨_, L, _, _, _, hr⟩ := hr; exact RelAll.inside _ _ hr
   | gone => trivial
   | nov v => trivial
   | vec v cs => obtain ⟨_, b', _, _, C, E, _, hr, _⟩ := hr; exact RelAll.inside _ _ hr
  ·rw [hs.len, hs.tk]; exact h4.1
 have hvk : ∀ b k, b < w.heap.size → g.kind b = .vec k → ∃ v cs cs', st.objs[k]? = some (.vec v cs) ∧ os[k]? = some (.vec v cs') ∧ g.ver k = v ∧ g'.ver k = v ∧ g'.kind b = .vec k := by
  intro b k hb hk
  obtain ⟨⟨v, cs, k1⟩, _⟩ := hs.vec b k hb hk
  have hkl : k < os.length := by rw [hlen]; exact getElem?_lt k1
  have ho' : os[k]? = some os[k] := List.getElem?_eq_getElem hkl
  obtain ⟨cs', k2⟩ := (hnext k _ _ k1 ho').vec
  rw [k2] at ho'
  have hkg : k < g.objs.length := by rw [hs.len, ← hlen]; exact hkl
  have k3 := (vec_of hs hkg k1).1
  have k4 := (vec_of h2 (Nat.lt_of_lt_of_le hkg h3.objlen) (by rw [List.getElem?_append_left hkl]; exact ho')).1
  exact ⟨v, cs, cs', k1, ho', k3, k4, (h3.vec b k hb hkg hk (by rw [k4, k3])).1⟩
 have hcut : Cut g g' w w' := by
  refine ⟨fun b hb => ?_, fun k b hk hb => ?_, fun t ht => ?_, fun b t hb hk => by rw [hs.tk]; exact hs.rowlt b t hb hk, fun b k hk hb he => ?_⟩
  ·cases hk : g.kind b with
   | solid => exact (h3.solid b hb hk).1
   | part S => exact (h3.part b hb hk).1
   | row t => exact (h3.row b t hb hk).1
   | vec k => obtain ⟨_, _, _, _, _, _, _, h⟩ := hvk b k hb hk; exact h
   | obj k =>
    obtain ⟨o, o1, o2, o3⟩ := hs.back b k hb hk
    have hkl : k < os.length := by rw [hlen]; exact getElem?_lt o1
    have ho' : os[k]? = some os[k] := List.getElem?_eq_getElem hkl
    have := (hnext k o _ o1 ho').gone o3
    have hob := (h2.obj k b os[k] (h3.objs k b o2) (by rw [List.getElem?_append_left hkl]; exact ho')).2
    generalize os[k] = o' at this hob
    cases o' with
    | cells cs => exact hob.1
    | map es => exact hob.1
    | lp _ _ _ _ => exact hob.1
    | gone => exact this.elim
    | nov v => exact this.elim
    | vec v cs => exact this.elim
  ·have : g.objs[k]? = some g.objs[k] := List.getElem?_eq_getElem hk
   have h4 := h3.objs k _ this
   rw [hb] at h4
   rw [this]
   exact h4.symm
  ·rw [h2.tk, hs.tk, List.getElem?_append_left (by rw [← hs.tk]; exact ht)]
  ·obtain ⟨⟨v, cs, k1⟩, k2⟩ := h2.vec b k hb he
   have hkl : k < os.length := by rw [hlen, ← hs.len]; exact hk
   rw [List.getElem?_append_left hkl] at k1
   have hst : st.objs[k]? = some st.objs[k] := List.getElem?_eq_getElem (by rw [← hlen]; exact hkl)
   obtain ⟨cs', k3⟩ := (hnext k _ _ hst k1).vecB
   rw [k3] at hst
   obtain ⟨_, b0, k4, k5, _⟩ := vec_of hs hk hst
   obtain ⟨_, _, _, _, _, _, _, k6⟩ := hvk b0 k k4 k5
   rw [← k2 b0 (Nat.lt_of_lt_of_le k4 h3.size) k6]
   exact k4
 have hE : Ev g w (g.cut g' w.heap.size) w' := by
  refine ⟨h3.os, h3.tape, h3.output, h3.size, fun b hb hk => ⟨by simp only [Gh.cut]; rw [if_pos hb], (h3.fixed b hb hk).2⟩, fun b t hb hk => ⟨by simp only [Gh.cut]; rw [if_pos hb]; exact hk, (h3.row b t hb hk).2⟩, fun b k hb hk => .inl (by simp only [Gh.cut]; rw [if_pos hb]; exact hk), fun _ _ h => h, tk_refl _, h3.ver, fun b k hb hkl hk hv => ⟨by simp only [Gh.cut]; rw [if_pos hb]; exact hk, (h3.vec b k hb hkl hk hv).2⟩, h3.ty⟩
 refine ⟨g.cut g' w.heap.size, ⟨v, rfl, hcut.rel _ _ (by rw [hs.len, hs.tk]; exact hr) (frz_rel hv')⟩, ⟨hs.tk, by rw [hlen]; exact hs.len, fun k b o hk ho => ?_, fun b k hb hk => ?_, fun b t hb hk => ?_, fun b k hb hk => ?_, hs.glob.mono hE⟩, hE⟩
 ·have hkl : k < os.length := getElem?_lt ho
  obtain ⟨p1, p2⟩ := h2.obj k b o (h3.objs k b hk) (by rw [List.getElem?_append_left hkl]; exact ho)
  have hblt : b < w.heap.size := (hs.obj k b _ hk (List.getElem?_eq_getElem (by omega))).1
  refine ⟨p1, ?_⟩
  have hsc := hobs k b o hk ho
  cases o with
  | cells cs =>
   obtain ⟨q1, C, E, q2, q3, q4⟩ := p2
   exact ⟨by simp only [Gh.cut]; rw [if_pos hblt, ← hcut.kind b hblt]; exact q1, C, E, q2, hcut.relAll _ _ hsc q3, q4⟩
  | map es =>
   obtain ⟨q1, M, c, q2, q3, q4⟩ := p2
   exact ⟨by simp only [Gh.cut]; rw [if_pos hblt, ← hcut.kind b hblt]; exact q1, M, c, q2, hcut.relAll _ _ hsc.1 q3, hcut.relAll _ _ hsc.2 q4⟩
  | gone => trivial
  | lp s' j' f' tm' =>
   obtain ⟨q1, L, q2, q3, q4, q5⟩ := p2
   exact ⟨by simp only [Gh.cut]; rw [if_pos hblt, ← hcut.kind b hblt]; exact q1, L, q2, q3, q4, hcut.relAll _ _ hsc q5⟩
  | nov v => exact p2
  | vec v cs =>
   obtain ⟨q1, b', q2, q3, C, E, q4, q5, q6⟩ := p2
   exact ⟨q1, b', q2, hcut.vkind (by rw [hs.len, ← hlen]; exact hkl) q2 q3, C, E, q4, hcut.relAll _ _ hsc q5, q6⟩
 ·simp only [Gh.cut] at hk
  by_cases hb' : b < w.heap.size
  ·rw [if_pos hb'] at hk
   obtain ⟨o, o1, o2, o3⟩ := hs.back b k hb' hk
   have hkl : k < os.length := by rw [hlen]; exact getElem?_lt o1
   exact ⟨os[k], List.getElem?_eq_getElem hkl, o2, (hnext k o _ o1 (List.getElem?_eq_getElem hkl)).gone o3⟩
  ·rw [if_neg hb'] at hk
   split at hk
   ·split at hk <;> cases hk
   ·cases hk
 ·simp only [Gh.cut] at hk
  by_cases hb' : b < w.heap.size
  ·rw [if_pos hb'] at hk; exact hs.rowlt b t hb' hk
  ·rw [if_neg hb'] at hk
   split at hk
   ·split at hk
    ·rename_i ht
     cases hk
     show t < st.tk.length
     rw [← hs.tk]; exact ht
    ·cases hk
   ·cases hk
 ·have hold : ∀ b, (g.cut g' w.heap.size).kind b = .vec k → b < w.heap.size ∧ g.kind b = .vec k := by
   intro b hk
   simp only [Gh.cut] at hk
   by_cases hb' : b < w.heap.size
   ·rw [if_pos hb'] at hk; exact ⟨hb', hk⟩
   ·rw [if_neg hb'] at hk
    split at hk
    ·split at hk <;> cases hk
    ·cases hk
  obtain ⟨k1, k2⟩ := hold b hk
  obtain ⟨v, _, cs', _, k3, _⟩ := hvk b k k1 k2
  refine ⟨⟨v, cs', k3⟩, fun b' _ hk' => ?_⟩
  obtain ⟨k4, k5⟩ := hold b' hk'
  exact (hs.vec b k k1 k2).2 b' k4 k5
theorem forget {id : FuncId} {args : List AV} {st : St} {r : AV} {os xo : List Ob} {xt : List (Nat × Nat)} (h : CallsTo P id args st (.ret r, ⟨os ++ xo, st.tk ++ xt⟩)) (hlen : os.length = st.objs.length)
  (hos : os = st.objs ∨ ((∀ o ∈ os, ScopedOb st.objs.length st.tk.length o) ∧ ∀ (k : Nat) (o o' : Ob), st.objs[k]? = some o → os[k]? = some o' → okNext o o'))
  (hr' : ScopedL st.objs.length st.tk.length args → Scoped st.objs.length st.tk.length (frz r)) : CallsTo P id args st (.ret (frz r), ⟨os, st.tk⟩) := by
 refine forgetS h hlen (fun k o o' h1 h2 => ?_) hr'
 rcases hos with rfl | hos
 ·rw [h1] at h2; cases h2; exact .inl rfl
 ·exact .inr ⟨hos.1 o' (List.mem_of_getElem? h2), hos.2 k o o' h1 h2⟩
def Fun.pure (f : Fun P) (G : List AV → Option AV) (hG : ∀ args r, G args = some r → (∀ n m, ScopedL n m args → Scoped n m r) ∧ ∃ F, ∀ st, ∃ r' xo xt, frz r' = r ∧ f.run F args st = some (.ret r', ⟨st.objs ++ xo, st.tk ++ xt⟩)) : POrc P where
 id := f.id
 fn := f.fn
 hf := f.hf
 hname := f.hname
 hb := by rw [f.hbody]; rfl
 F args k := match G args with
  | some r => k r
  | none => none
 sound k args fin h := by
  split at h
  ·rename_i r hr
   obtain ⟨h2, F, h3⟩ := hG args r hr
   refine ⟨r, h, fun st => ?_⟩
   obtain ⟨r', xo, xt, h1, h4⟩ := h3 st
   have := forget (f.sound h4) rfl (.inl rfl) (by rw [h1]; exact h2 _ _)
   rwa [h1] at this
  ·cases h
end
end Go.V
namespace Go.V
section
variable {P : Program}
theorem RelAll.at {g : Gh} {w : World} : ∀ {ays : List AV} {vs : List Value} {i : Nat} {a : AV}, RelAll g w ays vs → ays[i]? = some a → ∃ v, vs[i]? = some v ∧ Rel g w a v
 | [], _, i, a, _, h => by simp at h
 | x :: ays, _, 0, a, ⟨v, vr, rfl, h1, h2⟩, h => by simp at h; subst h; exact ⟨v, by simp, h1⟩
 | x :: ays, _, i + 1, a, ⟨v, vr, rfl, h1, h2⟩, h => by
  obtain ⟨u, k1, k2⟩ := RelAll.at h2 (by simpa using h)
  exact ⟨u, by simpa using k1, k2⟩
end
end Go.V
namespace Go.V
section
variable {P : Program}
theorem onInt_nat {x : AV} {s s' : IntKind → Int → Ans} {K : AV → Ans} (h : ∀ k n, s k n = thenA (s' k n) K) : onInt x s = thenA (onInt x s') K := by
 cases x <;> first | exact h _ _ | rfl
theorem aint_nat (op : BinOp) (kx : IntKind) (a : Int) (ky : IntKind) (b : Int) (k : AV → Ans) : aint op kx a ky b k = thenA (aint op kx a ky b retA) k := by
 cases op <;> simp only [aint] <;> (repeat' split) <;> rfl
theorem opBin_nat {dst : Option Tmp} {op : BinOp} {T : TypeId} {x y : Operand} {T' ty : TypeId} {pos : String} {after : Array Edge} : (opBin (P := P) dst op T x y T' ty pos after).Nat :=
 fun ev k => onInt_nat fun _ _ => onInt_nat fun _ _ => aint_nat _ _ _ _ _ _
theorem opFieldAddr_nat {dst : Option Tmp} {T : TypeId} {x : Operand} {f off sz : Nat} {ag : Bool} {hf : fieldB P T f off sz ag = true} {h0 : sz ≠ 0} {ty : TypeId} {pos : String} {after : Array Edge} : (opFieldAddr (P := P) dst T x f off sz ag hf h0 ty pos after).Nat := by
 intro ev k
 show aoff off (ev x) k = thenA (aoff off (ev x) retA) k
 unfold aoff
 (repeat' split) <;> rfl
theorem opConvInt_nat {dst : Option Tmp} {S T : TypeId} {x : Operand} {d : TypeDesc} {hS : P.underlying S = some d} {kd : IntKind} {hT : P.underlying T = some (.int kd)} {ty : TypeId} {pos : String} {after : Array Edge} : (opConvInt (P := P) dst S T x d hS kd hT ty pos after).Nat := by
 intro ev k
 show aconv kd (ev x) k = thenA (aconv kd (ev x) retA) k
 unfold aconv
 (repeat' split) <;> rfl
end
end Go.V
namespace Go.V
def onSome {α : Type} (o : Option α) (n : Ans) (s : α → Ans) : Ans :=
 match o with
 | none => n
 | some x => s x
def onCons {α : Type} (l : List α) (n : Ans) (s : α → List α → Ans) : Ans :=
 match l with
 | [] => n
 | x :: r => s x r
@[simp] theorem onSome_some {α : Type} (x : α) (n : Ans) (s : α → Ans) : onSome (some x) n s = s x := rfl
@[simp] theorem onSome_none {α : Type} (n : Ans) (s : α → Ans) : onSome none n s = n := rfl
@[simp] theorem onCons_cons {α : Type} (x : α) (r : List α) (n : Ans) (s : α → List α → Ans) : onCons (x :: r) n s = s x r := rfl
@[simp] theorem onCons_nil {α : Type} (n : Ans) (s : α → List α → Ans) : onCons [] n s = n := rfl
@[simp] theorem onInt_int (k : IntKind) (n : Int) (s : IntKind → Int → Ans) : onInt (.int k n) s = s k n := rfl
@[simp] theorem onStr_str (b : ByteArray) (s : ByteArray → Ans) : onStr (.str b) s = s b := rfl
@[simp] theorem onBool_bool (b : Bool) (s : Bool → Ans) : onBool (.bool b) s = s b := rfl
@[simp] theorem branch_true (y n : Ans) : branch (.bool true) y n = y := rfl
@[simp] theorem branch_false (y n : Ans) : branch (.bool false) y n = n := rfl
theorem branch_of {b : Bool} {y n : Ans} (h : b = true) : branch (.bool b) y n = y := by rw [h]; rfl
theorem branch_not {b : Bool} {y n : Ans} (h : b = false) : branch (.bool b) y n = n := by rw [h]; rfl
section
variable {P : Program}
theorem frzs_all {g : Gh} {w : World} : ∀ {xs : List AV} {vs : List Value}, RelAll g w xs vs → RelAll g w (xs.map frz) vs
 | [], _, h => h
 | x :: xs, _, ⟨v, vr, e, h1, h2⟩ => ⟨v, vr, e, frz_rel h1, frzs_all h2⟩
def POrc.fz (O : POrc P) : POrc P where
 id := O.id
 fn := O.fn
 hf := O.hf
 hname := O.hname
 hb := O.hb
 F args k := O.F (args.map frz) k
 sound k args fin h := by
  obtain ⟨r, h1, h2⟩ := O.sound _ _ _ h
  exact ⟨r, h1, fun st g w vals hr hs => h2 st g w vals (frzs_all hr) hs⟩
end
theorem wrapS {n : Int} (h1 : -9223372036854775808 ≤ n) (h2 : n ≤ 9223372036854775807) : IntKind.i64.wrap n = n := by
 unfold IntKind.wrap
 simp only [IntKind.bits, IntKind.signed, Bool.true_and]
 split
 ·rename_i h; simp only [ge_iff_le, decide_eq_true_eq] at h; omega
 ·rename_i h; simp only [ge_iff_le, decide_eq_true_eq] at h; omega
end Go.V
namespace Go.V
open Go.RowKit
section
variable {P : Program}
def g0 : Gh := ⟨fun _ => .solid, [], [], fun _ => 0⟩
theorem StRel.zero (W : World) (hG : Globs g0 W) : StRel g0 ⟨[], []⟩ W :=
 ⟨rfl, rfl, fun k b o h => by simp [g0] at h, fun b k _ h => by simp [g0] at h, fun b t _ h => by simp [g0] at h, fun b k _ h => by simp [g0] at h, hG⟩
theorem Ev.below {W W' : World} {g : Gh} (h : Ev g0 W g W') : Below W.heap.size W W' :=
 ⟨h.os, h.tape, h.output, h.size, fun k hk => (h.solid k hk rfl).2⟩
theorem Fun.walk (f : Fun P) {F : Nat} {args : List AV} {st : St} (h : f.run F args ⟨[], []⟩ = some (.ret (.bool true), st)) (W : World) (hG : Globs g0 W) (vals : Array Value) (hr : RelAll g0 W args vals.toList) :
  Calls P f.id vals W fun e W' => e = .returned (.bool true) ∧ Below W.heap.size W W' := by
 refine (f.sound h g0 W vals hr (StRel.zero W hG)).mono fun e w' ⟨g', h1, h2, h3⟩ => ?_
 obtain ⟨v, rfl, hv⟩ := h1
 exact ⟨by rw [show v = .bool true from hv], h3.below⟩
end
end Go.V
namespace Go.V
section
variable {P : Program}
def Flat : AV → Prop
 | .bool _ => True
 | .int _ _ => True
 | .str _ => True
 | .nilptr => True
 | .nilsl => True
 | .nilmap => True
 | .nilfn => True
 | .nilif => True
 | _ => False
theorem Flat.any {a : AV} (h : Flat a) {g g' : Gh} {w w' : World} {v : Value} (r : Rel g w a v) : Rel g' w' a v := by
 cases a <;> first | exact r | exact h.elim
def Gh.kept (g : Gh) (size : Nat) : Gh := ⟨fun b => if b < size then g.kind b else .solid, g.objs, g.tk, g.ver⟩
theorem kept {g : Gh} {st : St} {w w' : World} (hst : StRel g st w) (h1 : w'.os = w.os) (h2 : w'.tape = w.tape) (h3 : w'.output = w.output) (h4 : w.heap.size ≤ w'.heap.size) (h5 : ∀ b, b < w.heap.size → w'.heap[b]? = w.heap[b]?) :
  StRel (g.kept w.heap.size) st w' ∧ Ev g w (g.kept w.heap.size) w' := by
 have hk : ∀ b, b < w.heap.size → (g.kept w.heap.size).kind b = g.kind b := fun b hb => by simp only [Gh.kept]; rw [if_pos hb]
 have hk' : ∀ b x, (g.kept w.heap.size).kind b = x → x ≠ .solid → b < w.heap.size ∧ g.kind b = x := by
  intro b x hx hne
  simp only [Gh.kept] at hx
  split at hx
  ·rename_i hb; exact ⟨hb, hx⟩
  ·exact absurd hx.symm hne
 have hE : Ev g w (g.kept w.heap.size) w' := by
  refine ⟨h1, h2, h3, h4, fun b hb' _ => ⟨hk b hb', h5 b hb'⟩, fun b t hb' h => ⟨(hk b hb').trans h, fun C E fz hC => ⟨C, by rw [h5 b hb']; exact hC, rfl, fun _ _ => rfl⟩⟩, fun b k hb' h => .inl ((hk b hb').trans h), fun _ _ h => h, tk_refl _, fun _ _ => Nat.le_refl _, fun b k hb' _ h _ => ⟨(hk b hb').trans h, fun C E fz hC => ⟨C, by rw [h5 b hb']; exact hC, rfl⟩⟩, fun b C E fz hC => ⟨C, fz, (h5 b (lt_of_block hC)).trans hC, rfl⟩⟩
 refine ⟨⟨hst.tk, hst.len, fun k b o hk1 ho => ?_, fun b k hb' h => ?_, fun b t hb' h => ?_, fun b k hb' h => ?_, hst.glob.mono hE⟩, hE⟩
 ·obtain ⟨p1, p2⟩ := hst.obj k b o hk1 ho
  exact ⟨Nat.lt_of_lt_of_le p1 h4, p2.keep hE (h5 b p1) (hk b p1) (fun b' hb' hv => ⟨h5 b' hb', (hk b' hb').trans hv⟩) rfl⟩
 ·obtain ⟨k1, k2⟩ := hk' b _ h (by intro e; cases e)
  exact hst.back b k k1 k2
 ·obtain ⟨k1, k2⟩ := hk' b _ h (by intro e; cases e)
  exact hst.rowlt b t k1 k2
 ·obtain ⟨k1, k2⟩ := hk' b _ h (by intro e; cases e)
  obtain ⟨k3, k4⟩ := hst.vec b k k1 k2
  refine ⟨k3, fun b' _ h' => ?_⟩
  obtain ⟨k5, k6⟩ := hk' b' _ h' (by intro e; cases e)
  exact k4 b' k5 k6
end
end Go.V
namespace Go.V
section
variable {P : Program}
def numsOf : List (List AV) → Option (List Int)
 | [] => some []
 | r :: l => match r with
  | [.int .u8 n] => match numsOf l with
   | some ns => some (n :: ns)
   | none => none
  | _ => none
theorem numsOf_rows {g : Gh} {w : World} : ∀ {l : List (List AV)} {ns : List Int} {vs : List Value}, numsOf l = some ns → RelAll g w l.flatten vs → vs = ns.map (Value.int .u8) ∧ ns.length = l.length
 | [], ns, vs, h, hr => by
  simp only [numsOf, Option.some.injEq] at h
  subst h
  obtain rfl : vs = [] := hr
  exact ⟨rfl, rfl⟩
 | r :: l, ns, vs, h, hr => by
  unfold numsOf at h
  split at h
  ·rename_i n
   split at h
   ·rename_i ns' hn
    simp only [Option.some.injEq] at h
    subst h
    obtain ⟨v, vr, rfl, h1, h2⟩ := hr
    obtain rfl : v = .int .u8 n := h1
    obtain ⟨k1, k2⟩ := numsOf_rows hn h2
    exact ⟨by rw [k1]; rfl, by simp [k2]⟩
   ·cases h
  ·cases h
theorem numsOf_map (bs : List Int) : numsOf (bs.map fun b => [.int .u8 b]) = some bs := by
 induction bs with
 | nil => rfl
 | cons b bs ih => simp [numsOf, ih]
def textOf (ns : List Int) : ByteArray := ns.foldl (fun r n => r.push (UInt8.ofNat n.toNat)) ByteArray.empty
def abytes (x : AV) (st : St) (k : AV → Ans) : Ans :=
 match x with
 | .str _ => k .dead
 | x => match rowsA 1 x st with
  | some l => match numsOf l with
   | some ns => k (.str (textOf ns))
   | none => none
  | none => none
def opBytesStr (dst : Option Tmp) (S T : TypeId) (x : Operand) (e : TypeId) (hS : P.underlying S = some (.slice e)) (he : P.underlying e = some (.int .u8)) (hT : P.underlying T = some .string) (ty : TypeId) (pos : String) (after : Array Edge) : QSim P :=
 QSim.quiet (mkOp dst (.convert S T x) ty pos after) rfl [x] (fun ev st k => match ev x with | .str _ => none | _ => abytes (ev x) st k) (fun ev ev' st k h => by simp only [h x (by simp)]) fun ev st k fin h g w a hev hs => by
  have hv := hev x (by simp)
  have hns : ∀ s, ev x ≠ .str s := by intro s hb; rw [hb] at h; cases h
  have h' : abytes (ev x) st k = some fin := by
   revert h
   cases hx : ev x <;> simp only [imp_self]
   rename_i s; exact absurd hx (hns s)
  clear h
  have h := h'
  unfold abytes at h
  split at h
  ·rename_i s hb; exact absurd hb (hns s)
  ·split at h
   ·rename_i l hl
    split at h
    ·rename_i ns hn
     obtain ⟨vs, r1, r2, r3, r4, r5, r6⟩ := rowsA_run (P := P) hs hv hl
     obtain ⟨rfl, hlen⟩ := numsOf_rows hn r1
     have hsl : (a.eval x = .slice none 0 0 ∧ l = []) ∨ ∃ p n c, a.eval x = .slice (some p) n c := by
      unfold rowsA at hl
      revert hv
      cases hx : ev x <;> rw [hx] at hl <;> simp at hl <;> intro hv
      ·rename_i s; exact absurd hx (hns s)
      ·exact .inl ⟨hv, hl⟩
      ·obtain ⟨_, _, _, _, hv, _⟩ := hv; exact .inr ⟨_, _, _, hv⟩
      ·obtain ⟨_, _, _, _, _, hv, _⟩ := hv; exact .inr ⟨_, _, _, hv⟩
      ·obtain ⟨_, _, hv, _⟩ := hv; exact .inr ⟨_, _, _, hv⟩
      ·rename_i z s l'
       rcases hv with ⟨_, rfl, hv⟩ | ⟨_, _, _, _, _, hv, _⟩
       ·refine .inl ⟨hv, ?_⟩
        split at hl
        ·simpa using hl.symm
        ·cases hl
       ·exact .inr ⟨_, _, _, hv⟩
      ·obtain ⟨_, _, hv, _⟩ := hv; exact .inr ⟨_, _, _, hv⟩
     refine ⟨_, .string (textOf ns), h, ?_, rfl⟩
     simp only [execOp, mkOp]
     rcases hsl with ⟨hx, rfl⟩ | ⟨p, n, c, hx⟩
     ·have h0 : ns = [] := List.eq_nil_of_length_eq_zero (by simpa using hlen)
      subst h0
      rw [Sem.run_bind, hx, run_convert_bytes_string w S T e none 0 0 hS he hT]
      simp [Conv.bytesToString, textOf]
     ·have hn' : n = l.length := by
       have := r5 w
       rw [hx] at this
       simp [Builtin.lenOf] at this
       exact this
      rw [Sem.run_bind, hx, run_convert_bytes_string w S T e (some p) n c hS he hT]
      have h3 := r6 w rfl
      rw [hx] at h3
      simp only [Builtin.firstCells, Nat.mul_one] at h3
      rw [run_bytesToString w p n c ns (by rw [hn']; exact h3)]
      rfl
    ·cases h
   ·cases h
end
end Go.V
namespace Go.V
section
variable {P : Program}
noncomputable def cdec (p : Prop) : Bool := @decide p (Classical.propDecidable p)
theorem cdec_iff {p : Prop} : cdec p = true ↔ p := by simp [cdec]
end
def byteOf : List AV → Nat
 | [.int _ n] => n.toNat
 | _ => 0
def isByte : List AV → Bool
 | [.int .u8 n] => decide (0 ≤ n) && decide (n < 256)
 | _ => false
def okR (l : List (List AV)) : Bool := l.all isByte
def nR (l : List (List AV)) : List Nat := l.map byteOf
theorem isByte_row {r : List AV} (h : isByte r = true) : r = [.int .u8 (byteOf r : Int)] ∧ byteOf r < 256 := by
 unfold isByte at h
 split at h
 ·rename_i n
  simp only [Bool.and_eq_true, decide_eq_true_eq] at h
  simp only [byteOf]
  exact ⟨by rw [Int.toNat_of_nonneg h.1], by omega⟩
 ·cases h
def bR (l : List Nat) : List (List AV) := l.map fun (b : Nat) => [.int .u8 (b : Int)]
theorem okR_rows : ∀ {l : List (List AV)}, okR l = true → l = bR (nR l)
 | [], _ => rfl
 | r :: l, h => by
  simp only [okR, List.all_cons, Bool.and_eq_true] at h
  have := okR_rows (l := l) h.2
  simp only [bR, nR, List.map_cons, List.map_map] at this ⊢
  rw [← (isByte_row h.1).1, ← this]
theorem okR_lt {l : List (List AV)} (h : okR l = true) {b : Nat} (hb : b ∈ nR l) : b < 256 := by
 obtain ⟨r, hr, rfl⟩ := List.mem_map.mp hb
 exact (isByte_row (List.all_eq_true.mp h r hr)).2
theorem nR_bR (l : List Nat) : nR (bR l) = l := by
 simp only [nR, bR, List.map_map]
 conv => rhs; rw [← List.map_id l]
 exact List.map_congr_left fun b _ => by simp [byteOf]
theorem okR_bR {l : List Nat} (h : ∀ b ∈ l, b < 256) : okR (bR l) = true := by
 simp only [okR, bR, List.all_map, List.all_eq_true]
 intro b hb
 simp only [Function.comp, isByte, Bool.and_eq_true, decide_eq_true_eq]
 have := h b hb
 omega
theorem nR_length (a : List (List AV)) : (nR a).length = a.length := by simp [nR]
theorem bR_length (a : List Nat) : (bR a).length = a.length := by simp [bR]
theorem bR_take (n : Nat) (a : List Nat) : (bR a).take n = bR (a.take n) := by simp [bR]
theorem bR_drop (n : Nat) (a : List Nat) : (bR a).drop n = bR (a.drop n) := by simp [bR]
theorem okR_take {l : List (List AV)} (h : okR l = true) (n : Nat) : okR (l.take n) = true :=
 List.all_eq_true.mpr fun x hx => List.all_eq_true.mp h x (List.mem_of_mem_take hx)
theorem okR_drop {l : List (List AV)} (h : okR l = true) (n : Nat) : okR (l.drop n) = true :=
 List.all_eq_true.mpr fun x hx => List.all_eq_true.mp h x (List.mem_of_mem_drop hx)
inductive Br where
 | nil
 | sl (f : Bool) (l : List (List AV))
def Br.list : Br → List (List AV)
 | .nil => []
 | .sl _ l => l
end Go.V
namespace Go.V
section
variable {P : Program}
structure OrcQ (P : Program) where
 id : FuncId
 fn : Func
 hf : P.funcs[id]? = some fn
 hname : (fn.name == "runtime.NumGoroutine") = false
 hb : fn.body.isNone = false
 F : List AV → St → (AV → Ans) → Ans
 sound : ∀ k args st fin, F args st k = some fin → ∃ r, k r = some fin ∧ CallsTo P id args st (.ret r, st)
def opCallQ (O : OrcQ P) (dst : Option Tmp) (args : List Operand) (tys : Array TypeId) (ty : TypeId) (pos : String) (after : Array Edge) : QSim P where
 oper := mkOp dst (.call { callee := .value (.func O.id), args := args.toArray, argTypes := tys }) ty pos after
 plain := rfl
 xs := args
 f ev st k := O.F (args.map ev) st k
 congr ev ev' st k h := by rw [map_ev h fun _ h => h]
 sound ev st k fin h g w a he hs := by
  obtain ⟨r, h1, h2⟩ := O.sound _ _ _ _ h
  exact ⟨r, h1, call_told O.hf O.hname O.hb he hs h2⟩
def OrcQ.NatQ (O : OrcQ P) : Prop := ∀ args st k, O.F args st k = thenA (O.F args st retA) k
theorem opCallQ_nat {O : OrcQ P} (h : O.NatQ) {dst : Option Tmp} {args : List Operand} {tys : Array TypeId} {ty : TypeId} {pos : String} {after : Array Edge} : (opCallQ O dst args tys ty pos after).Nat := fun ev st k => h _ _ _
end
end Go.V
namespace Go.V
section
variable {P : Program}
def PSim.by' (x : PSim P) (f : (Operand → AV) → (AV → Ans) → Ans) (hc : ∀ ev ev' k, (∀ o ∈ x.xs, ev o = ev' o) → f ev k = f ev' k) (h : ∀ ev k fin, f ev k = some fin → x.f ev k = some fin) : PSim P :=
 ⟨x.oper, x.plain, x.xs, f, hc, fun ev k fin hk => x.sound ev k fin (h ev k fin hk)⟩
def QSim.by' (x : QSim P) (f : (Operand → AV) → St → (AV → Ans) → Ans) (hc : ∀ ev ev' st k, (∀ o ∈ x.xs, ev o = ev' o) → f ev st k = f ev' st k) (h : ∀ ev st k fin, f ev st k = some fin → x.f ev st k = some fin) : QSim P :=
 ⟨x.oper, x.plain, x.xs, f, hc, fun ev st k fin hk => x.sound ev st k fin (h ev st k fin hk)⟩
def PSim.wk (x : PSim P) (f : AV → AV) (hf : ∀ g w r v, Rel g w r v → Rel g w (f r) v) : PSim P :=
 ⟨x.oper, x.plain, x.xs, fun ev k => x.f ev fun r => k (f r), fun ev ev' k h => x.congr ev ev' _ h, fun ev k fin h g w a st he hs => by
  obtain ⟨r, h1, h2⟩ := x.sound ev _ fin h g w a st he hs
  exact ⟨f r, h1, fun next Q hn => h2 next Q fun v g' w' hv h3 h4 => hn v g' w' (hf _ _ _ _ hv) h3 h4⟩⟩
def QSim.wk (x : QSim P) (f : AV → AV) (hf : ∀ g w r v, Rel g w r v → Rel g w (f r) v) : QSim P :=
 ⟨x.oper, x.plain, x.xs, fun ev st k => x.f ev st fun r => k (f r), fun ev ev' st k h => x.congr ev ev' st _ h, fun ev st k fin h g w a he hs => by
  obtain ⟨r, h1, h2⟩ := x.sound ev st _ fin h g w a he hs
  exact ⟨f r, h1, fun next Q hn => h2 next Q fun v g' w' hv h3 h4 => hn v g' w' (hf _ _ _ _ hv) h3 h4⟩⟩
def rowAt (l : List (List AV)) (i : Int) : List AV := (l[i.toNat]?).getD []
def inR (l : List (List AV)) (i : Int) : Bool := decide (0 ≤ i) && decide (i < l.length)
theorem inR_spec {l : List (List AV)} {i : Int} (h : inR l i = true) : elemAt l i = some (rowAt l i) := by
 simp only [inR, Bool.and_eq_true, decide_eq_true_eq] at h
 unfold elemAt rowAt
 rw [if_pos h.1]
 have : i.toNat < l.length := by omega
 simp [this]
def aidxT (sz : Nat) (x i : AV) (k : AV → Ans) : Ans :=
 match i with
 | .int _ i => match x with
  | .sl s _ l => match Nat.beq s sz with
   | true => match inR l i with
    | true => k (.eptr (rowAt l i))
    | false => none
   | false => none
  | .lg _ s l => match Nat.beq s sz with
   | true => match inR l i with
    | true => k (.eptr (rowAt l i))
    | false => none
   | false => none
  | .ms j s o n _ => match Nat.beq s sz with
   | true => if 0 ≤ i ∧ i < n then k (.ptr j (o + i.toNat * sz)) else none
   | false => none
  | .ns _ s l => match Nat.beq s sz with
   | true => match inR l i with
    | true => k (.eptr (rowAt l i))
    | false => none
   | false => none
  | .vs j v s n => match Nat.beq s sz with
   | true => if 0 ≤ i ∧ i < n then k (.vp j v (i.toNat * sz)) else none
   | false => none
  | _ => none
 | _ => none
theorem aidxT_aidx {sz : Nat} {x i : AV} {k : AV → Ans} {fin : Fin × St} (h : aidxT sz x i k = some fin) : aidx sz x i k = some fin := by
 unfold aidxT at h
 unfold aidx
 split at h
 ·split at h
  ·split at h
   ·split at h
    ·rename_i h1 _ h2; simp only [h1, inR_spec h2]; exact h
    ·cases h
   ·cases h
  ·split at h
   ·split at h
    ·rename_i h1 _ h2; simp only [h1, inR_spec h2]; exact h
    ·cases h
   ·cases h
  ·exact h
  ·split at h
   ·split at h
    ·rename_i h1 _ h2; simp only [h1, inR_spec h2]; exact h
    ·cases h
   ·cases h
  ·exact h
  ·cases h
 ·cases h
def opIndexAddrT (dst : Option Tmp) (T : TypeId) (x i : Operand) (e sz : Nat) (hT : P.underlying T = some (.slice e)) (hz : (P.info? e).map (·.size) = some sz) (ty : TypeId) (pos : String) (after : Array Edge) : PSim P :=
 (opIndexAddr dst T x i e sz hT hz ty pos after).by' (fun ev k => aidxT sz (ev x) (ev i) k) (fun ev ev' k h => by simp only [h x (by simp [opIndexAddr, PSim.quiet]), h i (by simp [opIndexAddr, PSim.quiet])]) fun ev k fin h => aidxT_aidx h
theorem aidxT_nat (sz : Nat) (x i : AV) (k : AV → Ans) : aidxT sz x i k = thenA (aidxT sz x i retA) k := by
 unfold aidxT
 split
 ·split
  ·split
   ·split <;> rfl
   ·rfl
  ·split
   ·split <;> rfl
   ·rfl
  ·split
   ·split <;> rfl
   ·rfl
  ·split
   ·split <;> rfl
   ·rfl
  ·split
   ·split <;> rfl
   ·rfl
  ·rfl
 ·rfl
theorem opIndexAddrT_nat {dst : Option Tmp} {T : TypeId} {x i : Operand} {e sz : Nat} {hT : P.underlying T = some (.slice e)} {hz : (P.info? e).map (·.size) = some sz} {ty : TypeId} {pos : String} {after : Array Edge} : (opIndexAddrT (P := P) dst T x i e sz hT hz ty pos after).Nat :=
 fun ev k => aidxT_nat _ _ _ _
inductive LT where
 | int (k : IntKind)
 | str
 | bool
 | any
 | ns (sz : Nat)
def hdI : List AV → Int
 | .int _ n :: _ => n
 | _ => 0
def hdS : List AV → ByteArray
 | .str s :: _ => s
 | _ => ByteArray.empty
def hdB : List AV → Bool
 | .bool b :: _ => b
 | _ => false
def hdA : List AV → AV
 | x :: _ => x
 | _ => .dead
def nilA : List AV → Bool
 | .nilsl :: _ => true
 | .ns z _ _ :: _ => z
 | _ => false
def rwA : List AV → List (List AV)
 | .sl _ _ l :: _ => l
 | .ns _ _ l :: _ => l
 | _ => []
def isLT (t : LT) (cs : List AV) : Bool :=
 match t with
 | .int K => match cs with
  | .int k _ :: _ => decide (k = K)
  | _ => false
 | .str => match cs with
  | .str _ :: _ => true
  | _ => false
 | .bool => match cs with
  | .bool _ :: _ => true
  | _ => false
 | .any => match cs with
  | _ :: _ => true
  | _ => false
 | .ns sz => match cs with
  | .nilsl :: _ => true
  | .sl s _ _ :: _ => Nat.beq s sz
  | .ns _ s _ :: _ => Nat.beq s sz
  | _ => false
def valLT (t : LT) (cs : List AV) : AV :=
 match t with
 | .int K => .int K (hdI cs)
 | .str => .str (hdS cs)
 | .bool => .bool (hdB cs)
 | .any => hdA cs
 | .ns sz => .ns (nilA cs) sz (rwA cs)
def wk (t : LT) (x : AV) : AV :=
 match t with
 | .ns sz => match isLT (.ns sz) [x] with
  | true => .ns (nilA [x]) sz (rwA [x])
  | false => x
 | _ => x
theorem wk_rel {t : LT} {g : Gh} {w : World} {x : AV} {v : Value} (h : Rel g w x v) : Rel g w (wk t x) v := by
 cases t with
 | ns sz =>
  simp only [wk]
  cases hx : isLT (.ns sz) [x] with
  | false => exact h
  | true =>
   simp only
   cases x <;> simp only [isLT, reduceCtorEq, Bool.false_eq_true] at hx
   case nilsl => exact .inl ⟨rfl, rfl, h⟩
   case sl s f l =>
    obtain rfl : s = sz := Nat.eq_of_beq_eq_true hx
    obtain ⟨b, off, sp, cap, r1, r2, r3, rs, r4⟩ := h
    exact .inr ⟨rfl, b, off, sp, cap, r1, r2, rs, r4⟩
   case ns z s l =>
    obtain rfl : s = sz := Nat.eq_of_beq_eq_true hx
    exact h
 | _ => exact h
theorem isLT_spec {t : LT} {cs : List AV} (h : isLT t cs = true) : ∃ x r, cs = x :: r ∧ valLT t cs = wk t x := by
 cases t with
 | int K =>
  simp only [isLT] at h
  split at h
  ·simp at h; subst h; exact ⟨_, _, rfl, rfl⟩
  ·cases h
 | str =>
  simp only [isLT] at h
  split at h
  ·exact ⟨_, _, rfl, rfl⟩
  ·cases h
 | bool =>
  simp only [isLT] at h
  split at h
  ·exact ⟨_, _, rfl, rfl⟩
  ·cases h
 | any =>
  simp only [isLT] at h
  split at h
  ·exact ⟨_, _, rfl, rfl⟩
  ·cases h
 | ns sz =>
  simp only [isLT] at h
  split at h
  ·exact ⟨_, _, rfl, rfl⟩
  ·exact ⟨_, _, rfl, by simp only [wk, isLT, h]; rfl⟩
  ·exact ⟨_, _, rfl, by simp only [wk, isLT, h]; rfl⟩
  ·cases h
def flatT : LT → Bool
 | .ns _ => false
 | _ => true
theorem isLT_eq {t : LT} (ht : flatT t = true) {cs : List AV} (h : isLT t cs = true) : ∃ r, cs = valLT t cs :: r := by
 obtain ⟨x, r, h1, h2⟩ := isLT_spec h
 refine ⟨r, ?_⟩
 rw [h2]
 cases t with
 | ns sz => cases ht
 | _ => exact h1
def isLTs : List LT → List AV → Bool
 | [], _ => true
 | t :: r, cs => isLT t cs && isLTs r cs.tail
def valLTs : List LT → List AV → List AV
 | [], _ => []
 | t :: r, cs => valLT t cs :: valLTs r cs.tail
def wks : List LT → List AV → List AV
 | t :: r, x :: cs => wk t x :: wks r cs
 | _, cs => cs
theorem wks_rel {g : Gh} {w : World} : ∀ {ts : List LT} {xs : List AV} {vs : List Value}, RelAll g w xs vs → RelAll g w (wks ts xs) vs
 | [], _, _, h => by simpa [wks] using h
 | _ :: _, [], _, h => h
 | t :: ts, x :: xs, _, ⟨v, vr, e, h1, h2⟩ => ⟨v, vr, e, wk_rel h1, wks_rel h2⟩
theorem isLTs_spec : ∀ {ts : List LT} {cs : List AV}, isLTs ts cs = true → ∃ xs, takeN ts.length cs = some xs ∧ valLTs ts cs = wks ts xs
 | [], _, _ => ⟨[], rfl, rfl⟩
 | t :: r, cs, h => by
  simp only [isLTs, Bool.and_eq_true] at h
  obtain ⟨x, rest, hr, hv⟩ := isLT_spec h.1
  obtain ⟨xs, ih1, ih2⟩ := isLTs_spec h.2
  refine ⟨x :: xs, ?_, by rw [valLTs, wks, hv, ih2]⟩
  rw [hr] at ih1 ⊢
  simp only [List.tail_cons] at ih1
  simp only [List.length_cons, takeN, ih1]
inductive LD where
 | one (t : LT)
 | agg (ts : List LT)
def LD.ag : LD → Bool
 | .one _ => false
 | .agg _ => true
def LD.fits (sz : Nat) : LD → Bool
 | .one _ => true
 | .agg ts => Nat.beq ts.length sz
def LD.is (d : LD) (cs : List AV) : Bool :=
 match d with
 | .one t => isLT t cs
 | .agg ts => isLTs ts cs
def LD.val (d : LD) (cs : List AV) : AV :=
 match d with
 | .one t => valLT t cs
 | .agg ts => .agg (valLTs ts cs)
def LD.wk (d : LD) (x : AV) : AV :=
 match d with
 | .one t => V.wk t x
 | .agg ts => match x with
  | .agg cs => .agg (wks ts cs)
  | x => x
theorem LD.wk_rel {d : LD} {g : Gh} {w : World} {x : AV} {v : Value} (h : Rel g w x v) : Rel g w (d.wk x) v := by
 cases d with
 | one t => exact V.wk_rel h
 | agg ts =>
  unfold LD.wk
  simp only
  split
  ·obtain ⟨vs, h1, h2, h3⟩ := h
   exact ⟨vs, h1, wks_rel h2, h3⟩
  ·exact h
theorem LD.apart {d : LD} {sz : Nat} {cs : List AV} {k : AV → Ans} (hf : d.fits sz = true) (h : d.is cs = true) : V.apart d.ag sz cs (fun r => k (d.wk r)) = k (d.val cs) := by
 cases d with
 | one t =>
  obtain ⟨x, r, hr, hv⟩ := isLT_spec (t := t) h
  show V.apart false sz cs (fun r => k (V.wk t r)) = k (valLT t cs)
  rw [hv, hr]
  rfl
 | agg ts =>
  have : ts.length = sz := Nat.eq_of_beq_eq_true hf
  subst this
  obtain ⟨xs, h1, h2⟩ := isLTs_spec (ts := ts) h
  show V.apart true ts.length cs (fun r => k ((LD.agg ts).wk r)) = k (.agg (valLTs ts cs))
  unfold V.apart
  simp only [h1, LD.wk, h2]
def aloadTF (d : LD) (p : AV) (k : AV → Ans) : Ans :=
 match p with
 | .eptr cs => match d.is cs with
  | true => k (d.val cs)
  | false => none
 | _ => none
def aloadT (d : LD) (p : AV) (st : St) (k : AV → Ans) : Ans :=
 match p with
 | .eptr cs => match d.is cs with
  | true => k (d.val cs)
  | false => none
 | .ptr j o => match st.objs[j]? with
  | some (.cells cs) => match d.is (cs.drop o) with
   | true => k (d.val (cs.drop o))
   | false => none
  | _ => none
 | .vp j v o => match st.objs[j]? with
  | some (.vec v' cs) => match Nat.beq v v' with
   | true => match d.is (cs.drop o) with
    | true => k (d.val (cs.drop o))
    | false => none
   | false => none
  | _ => none
 | _ => none
theorem aloadTF_aloadF {d : LD} {sz : Nat} (hf : d.fits sz = true) {p : AV} {k : AV → Ans} {fin : Fin × St} (h : aloadTF d p k = some fin) : aloadF d.ag sz p (fun r => k (d.wk r)) = some fin := by
 unfold aloadTF at h
 unfold aloadF
 split at h
 ·split at h
  ·rename_i h1; simp only [LD.apart hf h1]; exact h
  ·cases h
 ·cases h
theorem aloadT_aload {d : LD} {sz : Nat} (hf : d.fits sz = true) {p : AV} {st : St} {k : AV → Ans} {fin : Fin × St} (h : aloadT d p st k = some fin) : aload d.ag sz p st (fun r => k (d.wk r)) = some fin := by
 unfold aloadT at h
 unfold aload
 split at h
 ·split at h
  ·rename_i h1; simp only [LD.apart hf h1]; exact h
  ·cases h
 ·split at h
  ·rename_i h0
   split at h
   ·rename_i h1; simp only [h0, LD.apart hf h1]; exact h
   ·cases h
  ·cases h
 ·split at h
  ·rename_i h0
   split at h
   ·rename_i hv
    split at h
    ·rename_i h1; simp only [h0, hv, LD.apart hf h1]; exact h
    ·cases h
   ·cases h
  ·cases h
 ·cases h
def opLoadT (ld : LD) (dst : Option Tmp) (T : TypeId) (x : Operand) (d : TypeDesc) (hd : P.underlying T = some d) (sz : Nat) (hz : (P.info? T).map (·.size) = some sz) (hl : (ld.fits sz && (ld.ag == isAggD d)) = true) (ty : TypeId) (pos : String) (after : Array Edge) : QSim P :=
 ((opLoad dst T x d hd sz hz ty pos after).wk ld.wk fun _ _ _ _ h => LD.wk_rel h).by' (fun ev st k => aloadT ld (ev x) st k) (fun ev ev' st k h => by simp only [h x (by simp [opLoad, QSim.quiet, QSim.wk])]) fun ev st k fin h => by
  simp only [Bool.and_eq_true, beq_iff_eq] at hl
  show aload (isAggD d) sz (ev x) st (fun r => k (ld.wk r)) = some fin
  rw [← hl.2]; exact aloadT_aload hl.1 h
def opLoadTF (ld : LD) (dst : Option Tmp) (T : TypeId) (x : Operand) (d : TypeDesc) (hd : P.underlying T = some d) (sz : Nat) (hz : (P.info? T).map (·.size) = some sz) (hl : (ld.fits sz && (ld.ag == isAggD d)) = true) (ty : TypeId) (pos : String) (after : Array Edge) : PSim P :=
 ((opLoadF dst T x d hd sz hz ty pos after).wk ld.wk fun _ _ _ _ h => LD.wk_rel h).by' (fun ev k => aloadTF ld (ev x) k) (fun ev ev' k h => by simp only [h x (by simp [opLoadF, PSim.quiet, PSim.wk])]) fun ev k fin h => by
  simp only [Bool.and_eq_true, beq_iff_eq] at hl
  show aloadF (isAggD d) sz (ev x) (fun r => k (ld.wk r)) = some fin
  rw [← hl.2]; exact aloadTF_aloadF hl.1 h
theorem opLoadT_nat {ld : LD} {dst : Option Tmp} {T : TypeId} {x : Operand} {d : TypeDesc} {hd : P.underlying T = some d} {sz : Nat} {hz : (P.info? T).map (·.size) = some sz} {hl} {ty : TypeId} {pos : String} {after : Array Edge} : (opLoadT (P := P) ld dst T x d hd sz hz hl ty pos after).Nat := by
 intro ev st k
 show aloadT ld (ev x) st k = thenA (aloadT ld (ev x) st retA) k
 unfold aloadT
 split
 ·split <;> rfl
 ·split
  ·split <;> rfl
  ·rfl
 ·split
  ·split
   ·split <;> rfl
   ·rfl
  ·rfl
 ·rfl
theorem opLoadTF_nat {ld : LD} {dst : Option Tmp} {T : TypeId} {x : Operand} {d : TypeDesc} {hd : P.underlying T = some d} {sz : Nat} {hz : (P.info? T).map (·.size) = some sz} {hl} {ty : TypeId} {pos : String} {after : Array Edge} : (opLoadTF (P := P) ld dst T x d hd sz hz hl ty pos after).Nat := by
 intro ev k
 show aloadTF ld (ev x) k = thenA (aloadTF ld (ev x) retA) k
 unfold aloadTF
 split
 ·split <;> rfl
 ·rfl
end
theorem rowAt_nat {l : List (List AV)} {i : Nat} (h : i < l.length) : rowAt l (i : Int) = l[i] := by simp [rowAt, h]
theorem inR_nat {l : List (List AV)} {i : Nat} (h : i < l.length) : inR l (i : Int) = true := by
 simp only [inR, Bool.and_eq_true, decide_eq_true_eq]; omega
end Go.V
namespace Go.V
section
variable {P : Program}
theorem mulMod {n s j : Nat} (h : j < s) : (n * s + j) % s = j := by
 rw [Nat.mul_comm, Nat.mul_add_mod, Nat.mod_eq_of_lt h]
theorem madeCells_list (z : Array Value) : ∀ n : Nat, (madeCells z (n * z.size)).toList = (List.replicate n z.toList).flatten
 | 0 => by simp [madeCells]
 | n + 1 => by
  have ih := madeCells_list z n
  simp only [madeCells, Array.toList_map, Array.toList_range] at ih ⊢
  rw [show (n + 1) * z.size = n * z.size + z.size by rw [Nat.add_mul]; omega, List.range_add, List.map_append, ih, List.replicate_succ', List.flatten_append, List.flatten_singleton]
  congr 1
  rw [List.map_map]
  apply List.ext_getElem
  ·simp
  ·intro j h1 h2
   have hj : j < z.size := by simpa using h1
   simp only [List.getElem_map, List.getElem_range, Function.comp, Array.getElem_toList]
   rw [mulMod hj]
   simp [hj]
theorem RelAll.rep {g : Gh} {w : World} {cs : List AV} {vs : List Value} (h : RelAll g w cs vs) : ∀ n : Nat, RelAll g w (List.replicate n cs).flatten (List.replicate n vs).flatten
 | 0 => rfl
 | n + 1 => by
  simp only [List.replicate_succ, List.flatten_cons]
  exact RelAll.append _ _ _ _ h (RelAll.rep h n)
theorem runs_make {T e sz bytes : Nat} {z : Value} (hT : ElemOf P T e sz bytes z) (w : World) (k : IntKind) (n : Nat) (hb : Nat.ble (bytes * n) 281474976710656 = true) (hn : Nat.ble n 9223372036854775807 = true) :
  (Instr.makeSlice T (.int k n) (.int k n)).run P w = .ok (.slice (some ⟨w.heap.size, 0, none⟩) n n) (w.alloc (.cells (madeCells z.cells (n * sz)) e)) := by
 obtain ⟨i, h1, h2, h3, h4⟩ := hT.info
 have hb := Nat.le_of_ble_eq_true hb
 have hn := Nat.le_of_ble_eq_true hn
 have hb' : (i.bytes : Int) * (n : Int) ≤ 281474976710656 := by
  have : ((bytes * n : Nat) : Int) ≤ 281474976710656 := by omega
  rw [h3]; rwa [Int.natCast_mul] at this
 have := run_make (P := P) w T e i z hT.1 h1 h4 k k n n (by omega) (by omega) hb' (by omega)
 rw [h2] at this
 simpa using this
def amakeO (sz bytes : Nat) (zc : List AV) (x : AV) (st : St) (k : AV → St → Ans) : Ans :=
 match x with
 | .int _ n => match decide (0 ≤ n) && (Nat.ble (bytes * n.toNat) 281474976710656 && Nat.ble n.toNat 9223372036854775807) with
  | true => k (.ms st.objs.length sz 0 n.toNat n.toNat) ⟨st.objs ++ [.cells (List.replicate n.toNat zc).flatten], st.tk⟩
  | false => none
 | _ => none
def opMakeO (dst : Option Tmp) (T : TypeId) (x : Operand) (e sz bytes : Nat) (z : Value) (hT : ElemOf P T e sz bytes z) (zc : List AV) (hz : cellsA (ofLit z) = some zc) (hsz : Nat.beq z.cells.size sz = true) (ty : TypeId) (pos : String) (after : Array Edge) : MSim P :=
 MSim.makes (mkOp dst (.makeSlice T x x) ty pos after) rfl [x] (fun ev st k => amakeO sz bytes zc (ev x) st k) (fun ev ev' st k h => by simp only [h x (by simp)]) fun ev st k fin h g w a he hs => by
  have hv := he x (by simp)
  unfold amakeO at h
  split at h
  ·rename_i kd n hx
   rw [hx] at hv
   have hv : a.eval x = .int kd n := hv
   split at h
   ·rename_i hc
    simp only [Bool.and_eq_true, decide_eq_true_eq] at hc
    obtain ⟨m, rfl⟩ : ∃ m : Nat, n = m := ⟨n.toNat, by omega⟩
    simp only [Int.toNat_natCast] at hc h
    have hsz := Nat.eq_of_beq_eq_true hsz
    obtain ⟨h1, h1c⟩ := cellsA_rel hz (ofLit_rel g w z)
    have hlist : (madeCells z.cells (m * sz)).toList = (List.replicate m z.cells.toList).flatten := by rw [← hsz]; exact madeCells_list _ _
    have hp := Push.alloc w (.cells (madeCells z.cells (m * sz)) e)
    have hone : ∀ u ∈ (madeCells z.cells (m * sz)).toList, u.oneCell' = true := by
     intro u hm
     rw [hlist] at hm
     obtain ⟨l, hl1, hl2⟩ := List.mem_flatten.mp hm
     rw [List.eq_of_mem_replicate hl1] at hl2
     exact h1c u hl2
    have hrel := hs.pushObj hp (.cells (List.replicate m zc).flatten) trivial (fun hE => ⟨by simp [Gh.use], madeCells z.cells (m * sz), e, hp.new, by rw [List.take_of_length_le (by rw [RelAll.length _ _ (h1.rep m), ← hlist]; exact Nat.le_refl _), hlist]; exact (RelAll.mono hE _ _ h1).rep m, fun u hu => hone u (List.mem_of_mem_take hu)⟩)
    refine ⟨_, .slice (some ⟨w.heap.size, 0, none⟩) m m, _, _, w.alloc (.cells (madeCells z.cells (m * sz)) e), h, ?_, ⟨w.heap.size, ?_, rfl, Nat.le_refl _⟩, hrel, Ev.push hp _ _ _ (tk_refl _)⟩
    ·simp [execOp, mkOp, hv, runs_make hT w kd m hc.2.1 hc.2.2]
    ·show (g.objs ++ [w.heap.size])[st.objs.length]? = some w.heap.size
     rw [List.getElem?_append_right (by rw [hs.len]; exact Nat.le_refl _)]; simp [hs.len]
   ·cases h
  ·cases h
end
end Go.V
namespace Go.V
end Go.V
namespace Go.V
section
variable {P : Program}
end
end Go.V
namespace Go.V
section
variable {P : Program}
end
end Go.V
namespace Go.V
section
variable {P : Program}
mutual
theorem Rel.toProt {g g2 : Gh} {w : World} (hp : ∀ b off u, w.cell? ⟨b, off, none⟩ = some u → g.prot b off → g2.prot b off) : ∀ (a : AV) (v : Value), Scoped 0 0 a → Rel g w a v → Rel g2 w a v
 | .bool _, _, _, r => r
 | .int _ _, _, _, r => r
 | .str _, _, _, r => r
 | .nilptr, _, _, r => r
 | .nilsl, _, _, r => r
 | .nilmap, _, _, r => r
 | .nilfn, _, _, r => r
 | .nilif, _, _, r => r
 | .ptr k off, _, s, _ => absurd s (Nat.not_lt_zero _)
 | .tp k E m', _, s, _ => absurd s (Nat.not_lt_zero _)
 | .eptr cs, _, s, ⟨b, off, r1, r2⟩ => ⟨b, off, r1, RelCells.toProt hp cs b off s r2⟩
 | .sl sz full l, _, s, ⟨b, off, sp, cap, r1, r2, r3, rs, r4⟩ => ⟨b, off, sp, cap, r1, r2, r3, rs, RelRows.toProt hp sz l b off s r4⟩
 | .lg t sz l, _, ⟨s, _⟩, _ => absurd s (Nat.not_lt_zero _)
 | .ms k sz off n cap, _, s, _ => absurd s (Nat.not_lt_zero _)
 | .mp k, _, s, _ => absurd s (Nat.not_lt_zero _)
 | .fn f a c, _, ⟨s0, s1, s2⟩, ⟨va, vc, r1, r2, r3⟩ => ⟨va, vc, r1.move (by cases f <;> first | exact trivial | exact absurd s0 (Nat.not_lt_zero _)), RelAll.toProt hp a va.toList s1 r2, RelAll.toProt hp c vc.toList s2 r3⟩
 | .ifc t a, _, s, ⟨u, r1, r2⟩ => ⟨u, r1, Rel.toProt hp a u s r2⟩
 | .agg cs, _, s, ⟨vs, r1, r2, r3⟩ => ⟨vs, r1, RelAll.toProt hp cs vs.toList s r2, r3⟩
 | .tup cs, _, s, ⟨vs, r1, r2⟩ => ⟨vs, r1, RelAll.toProt hp cs vs.toList s r2⟩
 | .dead, _, _, _ => trivial
 | .ns z sz l, _, s, .inl r => .inl r
 | .ns z sz l, _, s, .inr ⟨r0, b, off, sp, cap, r1, r2, rs, r4⟩ => .inr ⟨r0, b, off, sp, cap, r1, r2, rs, RelRows.toProt hp sz l b off s r4⟩
 | .vs k v sz n, _, s, _ => absurd s (Nat.not_lt_zero _)
 | .vp k v off, _, s, _ => absurd s (Nat.not_lt_zero _)
theorem RelAll.toProt {g g2 : Gh} {w : World} (hp : ∀ b off u, w.cell? ⟨b, off, none⟩ = some u → g.prot b off → g2.prot b off) : ∀ (ays : List AV) (vs : List Value), ScopedL 0 0 ays → RelAll g w ays vs → RelAll g2 w ays vs
 | [], _, _, r => r
 | a :: ays, _, ⟨s1, s2⟩, ⟨v, vr, r1, r2, r3⟩ => ⟨v, vr, r1, Rel.toProt hp a v s1 r2, RelAll.toProt hp ays vr s2 r3⟩
theorem RelCells.toProt {g g2 : Gh} {w : World} (hp : ∀ b off u, w.cell? ⟨b, off, none⟩ = some u → g.prot b off → g2.prot b off) : ∀ (ays : List AV) (b off : Nat), ScopedL 0 0 ays → RelCells g w ays b off → RelCells g2 w ays b off
 | [], _, _, _, _ => trivial
 | a :: ays, b, off, ⟨s1, s2⟩, ⟨⟨u, r1, r2, r5, r3⟩, r4⟩ => ⟨⟨u, r1, hp b off u r1 r2, r5, Rel.toProt hp a u s1 r3⟩, RelCells.toProt hp ays b (off + 1) s2 r4⟩
theorem RelRows.toProt {g g2 : Gh} {w : World} (hp : ∀ b off u, w.cell? ⟨b, off, none⟩ = some u → g.prot b off → g2.prot b off) (sz : Nat) : ∀ (l : List (List AV)) (b off : Nat), ScopedR 0 0 l → RelRows g w sz l b off → RelRows g2 w sz l b off
 | [], _, _, _, _ => trivial
 | x :: l, b, off, ⟨s1, s2⟩, ⟨r1, r2, r3⟩ => ⟨r1, RelCells.toProt hp x b off s1 r2, RelRows.toProt hp sz l b (off + sz) s2 r3⟩
end
def Gh.away (g : Gh) (size : Nat) : Gh := ⟨fun b => if b < size then .part (fun off => g.prot b off) else .solid, [], [], fun _ => 0⟩
theorem Globs.toProt {g g2 : Gh} {w : World} (hp : ∀ b off u, w.cell? ⟨b, off, none⟩ = some u → g.prot b off → g2.prot b off) (h : Globs g w) : Globs g2 w := fun x hx => RelCells.toProt hp x.2 x.1 0 (globs_scoped x hx) (h x hx)
theorem away_st (g : Gh) (w : World) (hG : Globs g w) : StRel (g.away w.heap.size) ⟨[], []⟩ w := by
 refine ⟨rfl, rfl, fun k b o hk _ => by simp [Gh.away] at hk, fun b k hb hk => ?_, fun b t hb hk => ?_, fun b k hb hk => ?_, hG.toProt fun b off u hc hp => by
  obtain ⟨C, E, fz, hb, _⟩ := cell_some hc
  have hlt := lt_of_block hb
  unfold Gh.prot
  simp only [Gh.away]
  rw [if_pos hlt]
  exact hp⟩
 ·simp only [Gh.away] at hk; rw [if_pos hb] at hk; cases hk
 ·simp only [Gh.away] at hk; rw [if_pos hb] at hk; cases hk
 ·simp only [Gh.away] at hk; rw [if_pos hb] at hk; cases hk
theorem framed {id : FuncId} {args : List AV} {r : AV} {st' : St} (h : CallsTo P id args ⟨[], []⟩ (.ret r, st')) (hs : ScopedL 0 0 args) (hr : Scoped 0 0 (frz r)) (st : St) : CallsTo P id args st (.ret (frz r), st) := by
 intro g w vals hv hst
 have hv1 : RelAll (g.away w.heap.size) w args vals.toList := RelAll.toProt (fun b off u hc hp => by
  obtain ⟨C, E, fz, hb, _⟩ := cell_some hc
  have hlt := lt_of_block hb
  unfold Gh.prot
  simp only [Gh.away]
  rw [if_pos hlt]
  exact hp) args vals.toList hs hv
 refine (h (g.away w.heap.size) w vals hv1 (away_st g w hst.glob)).mono fun e w' ⟨g', h1, h2, h3⟩ => ?_
 obtain ⟨v, rfl, hv'⟩ := h1
 have hold : ∀ b, b < w.heap.size → g'.kind b = .part (fun off => g.prot b off) ∧ w'.heap[b]? = w.heap[b]? := fun b hb =>
  h3.part b hb (by simp only [Gh.away]; rw [if_pos hb])
 obtain ⟨k1, k2⟩ := kept hst h3.os h3.tape h3.output h3.size fun b hb => (hold b hb).2
 refine ⟨_, ⟨v, rfl, ?_⟩, k1, k2⟩
 refine Rel.toProt (fun b off u hc hp => ?_) (frz r) v hr (frz_rel hv')
 by_cases hb : b < w.heap.size
 ·unfold Gh.prot at hp
  rw [(hold b hb).1] at hp
  have hp : g.prot b off := hp
  unfold Gh.prot at hp ⊢
  simp only [Gh.kept]
  rw [if_pos hb]
  exact hp
 ·unfold Gh.prot
  simp only [Gh.kept]
  rw [if_neg hb]
  trivial
def Fun.far (f : Fun P) (sem : List AV → (AV → Ans) → Ans)
  (hs : ∀ args k fin, sem args k = some fin → ∃ r, k r = some fin ∧ ScopedL 0 0 args ∧ Scoped 0 0 r ∧ ∃ F r' st', frz r' = r ∧ f.run F args ⟨[], []⟩ = some (.ret r', st')) : POrc P where
 id := f.id
 fn := f.fn
 hf := f.hf
 hname := f.hname
 hb := by rw [f.hbody]; rfl
 F := sem
 sound k args fin h := by
  obtain ⟨r, h1, h2, h3, F, r', st', h4, h5⟩ := hs args k fin h
  subst h4
  exact ⟨_, h1, fun st => framed (f.sound h5) h2 h3 st⟩
end
end Go.V
namespace Go.V
noncomputable def opq {α : Type} (x : α) : α := Classical.choose (⟨x, rfl⟩ : ∃ y, y = x)
theorem opq_eq {α : Type} (x : α) : opq x = x := Classical.choose_spec (⟨x, rfl⟩ : ∃ y, y = x)
noncomputable def inC (cs : List AV) (o n : Nat) : Bool := cdec (o + n ≤ cs.length)
theorem inC_iff {cs : List AV} {o n : Nat} : inC cs o n = true ↔ o + n ≤ cs.length := cdec_iff
noncomputable def setC (cs : List AV) (o : Nat) (xs : List AV) : List AV := opq (setAt cs o xs)
noncomputable def subC (cs : List AV) (o n : Nat) : List AV := opq ((cs.drop o).take n)
noncomputable def rowsC (sz n : Nat) (cs : List AV) (o : Nat) : List (List AV) := opq ((rowsOf sz n (cs.drop o)).getD [])
noncomputable def flC (l : List (List AV)) (m : Nat) : List AV := opq (l.take m).flatten
noncomputable def zerC (n : Nat) (zc : List AV) : List AV := opq (List.replicate n zc).flatten
noncomputable def minN (a b : Nat) : Nat := opq (min a b)
noncomputable def mulN (a b : Nat) : Nat := opq (a * b)
noncomputable def mkOk (bytes : Nat) (n : Int) : Bool := cdec (0 ≤ n ∧ bytes * n.toNat ≤ 281474976710656)
theorem mkOk_iff {b : Nat} {n : Int} : mkOk b n = true ↔ 0 ≤ n ∧ b * n.toNat ≤ 281474976710656 := cdec_iff
noncomputable def apOk (n bytes : Nat) : Bool := cdec (n * bytes ≤ 140737488355328)
theorem apOk_iff {n b : Nat} : apOk n b = true ↔ n * b ≤ 140737488355328 := cdec_iff
theorem takeN_some : ∀ (n : Nat) (cs : List AV), n ≤ cs.length → takeN n cs = some (cs.take n)
 | 0, _, _ => by simp [takeN]
 | n + 1, [], h => by simp at h
 | n + 1, c :: cs, h => by
  simp only [takeN, takeN_some n cs (by simpa using h), List.take_succ_cons]
theorem rowsOf_some (sz : Nat) : ∀ (n : Nat) (cs : List AV), n * sz ≤ cs.length → ∃ l, rowsOf sz n cs = some l
 | 0, _, _ => ⟨[], rfl⟩
 | n + 1, cs, h => by
  rw [Nat.add_mul, Nat.one_mul] at h
  obtain ⟨l, hl⟩ := rowsOf_some sz n (cs.drop sz) (by simp; omega)
  exact ⟨cs.take sz :: l, by simp only [rowsOf, takeN_some sz cs (by omega), hl]⟩
theorem rowsOf_take (sz : Nat) : ∀ (n m : Nat) (ds : List AV) (l : List (List AV)), rowsOf sz n ds = some l → m ≤ n → rowsOf sz m ds = some (l.take m)
 | _, 0, _, _, _, _ => by simp [rowsOf]
 | 0, m + 1, _, _, _, h => by omega
 | n + 1, m + 1, ds, l, h, hm => by
  simp only [rowsOf] at h ⊢
  split at h
  ·rename_i r hr
   split at h
   ·rename_i l' hl
    simp only [Option.some.injEq] at h
    subst h
    rw [rowsOf_take sz n m _ l' hl (by omega)]
    rfl
   ·cases h
  ·cases h
theorem rowsC_some {sz n : Nat} {cs : List AV} {o : Nat} (h : inC cs o (mulN n sz) = true) : rowsOf sz n (cs.drop o) = some (rowsC sz n cs o) := by
 rw [inC_iff, mulN, opq_eq] at h
 obtain ⟨l, hl⟩ := rowsOf_some sz n (cs.drop o) (by simp; omega)
 rw [rowsC, opq_eq, hl]; rfl
section
variable {P : Program}
def MSim.by' (x : MSim P) (f : (Operand → AV) → St → (AV → St → Ans) → Ans) (hc : ∀ ev ev' st k, (∀ o ∈ x.xs, ev o = ev' o) → f ev st k = f ev' st k) (h : ∀ ev st k fin, f ev st k = some fin → x.f ev st k = some fin) : MSim P :=
 ⟨x.oper, x.plain, x.xs, f, hc, fun ev st k fin hk => x.sound ev st k fin (h ev st k fin hk)⟩
noncomputable def astoreC (sz : Nat) (p x : AV) (st : St) (k : AV → St → Ans) : Ans :=
 match p with
 | .ptr j o => match st.objs[j]? with
  | some (.cells cs) => match cellsA x with
   | some xs => match Nat.beq xs.length sz && inC cs o sz with
    | true => k .dead ⟨st.objs.set j (.cells (setC cs o xs)), st.tk⟩
    | false => none
   | none => none
  | _ => none
 | .vp j v o => match st.objs[j]? with
  | some (.vec v' cs) => match cellsA x with
   | some xs => match Nat.beq v v' && (Nat.beq xs.length sz && inC cs o sz) with
    | true => k .dead ⟨st.objs.set j (.vec v (setC cs o xs)), st.tk⟩
    | false => none
   | none => none
  | _ => none
 | _ => none
theorem astoreC_astore {sz : Nat} {p x : AV} {st : St} {k : AV → St → Ans} {fin : Fin × St} (h : astoreC sz p x st k = some fin) : astore sz p x st k = some fin := by
 unfold astoreC at h
 unfold astore
 split at h
 ·split at h
  ·rename_i h0
   split at h
   ·rename_i h1
    split at h
    ·rename_i h2
     simp only [Bool.and_eq_true, inC_iff] at h2
     simp only [h0, h1]
     rw [if_pos ⟨Nat.eq_of_beq_eq_true h2.1, h2.2⟩]
     rw [setC, opq_eq] at h
     exact h
    ·cases h
   ·cases h
  ·cases h
 ·split at h
  ·rename_i h0
   split at h
   ·rename_i h1
    split at h
    ·rename_i h2
     simp only [Bool.and_eq_true, inC_iff] at h2
     simp only [h0, h1, h2.1]
     rw [if_pos ⟨Nat.eq_of_beq_eq_true h2.2.1, h2.2.2⟩]
     rw [setC, opq_eq] at h
     exact h
    ·cases h
   ·cases h
  ·cases h
 ·cases h
noncomputable def opStoreC (dst : Option Tmp) (T : TypeId) (p x : Operand) (sz : Nat) (hz : (P.info? T).map (·.size) = some sz) (ty : TypeId) (pos : String) (after : Array Edge) : MSim P :=
 (opStore dst T p x sz hz ty pos after).by' (fun ev st k => astoreC sz (ev p) (ev x) st k) (fun ev ev' st k h => by simp only [h p (by simp [opStore, MSim.does]), h x (by simp [opStore, MSim.does])]) fun ev st k fin h => astoreC_astore h
theorem astoreC_nat (sz : Nat) (p x : AV) (st : St) (k : AV → St → Ans) : astoreC sz p x st k = thenM (astoreC sz p x st retM) k := by
 unfold astoreC
 split
 ·split
  ·split
   ·split <;> rfl
   ·rfl
  ·rfl
 ·split
  ·split
   ·split <;> rfl
   ·rfl
  ·rfl
 ·rfl
theorem opStoreC_nat {dst : Option Tmp} {T : TypeId} {p x : Operand} {sz : Nat} {hz : (P.info? T).map (·.size) = some sz} {ty : TypeId} {pos : String} {after : Array Edge} : (opStoreC (P := P) dst T p x sz hz ty pos after).NatM := fun ev st k => astoreC_nat _ _ _ _ _
noncomputable def rowsT (sz : Nat) (x : AV) (st : St) : Option (List (List AV)) :=
 match x with
 | .ms j s o n _ => match Nat.beq s sz with
  | true => match st.objs[j]? with
   | some (.cells cs) => match inC cs o (mulN n sz) with
    | true => some (rowsC sz n cs o)
    | false => none
   | _ => none
  | false => none
 | .vs j v s n => match Nat.beq s sz with
  | true => match st.objs[j]? with
   | some (.vec v' cs) => match Nat.beq v v' && inC cs 0 (mulN n sz) with
    | true => some (rowsC sz n cs 0)
    | false => none
   | _ => none
  | false => none
 | x => rowsA sz x st
theorem rowsT_rowsA {sz : Nat} {x : AV} {st : St} {l : List (List AV)} (h : rowsT sz x st = some l) : rowsA sz x st = some l := by
 unfold rowsT at h
 split at h
 ·unfold rowsA
  split at h
  ·rename_i hs
   split at h
   ·rename_i h0
    split at h
    ·rename_i h1
     cases h
     simp only [hs, h0]
     exact rowsC_some h1
    ·cases h
   ·cases h
  ·cases h
 ·unfold rowsA
  split at h
  ·rename_i hs
   split at h
   ·rename_i h0
    split at h
    ·rename_i h1
     cases h
     rw [Bool.and_eq_true] at h1
     simp only [hs, h0, h1.1]
     have := rowsC_some h1.2
     rwa [List.drop_zero] at this
    ·cases h
   ·cases h
  ·cases h
 ·exact h
theorem rowsA_first {g : Gh} {st : St} {w : World} (hs : StRel g st w) {sz : Nat} {x : AV} {v : Value} (hx : Rel g w x v) {l : List (List AV)} (h : rowsA sz x st = some l) (m : Nat) (hm : m ≤ l.length) :
  ∃ vs : List Value, RelAll g w (l.take m).flatten vs ∧ (∀ u ∈ vs, u.oneCell' = true) ∧ vs.length = m * sz ∧ (Builtin.lenOf v).run P w = .ok l.length w ∧ (Builtin.firstCells sz m v).run P w = .ok vs.toArray w := by
 have hlen := (rowsA_run (P := P) hs hx h)
 obtain ⟨_, _, _, _, _, hlen, _⟩ := hlen
 have hm' : (l.take m).length = m := by simp; omega
 have key : ∀ x' v', Rel g w x' v' → rowsA sz x' st = some (l.take m) → (Builtin.firstCells sz m v).run P w = (Builtin.firstCells sz m v').run P w →
   ∃ vs : List Value, RelAll g w (l.take m).flatten vs ∧ (∀ u ∈ vs, u.oneCell' = true) ∧ vs.length = m * sz ∧ (Builtin.lenOf v).run P w = .ok l.length w ∧ (Builtin.firstCells sz m v).run P w = .ok vs.toArray w := by
  intro x' v' h1 h2 h3
  obtain ⟨vs, k1, k2, k3, k4, k5, k6⟩ := rowsA_run (P := P) hs h1 h2
  rw [hm'] at k4 k6
  exact ⟨vs, k1, k3, k4, hlen w, by rw [h3]; exact k6 w rfl⟩
 have frozen : ∀ b o sp cap (l : List (List AV)), m ≤ l.length → l.length ≤ cap → (sp = none ∨ l = []) → RelRows g w sz l b o → Rel g w (.sl sz false (l.take m)) (.slice (some ⟨b, o, sp⟩) m cap) := by
  intro b o sp cap l h1 h2 h3 h4
  refine ⟨b, o, sp, cap, by rw [List.length_take, Nat.min_eq_left h1], by rw [List.length_take]; omega, (fun h => by cases h), ?_, RelRows.take sz m l b o h4⟩
  rcases h3 with h3 | h3
  ·exact .inl h3
  ·exact .inr (by rw [h3]; simp)
 have beq : Nat.beq sz sz = true := Nat.beq_refl sz
 unfold rowsA at h
 split at h
 ·simp only [Option.some.injEq] at h; subst h
  have hm0 : m = 0 := by simpa using hm
  subst hm0
  exact key .nilsl v hx rfl rfl
 ·rename_i s full l'
  split at h
  ·rename_i hsz
   obtain rfl : s = sz := by simpa using hsz
   simp only [Option.some.injEq] at h; subst h
   obtain ⟨b, o, sp, cap, rfl, hle, hf, hsp, hr⟩ := hx
   exact key _ _ (frozen b o sp cap _ hm hle hsp hr) (by simp only [rowsA, beq]) rfl
  ·cases h
 ·rename_i t s l'
  split at h
  ·rename_i hsz
   obtain rfl : s = sz := by simpa using hsz
   simp only [Option.some.injEq] at h; subst h
   obtain ⟨b, cap, C, E, fz, rfl, hle, _, _, _, _, _, hr⟩ := hx
   exact key _ _ (frozen b 0 none cap _ hm hle (.inl rfl) hr) (by simp only [rowsA, beq]) rfl
  ·cases h
 ·rename_i j s o n cap
  split at h
  ·rename_i hsz
   obtain rfl : s = sz := by simpa using hsz
   obtain ⟨b, hg, rfl, hle⟩ := hx
   split at h
   ·rename_i cs hcs
    obtain ⟨h1, h2, h3⟩ := rowsOf_list s n _ l h
    refine key (.ms j s o m cap) (.slice (some ⟨b, o, none⟩) m cap) ⟨b, hg, rfl, by omega⟩ ?_ rfl
    simp only [rowsA, beq, hcs]
    exact rowsOf_take s n m _ l h (by omega)
   ·cases h
  ·cases h
 ·rename_i s
  split at h
  ·rename_i hsz
   obtain rfl : 1 = sz := by simpa using hsz
   simp only [Option.some.injEq] at h; subst h
   obtain rfl : v = .string s := hx
   have hsm : m ≤ s.size := by simpa using hm
   refine key (.str (s.extract 0 m)) (.string (s.extract 0 m)) rfl ?_ ?_
   ·simp only [rowsA, beq, Nat.beq_refl]
    rw [← List.map_take]
    congr 2
    rw [ByteArray.data_extract]
    simp
   ·have h3 : (s.extract 0 m).extract 0 m = s.extract 0 m := by
     rw [ByteArray.extract_extract]
     congr 1
     simp
    simp [Builtin.firstCells, h3]
  ·cases h
 ·rename_i z s l'
  split at h
  ·rename_i hsz
   obtain rfl : s = sz := by simpa using hsz
   simp only [Option.some.injEq] at h; subst h
   rcases hx with ⟨_, rfl, rfl⟩ | ⟨_, b, o, sp, cap, rfl, hle, hsp, hr⟩
   ·have hm0 : m = 0 := by simpa using hm
    subst hm0
    exact key .nilsl _ rfl rfl rfl
   ·exact key _ _ (frozen b o sp cap _ hm hle hsp hr) (by simp only [rowsA, beq]) rfl
  ·cases h
 ·rename_i j v s n
  split at h
  ·rename_i hsz
   obtain rfl : s = sz := by simpa using hsz
   obtain ⟨b, cap, rfl, hle, hg⟩ := hx
   split at h
   ·rename_i v' cs hcs
    split at h
    case h_2 => cases h
    rename_i hvv
    obtain ⟨h1, h2, h3⟩ := rowsOf_list s n _ l h
    refine key (.vs j v s m) (.slice (some ⟨b, 0, none⟩) m cap) ⟨b, cap, rfl, by omega, hg⟩ ?_ rfl
    simp only [rowsA, beq, hcs, hvv]
    exact rowsOf_take s n m _ l h (by omega)
   ·cases h
  ·cases h
 ·cases h
noncomputable def acopy (sz : Nat) (d s : AV) (st : St) (k : AV → St → Ans) : Ans :=
 match d with
 | .ms j s' o n _ => match Nat.beq s' sz with
  | true => match rowsT sz s st with
   | some rows => match st.objs[j]? with
    | some (.cells cs) => match inC cs o (mulN (minN rows.length n) sz) with
     | true => k (.int .i64 (minN rows.length n)) ⟨st.objs.set j (.cells (setC cs o (flC rows (minN rows.length n)))), st.tk⟩
     | false => none
    | _ => none
   | none => none
  | false => none
 | .sl s' _ [] => match Nat.beq s' sz with
  | true => match rowsT sz s st with
   | some _ => k (.int .i64 0) st
   | none => none
  | false => none
 | _ => none
theorem acopy_nat (sz : Nat) (d s : AV) (st : St) (k : AV → St → Ans) : acopy sz d s st k = thenM (acopy sz d s st retM) k := by
 unfold acopy
 split
 ·split
  ·split
   ·split
    ·split <;> rfl
    ·rfl
   ·rfl
  ·rfl
 ·split
  ·split <;> rfl
  ·rfl
 ·rfl
noncomputable def opCopy (dst : Option Tmp) (d s : Operand) (T X e sz : Nat) (hT : P.underlying T = some (.slice e)) (hz : (P.info? e).map (·.size) = some sz) (ty : TypeId) (pos : String) (after : Array Edge) : MSim P :=
 MSim.makes (mkOp dst (.call { callee := .builtin .copy, args := #[d, s], argTypes := #[T, X] }) ty pos after) rfl [d, s] (fun ev st k => acopy sz (ev d) (ev s) st k) (fun ev ev' st k h => by simp only [h d (by simp), h s (by simp)]) fun ev st k fin h g w a he hs => by
  have hv := he d (by simp)
  have hx := he s (by simp)
  unfold acopy at h
  split at h
  ·rename_i j s' o n cap hd
   split at h
   ·rename_i hsz
    obtain rfl : s' = sz := by simpa using hsz
    rw [hd] at hv
    obtain ⟨b, hg, hv, hle⟩ := hv
    split at h
    ·rename_i rows hrows
     split at h
     ·rename_i cs hcs
      split at h
      ·rename_i hin
       rw [inC_iff, mulN, opq_eq, minN, opq_eq] at hin
       rw [minN, opq_eq, setC, opq_eq, flC, opq_eq] at h
       obtain ⟨vs, k1, k2, k3, k4, k5⟩ := rowsA_first (P := P) hs hx (rowsT_rowsA hrows) (min rows.length n) (by omega)
       have hl := RelAll.length _ _ k1
       obtain ⟨w', s1, s2, s3⟩ := store_obj (P := P) (o := o) hs hg hcs k1 k2 (by rw [hl, k3]; exact hin)
       refine ⟨_, .int .i64 (min rows.length n : Nat), _, g, w', h, ?_, rfl, s2, s3⟩
       rw [callBuiltin]
       have hrun : (Builtin.copy_ #[T, X] ty #[a.eval d, a.eval s]).run P w = .ok (.int .i64 (min rows.length n : Nat)) w' := by
        unfold Builtin.copy_
        simp only [List.getElem?_toArray, List.getElem?_cons_zero, List.getElem?_cons_succ, Sem.run_bind, run_underlying hT w, Result.andThen_ok, hv, k4, run_sizeOf' hz w]
        rw [show Nat.min rows.length n = min rows.length n from rfl, k5]
        simp only [Result.andThen_ok, s1, Sem.run_pure, goInt]
       simp [builtin, hrun]
      ·cases h
     ·cases h
    ·cases h
   ·cases h
  ·rename_i s' f hd
   split at h
   ·rename_i hsz
    obtain rfl : s' = sz := by simpa using hsz
    rw [hd] at hv
    obtain ⟨b, o, sp, cap, hv, _⟩ := hv
    split at h
    ·rename_i rows hrows
     obtain ⟨vs, k1, k2, k3, k4, k5⟩ := rowsA_first (P := P) hs hx (rowsT_rowsA hrows) 0 (Nat.zero_le _)
     obtain rfl : vs = [] := List.eq_nil_of_length_eq_zero (by simpa using k3)
     refine ⟨_, .int .i64 0, _, g, w, h, ?_, rfl, hs, Ev.refl g w⟩
     rw [callBuiltin]
     have hrun : (Builtin.copy_ #[T, X] ty #[a.eval d, a.eval s]).run P w = .ok (.int .i64 0) w := by
      unfold Builtin.copy_
      simp only [List.getElem?_toArray, List.getElem?_cons_zero, List.getElem?_cons_succ, Sem.run_bind, run_underlying hT w, Result.andThen_ok, hv, k4, run_sizeOf' hz w, List.length_nil]
      rw [show Nat.min rows.length 0 = 0 from Nat.min_zero _, k5]
      simp [storeCells, goInt]
     simp [builtin, hrun]
    ·cases h
   ·cases h
  ·cases h
noncomputable def aappF (sz bytes : Nat) (s x : AV) (st : St) (k : AV → Ans) : Ans :=
 match rowsT sz x st with
 | none => none
 | some rows => match s with
  | .nilsl => match apOk rows.length bytes with
   | true => k (.ns (Nat.beq rows.length 0) sz rows)
   | false => none
  | .sl s' true l => match Nat.beq s' sz && apOk (l ++ rows).length bytes with
   | true => k (.sl sz false (l ++ rows))
   | false => none
  | _ => none
theorem more_solid {T X e sz bytes : Nat} {z : Value} (hT : ElemOf P T e sz bytes z) {dx : TypeDesc} (hX : P.underlying X = some dx) (hdx : isSeq dx = true) (ty : TypeId) {g : Gh} {st : St} {w : World} (hs : StRel g st w) {p : Option Addr} {x : Value} {l rows : List (List AV)} {olds news : List Value} {cap : Nat}
  (hlen : ∀ w', (Builtin.lenOf x).run P w' = .ok rows.length w') (hold : ∀ w', w'.heap = w.heap → (Builtin.firstCells sz l.length (.slice p l.length cap)).run P w' = .ok olds.toArray w') (hnew : ∀ w', w'.heap = w.heap → (Builtin.firstCells sz rows.length x).run P w' = .ok news.toArray w')
  (hfit : cap < l.length + rows.length) (hb : (l.length + rows.length) * bytes ≤ 140737488355328)
  (ho : RelAll g w l.flatten olds) (ho1 : ∀ u ∈ olds, u.oneCell' = true) (hol : ∀ x ∈ l, x.length = sz) (hn : RelAll g w rows.flatten news) (hn1 : ∀ u ∈ news, u.oneCell' = true) (hnl : ∀ x ∈ rows, x.length = sz) :
  ∃ v g' w', (Builtin.append_ #[T, X] ty #[.slice p l.length cap, x]).run P w = .ok v w' ∧ Rel g' w' (.sl sz false (l ++ rows)) v ∧ Rel g' w' (.ns false sz (l ++ rows)) v ∧ StRel g' st w' ∧ Ev g w g' w' := by
 have hrun := run_append_grows (P := P) hT hX hdx ty hlen hold hnew hfit hb
 have hge := grownCap_ge w (l.length + rows.length) cap e
 have hal := RelAll.append _ _ _ _ ho hn
 rw [← List.flatten_append] at hal
 have hp := Push.drew w (.cells (olds ++ news ++ (Builtin.zeroCells z.cells (grownCap w (l.length + rows.length) cap e - (l.length + rows.length))).toList).toArray e)
 have hE : Ev g w ⟨g.use w.heap.size .solid, g.objs, g.tk, g.ver⟩ (w.drew.alloc (.cells (olds ++ news ++ (Builtin.zeroCells z.cells (grownCap w (l.length + rows.length) cap e - (l.length + rows.length))).toList).toArray e)) := by simpa using Ev.push hp .solid [] g.tk (tk_refl _)
 have hrows := RelRows.of (g := ⟨g.use w.heap.size .solid, g.objs, g.tk, g.ver⟩) sz (l ++ rows) (olds ++ news) w.heap.size 0 (fun y hy => by
   rcases List.mem_append.mp hy with hy | hy
   ·exact hol y hy
   ·exact hnl y hy) (RelAll.mono hE _ _ hal) fun j v hj => by
    have hlt := getElem?_lt hj
    have h1 := solid_cells (g := g) hp g.tk (tk_refl _) g.objs j v (by
     rw [List.toList_toArray, List.getElem?_append_left hlt]; exact hj)
    refine ⟨h1.1, h1.2, ?_⟩
    rcases List.mem_append.mp (List.mem_of_getElem? hj) with h | h
    ·exact ho1 v h
    ·exact hn1 v h
 refine ⟨_, _, _, hrun, ?_, ?_, ?_, hE⟩
 ·exact ⟨w.heap.size, 0, none, _, by rw [List.length_append], by rw [List.length_append]; exact hge, (fun h => by cases h), .inl rfl, hrows⟩
 ·exact .inr ⟨rfl, w.heap.size, 0, none, _, by rw [List.length_append], by rw [List.length_append]; exact hge, .inl rfl, hrows⟩
 ·have := hs.push hp .solid g.tk (tk_refl _) trivial
  rw [hs.tk] at this ⊢; exact this
noncomputable def opAppendF (dst : Option Tmp) (s x : Operand) (T X e sz bytes : Nat) (z : Value) (hT : ElemOf P T e sz bytes z) (dx : TypeDesc) (hX : P.underlying X = some dx) (hdx : isSeq dx = true) (ty : TypeId) (pos : String) (after : Array Edge) : QSim P where
 oper := mkOp dst (.call { callee := .builtin .append, args := #[s, x], argTypes := #[T, X] }) ty pos after
 plain := rfl
 xs := [s, x]
 f ev st k := aappF sz bytes (ev s) (ev x) st k
 congr ev ev' st k h := by simp only [h s (by simp), h x (by simp)]
 sound ev st k fin h g w a he hs := by
  have hS := he s (by simp)
  have hY := he x (by simp)
  have run : ∀ r v g' w', k r = some fin → (Builtin.append_ #[T, X] ty #[a.eval s, a.eval x]).run P w = .ok v w' → Rel g' w' r v → StRel g' st w' → Ev g w g' w' → ∃ r, k r = some fin ∧ Told P (mkOp dst (.call { callee := .builtin .append, args := #[s, x], argTypes := #[T, X] }) ty pos after) a g w r st := by
   intro r v g' w' h1 h2 h3 h4 h5
   exact ⟨r, h1, told_value (by rw [callBuiltin]; simp [builtin, h2]) h3 h4 h5⟩
  unfold aappF at h
  split at h
  ·cases h
  ·rename_i rows hrows
   obtain ⟨news, h1, h2, h3, h4, h5, h6⟩ := rowsA_run (P := P) hs hY (rowsT_rowsA hrows)
   split at h
   ·rename_i hb
    rw [hb] at hS
    have hS : a.eval s = .slice none 0 0 := hS
    split at h
    ·rename_i hc
     rw [apOk_iff] at hc
     rcases Nat.eq_zero_or_pos rows.length with h0 | h0
     ·obtain rfl : rows = [] := List.eq_nil_of_length_eq_zero h0
      have hn : news = [] := List.eq_nil_of_length_eq_zero (by simpa using h4)
      have := run_append_fits (P := P) (p := none) (n := 0) (cap := 0) hT hX hdx ty h5 (h6 w rfl) (by simp)
      rw [← hS] at this
      exact run _ _ g w h (by simpa using this) (.inl ⟨rfl, rfl, rfl⟩) hs (Ev.refl g w)
     ·obtain ⟨v, g', w', k1, k2, k3, k4, k5⟩ := more_solid (P := P) (p := none) (l := []) (olds := []) (cap := 0) hT hX hdx ty hs h5 (fun w' _ => by simp [Builtin.firstCells]) h6 (by simpa using h0) (by simpa using hc) rfl (by simp) (by simp) h1 h3 h2
      rw [show (Value.slice none ([] : List (List AV)).length 0) = a.eval s from hS.symm] at k1
      have hz : Nat.beq rows.length 0 = false := by
       cases hr : Nat.beq rows.length 0 with
       | false => rfl
       | true => have := Nat.eq_of_beq_eq_true hr; omega
      exact run _ v g' w' h k1 (by rw [hz]; exact k3) k4 k5
    ·cases h
   ·rename_i s' l hb
    rw [hb] at hS
    split at h
    ·rename_i hc
     simp only [Bool.and_eq_true] at hc
     obtain rfl : s' = sz := Nat.eq_of_beq_eq_true hc.1
     have hc := hc.2
     rw [apOk_iff, List.length_append] at hc
     obtain ⟨b, o, sp, cap, hS, hle, hf, hsp, hr⟩ := hS
     obtain ⟨olds, o1, o2, o3⟩ := RelRows.values s' l b o hr
     have hlens := RelRows.lens s' l b o hr
     have hcap := hf rfl
     rcases Nat.eq_zero_or_pos rows.length with h0 | h0
     ·obtain rfl : rows = [] := List.eq_nil_of_length_eq_zero h0
      have hn : news = [] := List.eq_nil_of_length_eq_zero (by simpa using h4)
      subst hn
      have := run_append_fits (P := P) (p := some ⟨b, o, sp⟩) (n := l.length) (cap := cap) hT hX hdx ty h5 (h6 w rfl) (by simpa using hle)
      rw [← hS] at this
      refine run _ _ g w h (by simpa [storeCells] using this) ⟨b, o, sp, cap, by simp, by simpa using hle, (fun h => by cases h), ?_, by simpa using hr⟩ hs (Ev.refl g w)
      simpa using hsp
     ·obtain ⟨v, g', w', k1, k2, k3, k4, k5⟩ := more_solid (P := P) (p := some ⟨b, o, sp⟩) (l := l) (olds := olds) (cap := cap) hT hX hdx ty hs h5 (fun w' hw => by
          simp only [Builtin.firstCells]
          rw [← o2]
          exact run_loadCells_list (P := P) w' ⟨b, o, sp⟩ olds (fun j u hj => by
           have := sl_cells hsp o2 (fun j u hj => (o3 j u hj).1) j u hj
           simp only [World.cell?, hw] at this ⊢
           exact this)) h6 (by omega) hc o1 (fun u hu => by obtain ⟨j, hj⟩ := List.getElem?_of_mem hu; exact (o3 j u hj).2.2) hlens h1 h3 h2
      rw [← hS] at k1
      exact run _ v g' w' h k1 k2 k4 k5
    ·cases h
   ·cases h
noncomputable def amakeC (sz bytes : Nat) (zc : List AV) (x : AV) (st : St) (k : AV → St → Ans) : Ans :=
 match x with
 | .int _ n => match mkOk bytes n with
  | true => k (.ms st.objs.length sz 0 n.toNat n.toNat) ⟨st.objs ++ [.cells (zerC n.toNat zc)], st.tk⟩
  | false => none
 | _ => none
theorem amakeC_amakeO {sz bytes : Nat} (hpos : bytes ≠ 0) {zc : List AV} {x : AV} {st : St} {k : AV → St → Ans} {fin : Fin × St} (h : amakeC sz bytes zc x st k = some fin) : amakeO sz bytes zc x st k = some fin := by
 unfold amakeC at h
 unfold amakeO
 split at h
 ·rename_i kd n
  split at h
  ·rename_i hc
   rw [mkOk_iff] at hc
   have hn : n.toNat ≤ 281474976710656 := Nat.le_trans (Nat.le_mul_of_pos_left _ (Nat.pos_of_ne_zero hpos)) hc.2
   have : (decide (0 ≤ n) && (Nat.ble (bytes * n.toNat) 281474976710656 && Nat.ble n.toNat 9223372036854775807)) = true := by
    simp only [Bool.and_eq_true, decide_eq_true_eq, Nat.ble_eq]
    exact ⟨hc.1, hc.2, by omega⟩
   simp only [this]
   rw [zerC, opq_eq] at h
   exact h
  ·cases h
 ·cases h
noncomputable def opMakeC (dst : Option Tmp) (T : TypeId) (x : Operand) (e sz bytes : Nat) (z : Value) (hT : ElemOf P T e sz bytes z) (zc : List AV) (hz : cellsA (ofLit z) = some zc) (hsz : Nat.beq z.cells.size sz = true) (ty : TypeId) (pos : String) (after : Array Edge) : MSim P :=
 (opMakeO dst T x e sz bytes z hT zc hz hsz ty pos after).by' (fun ev st k => amakeC sz bytes zc (ev x) st k) (fun ev ev' st k h => by simp only [h x (by simp [opMakeO, MSim.makes])]) fun ev st k fin h => amakeC_amakeO hT.pos h
end
end Go.V
namespace Go.V
section
variable {P : Program}
mutual
def hard (os : List Ob) : AV → AV
 | .ms j sz o n cap => match os[j]? with
  | some (.cells cs) => match rowsOf sz n (cs.drop o) with
   | some l => .sl sz (Nat.beq n cap) l
   | none => .ms j sz o n cap
  | _ => .ms j sz o n cap
 | .lg _ sz l => .sl sz false (hardR os l)
 | .sl sz f l => .sl sz f (hardR os l)
 | .ns z sz l => .ns z sz (hardR os l)
 | .ptr j o => match os[j]? with
  | some (.cells cs) => .eptr (cs.drop o)
  | _ => .ptr j o
 | .eptr cs => .eptr (hardL os cs)
 | .agg cs => .agg (hardL os cs)
 | .tup cs => .tup (hardL os cs)
 | .fn f a c => .fn f (hardL os a) (hardL os c)
 | .ifc t v => .ifc t (hard os v)
 | .mp k => .mp k
 | .tp k E m' => .tp k E m'
 | .vs j v sz n => match os[j]? with
  | some (.vec v' cs) => match Nat.beq v v' with
   | true => match rowsOf sz n cs with
    | some l => .sl sz false l
    | none => .vs j v sz n
   | false => .vs j v sz n
  | _ => .vs j v sz n
 | .vp j v o => match os[j]? with
  | some (.vec v' cs) => match Nat.beq v v' with
   | true => .eptr (cs.drop o)
   | false => .vp j v o
  | _ => .vp j v o
 | .bool b => .bool b
 | .int k n => .int k n
 | .str s => .str s
 | .nilptr => .nilptr
 | .nilsl => .nilsl
 | .nilmap => .nilmap
 | .nilfn => .nilfn
 | .nilif => .nilif
 | .dead => .dead
def hardL (os : List Ob) : List AV → List AV
 | [] => []
 | x :: l => hard os x :: hardL os l
def hardR (os : List Ob) : List (List AV) → List (List AV)
 | [] => []
 | x :: l => hardL os x :: hardR os l
end
theorem hardL_length (os : List Ob) : ∀ l : List AV, (hardL os l).length = l.length
 | [] => rfl
 | x :: l => by simp only [hardL, List.length_cons, hardL_length os l]
theorem hardR_length (os : List Ob) : ∀ l : List (List AV), (hardR os l).length = l.length
 | [] => rfl
 | x :: l => by simp only [hardR, List.length_cons, hardR_length os l]
theorem scopedL_flat {n m : Nat} : ∀ {l : List (List AV)}, ScopedR n m l → ScopedL n m l.flatten
 | [], _ => trivial
 | x :: l, ⟨h1, h2⟩ => by
  have app : ∀ (a b : List AV), ScopedL n m a → ScopedL n m b → ScopedL n m (a ++ b) := by
   intro a b ha hb
   induction a with
   | nil => exact hb
   | cons y a ih => exact ⟨ha.1, ih ha.2⟩
  rw [List.flatten_cons]
  exact app _ _ h1 (scopedL_flat h2)
structure HardOk (g g2 : Gh) (os : List Ob) (w : World) : Prop where
 prot : ∀ b off u, w.cell? ⟨b, off, none⟩ = some u → g.prot b off → g2.prot b off
 obj : ∀ (j b : Nat) (cs : List AV), g.objs[j]? = some b → os[j]? = some (.cells cs) → (∀ off, g2.prot b off) ∧ ObRel g w j b (.cells cs)
 vec : ∀ (j v b : Nat) (cs : List AV), j < g.objs.length → os[j]? = some (.vec v cs) → (v = g.ver j → g.kind b = .vec j) → (v = g.ver j → b < w.heap.size) →
  ∃ C : List Value, RelAll g w cs C ∧ (∀ u ∈ C, u.oneCell' = true) ∧ (∀ off, g2.prot b off) ∧ ∀ i v, C[i]? = some v → w.cell? ⟨b, i, none⟩ = some v
theorem objCells {g g2 : Gh} {os : List Ob} {w : World} (h : HardOk g g2 os w) {j b : Nat} {cs : List AV} (hg : g.objs[j]? = some b) (ho : os[j]? = some (.cells cs)) :
  ∃ C : List Value, RelAll g w cs C ∧ (∀ u ∈ C, u.oneCell' = true) ∧ (∀ off, g2.prot b off) ∧ ∀ i v, C[i]? = some v → w.cell? ⟨b, i, none⟩ = some v := by
 obtain ⟨h1, _, C, E, hC, hr, h2⟩ := h.obj j b cs hg ho
 refine ⟨C.toList.take cs.length, hr, h2, h1, fun i v hv => ?_⟩
 rw [cell_of hC]
 rw [List.getElem?_take] at hv
 split at hv
 ·simpa using hv
 ·cases hv
mutual
theorem hard_rel {g g2 : Gh} {os : List Ob} {w : World} (h : HardOk g g2 os w) : ∀ (a : AV) (v : Value), Scoped 0 0 (hard os a) → Rel g w a v → Rel g2 w (hard os a) v
 | .bool _, _, _, r => r
 | .int _ _, _, _, r => r
 | .str _, _, _, r => r
 | .nilptr, _, _, r => r
 | .nilsl, _, _, r => r
 | .nilmap, _, _, r => r
 | .nilfn, _, _, r => r
 | .nilif, _, _, r => r
 | .mp k, _, s, _ => absurd s (Nat.not_lt_zero _)
 | .tp k E m', _, s, _ => absurd s (Nat.not_lt_zero _)
 | .dead, _, _, _ => trivial
 | .ptr j o, v, s, ⟨b, r1, r2⟩ => by
  cases ho : os[j]? with
  | none => simp only [hard, ho] at s; exact absurd s (Nat.not_lt_zero _)
  | some ob =>
   cases ob with
   | cells cs =>
    obtain ⟨C, c1, c2, c3, c4⟩ := objCells h r1 ho
    simp only [hard, ho] at s ⊢
    refine ⟨b, o, r2, ?_⟩
    refine RelCells.of (cs.drop o) (C.drop o) b o (RelAll.toProt h.prot _ _ s (RelAll.drop o _ _ c1)) fun j v hj => ?_
    rw [List.getElem?_drop] at hj
    exact ⟨c4 _ _ hj, c3 _, c2 v (List.mem_of_getElem? hj)⟩
   | map es => simp only [hard, ho] at s; exact absurd s (Nat.not_lt_zero _)
   | gone => simp only [hard, ho] at s; exact absurd s (Nat.not_lt_zero _)
   | nov v => simp only [hard, ho] at s; exact absurd s (Nat.not_lt_zero _)
   | lp _ _ _ _ => simp only [hard, ho] at s; exact absurd s (Nat.not_lt_zero _)
   | vec v cs => simp only [hard, ho] at s; exact absurd s (Nat.not_lt_zero _)
 | .ms j sz o n cap, v, s, ⟨b, r1, r2, r3⟩ => by
  cases ho : os[j]? with
  | none => simp only [hard, ho] at s; exact absurd s (Nat.not_lt_zero _)
  | some ob =>
   cases ob with
   | cells cs =>
    obtain ⟨C, c1, c2, c3, c4⟩ := objCells h r1 ho
    cases hl : rowsOf sz n (cs.drop o) with
    | none => simp only [hard, ho, hl] at s; exact absurd s (Nat.not_lt_zero _)
    | some l =>
     simp only [hard, ho, hl] at s ⊢
     obtain ⟨h1, h2, h3⟩ := rowsOf_list sz n _ l hl
     refine ⟨b, o, none, cap, by rw [h1]; exact r2, by rw [h1]; exact r3, fun e => by rw [h1]; exact (Nat.eq_of_beq_eq_true e).symm, .inl rfl, ?_⟩
     refine RelRows.of sz l ((C.drop o).take (n * sz)) b o h2 ?_ fun j v hj => ?_
     ·refine RelAll.toProt h.prot _ _ (scopedL_flat s) ?_
      rw [h3]
      exact RelAll.take _ _ _ (RelAll.drop o _ _ c1)
     ·rw [List.getElem?_take] at hj
      split at hj
      ·rw [List.getElem?_drop] at hj
       exact ⟨c4 _ _ hj, c3 _, c2 v (List.mem_of_getElem? hj)⟩
      ·cases hj
   | map es => simp only [hard, ho] at s; exact absurd s (Nat.not_lt_zero _)
   | gone => simp only [hard, ho] at s; exact absurd s (Nat.not_lt_zero _)
   | nov v => simp only [hard, ho] at s; exact absurd s (Nat.not_lt_zero _)
   | lp _ _ _ _ => simp only [hard, ho] at s; exact absurd s (Nat.not_lt_zero _)
   | vec v cs => simp only [hard, ho] at s; exact absurd s (Nat.not_lt_zero _)
 | .vs j v sz n, u, s, r => by
  cases ho : os[j]? with
  | none => simp only [hard, ho] at s; exact absurd s (Nat.not_lt_zero _)
  | some ob =>
   cases ob with
   | vec v' cs =>
    cases hvv : Nat.beq v v' with
    | false => simp only [hard, ho, hvv] at s; exact absurd s (Nat.not_lt_zero _)
    | true =>
     obtain rfl := Nat.eq_of_beq_eq_true hvv
     obtain ⟨b, cap, r1, r2, r3, r4, r5⟩ := r
     obtain ⟨C, c1, c2, c3, c4⟩ := h.vec j v b cs r3 ho (fun e => (r5 e).1) (fun e => by obtain ⟨_, C, E, fz, k, _⟩ := r5 e; exact lt_of_block k)
     cases hl : rowsOf sz n cs with
     | none => simp only [hard, ho, hvv, hl] at s; exact absurd s (Nat.not_lt_zero _)
     | some l =>
      simp only [hard, ho, hvv, hl] at s ⊢
      obtain ⟨h1, h2, h3⟩ := rowsOf_list sz n _ l hl
      refine ⟨b, 0, none, cap, by rw [h1]; exact r1, by rw [h1]; exact r2, (fun e => by cases e), .inl rfl, ?_⟩
      refine RelRows.of sz l (C.take (n * sz)) b 0 h2 ?_ fun j v hj => ?_
      ·refine RelAll.toProt h.prot _ _ (scopedL_flat s) ?_
       rw [h3]
       exact RelAll.take _ _ _ c1
      ·rw [List.getElem?_take] at hj
       split at hj
       ·exact ⟨by rw [Nat.zero_add]; exact c4 _ _ hj, c3 _, c2 v (List.mem_of_getElem? hj)⟩
       ·cases hj
   | cells cs => simp only [hard, ho] at s; exact absurd s (Nat.not_lt_zero _)
   | map es => simp only [hard, ho] at s; exact absurd s (Nat.not_lt_zero _)
   | gone => simp only [hard, ho] at s; exact absurd s (Nat.not_lt_zero _)
   | nov v => simp only [hard, ho] at s; exact absurd s (Nat.not_lt_zero _)
   | lp _ _ _ _ => simp only [hard, ho] at s; exact absurd s (Nat.not_lt_zero _)
 | .vp j v o, u, s, r => by
  cases ho : os[j]? with
  | none => simp only [hard, ho] at s; exact absurd s (Nat.not_lt_zero _)
  | some ob =>
   cases ob with
   | vec v' cs =>
    cases hvv : Nat.beq v v' with
    | false => simp only [hard, ho, hvv] at s; exact absurd s (Nat.not_lt_zero _)
    | true =>
     obtain rfl := Nat.eq_of_beq_eq_true hvv
     obtain ⟨b, r1, r3, r4, r5⟩ := r
     obtain ⟨C, c1, c2, c3, c4⟩ := h.vec j v b cs r3 ho (fun e => (r5 e).1) (fun e => (r5 e).2)
     simp only [hard, ho, hvv] at s ⊢
     refine ⟨b, o, r1, ?_⟩
     refine RelCells.of (cs.drop o) (C.drop o) b o (RelAll.toProt h.prot _ _ s (RelAll.drop o _ _ c1)) fun j v hj => ?_
     rw [List.getElem?_drop] at hj
     exact ⟨c4 _ _ hj, c3 _, c2 v (List.mem_of_getElem? hj)⟩
   | cells cs => simp only [hard, ho] at s; exact absurd s (Nat.not_lt_zero _)
   | map es => simp only [hard, ho] at s; exact absurd s (Nat.not_lt_zero _)
   | gone => simp only [hard, ho] at s; exact absurd s (Nat.not_lt_zero _)
   | nov v => simp only [hard, ho] at s; exact absurd s (Nat.not_lt_zero _)
   | lp _ _ _ _ => simp only [hard, ho] at s; exact absurd s (Nat.not_lt_zero _)
 | .eptr cs, _, s, ⟨b, off, r1, r2⟩ => ⟨b, off, r1, hard_relCells h cs b off s r2⟩
 | .sl sz full l, _, s, ⟨b, off, sp, cap, r1, r2, r3, rs, r4⟩ => ⟨b, off, sp, cap, by rw [hardR_length]; exact r1, by rw [hardR_length]; exact r2, by rw [hardR_length]; exact r3, rs.imp id (fun e => by rw [e]; rfl), hard_relRows h sz l b off s r4⟩
 | .ns z sz l, _, s, .inl ⟨r0, r1, r2⟩ => .inl ⟨r0, by subst r1; rfl, r2⟩
 | .ns z sz l, _, s, .inr ⟨r0, b, off, sp, cap, r1, r2, rs, r4⟩ => .inr ⟨r0, b, off, sp, cap, by rw [hardR_length]; exact r1, by rw [hardR_length]; exact r2, rs.imp id (fun e => by rw [e]; rfl), hard_relRows h sz l b off s r4⟩
 | .lg t sz l, _, s, ⟨b, cap, C, E, fz, r1, r2, r3, r4, r5, r9, ⟨n, r6, r7⟩, r8⟩ => ⟨b, 0, none, cap, by rw [hardR_length]; exact r1, by rw [hardR_length]; exact r2, (fun e => by cases e), .inl rfl, hard_relRows h sz l b 0 s r8⟩
 | .fn f a c, _, ⟨s0, s1, s2⟩, ⟨va, vc, r1, r2, r3⟩ => ⟨va, vc, r1.move (by cases f <;> first | exact trivial | exact absurd s0 (Nat.not_lt_zero _)), hard_relAll h a va.toList s1 r2, hard_relAll h c vc.toList s2 r3⟩
 | .ifc t a, _, s, ⟨u, r1, r2⟩ => ⟨u, r1, hard_rel h a u s r2⟩
 | .agg cs, _, s, ⟨vs, r1, r2, r3⟩ => ⟨vs, r1, hard_relAll h cs vs.toList s r2, r3⟩
 | .tup cs, _, s, ⟨vs, r1, r2⟩ => ⟨vs, r1, hard_relAll h cs vs.toList s r2⟩
theorem hard_relAll {g g2 : Gh} {os : List Ob} {w : World} (h : HardOk g g2 os w) : ∀ (ays : List AV) (vs : List Value), ScopedL 0 0 (hardL os ays) → RelAll g w ays vs → RelAll g2 w (hardL os ays) vs
 | [], _, _, r => r
 | a :: ays, _, ⟨s1, s2⟩, ⟨v, vr, r1, r2, r3⟩ => ⟨v, vr, r1, hard_rel h a v s1 r2, hard_relAll h ays vr s2 r3⟩
theorem hard_relCells {g g2 : Gh} {os : List Ob} {w : World} (h : HardOk g g2 os w) : ∀ (ays : List AV) (b off : Nat), ScopedL 0 0 (hardL os ays) → RelCells g w ays b off → RelCells g2 w (hardL os ays) b off
 | [], _, _, _, _ => trivial
 | a :: ays, b, off, ⟨s1, s2⟩, ⟨⟨u, r1, r2, r5, r3⟩, r4⟩ => ⟨⟨u, r1, h.prot b off u r1 r2, r5, hard_rel h a u s1 r3⟩, hard_relCells h ays b (off + 1) s2 r4⟩
theorem hard_relRows {g g2 : Gh} {os : List Ob} {w : World} (h : HardOk g g2 os w) (sz : Nat) : ∀ (l : List (List AV)) (b off : Nat), ScopedR 0 0 (hardR os l) → RelRows g w sz l b off → RelRows g2 w sz (hardR os l) b off
 | [], _, _, _, _ => trivial
 | x :: l, b, off, ⟨s1, s2⟩, ⟨r1, r2, r3⟩ => ⟨by rw [hardL_length]; exact r1, hard_relCells h x b off s1 r2, hard_relRows h sz l b (off + sz) s2 r3⟩
end
theorem framedO {id : FuncId} {args : List AV} {r : AV} {st' : St} (h : CallsTo P id args ⟨[], []⟩ (.ret r, st')) (hs : ScopedL 0 0 args) (hr : Scoped 0 0 (hard st'.objs r)) (st : St) : CallsTo P id args st (.ret (hard st'.objs r), st) := by
 intro g w vals hv hst
 have hv1 : RelAll (g.away w.heap.size) w args vals.toList := RelAll.toProt (fun b off u hc hp => by
  obtain ⟨C, E, fz, hb, _⟩ := cell_some hc
  have hlt := lt_of_block hb
  unfold Gh.prot
  simp only [Gh.away]
  rw [if_pos hlt]
  exact hp) args vals.toList hs hv
 refine (h (g.away w.heap.size) w vals hv1 (away_st g w hst.glob)).mono fun e w' ⟨g', h1, h2, h3⟩ => ?_
 obtain ⟨v, rfl, hv'⟩ := h1
 have hold : ∀ b, b < w.heap.size → g'.kind b = .part (fun off => g.prot b off) ∧ w'.heap[b]? = w.heap[b]? := fun b hb =>
  h3.part b hb (by simp only [Gh.away]; rw [if_pos hb])
 have hOk : HardOk g' (g.kept w.heap.size) st'.objs w' := by
  refine ⟨fun b off u hc hp => ?_, fun j b cs hg ho => ?_, fun j v b cs hj ho e1 e2 => ?_⟩
  ·by_cases hb : b < w.heap.size
   ·unfold Gh.prot at hp
    rw [(hold b hb).1] at hp
    have hp : g.prot b off := hp
    unfold Gh.prot at hp ⊢
    simp only [Gh.kept]
    rw [if_pos hb]
    exact hp
   ·unfold Gh.prot
    simp only [Gh.kept]
    rw [if_neg hb]
    trivial
  ·obtain ⟨p1, p2⟩ := h2.obj j b _ hg ho
   refine ⟨fun off => ?_, p2⟩
   have hk := p2.1
   have hb : ¬ b < w.heap.size := by
    intro hb
    rw [(hold b hb).1] at hk
    cases hk
   unfold Gh.prot
   simp only [Gh.kept]
   rw [if_neg hb]
   trivial
  ·obtain ⟨q1, b', q2, q3, C, E, q4, q5, q6⟩ := (h2.obj j _ _ (List.getElem?_eq_getElem hj) ho).2
   obtain rfl := (h2.vec b j (e2 q1.symm) (e1 q1.symm)).2 b' q2 q3
   have hb : ¬ b' < w.heap.size := by
    intro hb
    have := (hold b' hb).1
    rw [q3] at this
    cases this
   refine ⟨_, q5, q6, fun off => ?_, fun i v hv => ?_⟩
   ·unfold Gh.prot
    simp only [Gh.kept]
    rw [if_neg hb]
    trivial
   ·rw [cell_of q4]
    rw [List.getElem?_take] at hv
    split at hv
    ·simpa using hv
    ·cases hv
 obtain ⟨k1, k2⟩ := kept hst h3.os h3.tape h3.output h3.size fun b hb => (hold b hb).2
 exact ⟨_, ⟨v, rfl, hard_rel hOk r v hr hv'⟩, k1, k2⟩
def Wk (x y : AV) : Prop := (∀ g w v, Rel g w x v → Rel g w y v)
def Wks (xs ys : List AV) : Prop := (∀ g w vs, RelAll g w xs vs → RelAll g w ys vs)
theorem Wk.refl (x : AV) : Wk x x := fun _ _ _ h => h
theorem Wks.nil : Wks [] [] := fun _ _ _ h => h
theorem Wks.cons {x y : AV} {xs ys : List AV} (h : Wk x y) (k : Wks xs ys) : Wks (x :: xs) (y :: ys) :=
 fun g w vs ⟨v, vr, e, h1, h2⟩ => ⟨v, vr, e, h _ _ _ h1, k _ _ _ h2⟩
def onNs (sz : Nat) (x : AV) (k : Bool → List (List AV) → Ans) : Ans :=
 match x with
 | .nilsl => k true []
 | .sl s _ l => match Nat.beq s sz with
  | true => k false l
  | false => none
 | .lg _ s l => match Nat.beq s sz with
  | true => k false l
  | false => none
 | .ns z s l => match Nat.beq s sz with
  | true => k z l
  | false => none
 | _ => none
theorem onNs_spec {sz : Nat} {x : AV} {k : Bool → List (List AV) → Ans} {fin : Fin × St} (h : onNs sz x k = some fin) :
  ∃ z l, k z l = some fin ∧ Wk x (.ns z sz l) := by
 unfold onNs at h
 split at h
 ·exact ⟨true, [], h, fun g w v hv => .inl ⟨rfl, rfl, hv⟩⟩
 ·split at h
  ·rename_i hs
   obtain rfl := Nat.eq_of_beq_eq_true hs
   exact ⟨false, _, h, fun g w v ⟨b, off, sp, cap, r1, r2, r3, rs, r4⟩ => .inr ⟨rfl, b, off, sp, cap, r1, r2, rs, r4⟩⟩
  ·cases h
 ·split at h
  ·rename_i hs
   obtain rfl := Nat.eq_of_beq_eq_true hs
   exact ⟨false, _, h, fun g w v ⟨b, cap, C, E, fz, r1, r2, r3, r4, r5, r9, r6, r8⟩ => .inr ⟨rfl, b, 0, none, cap, r1, r2, .inl rfl, r8⟩⟩
  ·cases h
 ·split at h
  ·rename_i z s l hs
   obtain rfl := Nat.eq_of_beq_eq_true hs
   exact ⟨_, _, h, Wk.refl _⟩
  ·cases h
 ·cases h
theorem onNs_nat {sz : Nat} {x : AV} {s s' : Bool → List (List AV) → Ans} {K : AV → Ans} (h : ∀ z l, s z l = thenA (s' z l) K) : onNs sz x s = thenA (onNs sz x s') K := by
 unfold onNs
 split
 ·exact h _ _
 ·split
  ·exact h _ _
  ·rfl
 ·split
  ·exact h _ _
  ·rfl
 ·split
  ·exact h _ _
  ·rfl
 ·rfl
theorem onInt_spec {x : AV} {k : IntKind → Int → Ans} {fin : Fin × St} (h : onInt x k = some fin) : ∃ kd n, k kd n = some fin ∧ x = .int kd n := by
 unfold onInt at h
 split at h
 ·exact ⟨_, _, h, rfl⟩
 ·cases h
def ifT (b : Bool) (k : Ans) : Ans :=
 match b with
 | true => k
 | false => none
theorem ifT_spec {b : Bool} {k : Ans} {fin : Fin × St} (h : ifT b k = some fin) : b = true ∧ k = some fin := by
 unfold ifT at h
 split at h
 ·exact ⟨rfl, h⟩
 ·cases h
theorem ifT_nat {b : Bool} {k k' : Ans} {K : AV → Ans} (h : k = thenA k' K) : ifT b k = thenA (ifT b k') K := by
 cases b
 ·rfl
 ·exact h
def Fun.farN (f : Fun P) (sem : List AV → (AV → Ans) → Ans)
  (hs : ∀ args k fin, sem args k = some fin → ∃ args' r, k r = some fin ∧ Wks args args' ∧ ScopedL 0 0 args' ∧ Scoped 0 0 r ∧ ∃ F r' st', hard st'.objs r' = r ∧ f.run F args' ⟨[], []⟩ = some (.ret r', st')) : POrc P where
 id := f.id
 fn := f.fn
 hf := f.hf
 hname := f.hname
 hb := by rw [f.hbody]; rfl
 F := sem
 sound k args fin h := by
  obtain ⟨args', r, h1, h2, h3, h4, F, r', st', h5, h6⟩ := hs args k fin h
  subst h5
  exact ⟨_, h1, fun st g w vals hv hst => framedO (f.sound h6) h3 h4 st g w vals (h2 _ _ _ hv) hst⟩
theorem Wk.nil {sz : Nat} : Wk .nilsl (.ns true sz []) := fun g w v h => .inl ⟨rfl, rfl, h⟩
theorem Wk.sl {sz : Nat} {f : Bool} {l : List (List AV)} : Wk (.sl sz f l) (.ns false sz l) := fun g w v ⟨b, off, sp, cap, r1, r2, r3, rs, r4⟩ => .inr ⟨rfl, b, off, sp, cap, r1, r2, rs, r4⟩
theorem Wk.tup {xs ys : List AV} (h : Wks xs ys) : Wk (.tup xs) (.tup ys) := fun g w v ⟨vs, h1, h2⟩ => ⟨vs, h1, h _ _ _ h2⟩
theorem Wk.agg {xs ys : List AV} (h : Wks xs ys) : Wk (.agg xs) (.agg ys) := fun g w v ⟨vs, h1, h2, h3⟩ => ⟨vs, h1, h _ _ _ h2, h3⟩
end
def bC (l : List Nat) : List AV := l.map fun (b : Nat) => .int .u8 (b : Int)
theorem bC_length (l : List Nat) : (bC l).length = l.length := by simp [bC]
theorem bR_flat (l : List Nat) : (bR l).flatten = bC l := by
 induction l with
 | nil => rfl
 | cons b l ih => simp only [bR, bC, List.map_cons, List.flatten_cons, List.singleton_append] at ih ⊢; rw [ih]
theorem rowsOf_bC : ∀ (n : Nat) (l : List Nat), n ≤ l.length → rowsOf 1 n (bC l) = some (bR (l.take n))
 | 0, l, _ => by simp [rowsOf, bR]
 | n + 1, [], h => by simp at h
 | n + 1, b :: l, h => by
  have ih := rowsOf_bC n l (by simpa using h)
  simp only [bC, List.map_cons, rowsOf, takeN, List.drop_one, List.tail_cons] at ih ⊢
  rw [ih]
  simp [bR]
theorem bC_drop (l : List Nat) (o : Nat) : (bC l).drop o = bC (l.drop o) := by simp [bC]
theorem rowsC_bC {n : Nat} {l : List Nat} {o : Nat} (h : o + n ≤ l.length) : rowsC 1 n (bC l) o = bR ((l.drop o).take n) := by
 rw [rowsC, opq_eq, bC_drop, rowsOf_bC n _ (by simp; omega)]; rfl
theorem zerC_byte (n : Nat) : zerC n [.int .u8 0] = bC (List.replicate n 0) := by
 rw [zerC, opq_eq]
 induction n with
 | zero => rfl
 | succ n ih => rw [List.replicate_succ, List.flatten_cons, ih, List.replicate_succ]; rfl
def putN (l : List Nat) (o : Nat) (r : List Nat) : List Nat := l.take o ++ r ++ l.drop (o + r.length)
theorem setAt_bC : ∀ (l : List Nat) (o : Nat) (r : List Nat), o + r.length ≤ l.length → setAt (bC l) o (bC r) = bC (putN l o r)
 | l, o, [], h => by
  have : setAt (bC l) o (bC []) = bC l := by
   show setAt (bC l) o [] = bC l
   cases h' : bC l <;> rfl
  rw [this]; simp [putN]
 | [], o, b :: r, h => by simp at h
 | c :: l, 0, b :: r, h => by
  have ih := setAt_bC l 0 r (by simpa using h)
  simp only [bC, List.map_cons, setAt] at ih ⊢
  rw [ih]
  simp [putN]
 | c :: l, o + 1, b :: r, h => by
  have ih := setAt_bC l o (b :: r) (by simp at h ⊢; omega)
  simp only [bC, List.map_cons, setAt] at ih ⊢
  rw [ih]
  simp only [putN, List.take_succ_cons, List.cons_append, List.length_cons, List.map_cons]
  rw [show o + 1 + (r.length + 1) = (o + (r.length + 1)) + 1 by omega, List.drop_succ_cons]
theorem setC_bC {l : List Nat} {o : Nat} {r : List Nat} (h : o + r.length ≤ l.length) : setC (bC l) o (bC r) = bC (putN l o r) := by
 rw [setC, opq_eq, setAt_bC _ _ _ h]
theorem setC_byte {l : List Nat} {o b : Nat} (h : o < l.length) : setC (bC l) o [.int .u8 (b : Int)] = bC (l.set o b) := by
 have := setC_bC (l := l) (o := o) (r := [b]) (by simp; omega)
 rw [show bC [b] = [.int .u8 (b : Int)] from rfl] at this
 rw [this]
 congr 1
 simp only [putN, List.length_singleton]
 rw [List.set_eq_take_append_cons_drop, if_pos h]
 simp
theorem putN_length {l : List Nat} {o : Nat} {r : List Nat} (h : o + r.length ≤ l.length) : (putN l o r).length = l.length := by
 simp only [putN, List.length_append, List.length_take, List.length_drop]; omega
theorem putN_nil (l : List Nat) (o : Nat) : putN l o [] = l := by simp [putN]
theorem mem_putN {l : List Nat} {o : Nat} {r : List Nat} {b : Nat} (h : b ∈ putN l o r) : b ∈ l ∨ b ∈ r := by
 simp only [putN, List.mem_append] at h
 rcases h with (h | h) | h
 ·exact .inl (List.mem_of_mem_take h)
 ·exact .inr h
 ·exact .inl (List.mem_of_mem_drop h)
end Go.V
namespace Go.V
noncomputable def fit (n : Nat) : Bool := cdec (n < 4611686018427387904)
theorem fit_iff {n : Nat} : fit n = true ↔ n < 4611686018427387904 := cdec_iff
noncomputable def byOk (l : List (List AV)) : Bool := okR l && fit l.length
theorem byOk_iff {l : List (List AV)} : byOk l = true ↔ okR l = true ∧ l.length < 4611686018427387904 := by rw [byOk, Bool.and_eq_true, fit_iff]
theorem byOk_bR {l : List Nat} (h : ∀ b ∈ l, b < 256) (hl : l.length < 4611686018427387904) : byOk (bR l) = true := by
 rw [byOk_iff, bR_length]; exact ⟨okR_bR h, hl⟩
theorem okR_at {l : List (List AV)} (h : okR l = true) {i : Nat} (hi : i < l.length) : (LD.one (.int .u8)).is (rowAt l (i : Int)) = true ∧ hdI (rowAt l (i : Int)) = ((nR l)[i]'(by rw [nR_length]; exact hi) : Nat) := by
 rw [rowAt_nat hi]
 have h1 := isByte_row (List.all_eq_true.mp h l[i] (List.getElem_mem hi))
 have h2 : (nR l)[i]'(by rw [nR_length]; exact hi) = byteOf l[i] := by simp [nR]
 rw [h2]
 constructor
 ·rw [h1.1]; rfl
 ·conv => lhs; rw [h1.1]
  rfl
theorem okR_scoped {n m : Nat} : ∀ {l : List (List AV)}, okR l = true → ScopedR n m l
 | [], _ => trivial
 | r :: l, h => by
  simp only [okR, List.all_cons, Bool.and_eq_true] at h
  refine ⟨?_, okR_scoped h.2⟩
  rw [(isByte_row h.1).1]
  exact ⟨trivial, trivial⟩
theorem bR_scoped {n m : Nat} : ∀ (l : List Nat), ScopedR n m (bR l)
 | [] => trivial
 | b :: l => ⟨⟨trivial, trivial⟩, bR_scoped l⟩
theorem wrap_nat {i : Nat} (h : i < 9223372036854775808) : IntKind.i64.wrap (i : Int) = i := wrapS (by omega) (by omega)
theorem wrap_succ {i : Nat} (h : i < 9223372036854775807) : IntKind.i64.wrap ((i : Int) + 1) = ((i + 1 : Nat) : Int) := by
 rw [show (i : Int) + 1 = ((i + 1 : Nat) : Int) by omega]; exact wrap_nat (by omega)
theorem beq_drop {a b : List Nat} {i : Nat} (h1 : i < a.length) (h2 : i < b.length) : (a.drop i == b.drop i) = (a[i] == b[i] && (a.drop (i + 1) == b.drop (i + 1))) := by
 rw [List.drop_eq_getElem_cons h1, List.drop_eq_getElem_cons h2]; rfl
def slot (r : List AV) : Option (List Nat) := bif nilA r then none else some (nR (rwA r))
theorem foldl_push (l : List Nat) : ∀ r : ByteArray, ((l.map fun (b : Nat) => (b : Int)).foldl (fun r n => r.push (UInt8.ofNat n.toNat)) r).data.toList = r.data.toList ++ l.map fun (b : Nat) => UInt8.ofNat b := by
 induction l with
 | nil => intro r; simp
 | cons b l ih =>
  intro r
  simp only [List.map_cons, List.foldl_cons, ih, Int.toNat_natCast]
  simp [ByteArray.push]
theorem numsOf_nR {l : List (List AV)} (h : okR l = true) : numsOf l = some ((nR l).map fun (b : Nat) => (b : Int)) := by
 have := numsOf_map ((nR l).map fun (b : Nat) => (b : Int))
 rw [List.map_map] at this
 conv at this => lhs; arg 1; rw [show ((fun (b : Int) => [AV.int IntKind.u8 b]) ∘ fun (b : Nat) => (b : Int)) = fun (b : Nat) => [AV.int IntKind.u8 (b : Int)] from rfl]
 rw [show (nR l).map (fun (b : Nat) => [AV.int IntKind.u8 (b : Int)]) = bR (nR l) from rfl, ← okR_rows h] at this
 exact this
end Go.V
namespace Go.V
section
variable {P : Program}
theorem setV_whole : ∀ (L : List Value) (o : Nat) (vs : List Value), o + vs.length ≤ L.length → (setV L o vs).take (o + vs.length) = L.take o ++ vs
 | L, o, [], h => by
  have : setV L o [] = L := by cases L <;> rfl
  simp [this]
 | [], o, v :: vs, h => by simp at h
 | l :: L, 0, v :: vs, h => by
  have ih := setV_whole L 0 vs (by simp at h ⊢; omega)
  rw [Nat.zero_add] at ih ⊢
  simp [setV, ih]
 | l :: L, o + 1, v :: vs, h => by
  have ih := setV_whole L o (v :: vs) (by simp at h ⊢; omega)
  rw [show o + 1 + (v :: vs).length = (o + (v :: vs).length) + 1 by omega]
  simp only [setV, List.take_succ_cons, ih, List.cons_append]
def mvKind (g : Gh) (sz j x : Nat) : BK := if x = sz then .vec j else match g.kind x with
 | .vec k => if k = j then .solid else .vec k
 | y => y
theorem mvKind_old {g : Gh} {sz j x : Nat} (hx : x ≠ sz) (hk : ∀ k, g.kind x ≠ .vec k) : mvKind g sz j x = g.kind x := by
 unfold mvKind
 rw [if_neg hx]
 cases e : g.kind x with
 | vec k => exact absurd e (hk k)
 | _ => rfl
theorem mvKind_vec {g : Gh} {sz j x k : Nat} (hx : x ≠ sz) (hk : k ≠ j) (e : g.kind x = .vec k) : mvKind g sz j x = .vec k := by
 unfold mvKind
 rw [if_neg hx, e]
 simp only
 rw [if_neg hk]
theorem mvKind_back {g : Gh} {sz j x : Nat} {y : BK} (e : mvKind g sz j x = y) (hx : x < sz + 1) (hy : y ≠ .solid) : (x = sz ∧ y = .vec j) ∨ (x < sz ∧ g.kind x = y ∧ ∀ k, y = .vec k → k ≠ j) := by
 unfold mvKind at e
 split at e
 ·rename_i h; exact .inl ⟨h, e.symm⟩
 ·rename_i h
  refine .inr ⟨by omega, ?_⟩
  cases h2 : g.kind x with
  | vec k =>
   rw [h2] at e
   simp only at e
   split at e
   ·exact absurd e.symm hy
   ·rename_i h3
    refine ⟨e, fun k' h4 => ?_⟩
    rw [h4] at e; cases e; exact h3
  | _ =>
   rw [h2] at e
   refine ⟨e, fun k' h4 => ?_⟩
   rw [h4] at e; cases e
theorem vec_moved {g : Gh} {st : St} {w w1 : World} {C : Array Value} {E : TypeId} (hs : StRel g st w) (hp : Push w w1 (.cells C E)) {j v : Nat} {cs : List AV} {gos : List Nat} {os : List Ob}
  (hold : ∀ o, st.objs[j]? = some o → ∃ v0, ((∃ cs0, o = .vec v0 cs0) ∨ o = .nov v0) ∧ v0 < v) (hj : gos[j]?.isSome) (hgos : ∀ k b : Nat, g.objs[k]? = some b → gos[k]? = some b) (hgos2 : ∀ k b : Nat, gos[k]? = some b → g.objs[k]? = some b ∨ (k = j ∧ b = w.heap.size))
  (hlen : gos.length = os.length) (hosj : os[j]? = some (.vec v cs)) (hos : ∀ k : Nat, k ≠ j → os[k]? = st.objs[k]?) (hr : RelAll g w cs (C.toList.take cs.length)) (h1 : ∀ u ∈ C.toList.take cs.length, u.oneCell' = true) :
  ∃ g', StRel g' ⟨os, st.tk⟩ w1 ∧ Ev g w g' w1 ∧ (∀ c sz n, n ≤ c → c * sz ≤ C.size → okE sz E = true → Rel g' w1 (.vs j v sz n) (.slice (some ⟨w.heap.size, 0, none⟩) n c)) ∧ ∀ off, Rel g' w1 (.vp j v off) (.pointer (some ⟨w.heap.size, off, none⟩)) := by
 have hjl : j < gos.length := by
  rcases Nat.lt_or_ge j gos.length with h | h
  ·exact h
  ·rw [List.getElem?_eq_none h] at hj; cases hj
 have hglen : ∀ k, k < g.objs.length → k < gos.length := fun k hk => getElem?_lt (hgos k _ (List.getElem?_eq_getElem hk))
 have hverj : j < g.objs.length → g.ver j < v := by
  intro h
  have h2 : st.objs[j]? = some (st.objs[j]'(by rw [← hs.len]; exact h)) := List.getElem?_eq_getElem _
  obtain ⟨v0, ⟨cs0, h3⟩ | h3, h4⟩ := hold _ h2
  ·rw [h3] at h2
   rw [(vec_of hs h h2).1]
   exact h4
  ·rw [h3] at h2
   have h5 : g.ver j = v0 := (hs.obj j _ _ (List.getElem?_eq_getElem h) h2).2
   rw [h5]; exact h4
 have hkd0 := fun x => mvKind_old (g := g) (sz := w.heap.size) (j := j) (x := x)
 have hkdv := fun x k => mvKind_vec (g := g) (sz := w.heap.size) (j := j) (x := x) (k := k)
 have hback : ∀ x y, mvKind g w.heap.size j x = y → x < w1.heap.size → y ≠ .solid → (x = w.heap.size ∧ y = .vec j) ∨ (x < w.heap.size ∧ g.kind x = y ∧ ∀ k, y = .vec k → k ≠ j) := by
  intro x y e hx hy
  rw [hp.size] at hx
  exact mvKind_back e (by omega) hy
 let g' : Gh := ⟨mvKind g w.heap.size j, gos, g.tk, fun x => if x = j then v else g.ver x⟩
 have hE : Ev g w g' w1 := by
  refine ⟨hp.os, hp.tape, hp.output, by rw [hp.size]; omega, fun b hb hk => ⟨?_, hp.old hb⟩, fun b t hb hk => ⟨?_, fun C' E' fz hC => ⟨C', (hp.old hb).trans hC, rfl, fun _ _ => rfl⟩⟩, fun b k hb hk => .inl ?_, hgos, tk_refl _, fun k hk => ?_, fun b k hb hkl hk hv => ⟨?_, fun C' E' fz hC => ⟨C', (hp.old hb).trans hC, rfl⟩⟩, fun b C' E' fz hC => ⟨C', fz, (hp.old (lt_of_block hC)).trans hC, rfl⟩⟩
  ·exact hkd0 b (by omega) (fun k e => by rw [e] at hk; cases hk)
  ·exact (hkd0 b (by omega) (fun k e => by rw [e] at hk; cases hk)).trans hk
  ·exact (hkd0 b (by omega) (fun k e => by rw [e] at hk; cases hk)).trans hk
  ·simp only [g']
   split
   ·rename_i e; subst e; exact Nat.le_of_lt (hverj hk)
   ·exact Nat.le_refl _
  ·refine hkdv b k (by omega) ?_ hk
   intro e
   subst e
   simp only [g', if_true] at hv
   have := hverj hkl
   omega
 refine ⟨g', ⟨hs.tk, hlen, fun k b o hk ho => ?_, fun b k hb hk => ?_, fun b t hb hk => ?_, fun b k hb hk => ?_, hs.glob.mono hE⟩, hE, fun c sz n h2 h3 hok => ⟨w.heap.size, c, rfl, h2, hjl, by simp [g'], fun _ => ⟨by simp [g', mvKind], C, E, (0, 0), hp.new, hok, h3⟩⟩, fun off => ⟨w.heap.size, rfl, hjl, by simp [g'], fun _ => ⟨by simp [g', mvKind], by rw [hp.size]; omega⟩⟩⟩
 ·by_cases hkj : k = j
  ·subst hkj
   have ho : os[k]? = some o := ho
   rw [hosj] at ho
   cases ho
   refine ⟨?_, by simp [g'], w.heap.size, by rw [hp.size]; omega, by simp [g', mvKind], C, E, hp.new, RelAll.mono hE _ _ hr, h1⟩
   rcases hgos2 k b hk with h | ⟨_, h⟩
   ·have hkl : k < st.objs.length := by rw [← hs.len]; exact getElem?_lt h
    have := (hs.obj k b _ h (List.getElem?_eq_getElem hkl)).1
    rw [hp.size]; omega
   ·rw [h, hp.size]; omega
  ·have ho : os[k]? = some o := ho
   rw [hos k hkj] at ho
   rcases hgos2 k b hk with h | ⟨h, _⟩
   ·obtain ⟨k1, k2⟩ := hs.obj k b o h ho
    refine ⟨by rw [hp.size]; omega, ?_⟩
    cases o with
    | gone => trivial
    | nov v' => exact (show (if k = j then v else g.ver k) = v' by rw [if_neg hkj]; exact k2)
    | cells cs' => 
     have := k2.1
     exact k2.keep hE (hp.old k1) (hkd0 b (by omega) (fun k e => by rw [e] at this; cases this)) (fun b' hb' hv => ⟨hp.old hb', hkdv b' k (by omega) hkj hv⟩) (by simp only [g']; rw [if_neg hkj])
    | map es =>
     have := k2.1
     exact k2.keep hE (hp.old k1) (hkd0 b (by omega) (fun k e => by rw [e] at this; cases this)) (fun b' hb' hv => ⟨hp.old hb', hkdv b' k (by omega) hkj hv⟩) (by simp only [g']; rw [if_neg hkj])
    | lp _ _ _ _ =>
     have := k2.1
     exact k2.keep hE (hp.old k1) (hkd0 b (by omega) (fun k e => by rw [e] at this; cases this)) (fun b' hb' hv => ⟨hp.old hb', hkdv b' k (by omega) hkj hv⟩) (by simp only [g']; rw [if_neg hkj])
    | vec v' cs' =>
     obtain ⟨e1, b'', e2, e3, C', E', e4, e5, e6⟩ := k2
     exact ⟨by simp only [g']; rw [if_neg hkj]; exact e1, b'', by rw [hp.size]; omega, hkdv b'' k (by omega) hkj e3, C', E', (hp.old e2).trans e4, RelAll.mono hE _ _ e5, e6⟩
   ·exact absurd h hkj
 ·rcases hback b _ hk hb (by intro e; cases e) with ⟨_, h⟩ | ⟨h1, h2, _⟩
  ·cases h
  ·obtain ⟨o, k1, k2, k3⟩ := hs.back b k h1 h2
   have hkj : k ≠ j := by
    intro e
    subst e
    obtain ⟨v0, ⟨cs0, h⟩ | h, _⟩ := hold o k1
    ·subst h; exact k3.elim
    ·subst h; exact k3.elim
   exact ⟨o, by show os[k]? = some o; rw [hos k hkj]; exact k1, hgos k b k2, k3⟩
 ·rcases hback b _ hk hb (by intro e; cases e) with ⟨_, h⟩ | ⟨h1, h2, _⟩
  ·cases h
  ·exact hs.rowlt b t h1 h2
 ·rcases hback b _ hk hb (by intro e; cases e) with ⟨h0, h⟩ | ⟨h1, h2, h3⟩
  ·cases h
   refine ⟨⟨v, cs, hosj⟩, fun b' hb' hk' => ?_⟩
   rcases hback b' _ hk' hb' (by intro e; cases e) with ⟨h4, _⟩ | ⟨_, _, h5⟩
   ·rw [h4, h0]
   ·exact absurd rfl (h5 _ rfl)
  ·have hkj := h3 k rfl
   obtain ⟨⟨v0, cs0, k1⟩, k2⟩ := hs.vec b k h1 h2
   refine ⟨⟨v0, cs0, by show os[k]? = _; rw [hos k hkj]; exact k1⟩, fun b' hb' hk' => ?_⟩
   rcases hback b' _ hk' hb' (by intro e; cases e) with ⟨_, h4⟩ | ⟨h5, h6, _⟩
   ·cases h4; exact absurd rfl hkj
   ·exact k2 b' h5 h6
noncomputable def catC (cs : List AV) (m : Nat) (rows : List (List AV)) : List AV := opq (cs.take m ++ rows.flatten)
noncomputable def aappV (sz bytes : Nat) (s x : AV) (st : St) (k : AV → St → Ans) : Ans :=
 match rowsT sz x st with
 | none => none
 | some rows => match s with
  | .nilsl => match apOk rows.length bytes with
   | true => match Nat.beq rows.length 0 with
    | true => k .nilsl st
    | false => k (.vs st.objs.length 0 sz rows.length) ⟨st.objs ++ [.vec 0 (catC [] 0 rows)], st.tk⟩
   | false => none
  | .sl s' true l => match Nat.beq s' sz && apOk (l.length + rows.length) bytes with
   | true => match Nat.beq rows.length 0 with
    | true => k (.sl sz true l) st
    | false => k (.vs st.objs.length 0 sz (l.length + rows.length)) ⟨st.objs ++ [.vec 0 (catC (catC [] 0 l) (mulN l.length sz) rows)], st.tk⟩
   | false => none
  | .vs j v s' n => match Nat.beq s' sz with
   | true => match st.objs[j]? with
    | some (.vec v' cs) => match Nat.beq v v' && (inC cs 0 (mulN n sz) && apOk (n + rows.length) bytes) with
     | true => k (.vs j (v + 1) sz (n + rows.length)) ⟨st.objs.set j (.vec (v + 1) (catC cs (mulN n sz) rows)), st.tk⟩
     | false => none
    | _ => none
   | false => none
  | _ => none
theorem aappV_nat (sz bytes : Nat) (s x : AV) (st : St) (k : AV → St → Ans) : aappV sz bytes s x st k = thenM (aappV sz bytes s x st retM) k := by
 unfold aappV
 split
 ·rfl
 ·split
  ·split
   ·split <;> rfl
   ·rfl
  ·split
   ·split <;> rfl
   ·rfl
  ·split
   ·split
    ·split <;> rfl
    ·rfl
   ·rfl
  ·rfl
theorem aappV_run {T X e sz bytes : Nat} {z : Value} (hok : okE sz e = true) (hT : ElemOf P T e sz bytes z) {dx : TypeDesc} (hX : P.underlying X = some dx) (hdx : isSeq dx = true) (ty : TypeId) {g : Gh} {st : St} {w : World} (hs : StRel g st w) {S Y : AV} {s x : Value} (hS : Rel g w S s) (hY : Rel g w Y x) {k : AV → St → Ans} {fin : Fin × St} (h : aappV sz bytes S Y st k = some fin) :
  ∃ r v st' g' w', k r st' = some fin ∧ (Builtin.append_ #[T, X] ty #[s, x]).run P w = .ok v w' ∧ Rel g' w' r v ∧ StRel g' st' w' ∧ Ev g w g' w' := by
 have hzc : ∀ n, (Builtin.zeroCells z.cells n).toList.length = n * sz := fun n => by rw [Array.length_toList (xs := Builtin.zeroCells z.cells n), size_zeroCells, hT.cells]
 unfold aappV at h
 split at h
 ·cases h
 ·rename_i rows hrows
  obtain ⟨news, h1, h2, h3, h4, h5, h6⟩ := rowsA_run (P := P) hs hY (rowsT_rowsA hrows)
  have fresh : ∀ p (l : List (List AV)) (olds : List Value) cap j v (gos : List Nat) (os : List Ob), s = .slice p l.length cap → RelAll g w l.flatten olds → (∀ u ∈ olds, u.oneCell' = true) → (∀ x ∈ l, x.length = sz) →
    (∀ w', w'.heap = w.heap → (Builtin.firstCells sz l.length (.slice p l.length cap)).run P w' = .ok olds.toArray w') → cap < l.length + rows.length → (l.length + rows.length) * bytes ≤ 140737488355328 →
    (∀ o, st.objs[j]? = some o → ∃ v0, ((∃ cs0, o = .vec v0 cs0) ∨ o = .nov v0) ∧ v0 < v) → (gos[j]?).isSome → (∀ k b : Nat, g.objs[k]? = some b → gos[k]? = some b) → (∀ k b : Nat, gos[k]? = some b → g.objs[k]? = some b ∨ (k = j ∧ b = w.heap.size)) →
    gos.length = os.length → os[j]? = some (.vec v (l.flatten ++ rows.flatten)) → (∀ k : Nat, k ≠ j → os[k]? = st.objs[k]?) → k (.vs j v sz (l.length + rows.length)) ⟨os, st.tk⟩ = some fin →
    ∃ r v st' g' w', k r st' = some fin ∧ (Builtin.append_ #[T, X] ty #[s, x]).run P w = .ok v w' ∧ Rel g' w' r v ∧ StRel g' st' w' ∧ Ev g w g' w' := by
   intro p l olds cap j v gos os hs' ho ho1 hol hfirst hcap hb q1 q2 q3 q4 q5 q6 q7 hk
   subst hs'
   have hrun := run_append_grows (P := P) hT hX hdx ty h5 hfirst h6 hcap hb
   have hge := grownCap_ge w (l.length + rows.length) cap e
   have hal := RelAll.append _ _ _ _ ho h1
   have holen : olds.length = l.length * sz := by rw [← RelAll.length _ _ ho, flat_len l hol]
   have hlen : (l.flatten ++ rows.flatten).length = (olds ++ news).length := RelAll.length _ _ hal
   obtain ⟨g', k1, k2, k3, _⟩ := vec_moved (j := j) (v := v) (gos := gos) (os := os) (cs := l.flatten ++ rows.flatten) hs (Push.drew w (.cells (olds ++ news ++ (Builtin.zeroCells z.cells (grownCap w (l.length + rows.length) cap e - (l.length + rows.length))).toList).toArray e)) q1 q2 q3 q4 q5 q6 q7
    (by rw [hlen, List.toList_toArray, List.take_left]; exact hal) (fun u hu => by
     rw [hlen, List.toList_toArray, List.take_left] at hu
     rcases List.mem_append.mp hu with hu | hu
     ·exact ho1 u hu
     ·exact h3 u hu)
   refine ⟨_, _, _, g', _, hk, hrun, k3 _ sz _ hge ?_ hok, k1, k2⟩
   rw [List.size_toArray, List.length_append, List.length_append, hzc, holen, h4, ← Nat.add_mul, ← Nat.add_mul]
   exact Nat.mul_le_mul_right _ (by omega)
  have newobj : ∀ (l : List (List AV)) cap p olds, s = .slice p l.length cap → RelAll g w l.flatten olds → (∀ u ∈ olds, u.oneCell' = true) → (∀ x ∈ l, x.length = sz) →
    (∀ w', w'.heap = w.heap → (Builtin.firstCells sz l.length (.slice p l.length cap)).run P w' = .ok olds.toArray w') → cap < l.length + rows.length → (l.length + rows.length) * bytes ≤ 140737488355328 →
    k (.vs st.objs.length 0 sz (l.length + rows.length)) ⟨st.objs ++ [.vec 0 (l.flatten ++ rows.flatten)], st.tk⟩ = some fin →
    ∃ r v st' g' w', k r st' = some fin ∧ (Builtin.append_ #[T, X] ty #[s, x]).run P w = .ok v w' ∧ Rel g' w' r v ∧ StRel g' st' w' ∧ Ev g w g' w' := by
   intro l cap p olds q1 q2 q3 q4 q5 q6 q7 q8
   refine fresh p l olds cap st.objs.length 0 (g.objs ++ [w.heap.size]) _ q1 q2 q3 q4 q5 q6 q7 (fun o ho => ?_) ?_ (fun k b hk => ?_) (fun k b hk => ?_) (by simp [hs.len]) (by simp) (fun k hk => ?_) q8
   ·rw [List.getElem?_eq_none (Nat.le_refl _)] at ho; cases ho
   ·rw [List.getElem?_append_right (by rw [hs.len]; exact Nat.le_refl _)]; simp [hs.len]
   ·rw [List.getElem?_append_left (getElem?_lt hk)]; exact hk
   ·rcases Nat.lt_or_ge k g.objs.length with hlt | hge
    ·rw [List.getElem?_append_left hlt] at hk; exact .inl hk
    ·have hlt := getElem?_lt hk
     rw [List.length_append, List.length_singleton] at hlt
     have : k = g.objs.length := by omega
     subst this
     rw [List.getElem?_append_right (Nat.le_refl _)] at hk
     simp at hk
     exact .inr ⟨hs.len, hk.symm⟩
   ·rcases Nat.lt_or_ge k st.objs.length with hlt | hge
    ·rw [List.getElem?_append_left hlt]
    ·rw [List.getElem?_eq_none (by simp; omega), List.getElem?_eq_none hge]
  split at h
  ·obtain rfl : s = .slice none 0 0 := hS
   split at h
   ·rename_i hc
    rw [apOk_iff] at hc
    split at h
    ·rename_i h0
     have h0 := Nat.eq_of_beq_eq_true h0
     have hn : news = [] := List.eq_nil_of_length_eq_zero (by rw [h4, h0, Nat.zero_mul])
     have := run_append_fits (P := P) (p := none) (n := 0) (cap := 0) hT hX hdx ty h5 (h6 w rfl) (by omega)
     refine ⟨_, _, _, g, w, h, this, ?_, hs, Ev.refl g w⟩
     rw [h0]; rfl
    ·rename_i h0
     have h0 : rows.length ≠ 0 := by intro e; rw [e] at h0; cases h0
     rw [catC, opq_eq] at h
     exact newobj [] 0 none [] rfl rfl (by simp) (by simp) (fun w' _ => by simp [Builtin.firstCells]) (by simp; omega) (by simpa using hc) (by simpa using h)
   ·cases h
  ·rename_i s' l
   split at h
   ·rename_i hc
    rw [Bool.and_eq_true, apOk_iff] at hc
    obtain ⟨hsz, hc⟩ := hc
    obtain rfl := Nat.eq_of_beq_eq_true hsz
    obtain ⟨b, o, sp, cap, rfl, hle, hf, hsp, hr⟩ := hS
    have hcap := hf rfl
    split at h
    ·rename_i h0
     have h0 := Nat.eq_of_beq_eq_true h0
     have hn : news = [] := List.eq_nil_of_length_eq_zero (by rw [h4, h0, Nat.zero_mul])
     subst hn
     have := run_append_fits (P := P) (p := some ⟨b, o, sp⟩) (n := l.length) (cap := cap) hT hX hdx ty h5 (h6 w rfl) (by omega)
     rw [h0] at this
     exact ⟨_, _, _, g, w, h, by simpa [storeCells] using this, ⟨b, o, sp, cap, rfl, hle, hf, hsp, hr⟩, hs, Ev.refl g w⟩
    ·rename_i h0
     have h0 : rows.length ≠ 0 := by intro e; rw [e] at h0; cases h0
     obtain ⟨olds, o1, o2, o3⟩ := RelRows.values s' l b o hr
     have hlens := RelRows.lens s' l b o hr
     have hfl := flat_len l hlens
     rw [catC, opq_eq, catC, opq_eq, mulN, opq_eq, List.take_zero, List.nil_append, List.take_of_length_le (by rw [hfl]; exact Nat.le_refl _)] at h
     refine newobj l cap _ olds rfl o1 (fun u hu => by obtain ⟨j, hj⟩ := List.getElem?_of_mem hu; exact (o3 j u hj).2.2) hlens (fun w' hw => ?_) (by omega) hc h
     simp only [Builtin.firstCells]
     rw [← o2]
     exact run_loadCells_list (P := P) w' ⟨b, o, sp⟩ olds (fun j u hj => by
      have := sl_cells hsp o2 (fun j u hj => (o3 j u hj).1) j u hj
      simp only [World.cell?, hw] at this ⊢
      exact this)
   ·cases h
  ·rename_i j v s' n
   split at h
   ·rename_i hsz
    obtain rfl := Nat.eq_of_beq_eq_true hsz
    split at h
    ·rename_i v' cs hcs
     split at h
     ·rename_i hc
      simp only [Bool.and_eq_true, inC_iff, apOk_iff, mulN, opq_eq, Nat.zero_add] at hc
      obtain ⟨hvv, hin, hap⟩ := hc
      obtain rfl := Nat.eq_of_beq_eq_true hvv
      rw [catC, opq_eq, mulN, opq_eq] at h
      have hS0 := hS
      obtain ⟨b, cap, rfl, hle, hj, _, _⟩ := hS
      obtain ⟨hkind, C, E, hC, hr, hrc, hcC, hokE⟩ := vs_of hs hS0 rfl hcs
      have hcl := RelAll.length _ _ hr
      rw [List.length_take] at hcl
      have hcsz : cs.length ≤ C.toList.length := by omega
      have hold : RelAll g w (cs.take (n * s')) (C.toList.take (n * s')) := by
       have := RelAll.take (n * s') _ _ hr
       rwa [List.take_take, Nat.min_eq_left hin] at this
      have hold1 : ∀ u ∈ C.toList.take (n * s'), u.oneCell' = true := fun u hu => hrc u (by
       have := List.take_subset_take_left C.toList hin
       exact this hu)
      have hfl := flat_len rows h2
      by_cases hfit : n + rows.length ≤ cap
      ·have hmul : (n + rows.length) * s' ≤ cap * s' := Nat.mul_le_mul_right _ hfit
       rw [Nat.add_mul] at hmul
       have hroom : n * s' + news.length ≤ C.toList.length := by
        have e1 : C.toList.length = C.size := Array.length_toList
        rw [h4, e1]; omega
       have hl' : (cs.take (n * s') ++ rows.flatten).length = n * s' + news.length := by
        rw [List.length_append, List.length_take, Nat.min_eq_left hin, hfl, h4]
       have hw := setV_whole C.toList (n * s') news hroom
       obtain ⟨w', k1, k2, k3, k4⟩ := write_vec (P := P) (cs' := cs.take (n * s') ++ rows.flatten) hs hj hcs (Nat.le_succ v) hkind hC (o := n * s') h3 (by have e1 : C.toList.length = C.size := Array.length_toList; rw [← e1]; exact hroom)
        (by rw [hl', hw]; exact RelAll.append _ _ _ _ hold h1) (fun u hu => by
         rw [hl', hw] at hu
         rcases List.mem_append.mp hu with hu | hu
         ·exact hold1 u hu
         ·exact h3 u hu)
       have hrun := run_append_fits (P := P) (p := some ⟨b, 0, none⟩) (n := n) (cap := cap) hT hX hdx ty h5 (h6 w rfl) hfit
       refine ⟨_, _, _, ⟨g.kind, g.objs, g.tk, fun x => if x = j then v + 1 else g.ver x⟩, w', h, ?_, ⟨b, cap, rfl, hfit, hj, by simp, fun _ => ⟨hkind, _, E, (0, 0), k4, hokE, by simpa [length_setV] using hcC⟩⟩, k2, k3⟩
       rw [hrun]
       simp [add_none, k1]
      ·obtain ⟨l, hl⟩ := rowsOf_some s' n cs hin
       obtain ⟨r1, r2, r3⟩ := rowsOf_list s' n cs l hl
       have hlf := flat_len l r2
       rw [← r3] at h hold
       have holen : (C.toList.take (n * s')).length = n * s' := by rw [List.length_take]; omega
       refine fresh (some ⟨b, 0, none⟩) l (C.toList.take (n * s')) cap j (v + 1) g.objs _ (by rw [r1]) hold hold1 r2 (fun w' hw => ?_) (by omega) (by rw [r1]; exact hap) (fun o ho => ?_) (by rw [List.getElem?_eq_getElem hj]; rfl) (fun _ _ h => h) (fun _ _ h => .inl h) (by simp [hs.len]) (List.getElem?_set_self (getElem?_lt hcs)) (fun k hk => List.getElem?_set_ne (fun e => hk e.symm)) (by rw [r1]; exact h)
       ·simp only [Builtin.firstCells]
        rw [r1]
        have := run_loadCells_list (P := P) w' ⟨b, 0, none⟩ (C.toList.take (n * s')) (fun i u hi => by
         rw [List.getElem?_take] at hi
         split at hi
         ·simp only [add_none, Nat.zero_add, World.cell?, hw, hC]
          simpa using hi
         ·cases hi)
        rwa [holen] at this
       ·rw [hcs] at ho; cases ho
        exact ⟨_, .inl ⟨_, rfl⟩, Nat.lt_succ_self _⟩
     ·cases h
    ·cases h
   ·cases h
  ·cases h
noncomputable def opAppendV (dst : Option Tmp) (s x : Operand) (T X e sz bytes : Nat) (z : Value) (hT : ElemOf P T e sz bytes z) (dx : TypeDesc) (hX : P.underlying X = some dx) (hdx : isSeq dx = true) (ty : TypeId) (pos : String) (after : Array Edge) (hok : okE sz e = true := by rfl) : MSim P :=
 MSim.makes (mkOp dst (.call { callee := .builtin .append, args := #[s, x], argTypes := #[T, X] }) ty pos after) rfl [s, x] (fun ev st k => aappV sz bytes (ev s) (ev x) st k) (fun ev ev' st k h => by simp only [h s (by simp), h x (by simp)]) fun ev st k fin h g w a he hs => by
  obtain ⟨r, v, st', g', w', h1, h2, h3⟩ := aappV_run (P := P) hok hT hX hdx ty hs (he s (by simp)) (he x (by simp)) h
  refine ⟨r, v, st', g', w', h1, ?_, h3⟩
  rw [callBuiltin]
  simp only [builtin, List.map_toArray, List.map_cons, List.map_nil, Sem.run_bind, h2]
  rfl
theorem opAppendV_nat {dst : Option Tmp} {s x : Operand} {T X e sz bytes : Nat} {z : Value} {hT : ElemOf P T e sz bytes z} {dx : TypeDesc} {hX : P.underlying X = some dx} {hdx : isSeq dx = true} {ty : TypeId} {pos : String} {after : Array Edge} {hok : okE sz e = true} : (opAppendV (P := P) dst s x T X e sz bytes z hT dx hX hdx ty pos after hok).NatM := fun ev st k => aappV_nat _ _ _ _ _ _
end
end Go.V
namespace Go.V
section
variable {P : Program}
def Gh.all (size : Nat) : Gh := ⟨fun b => if b < size then .part (fun _ => True) else .solid, [], [], fun _ => 0⟩
theorem all_prot (size b off : Nat) : (Gh.all size).prot b off := by
 unfold Gh.prot
 simp only [Gh.all]
 split
 ·rename_i h; split at h <;> first | trivial | cases h
 ·rename_i S h; split at h
  ·cases h; trivial
  ·cases h
 ·rename_i h; split at h <;> cases h
 ·rename_i h; split at h <;> cases h
 ·rename_i h; split at h <;> cases h
theorem hardAll {g : Gh} {st : St} {w : World} (hs : StRel g st w) : HardOk g (Gh.all w.heap.size) st.objs w := by
 refine ⟨fun b off u _ _ => all_prot _ _ _, fun j b cs hg ho => ⟨fun off => all_prot _ _ _, (hs.obj j b _ hg ho).2⟩, fun j v b cs hj ho e1 e2 => ?_⟩
 obtain ⟨q1, b', q2, q3, C, E, q4, q5, q6⟩ := (hs.obj j _ _ (List.getElem?_eq_getElem hj) ho).2
 obtain rfl := (hs.vec b j (e2 q1.symm) (e1 q1.symm)).2 b' q2 q3
 refine ⟨_, q5, q6, fun off => all_prot _ _ _, fun i v hv => ?_⟩
 rw [cell_of q4]
 rw [List.getElem?_take] at hv
 split at hv
 ·simpa using hv
 ·cases hv
def WkS (st : St) (x y : AV) : Prop := ∀ g w u, StRel g st w → Rel g w x u → Rel (Gh.all w.heap.size) w y u
def WksS (st : St) (xs ys : List AV) : Prop := ∀ g w us, StRel g st w → RelAll g w xs us → RelAll (Gh.all w.heap.size) w ys us
theorem WksS.nil {st : St} : WksS st [] [] := fun _ _ _ _ h => h
theorem WksS.cons {st : St} {x y : AV} {xs ys : List AV} (h : WkS st x y) (k : WksS st xs ys) : WksS st (x :: xs) (y :: ys) :=
 fun g w vs hs ⟨v, vr, e, h1, h2⟩ => ⟨v, vr, e, h _ _ _ hs h1, k _ _ _ hs h2⟩
theorem WkS.agg {st : St} {xs ys : List AV} (h : WksS st xs ys) : WkS st (.agg xs) (.agg ys) := fun g w v hs ⟨vs, h1, h2, h3⟩ => ⟨vs, h1, h _ _ _ hs h2, h3⟩
theorem WkS.hard {st : St} {x : AV} (h : Scoped 0 0 (V.hard st.objs x)) : WkS st x (V.hard st.objs x) := fun g w u hs hr => hard_rel (hardAll hs) x u h hr
theorem WkS.wk {st : St} {x y z : AV} (h : WkS st x y) (k : Wk y z) : WkS st x z := fun g w u hs hr => k _ _ _ (h g w u hs hr)
theorem WkS.of {st : St} {x y : AV} (h : Wk x y) (s : Scoped 0 0 y) : WkS st x y := fun g w u hs hr => Rel.toProt (fun b off _ _ _ => all_prot _ _ _) y u s (h _ _ _ hr)
theorem WkS.vs {st : St} {j v sz n : Nat} {cs : List AV} {l : List (List AV)} (h : st.objs[j]? = some (.vec v cs)) (hl : rowsOf sz n cs = some l) (s : ScopedR 0 0 l) : WkS st (.vs j v sz n) (.ns false sz l) := by
 have e : V.hard st.objs (.vs j v sz n) = .sl sz false l := by simp only [V.hard, h, Nat.beq_refl, hl]
 have := WkS.hard (st := st) (x := .vs j v sz n) (by rw [e]; exact s)
 rw [e] at this
 exact this.wk Wk.sl
theorem WkS.ms {st : St} {j sz o n cap : Nat} {cs : List AV} {l : List (List AV)} (h : st.objs[j]? = some (.cells cs)) (hl : rowsOf sz n (cs.drop o) = some l) (s : ScopedR 0 0 l) : WkS st (.ms j sz o n cap) (.ns false sz l) := by
 have e : V.hard st.objs (.ms j sz o n cap) = .sl sz (Nat.beq n cap) l := by simp only [V.hard, h, hl]
 have := WkS.hard (st := st) (x := .ms j sz o n cap) (by rw [e]; exact s)
 rw [e] at this
 exact this.wk Wk.sl
end
end Go.V
namespace Go.V
theorem catC_nil (rows : List (List AV)) : catC [] 0 rows = rows.flatten := by rw [catC, opq_eq]; rfl
section
variable {P : Program}
def POrc.q (O : POrc P) : OrcQ P where
 id := O.id
 fn := O.fn
 hf := O.hf
 hname := O.hname
 hb := O.hb
 F args st k := O.F args k
 sound k args st fin h := by
  obtain ⟨r, h1, h2⟩ := O.sound _ _ _ h
  exact ⟨r, h1, h2 st⟩
def Fun.by' (f : Fun P) (sem : List AV → St → (Fin → St → Ans) → Ans)
  (hs : ∀ args st k fin, sem args st k = some fin → ∃ r st', k r st' = some fin ∧ CallsTo P f.id args st (r, st')) : OrcS P where
 id := f.id
 fn := f.fn
 hf := f.hf
 hname := f.hname
 hb := by rw [f.hbody]; rfl
 sem := sem
 sound k args st fin h := hs args st k fin h
end
end Go.V
namespace Go.V
section
variable {P : Program}
theorem frozen_obj {g : Gh} {st : St} {w w' : World} (hs : StRel g st w) {j b : Nat} (hg : g.objs[j]? = some b) {cs : List AV} (hcs : st.objs[j]? = some (.cells cs)) {C : Array Value} {E : TypeId} {fz : Nat × Nat} (hC0 : w.heap[b]? = some (.cells C E (0, 0)))
  (h1 : w'.os = w.os) (h2 : w'.tape = w.tape) (h3 : w'.output = w.output) (h4 : w'.heap.size = w.heap.size) (h5 : ∀ x, x ≠ b → w'.heap[x]? = w.heap[x]?) (h6 : w'.heap[b]? = some (.cells C E fz)) :
  ∃ g', StRel g' ⟨st.objs.set j .gone, st.tk⟩ w' ∧ Ev g w g' w' ∧ ∀ sz o n cap l, n ≤ cap → rowsOf sz n (cs.drop o) = some l → Rel g' w' (.sl sz (Nat.beq n cap) l) (.slice (some ⟨b, o, none⟩) n cap) := by
 obtain ⟨hkind, C', E', hC', hr, hrc⟩ := ob_of hs hg hcs
 rw [hC0] at hC'
 cases hC'
 let g' : Gh := ⟨fun x => if x = b then .solid else g.kind x, g.objs, g.tk, g.ver⟩
 have hk : ∀ x, x ≠ b → g'.kind x = g.kind x := fun x hx => by simp only [g']; rw [if_neg hx]
 have hne : ∀ x, g.kind x ≠ .obj j → x ≠ b := fun x hx e => hx (by rw [e]; exact hkind)
 have hE : Ev g w g' w' := by
  refine ⟨h1, h2, h3, Nat.le_of_eq h4.symm, fun x hx hf => ?_, fun x t hx hf => ?_, fun x k hx hf => ?_, fun _ _ h => h, tk_refl _, fun _ _ => Nat.le_refl _, fun x k hx _ hf _ => ?_, fun x C1 E1 f1 hC1 => ?_⟩
  ·have := hne x (by intro e; rw [e] at hf; cases hf)
   exact ⟨hk x this, h5 x this⟩
  ·have := hne x (by intro e; rw [e] at hf; cases hf)
   exact ⟨(hk x this).trans hf, fun C1 E1 f1 hC1 => ⟨C1, (h5 x this).trans hC1, rfl, fun _ _ => rfl⟩⟩
  ·by_cases hxb : x = b
   ·exact .inr (by simp only [g']; rw [if_pos hxb])
   ·exact .inl ((hk x hxb).trans hf)
  ·have := hne x (by intro e; rw [e] at hf; cases hf)
   exact ⟨(hk x this).trans hf, fun C1 E1 f1 hC1 => ⟨C1, (h5 x this).trans hC1, rfl⟩⟩
  ·by_cases hxb : x = b
   ·subst hxb
    rw [hC0] at hC1
    cases hC1
    exact ⟨_, _, h6, rfl⟩
   ·exact ⟨C1, f1, (h5 x hxb).trans hC1, rfl⟩
 have hback : ∀ x y, g'.kind x = y → y ≠ .solid → x ≠ b ∧ g.kind x = y := by
  intro x y hx hy
  by_cases hxb : x = b
  ·simp only [g'] at hx; rw [if_pos hxb] at hx; exact absurd hx.symm hy
  ·exact ⟨hxb, (hk x hxb).symm.trans hx⟩
 refine ⟨g', ⟨hs.tk, by simp [hs.len]; exact hs.len, fun k b' o hk' ho => ?_, fun x k hx hf => ?_, fun x t hx hf => ?_, fun x k hx hf => ?_, hs.glob.mono hE⟩, hE, fun sz o n cap l hle hl => ?_⟩
 ·by_cases hkj : k = j
  ·subst hkj
   rw [List.getElem?_set_self (getElem?_lt hcs)] at ho
   cases ho
   exact ⟨by rw [h4]; exact (hs.obj k b' _ hk' hcs).1, trivial⟩
  ·rw [List.getElem?_set_ne (fun e => hkj e.symm)] at ho
   obtain ⟨p1, p2⟩ := hs.obj k b' o hk' ho
   refine ⟨by rw [h4]; exact p1, ?_⟩
   have hv : ∀ b'', b'' < w.heap.size → g.kind b'' = .vec k → w'.heap[b'']? = w.heap[b'']? ∧ g'.kind b'' = .vec k := fun b'' _ hh => by
    have := hne b'' (by rw [hh]; intro e; cases e)
    exact ⟨h5 b'' this, (hk b'' this).trans hh⟩
   cases o with
   | gone => trivial
   | nov v => exact p2
   | cells cs' =>
    have := hne b' (by rw [p2.1]; intro e; cases e; exact hkj rfl)
    exact p2.keep hE (h5 b' this) (hk b' this) hv rfl
   | map es =>
    have := hne b' (by rw [p2.1]; intro e; cases e; exact hkj rfl)
    exact p2.keep hE (h5 b' this) (hk b' this) hv rfl
   | lp _ _ _ _ =>
    have := hne b' (by rw [p2.1]; intro e; cases e; exact hkj rfl)
    exact p2.keep hE (h5 b' this) (hk b' this) hv rfl
   | vec v cs' =>
    obtain ⟨e1, b'', e2, e3, C1, E1, e4, e5, e6⟩ := p2
    obtain ⟨f1, f2⟩ := hv b'' e2 e3
    exact ⟨e1, b'', by rw [h4]; exact e2, f2, C1, E1, f1.trans e4, RelAll.mono hE _ _ e5, e6⟩
 ·obtain ⟨k1, k2⟩ := hback x _ hf (by intro e; cases e)
  obtain ⟨o, k3, k4, k5⟩ := hs.back x k (by rw [h4] at hx; exact hx) k2
  have hkj : k ≠ j := by intro e; subst e; rw [hg] at k4; cases k4; exact k1 rfl
  exact ⟨o, by rw [List.getElem?_set_ne (fun e => hkj e.symm)]; exact k3, k4, k5⟩
 ·obtain ⟨k1, k2⟩ := hback x _ hf (by intro e; cases e)
  exact hs.rowlt x t (by rw [h4] at hx; exact hx) k2
 ·obtain ⟨k1, k2⟩ := hback x _ hf (by intro e; cases e)
  obtain ⟨⟨v, cs', k3⟩, k4⟩ := hs.vec x k (by rw [h4] at hx; exact hx) k2
  have hkj : k ≠ j := by intro e; subst e; rw [hcs] at k3; cases k3
  refine ⟨⟨v, cs', by rw [List.getElem?_set_ne (fun e => hkj e.symm)]; exact k3⟩, fun x' hx' hf' => ?_⟩
  obtain ⟨k5, k6⟩ := hback x' _ hf' (by intro e; cases e)
  exact k4 x' (by rw [h4] at hx'; exact hx') k6
 ·obtain ⟨e1, e2, e3⟩ := rowsOf_list sz n _ l hl
  refine ⟨b, o, none, cap, by rw [e1], by rw [e1]; exact hle, fun e => by rw [e1]; exact (Nat.eq_of_beq_eq_true e).symm, .inl rfl, ?_⟩
  refine RelRows.of sz l (((C.toList.take cs.length).drop o).take (n * sz)) b o e2 (by rw [e3]; exact RelAll.mono hE _ _ (RelAll.take _ _ _ (RelAll.drop o _ _ hr))) fun i u hi => ?_
  rw [List.getElem?_take] at hi
  split at hi
  ·rw [List.getElem?_drop] at hi
   refine ⟨?_, ?_, hrc u (List.mem_of_getElem? hi)⟩
   ·rw [cell_of h6]
    rw [List.getElem?_take] at hi
    split at hi
    ·simpa using hi
    ·cases hi
   ·simp [Gh.prot, g']
  ·cases hi
def abuildO (sz len : Nat) (parts : List (Nat × Nat × AV)) (st : St) (k : AV → St → Ans) : Ans :=
 aparts parts (List.replicate (len * sz) .dead) fun cs => k (.ms st.objs.length sz 0 len len) ⟨st.objs ++ [.cells cs], st.tk⟩
def opBuildSliceO (dst : Option Tmp) (T : TypeId) (len : Nat) (parts : List (Nat × Operand)) (e sz bytes : Nat) (z : Value) (hT : ElemOf P T e sz bytes z) (h1 : z.cells.toList.all Value.oneCell' = true) (hl : len * sz ≤ 16777216) (ty : TypeId) (pos : String) (after : Array Edge) : MSim P :=
 MSim.makes (mkOp dst (.buildSlice T len parts.toArray) ty pos after) rfl (parts.map (·.2)) (fun ev st k => abuildO sz len (parts.map fun p => (p.1 * sz, sz, frz (ev p.2))) st k)
  (fun ev ev' st k h => by rw [parts_evZ h]) fun ev st k fin h g w a he hs => by
  have hbig : ¬ (len * sz > 2 ^ 24) := by omega
  generalize hZ : (if len * sz = 0 then #[] else (Array.range (len * sz)).map (fun j => z.cells[j % z.cells.size]!)) = Z
  have hZ1 : ∀ u ∈ Z.toList, u.oneCell' = true := by
   subst hZ
   split
   ·simp
   ·exact zeroArr_cells h1 hT.cells len
  have hZs : Z.size = len * sz := by
   subst hZ
   split
   ·rename_i h; simp [h]
   ·simp
  have hr0 : RelAll g w (List.replicate (len * sz) .dead) Z.toList := by
   have := deads_rel (g := g) (w := w) Z.toList
   rw [Array.length_toList, hZs] at this; exact this
  have hfill : ∃ ds us, k (.ms st.objs.length sz 0 len len) ⟨st.objs ++ [.cells ds], st.tk⟩ = some fin ∧ Instr.fill (fun i => some (i * sz, sz)) Z (parts.map fun p => (p.1, a.eval p.2)) = some us ∧ RelAll g w ds us.toList ∧ ∀ u ∈ us.toList, u.oneCell' = true := by
   have := aparts_run (ev := fun x => frz (ev x)) (xs := parts.map (·.2)) (fun x hx => frz_rel (he x hx)) (fun i => some (i * sz, sz)) (parts.map fun p => (p.1, p.1 * sz, sz, p.2)) (fun p hp => by
    simp only [List.mem_map] at hp
    obtain ⟨q, hq, rfl⟩ := hp
    exact List.mem_map.mpr ⟨q, hq, rfl⟩) (fun p hp => by
    simp only [List.mem_map] at hp
    obtain ⟨q, hq, rfl⟩ := hp
    rfl) _ Z hr0 hZ1 (by rw [List.map_map]; exact h)
   obtain ⟨ds, us, a1, a2, a3, a4⟩ := this
   exact ⟨ds, us, a1, by rw [List.map_map] at a2; exact a2, a3, a4⟩
  obtain ⟨ds, us, f1, f2, f3, f4⟩ := hfill
  have hp := Push.alloc w (.cells us e)
  have hrel := hs.pushObj hp (.cells ds) trivial (fun hE => ⟨by simp [Gh.use], us, e, hp.new, by rw [List.take_of_length_le (by rw [RelAll.length _ _ f3]; exact Nat.le_refl _)]; exact RelAll.mono hE _ _ f3, fun u hu => f4 u (List.mem_of_mem_take hu)⟩)
  refine ⟨_, .slice (some ⟨w.heap.size, 0, none⟩) len len, _, _, w.alloc (.cells us e), f1, ?_, ⟨w.heap.size, ?_, rfl, Nat.le_refl _⟩, hrel, Ev.push hp _ _ _ (tk_refl _)⟩
  ·simp only [execOp, mkOp, Instr.buildSlice, Sem.run_bind, run_underlying hT.ty, Result.andThen_ok, run_sizeOf' hT.size, if_neg hbig]
   by_cases h0 : len * sz = 0
   ·rw [if_pos h0] at hZ
    simp only [if_pos h0, Sem.run_bind, Sem.run_pure, Result.andThen_ok, List.map_toArray]
    rw [show Array.range (len * sz) = #[] by rw [h0]; rfl, Array.map_empty, hZ]
    rw [show (Instr.fill (fun i => some (i * sz, sz)) Z (List.map (fun x => (x.fst, a.eval x.snd)) parts)) = some us from f2]
    rfl
   ·rw [if_neg h0] at hZ
    simp only [if_neg h0, Sem.run_bind, Sem.run_pure, run_zeroValue' hT.zero, Result.andThen_ok, List.map_toArray]
    rw [hZ]
    rw [show (Instr.fill (fun i => some (i * sz, sz)) Z (List.map (fun x => (x.fst, a.eval x.snd)) parts)) = some us from f2]
    rfl
  ·show (g.objs ++ [w.heap.size])[st.objs.length]? = some w.heap.size
   rw [List.getElem?_append_right (by rw [hs.len]; exact Nat.le_refl _)]; simp [hs.len]
def aconvSl (x : AV) (st : St) (k : AV → St → Ans) : Ans :=
 match x with
 | .ms j s o n cap => match Nat.beq s 1 with
  | true => match st.objs[j]? with
   | some (.cells cs) => match rowsOf 1 n (cs.drop o) with
    | some l => k (.sl 1 (Nat.beq n cap) l) ⟨st.objs.set j .gone, st.tk⟩
    | none => none
   | _ => none
  | false => none
 | _ => none
def opConvSl (dst : Option Tmp) (T : TypeId) (x : Operand) (e : TypeId) (hT : P.underlying T = some (.slice e)) (he : P.underlying e = some (.int .u8)) (ty : TypeId) (pos : String) (after : Array Edge) : MSim P :=
 MSim.makes (mkOp dst (.convert T T x) ty pos after) rfl [x] (fun ev st k => aconvSl (ev x) st k) (fun ev ev' st k h => by simp only [h x (by simp)]) fun ev st k fin h g w a hev hs => by
  have hv := hev x (by simp)
  unfold aconvSl at h
  split at h
  ·rename_i j s o n cap hb
   rw [hb] at hv
   split at h
   ·rename_i hsz
    obtain rfl := Nat.eq_of_beq_eq_true hsz
    obtain ⟨b, hg, hv, hle⟩ := hv
    split at h
    ·rename_i cs hcs
     split at h
     ·rename_i l hl
      obtain ⟨hkind, C, E, hC, hr, hrc⟩ := ob_of hs hg hcs
      have hsh : w.shape? b = some (E, C.size) := by unfold World.shape?; rw [hC]
      have hlt := lt_of_block hC
      obtain ⟨g', k1, k2, k3⟩ := frozen_obj (w' := w.freeze ⟨b, C.size, none⟩ 1) (fz := (C.size, C.size + 1)) hs hg hcs hC (by unfold World.freeze; rw [if_neg (by decide)]) (by unfold World.freeze; rw [if_neg (by decide)]) (by unfold World.freeze; rw [if_neg (by decide)])
       (by unfold World.freeze; rw [if_neg (by decide)]; simp) (fun y hy => by
        unfold World.freeze; rw [if_neg (by decide)]
        simp only [Array.getElem?_modify]
        rw [if_neg (by omega)]) (by
        unfold World.freeze; rw [if_neg (by decide)]
        simp only [Array.getElem?_modify, if_true, hC]
        rfl)
      refine ⟨_, _, _, g', _, h, ?_, k3 1 o n cap l hle hl, k1, k2⟩
      simp [execOp, mkOp, hv, convert, run_underlying hT, run_underlying he, markStringish, hsh]
     ·cases h
    ·cases h
   ·cases h
  ·cases h
end
end Go.V
