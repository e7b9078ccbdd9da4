/- More operations that leave the world as it is. -/
import Derived.Test.YtjdpfblmhahfkaaV2
import Derived.Laws.Slices
set_option linter.unusedVariables false
set_option linter.unusedSimpArgs false
namespace Go.V
section
variable {P : Program}

/-! ### Lists of cells -/
def takeN : Nat → List AV → Option (List AV)
  | 0, _ => some []
  | _ + 1, [] => none
  | n + 1, a :: l => match takeN n l with
    | some r => some (a :: r)
    | none => none

theorem takeN_eq : ∀ (n : Nat) (l r : List AV), takeN n l = some r → r = l.take n ∧ n ≤ l.length
  | 0, l, r, h => by simp [takeN] at h; simp [h]
  | n + 1, [], r, h => by simp [takeN] at h
  | n + 1, a :: l, r, h => by
    simp only [takeN] at h
    split at h
    · rename_i r' hr
      obtain ⟨h1, h2⟩ := takeN_eq n l r' hr
      simp only [Option.some.injEq] at h
      subst h; subst h1
      exact ⟨rfl, by simpa using h2⟩
    · cases h

theorem takeN_of : ∀ (n : Nat) (l : List AV), n ≤ l.length → takeN n l = some (l.take n)
  | 0, l, _ => rfl
  | n + 1, [], h => by simp at h
  | n + 1, a :: l, h => by
    simp only [takeN, takeN_of n l (by simpa using h), List.take_succ_cons]

theorem RelAll.length {g : Gh} {w : World} : ∀ (cs : List AV) (vs : List Value), RelAll g w cs vs → cs.length = vs.length
  | [], vs, h => by obtain rfl : vs = [] := h; rfl
  | c :: cs, vs, ⟨v, vr, e, _, h⟩ => by subst e; simp [RelAll.length cs vr h]

theorem RelAll.drop {g : Gh} {w : World} : ∀ (n : Nat) (cs : List AV) (vs : List Value), RelAll g w cs vs → RelAll g w (cs.drop n) (vs.drop n)
  | 0, cs, vs, h => h
  | n + 1, [], vs, h => by obtain rfl : vs = [] := h; exact rfl
  | n + 1, c :: cs, vs, ⟨v, vr, e, _, h⟩ => by subst e; exact RelAll.drop n cs vr h

theorem RelAll.take {g : Gh} {w : World} : ∀ (n : Nat) (cs : List AV) (vs : List Value), RelAll g w cs vs → RelAll g w (cs.take n) (vs.take n)
  | 0, cs, vs, h => rfl
  | n + 1, [], vs, h => by obtain rfl : vs = [] := h; exact rfl
  | n + 1, c :: cs, vs, ⟨v, vr, e, hv, h⟩ => by subst e; exact ⟨v, vr.take n, rfl, hv, RelAll.take n cs vr h⟩

theorem RelAll.get {g : Gh} {w : World} : ∀ (cs : List AV) (vs : List Value) (i : Nat) (c : AV), RelAll g w cs vs → cs[i]? = some c → ∃ v, vs[i]? = some v ∧ Rel g w c v
  | [], vs, i, c, h, hc => by simp at hc
  | x :: cs, vs, 0, c, ⟨v, vr, e, hv, h⟩, hc => by subst e; simp at hc; subst hc; exact ⟨v, rfl, hv⟩
  | x :: cs, vs, i + 1, c, ⟨v, vr, e, hv, h⟩, hc => by subst e; simpa using RelAll.get cs vr i c h (by simpa using hc)

theorem RelAll.append {g : Gh} {w : World} : ∀ (cs ds : List AV) (vs us : List Value), RelAll g w cs vs → RelAll g w ds us → RelAll g w (cs ++ ds) (vs ++ us)
  | [], ds, vs, us, h, k => by obtain rfl : vs = [] := h; exact k
  | c :: cs, ds, vs, us, ⟨v, vr, e, hv, h⟩, k => by subst e; exact ⟨v, vr ++ us, rfl, hv, RelAll.append cs ds vr us h k⟩

theorem RelCells.drop {g : Gh} {w : World} : ∀ (n : Nat) (cs : List AV) (b off : Nat), RelCells g w cs b off → RelCells g w (cs.drop n) b (off + n)
  | 0, cs, b, off, h => h
  | n + 1, [], b, off, h => trivial
  | n + 1, c :: cs, b, off, ⟨_, h⟩ => by
    have := RelCells.drop n cs b (off + 1) h
    rwa [show off + 1 + n = off + (n + 1) by omega] at this

theorem RelCells.values {g : Gh} {w : World} : ∀ (cs : List AV) (b off : Nat), RelCells g w cs b off → ∃ vs : List Value, RelAll g w cs vs ∧ ∀ j v, vs[j]? = some v → w.cell? ⟨b, off + j, none⟩ = some v ∧ g.prot b (off + j) ∧ v.oneCell' = true
  | [], b, off, _ => ⟨[], rfl, fun j v h => by simp at h⟩
  | c :: cs, b, off, ⟨⟨u, h1, h2, h5, h3⟩, h⟩ => by
    obtain ⟨vs, k1, k2⟩ := RelCells.values cs b (off + 1) h
    refine ⟨u :: vs, ⟨u, vs, rfl, h3, k1⟩, fun j v hj => ?_⟩
    cases j with
    | zero => simp at hj; subst hj; exact ⟨h1, h2, h5⟩
    | succ j =>
      have := k2 j v (by simpa using hj)
      rwa [show off + 1 + j = off + (j + 1) by omega] at this

theorem RelCells.of {g : Gh} {w : World} : ∀ (cs : List AV) (vs : List Value) (b off : Nat), RelAll g w cs vs → (∀ j v, vs[j]? = some v → w.cell? ⟨b, off + j, none⟩ = some v ∧ g.prot b (off + j) ∧ v.oneCell' = true) → RelCells g w cs b off
  | [], vs, b, off, _, _ => trivial
  | c :: cs, vs, b, off, ⟨v, vr, e, hv, h⟩, k => by
    subst e
    refine ⟨⟨v, (k 0 v rfl).1, (k 0 v rfl).2.1, (k 0 v rfl).2.2, hv⟩, RelCells.of cs vr b (off + 1) h fun j u hj => ?_⟩
    have := k (j + 1) u (by simpa using hj)
    rwa [show off + (j + 1) = off + 1 + j by omega] at this

theorem RelRows.get {g : Gh} {w : World} (sz : Nat) : ∀ (l : List (List AV)) (b off i : Nat) (c : List AV), RelRows g w sz l b off → l[i]? = some c → c.length = sz ∧ RelCells g w c b (off + i * sz)
  | [], b, off, i, c, _, hc => by simp at hc
  | x :: l, b, off, 0, c, ⟨h1, h2, h3⟩, hc => by simp at hc; subst hc; simpa using ⟨h1, h2⟩
  | x :: l, b, off, i + 1, c, ⟨h1, h2, h3⟩, hc => by
    have := RelRows.get sz l b (off + sz) i c h3 (by simpa using hc)
    rwa [show off + sz + i * sz = off + (i + 1) * sz by rw [Nat.add_mul]; omega] at this

theorem RelRows.drop {g : Gh} {w : World} (sz : Nat) : ∀ (n : Nat) (l : List (List AV)) (b off : Nat), RelRows g w sz l b off → RelRows g w sz (l.drop n) b (off + n * sz)
  | 0, l, b, off, h => by simpa using h
  | n + 1, [], b, off, h => trivial
  | n + 1, x :: l, b, off, ⟨_, _, h⟩ => by
    have := RelRows.drop sz n l b (off + sz) h
    rwa [show off + sz + n * sz = off + (n + 1) * sz by rw [Nat.add_mul]; omega] at this

theorem RelRows.take {g : Gh} {w : World} (sz : Nat) : ∀ (n : Nat) (l : List (List AV)) (b off : Nat), RelRows g w sz l b off → RelRows g w sz (l.take n) b off
  | 0, l, b, off, h => trivial
  | n + 1, [], b, off, h => trivial
  | n + 1, x :: l, b, off, ⟨h1, h2, h⟩ => ⟨h1, h2, RelRows.take sz n l b (off + sz) h⟩

theorem add_none (b off n : Nat) : (⟨b, off, none⟩ : Addr).add n = ⟨b, off + n, none⟩ := by
  unfold Addr.add; split
  · rename_i h; subst h; rfl
  · rfl

/-! ### One operand -/
def anot (x : AV) (k : AV → Ans) : Ans :=
  match x with
  | .bool b => k (.bool !b)
  | _ => none

def opNot (dst : Option Tmp) (T : TypeId) (x : Operand) (ty : TypeId) (pos : String) (after : Array Edge) : PSim P :=
  PSim.quiet (mkOp dst (.unOp .not T x) ty pos after) rfl [x] (fun ev k => anot (ev x) k) (fun ev ev' k h => by simp only [h x (by simp)]) fun ev k fin h g w a st he hs => by
    have hv := he x (by simp)
    unfold anot at h
    split at h
    · rename_i b hb; rw [hb] at hv; have hv : a.eval x = .bool b := hv
      exact ⟨_, _, h, by simp [execOp, mkOp, hv, Op.unary] <;> rfl, rfl⟩
    · cases h

def aneg (x : AV) (k : AV → Ans) : Ans :=
  match x with
  | .int kd n => k (.int kd (kd.wrap (0 - n)))
  | _ => none

def opNeg (dst : Option Tmp) (T : TypeId) (x : Operand) (ty : TypeId) (pos : String) (after : Array Edge) : PSim P :=
  PSim.quiet (mkOp dst (.unOp .neg T x) ty pos after) rfl [x] (fun ev k => aneg (ev x) k) (fun ev ev' k h => by simp only [h x (by simp)]) fun ev k fin h g w a st he hs => by
    have hv := he x (by simp)
    unfold aneg at h
    split at h
    · rename_i kd n hb; rw [hb] at hv; have hv : a.eval x = .int kd n := hv
      exact ⟨_, _, h, by simp only [execOp, mkOp, hv, Op.unary, Op.intArith]; rfl, rfl⟩
    · cases h

def aconv (kd : IntKind) (x : AV) (k : AV → Ans) : Ans :=
  match x with
  | .int _ n => k (.int kd (kd.wrap n))
  | _ => none

def opConvInt (dst : Option Tmp) (S T : TypeId) (x : Operand) (d : TypeDesc) (hS : P.underlying S = some d) (kd : IntKind) (hT : P.underlying T = some (.int kd)) (ty : TypeId) (pos : String) (after : Array Edge) : PSim P :=
  PSim.quiet (mkOp dst (.convert S T x) ty pos after) rfl [x] (fun ev k => aconv kd (ev x) k) (fun ev ev' k h => by simp only [h x (by simp)]) fun ev k fin h g w a st he hs => by
    have hv := he x (by simp)
    unfold aconv at h
    split at h
    · rename_i kx n hb; rw [hb] at hv; have hv : a.eval x = .int kx n := hv
      exact ⟨_, _, h, by simp [execOp, mkOp, hv, convert, run_underlying hS, run_underlying hT, Conv.intToInt], rfl⟩
    · cases h

/-- A text converted to a type of texts. -/
def aconvStr (x : AV) (k : AV → Ans) : Ans :=
  match x with
  | .str s => k (.str s)
  | _ => none

def opConvStr (dst : Option Tmp) (S T : TypeId) (x : Operand) (d : TypeDesc) (hS : P.underlying S = some d) (hT : P.underlying T = some .string) (ty : TypeId) (pos : String) (after : Array Edge) : PSim P :=
  PSim.quiet (mkOp dst (.convert S T x) ty pos after) rfl [x] (fun ev k => aconvStr (ev x) k) (fun ev ev' k h => by simp only [h x (by simp)]) fun ev k fin h g w a st he hs => by
    have hv := he x (by simp)
    unfold aconvStr at h
    split at h
    · rename_i s hb; rw [hb] at hv; have hv : a.eval x = .string s := hv
      exact ⟨_, _, h, by simp [execOp, mkOp, hv, convert, run_underlying hS, run_underlying hT], rfl⟩
    · cases h

def aextract (i : Nat) (x : AV) (k : AV → Ans) : Ans :=
  match x with
  | .tup vs => match vs[i]? with
    | some v => k v
    | none => none
  | _ => none

def opExtract (dst : Option Tmp) (x : Operand) (i : Nat) (ty : TypeId) (pos : String) (after : Array Edge) : PSim P :=
  PSim.quiet (mkOp dst (.extract x i) ty pos after) rfl [x] (fun ev k => aextract i (ev x) k) (fun ev ev' k h => by simp only [h x (by simp)]) fun ev k fin h g w a st he hs => by
    have hv := he x (by simp)
    unfold aextract at h
    split at h
    · rename_i vs hb
      rw [hb] at hv
      obtain ⟨us, hv, hr⟩ := hv
      split at h
      · rename_i c hc
        obtain ⟨v, h1, h2⟩ := RelAll.get vs us.toList i c hr hc
        have h1 : us[i]? = some v := by simpa using h1
        exact ⟨_, _, h, by simp [execOp, mkOp, hv, Instr.extract, h1], h2⟩
      · cases h
    · cases h

/-- How long something is. -/
def alen (d : TypeDesc) (x : AV) (k : AV → Ans) : Ans :=
  match d with
  | .string => match x with
    | .str s => k (.int .i64 s.size)
    | _ => none
  | .slice _ => match x with
    | .nilsl => k (.int .i64 0)
    | .sl _ _ l => k (.int .i64 l.length)
    | .lg _ _ l => k (.int .i64 l.length)
    | .ms _ _ _ n _ => k (.int .i64 n)
    | _ => none
  | .array n _ => k (.int .i64 n)
  | _ => none

/-- How many a map has. -/
def alenMap (x : AV) (st : St) (k : AV → Ans) : Ans :=
  match x with
  | .nilmap => k (.int .i64 0)
  | .mp j => match st.objs[j]? with
    | some (.map es) => k (.int .i64 es.length)
    | _ => none
  | _ => none

theorem callBuiltin (ρ : Operand → Value) (dst : Option Tmp) (b : Builtin) (args : Array Operand) (tys : Array TypeId) (ty : TypeId) (pos : String) (after : Array Edge) :
    execOp ρ (mkOp dst (.call { callee := .builtin b, args := args, argTypes := tys }) ty pos after) = builtin b tys ty (args.map fun | .const _ => true | _ => false) (args.map ρ) := rfl

theorem ob_of {g : Gh} {st : St} {w : World} (hs : StRel g st w) {k b : Nat} {o : Ob} (h1 : g.objs[k]? = some b) (h2 : st.objs[k]? = some o) : ObRel g w k b o := (hs.obj k b o h1 h2).2

def opLen (dst : Option Tmp) (x : Operand) (T : TypeId) (d : TypeDesc) (hd : P.underlying T = some d) (ty : TypeId) (pos : String) (after : Array Edge) : PSim P :=
  PSim.quiet (mkOp dst (.call { callee := .builtin .len, args := #[x], argTypes := #[T] }) ty pos after) rfl [x] (fun ev k => alen d (ev x) k) (fun ev ev' k h => by simp only [h x (by simp)]) fun ev k fin h g w a st he hs => by
    have hv := he x (by simp)
    rw [callBuiltin]
    have hu := fun w => run_underlying hd w
    unfold alen at h
    split at h
    · split at h
      · rename_i s hb; rw [hb] at hv; have hv : a.eval x = .string s := hv
        exact ⟨_, _, h, by simp [builtin, Builtin.len_, hv, hu, goInt], rfl⟩
      · cases h
    · split at h <;> (try (cases h; done)) <;> rename_i hb <;> rw [hb] at hv
      · have hv : a.eval x = .slice none 0 0 := hv
        exact ⟨_, _, h, by simp [builtin, Builtin.len_, hv, hu, goInt], rfl⟩
      · obtain ⟨_, _, _, _, hv, _⟩ := hv
        exact ⟨_, _, h, by simp [builtin, Builtin.len_, hv, hu, goInt], rfl⟩
      · obtain ⟨_, _, _, _, _, hv, _⟩ := hv
        exact ⟨_, _, h, by simp [builtin, Builtin.len_, hv, hu, goInt], rfl⟩
      · obtain ⟨_, _, hv, _⟩ := hv
        exact ⟨_, _, h, by simp [builtin, Builtin.len_, hv, hu, goInt], rfl⟩
    · exact ⟨_, _, h, by simp [builtin, Builtin.len_, hu, goInt], rfl⟩
    · cases h

def opLenMap (dst : Option Tmp) (x : Operand) (T : TypeId) (K E : TypeId) (hd : P.underlying T = some (.map K E)) (ty : TypeId) (pos : String) (after : Array Edge) : QSim P :=
  QSim.quiet (mkOp dst (.call { callee := .builtin .len, args := #[x], argTypes := #[T] }) ty pos after) rfl [x] (fun ev st k => alenMap (ev x) st k) (fun ev ev' st k h => by simp only [h x (by simp)]) fun ev st k fin h g w a he hs => by
    have hv := he x (by simp)
    rw [callBuiltin]
    have hu := fun w => run_underlying hd w
    unfold alenMap at h
    split at h
    · rename_i hb; rw [hb] at hv; have hv : a.eval x = .map none := hv
      exact ⟨_, _, h, by simp [builtin, Builtin.len_, hv, hu, goInt], rfl⟩
    · rename_i j hb
      rw [hb] at hv
      obtain ⟨b, hg, hv⟩ := hv
      split at h
      · rename_i es hes
        obtain ⟨_, M, clock, hM, hk, _⟩ := ob_of hs hg hes
        have hlen : es.length = M.size := by have := RelAll.length _ _ hk; simpa using this
        exact ⟨_, _, h, by simp [builtin, Builtin.len_, hv, hu, goInt, getObj, Sem.run, hM, hlen], rfl⟩
      · cases h
    · cases h

/-- Not nil. -/
def anil (x : AV) (k : AV → Ans) : Ans :=
  match x with
  | .ptr a b => k (.ptr a b)
  | .eptr cs => k (.eptr cs)
  | .fn (.func f) a c => k (.fn (.func f) a c)
  | .ifc t v => k (.ifc t v)
  | _ => none

def opNilCheck (dst : Option Tmp) (x : Operand) (ty : TypeId) (pos : String) (after : Array Edge) : PSim P :=
  PSim.quiet (mkOp dst (.nilCheck x) ty pos after) rfl [x] (fun ev k => anil (ev x) k) (fun ev ev' k h => by simp only [h x (by simp)]) fun ev k fin h g w a st he hs => by
    have hv := he x (by simp)
    unfold anil at h
    split at h <;> (try (cases h; done)) <;> rename_i hb <;> rw [hb] at hv
    · obtain ⟨b, h1, hv⟩ := hv
      exact ⟨_, _, h, by simp [execOp, mkOp, hv] <;> rfl, b, h1, rfl⟩
    · obtain ⟨b, off, hv, h1⟩ := hv
      exact ⟨_, _, h, by simp [execOp, mkOp, hv] <;> rfl, b, off, rfl, h1⟩
    · obtain ⟨va, vc, hv, h1, h2⟩ := hv
      exact ⟨_, _, h, by simp [execOp, mkOp, hv] <;> rfl, va, vc, rfl, h1, h2⟩
    · obtain ⟨u, hv, h1⟩ := hv
      exact ⟨_, _, h, by simp [execOp, mkOp, hv] <;> rfl, u, rfl, h1⟩

theorem EvR.list {g : Gh} {w : World} {ev : Operand → AV} {a : Act} {xs : List Operand} (h : EvR g w ev a xs) : ∀ (ys : List Operand), (∀ y ∈ ys, y ∈ xs) → RelAll g w (ys.map ev) (ys.map a.eval)
  | [], _ => rfl
  | y :: ys, hy => ⟨_, _, rfl, h y (hy y (by simp)), h.list ys fun z hz => hy z (by simp [hz])⟩

theorem map_ev {ev ev' : Operand → AV} {xs : List Operand} (h : ∀ x ∈ xs, ev x = ev' x) {ys : List Operand} (hy : ∀ y ∈ ys, y ∈ xs) : ys.map ev = ys.map ev' :=
  List.map_congr_left fun y h' => h y (hy y h')

theorem EnvRel.evals {g : Gh} {w : World} {e : Env} {a : Act} (h : EnvRel g w e a) (xs : List Operand) : RelAll g w (xs.map e.eval) (xs.map a.eval) :=
  (h.ev xs).list xs fun _ h => h

def opMakeFunc (dst : Option Tmp) (f : Fn) (first captured : Array Operand) (ty : TypeId) (pos : String) (after : Array Edge) : PSim P :=
  PSim.quiet (mkOp dst (.makeFunc f first captured) ty pos after) rfl (first.toList ++ captured.toList) (fun ev k => k (.fn f (first.toList.map ev) (captured.toList.map ev)))
    (fun ev ev' k h => by rw [map_ev h (ys := first.toList) (fun y hy => by simp at hy ⊢; exact .inl hy), map_ev h (ys := captured.toList) (fun y hy => by simp at hy ⊢; exact .inr hy)]) fun ev k fin h g w a st he hs =>
    ⟨_, _, h, rfl, _, _, rfl, by simpa using he.list first.toList (fun y hy => by simp at hy ⊢; exact .inl hy), by simpa using he.list captured.toList (fun y hy => by simp at hy ⊢; exact .inr hy)⟩

def isIface (d : TypeDesc) : Bool :=
  match d with
  | .interface _ => true
  | _ => false

def opMakeIface (dst : Option Tmp) (T : TypeId) (x : Operand) (d : TypeDesc) (hd : P.underlying T = some d) (hi : isIface d = false) (ty : TypeId) (pos : String) (after : Array Edge) : PSim P :=
  PSim.quiet (mkOp dst (.makeInterface T x) ty pos after) rfl [x] (fun ev k => k (.ifc T (ev x))) (fun ev ev' k h => by simp only [h x (by simp)]) fun ev k fin h g w a st he hs => by
    refine ⟨_, _, h, ?_, _, rfl, he x (by simp)⟩
    simp only [execOp, mkOp, Instr.makeInterface]
    cases d <;> first
      | (simp [isIface] at hi; done)
      | (simp [run_underlying hd] <;> rfl)

end
end Go.V
