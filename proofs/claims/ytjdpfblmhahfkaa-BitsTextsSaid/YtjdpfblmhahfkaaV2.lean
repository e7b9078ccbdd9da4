/- Operations that leave the world as it is: moves, arithmetic, tests, fields, elements, loads out of what never changes or out of objects. -/
import Derived.Test.YtjdpfblmhahfkaaV1
set_option linter.unusedVariables false
set_option linter.unusedSimpArgs false
namespace Go.V
section
variable {P : Program}

def Env.putO (e : Env) (d : Option Tmp) (v : AV) : Env :=
  match d with
  | some d => e.put d v
  | none => e

theorem EnvRel.putO {g : Gh} {w : World} {e : Env} {a : Act} (h : EnvRel g w e a) (d : Option Tmp) {x : AV} {v : Value} (hv : Rel g w x v) :
    EnvRel g w (e.putO d x) (a.put d v) := by
  cases d with
  | none => exact h
  | some d => exact h.put d hv

theorem put_defers (a : Act) (d : Option Tmp) (v : Value) : (a.put d v).defers = a.defers := by unfold Act.put; split <;> rfl

/-- Operands are as they are told. -/
def EvR (g : Gh) (w : World) (ev : Operand → AV) (a : Act) (xs : List Operand) : Prop := ∀ x ∈ xs, Rel g w (ev x) (a.eval x)

theorem EnvRel.ev {g : Gh} {w : World} {e : Env} {a : Act} (h : EnvRel g w e a) (xs : List Operand) : EvR g w e.eval a xs := fun x _ => h.eval x

/-- What goes on behind an operation that tells a value. -/
def Told (P : Program) (oper : Oper) (a : Act) (g : Gh) (w : World) (r : AV) (st' : St) : Prop :=
  ∀ next Q, (∀ v g' w', Rel g' w' r v → StRel g' st' w' → Ev g w g' w' → next (a.put oper.dst v) w') → oper.wp P a w next Q

/-- An operation whose value hangs on its operands alone. -/
structure PSim (P : Program) where
  oper : Oper
  plain : oper.guard = none
  xs : List Operand
  f : (Operand → AV) → (AV → Ans) → Ans
  congr : ∀ ev ev' k, (∀ x ∈ xs, ev x = ev' x) → f ev k = f ev' k
  sound : ∀ ev k fin, f ev k = some fin → ∀ g w a st, EvR g w ev a xs → StRel g st w → ∃ r, k r = some fin ∧ Told P oper a g w r st

/-- An operation that reads objects. -/
structure QSim (P : Program) where
  oper : Oper
  plain : oper.guard = none
  xs : List Operand
  f : (Operand → AV) → St → (AV → Ans) → Ans
  congr : ∀ ev ev' st k, (∀ x ∈ xs, ev x = ev' x) → f ev st k = f ev' st k
  sound : ∀ ev st k fin, f ev st k = some fin → ∀ g w a, EvR g w ev a xs → StRel g st w → ∃ r, k r = some fin ∧ Told P oper a g w r st

/-- An operation that may change objects. -/
structure MSim (P : Program) where
  oper : Oper
  plain : oper.guard = none
  xs : List Operand
  f : (Operand → AV) → St → (AV → St → Ans) → Ans
  congr : ∀ ev ev' st k, (∀ x ∈ xs, ev x = ev' x) → f ev st k = f ev' st k
  sound : ∀ ev st k fin, f ev st k = some fin → ∀ g w a, EvR g w ev a xs → StRel g st w → ∃ r st', k r st' = some fin ∧ Told P oper a g w r st'

theorem told_value {oper : Oper} {a : Act} {g g' : Gh} {w w' : World} {r : AV} {v : Value} {st' : St} (h : (execOp a.eval oper).run P w = .ok (.value v) w') (hr : Rel g' w' r v) (hs : StRel g' st' w') (he : Ev g w g' w') : Told P oper a g w r st' := by
  intro next Q hn
  show oper.upon P a next Q ((execOp a.eval oper).run P w)
  rw [h, Oper.upon_value]
  exact hn v g' w' hr hs he

theorem told_skip {oper : Oper} {a : Act} {g g' : Gh} {w w' : World} {st' : St} (h : (execOp a.eval oper).run P w = .ok .skip w') (hs : StRel g' st' w') (he : Ev g w g' w') : Told P oper a g w .dead st' := by
  intro next Q hn
  show oper.upon P a next Q ((execOp a.eval oper).run P w)
  rw [h, Oper.upon_skip]
  exact hn undef g' w' trivial hs he

/-- An answer, and what goes on with it. -/
def retA (r : AV) : Ans := some (.ret r, default)
def thenA (a : Ans) (k : AV → Ans) : Ans :=
  match a with
  | some (.ret r, _) => k r
  | _ => none
/-- What goes on does not sway the value. -/
def PSim.Nat (x : PSim P) : Prop := ∀ ev k, x.f ev k = thenA (x.f ev retA) k
def QSim.Nat (x : QSim P) : Prop := ∀ ev st k, x.f ev st k = thenA (x.f ev st retA) k

def PSim.quiet (oper : Oper) (hg : oper.guard = none) (xs : List Operand) (f : (Operand → AV) → (AV → Ans) → Ans) (hc : ∀ ev ev' k, (∀ x ∈ xs, ev x = ev' x) → f ev k = f ev' k)
    (hf : ∀ ev k fin, f ev k = some fin → ∀ g w a st, EvR g w ev a xs → StRel g st w → ∃ r v, k r = some fin ∧ (execOp a.eval oper).run P w = .ok (.value v) w ∧ Rel g w r v) : PSim P where
  oper := oper
  plain := hg
  xs := xs
  f := f
  congr := hc
  sound ev k fin h g w a st he hs := by
    obtain ⟨r, v, h1, h2, h3⟩ := hf ev k fin h g w a st he hs
    exact ⟨r, h1, told_value h2 h3 hs (Ev.refl g w)⟩

def QSim.quiet (oper : Oper) (hg : oper.guard = none) (xs : List Operand) (f : (Operand → AV) → St → (AV → Ans) → Ans) (hc : ∀ ev ev' st k, (∀ x ∈ xs, ev x = ev' x) → f ev st k = f ev' st k)
    (hf : ∀ ev st k fin, f ev st k = some fin → ∀ g w a, EvR g w ev a xs → StRel g st w → ∃ r v, k r = some fin ∧ (execOp a.eval oper).run P w = .ok (.value v) w ∧ Rel g w r v) : QSim P where
  oper := oper
  plain := hg
  xs := xs
  f := f
  congr := hc
  sound ev st k fin h g w a he hs := by
    obtain ⟨r, v, h1, h2, h3⟩ := hf ev st k fin h g w a he hs
    exact ⟨r, h1, told_value h2 h3 hs (Ev.refl g w)⟩

/-- An operation that makes memory, and whose value hangs on its operands alone. -/
def PSim.makes (oper : Oper) (hg : oper.guard = none) (xs : List Operand) (f : (Operand → AV) → (AV → Ans) → Ans) (hc : ∀ ev ev' k, (∀ x ∈ xs, ev x = ev' x) → f ev k = f ev' k)
    (hf : ∀ ev k fin, f ev k = some fin → ∀ g w a st, EvR g w ev a xs → StRel g st w → ∃ r v g' w', k r = some fin ∧ (execOp a.eval oper).run P w = .ok (.value v) w' ∧ Rel g' w' r v ∧ StRel g' st w' ∧ Ev g w g' w') : PSim P where
  oper := oper
  plain := hg
  xs := xs
  f := f
  congr := hc
  sound ev k fin h g w a st he hs := by
    obtain ⟨r, v, g', w', h1, h2, h3, h4, h5⟩ := hf ev k fin h g w a st he hs
    exact ⟨r, h1, told_value h2 h3 h4 h5⟩

def MSim.makes (oper : Oper) (hg : oper.guard = none) (xs : List Operand) (f : (Operand → AV) → St → (AV → St → Ans) → Ans) (hc : ∀ ev ev' st k, (∀ x ∈ xs, ev x = ev' x) → f ev st k = f ev' st k)
    (hf : ∀ ev st k fin, f ev st k = some fin → ∀ g w a, EvR g w ev a xs → StRel g st w → ∃ r v st' g' w', k r st' = some fin ∧ (execOp a.eval oper).run P w = .ok (.value v) w' ∧ Rel g' w' r v ∧ StRel g' st' w' ∧ Ev g w g' w') : MSim P where
  oper := oper
  plain := hg
  xs := xs
  f := f
  congr := hc
  sound ev st k fin h g w a he hs := by
    obtain ⟨r, v, st', g', w', h1, h2, h3, h4, h5⟩ := hf ev st k fin h g w a he hs
    exact ⟨r, st', h1, told_value h2 h3 h4 h5⟩

def MSim.does (oper : Oper) (hg : oper.guard = none) (xs : List Operand) (f : (Operand → AV) → St → (AV → St → Ans) → Ans) (hc : ∀ ev ev' st k, (∀ x ∈ xs, ev x = ev' x) → f ev st k = f ev' st k)
    (hf : ∀ ev st k fin, f ev st k = some fin → ∀ g w a, EvR g w ev a xs → StRel g st w → ∃ st' g' w', k .dead st' = some fin ∧ (execOp a.eval oper).run P w = .ok .skip w' ∧ StRel g' st' w' ∧ Ev g w g' w') : MSim P where
  oper := oper
  plain := hg
  xs := xs
  f := f
  congr := hc
  sound ev st k fin h g w a he hs := by
    obtain ⟨st', g', w', h1, h2, h4, h5⟩ := hf ev st k fin h g w a he hs
    exact ⟨.dead, st', h1, told_skip h2 h4 h5⟩

def PSim.q (p : PSim P) : QSim P where
  oper := p.oper
  plain := p.plain
  xs := p.xs
  f ev st k := p.f ev k
  congr ev ev' st k h := p.congr ev ev' k h
  sound ev st k fin h g w a he hs := p.sound ev k fin h g w a st he hs

def QSim.m (p : QSim P) : MSim P where
  oper := p.oper
  plain := p.plain
  xs := p.xs
  f ev st k := p.f ev st fun r => k r st
  congr ev ev' st k h := p.congr ev ev' st _ h
  sound ev st k fin h g w a he hs := by
    obtain ⟨r, h1, h2⟩ := p.sound ev st _ fin h g w a he hs
    exact ⟨r, st, h1, h2⟩

/-- What goes on behind an operation. -/
def Cont.op (K : Cont) (env : Env) (dst : Option Tmp) : AV → St → Ans := fun r st' => K .normal (env.putO dst r) st'

def MSim.op (p : MSim P) : OpSim P where
  oper := p.oper
  plain := p.plain
  run K env st := p.f env.eval st (Cont.op K env p.oper.dst)
  sound K env st fin h g w a he hs next Q hp := by
    obtain ⟨r, st', h1, h2⟩ := p.sound _ st _ fin h g w a (he.ev _) hs
    exact h2 next Q fun v g' w' k1 k2 k3 => hp .normal _ st' g' w' _ .normal h1 ((he.mono k3).putO _ k1) k2 k3 (put_defers ..) rfl

def PSim.op (p : PSim P) : OpSim P where
  oper := p.oper
  plain := p.plain
  run K env st := p.f env.eval fun r => Cont.op K env p.oper.dst r st
  sound := p.q.m.op.sound

def QSim.op (p : QSim P) : OpSim P where
  oper := p.oper
  plain := p.plain
  run K env st := p.f env.eval st fun r => Cont.op K env p.oper.dst r st
  sound := p.m.op.sound

theorem run_sizeOf' {t : TypeId} {n : Nat} (h : (P.info? t).map (·.size) = some n) (w : World) : (sizeOf t).run P w = .ok n w := by
  cases hi : P.info? t with
  | none => rw [hi] at h; cases h
  | some i =>
    rw [hi] at h
    simp only [Option.map_some, Option.some.injEq] at h
    simp [sizeOf, typeInfo, hi, h]

theorem run_zeroValue' {t : TypeId} {z : Value} (h : (P.info? t).bind (·.zero) = some z) (w : World) : (zeroValue t).run P w = .ok z w := by
  cases hi : P.info? t with
  | none => rw [hi] at h; cases h
  | some i =>
    rw [hi] at h
    simp only [Option.bind_some] at h
    simp [zeroValue, typeInfo, hi, h]

def mkOp (dst : Option Tmp) (op : Op) (ty : TypeId) (pos : String) (after : Array Edge) : Oper := { dst, op, type := ty, pos, after, guard := none }

def opMove (dst : Option Tmp) (x : Operand) (ty : TypeId) (pos : String) (after : Array Edge) : PSim P :=
  PSim.quiet (mkOp dst (.move x) ty pos after) rfl [x] (fun ev k => k (ev x)) (fun ev ev' k h => by simp only [h x (by simp)]) fun ev k fin h g w a st he hs => ⟨_, _, h, rfl, he x (by simp)⟩

def opAssign (dst : Option Tmp) (x : Operand) (ty : TypeId) (pos : String) (after : Array Edge) : PSim P :=
  PSim.quiet (mkOp dst (.assign x) ty pos after) rfl [x] (fun ev k => k (ev x)) (fun ev ev' k h => by simp only [h x (by simp)]) fun ev k fin h g w a st he hs => ⟨_, _, h, rfl, he x (by simp)⟩

def opPick (dst : Option Tmp) (c x y : Operand) (ty : TypeId) (pos : String) (after : Array Edge) : PSim P :=
  PSim.quiet (mkOp dst (.pick c x y) ty pos after) rfl [c, x, y] (fun ev k => branch (ev c) (k (ev x)) (k (ev y))) (fun ev ev' k h => by simp only [h c (by simp), h x (by simp), h y (by simp)]) fun ev k fin h g w a st he hs => by
    have hv := he c (by simp)
    unfold branch at h
    split at h
    · rename_i hc; rw [hc] at hv; have hv : a.eval c = .bool true := hv
      exact ⟨_, _, h, by simp [execOp, mkOp, hv, asBool], he x (by simp)⟩
    · rename_i hc; rw [hc] at hv; have hv : a.eval c = .bool false := hv
      exact ⟨_, _, h, by simp [execOp, mkOp, hv, asBool], he y (by simp)⟩
    · cases h

/-- Bits of whole numbers. -/
def bitsI (op : BinOp) (k : IntKind) (x y : Int) : Int :=
  match op with
  | .and => k.wrap (BitVec.ofInt k.bits x &&& BitVec.ofInt k.bits y).toNat
  | .or => k.wrap (BitVec.ofInt k.bits x ||| BitVec.ofInt k.bits y).toNat
  | .xor => k.wrap (BitVec.ofInt k.bits x ^^^ BitVec.ofInt k.bits y).toNat
  | .andNot => k.wrap (BitVec.ofInt k.bits x &&& ~~~ BitVec.ofInt k.bits y).toNat
  | _ => 0

def onInt (x : AV) (s : IntKind → Int → Ans) : Ans :=
  match x with
  | .int k n => s k n
  | _ => none
def onStr (x : AV) (s : ByteArray → Ans) : Ans :=
  match x with
  | .str b => s b
  | _ => none
def onBool (x : AV) (s : Bool → Ans) : Ans :=
  match x with
  | .bool b => s b
  | _ => none

theorem onInt_some {x : AV} {s : IntKind → Int → Ans} {fin : Fin × St} (h : onInt x s = some fin) : ∃ k n, x = .int k n ∧ s k n = some fin := by
  unfold onInt at h
  split at h
  · exact ⟨_, _, rfl, h⟩
  · cases h
theorem onStr_some {x : AV} {s : ByteArray → Ans} {fin : Fin × St} (h : onStr x s = some fin) : ∃ b, x = .str b ∧ s b = some fin := by
  unfold onStr at h
  split at h
  · exact ⟨_, rfl, h⟩
  · cases h

/-- Arithmetic and comparisons of whole numbers. -/
def aint (op : BinOp) (kx : IntKind) (a : Int) (ky : IntKind) (b : Int) (k : AV → Ans) : Ans :=
  match op with
  | .shl => if 0 ≤ b then k (.int kx (kx.wrap (a * 2 ^ min b.toNat kx.bits))) else none
  | .shr => if 0 ≤ b then k (.int kx (a.fdiv (2 ^ min b.toNat kx.bits))) else none
  | .add => if kx = ky then k (.int kx (kx.wrap (a + b))) else none
  | .sub => if kx = ky then k (.int kx (kx.wrap (a - b))) else none
  | .mul => if kx = ky then k (.int kx (kx.wrap (a * b))) else none
  | .quo => if kx = ky then (if b = 0 then none else k (.int kx (kx.wrap (a.tdiv b)))) else none
  | .rem => if kx = ky then (if b = 0 then none else k (.int kx (a.tmod b))) else none
  | .and => if kx = ky then k (.int kx (bitsI .and kx a b)) else none
  | .or => if kx = ky then k (.int kx (bitsI .or kx a b)) else none
  | .xor => if kx = ky then k (.int kx (bitsI .xor kx a b)) else none
  | .andNot => if kx = ky then k (.int kx (bitsI .andNot kx a b)) else none
  | .eql => if kx = ky then k (.bool (a == b)) else none
  | .neq => if kx = ky then k (.bool (a != b)) else none
  | .lss => if kx = ky then k (.bool (a < b)) else none
  | .leq => if kx = ky then k (.bool (a ≤ b)) else none
  | .gtr => if kx = ky then k (.bool (a > b)) else none
  | .geq => if kx = ky then k (.bool (a ≥ b)) else none
/-- Comparisons of texts; one behind the other. -/
def atext (op : BinOp) (a b : ByteArray) (k : AV → Ans) : Ans :=
  match op with
  | .add => if ((a.size + b.size : Nat) : Int) > IntKind.i64.max then none else k (.str (a ++ b))
  | .eql => k (.bool (a.toList == b.toList))
  | .neq => k (.bool (!(a.toList == b.toList)))
  | .lss => k (.bool (Op.bytesLess a.toList b.toList))
  | .leq => k (.bool (Op.bytesLess a.toList b.toList || a.toList == b.toList))
  | .gtr => k (.bool (!(Op.bytesLess a.toList b.toList || a.toList == b.toList)))
  | .geq => k (.bool (!Op.bytesLess a.toList b.toList))
  | _ => none
def abinI (op : BinOp) (x y : AV) (k : AV → Ans) : Ans := onInt x fun kx a => onInt y fun ky b => aint op kx a ky b k
def abinS (op : BinOp) (x y : AV) (k : AV → Ans) : Ans := onStr x fun a => onStr y fun b => atext op a b k

theorem abinI_run (op : BinOp) (T : TypeId) (x y : Operand) {X Y : AV} {a b : Value} {k : AV → Ans} {fin : Fin × St} (h : abinI op X Y k = some fin) {g : Gh} {w : World} (hx : Rel g w X a) (hy : Rel g w Y b) :
    ∃ r v, k r = some fin ∧ (do eqGuard op T x y a b; binOp op T a b : Sem Value).run P w = .ok v w ∧ Rel g w r v := by
  obtain ⟨kx, a1, rfl, h0⟩ := onInt_some h
  obtain ⟨ky, b1, rfl, h2⟩ := onInt_some h0
  clear h h0
  have h := h2
  clear h2
  obtain rfl : a = .int kx a1 := hx
  obtain rfl : b = .int ky b1 := hy
  unfold aint at h
  cases op <;> simp only at h <;> (repeat (split at h)) <;> first
    | (cases h; done)
    | (rename_i hk; subst hk; exact ⟨_, _, h, by simp [eqGuard, binOp, Op.intArith, Op.intBits, Op.intCmp, bitsI] <;> rfl, rfl⟩)
    | (rename_i hk hb; subst hk; exact ⟨_, _, h, by simp [eqGuard, binOp, Op.intDiv, hb] <;> rfl, rfl⟩)
    | (rename_i hb; exact ⟨_, _, h, by simp [eqGuard, binOp, Op.shift, show ¬ b1 < 0 by omega] <;> rfl, rfl⟩)

theorem abinS_run (op : BinOp) (T : TypeId) (x y : Operand) {X Y : AV} {a b : Value} {k : AV → Ans} {fin : Fin × St} (h : abinS op X Y k = some fin) {g : Gh} {w : World} (hx : Rel g w X a) (hy : Rel g w Y b) :
    ∃ r v, k r = some fin ∧ (do eqGuard op T x y a b; binOp op T a b : Sem Value).run P w = .ok v w ∧ Rel g w r v := by
  obtain ⟨a1, rfl, h0⟩ := onStr_some h
  obtain ⟨b1, rfl, h2⟩ := onStr_some h0
  clear h h0
  have h := h2
  clear h2
  obtain rfl : a = .string a1 := hx
  obtain rfl : b = .string b1 := hy
  unfold atext at h
  cases op <;> simp only at h <;> (try (split at h)) <;> first
    | (cases h; done)
    | (rename_i hk; exact ⟨_, _, h, by simp only [eqGuard, binOp, Op.stringOp]; rw [if_neg hk]; simp, rfl⟩)
    | (exact ⟨_, _, h, by simp [eqGuard, binOp, Op.stringOp] <;> rfl, rfl⟩)

def opBin (dst : Option Tmp) (op : BinOp) (T : TypeId) (x y : Operand) (T' : TypeId) (ty : TypeId) (pos : String) (after : Array Edge) : PSim P :=
  PSim.quiet (mkOp dst (.binOp op T x y T') ty pos after) rfl [x, y] (fun ev k => abinI op (ev x) (ev y) k) (fun ev ev' k h => by simp only [h x (by simp), h y (by simp)]) fun ev k fin h g w a st he hs => by
    obtain ⟨r, v, h1, h2, h3⟩ := abinI_run (P := P) op T x y h (he x (by simp)) (he y (by simp))
    exact ⟨r, v, h1, by simp only [execOp, mkOp]; rw [Sem.run_bind, h2]; rfl, h3⟩
def opBinS (dst : Option Tmp) (op : BinOp) (T : TypeId) (x y : Operand) (T' : TypeId) (ty : TypeId) (pos : String) (after : Array Edge) : PSim P :=
  PSim.quiet (mkOp dst (.binOp op T x y T') ty pos after) rfl [x, y] (fun ev k => abinS op (ev x) (ev y) k) (fun ev ev' k h => by simp only [h x (by simp), h y (by simp)]) fun ev k fin h g w a st he hs => by
    obtain ⟨r, v, h1, h2, h3⟩ := abinS_run (P := P) op T x y h (he x (by simp)) (he y (by simp))
    exact ⟨r, v, h1, by simp only [execOp, mkOp]; rw [Sem.run_bind, h2]; rfl, h3⟩

/-- Is one of them a constant? -/
def anyConst (x y : Operand) : Bool :=
  match x, y with
  | .const _, _ => true
  | _, .const _ => true
  | _, _ => false

/-- Is it nil, of a type that has nil? -/
def nilIn (d : TypeDesc) (x : AV) : Option Bool :=
  match d with
  | .slice _ => match x with
    | .nilsl => some true
    | .sl .. => some false
    | .lg .. => some false
    | .ms .. => some false
    | _ => none
  | .pointer _ => match x with
    | .nilptr => some true
    | .ptr .. => some false
    | .eptr .. => some false
    | _ => none
  | .map _ _ => match x with
    | .nilmap => some true
    | .mp .. => some false
    | _ => none
  | .func _ _ _ => match x with
    | .nilfn => some true
    | .fn .. => some false
    | _ => none
  | .interface _ => match x with
    | .nilif => some true
    | .ifc .. => some false
    | _ => none
  | _ => none

def nilV (d : TypeDesc) (b : Bool) (v : Value) : Prop :=
  match d, b with
  | .slice _, true => v = .slice none 0 0
  | .slice _, false => ∃ p n c, v = .slice (some p) n c
  | .pointer _, true => v = .pointer none
  | .pointer _, false => ∃ p, v = .pointer (some p)
  | .map _ _, true => v = .map none
  | .map _ _, false => ∃ p, v = .map (some p)
  | .func _ _ _, true => v = .nilFunc
  | .func _ _ _, false => ∃ p q r, v = .func p q r
  | .interface _, true => v = .nilIface
  | .interface _, false => ∃ p q, v = .iface p q
  | _, _ => False

theorem nilIn_shape {d : TypeDesc} {x : AV} {b : Bool} (h : nilIn d x = some b) {g : Gh} {w : World} {v : Value} (hv : Rel g w x v) : nilV d b v := by
  unfold nilIn at h
  split at h <;> (try (cases h; done)) <;> split at h <;> (try (cases h; done)) <;> simp only [Option.some.injEq] at h <;> subst h <;> simp only [Rel] at hv <;> simp only [nilV]
  all_goals first
    | exact hv
    | (obtain ⟨_, _, _, rfl, _⟩ := hv; exact ⟨_, _, _, rfl⟩)
    | (obtain ⟨_, _, _, _, rfl, _⟩ := hv; exact ⟨_, _, _, rfl⟩)
    | (obtain ⟨_, _, _, _, _, rfl, _⟩ := hv; exact ⟨_, _, _, rfl⟩)
    | (obtain ⟨_, _, rfl, _⟩ := hv; exact ⟨_, _, _, rfl⟩)
    | (obtain ⟨_, _, rfl⟩ := hv; exact ⟨_, rfl⟩)
    | (obtain ⟨_, _, rfl, _⟩ := hv; exact ⟨_, rfl⟩)
    | (obtain ⟨_, rfl, _⟩ := hv; exact ⟨_, _, rfl⟩)

/-- Equality of bools, and with nil. -/
def aeq (d : TypeDesc) (x y : AV) (k : Bool → Ans) : Ans :=
  match d with
  | .bool => match x, y with
    | .bool a, .bool b => k (a == b)
    | _, _ => none
  | d => match nilIn d x with
    | some true => match nilIn d y with
      | some b => k b
      | none => none
    | some false => match nilIn d y with
      | some true => k false
      | _ => none
    | none => none

theorem run_equal_nil (T : TypeId) {d : TypeDesc} (hd : P.underlying T = some d) {a b : Value} {p q : Bool} (ha : nilV d p a) (hb : nilV d q b) (h : p = true ∨ q = true) (w : World) :
    (Op.equal T a b).run P w = .ok (p && q) w := by
  have hun : ∀ w, (underlying T).run P w = .ok d w := fun w => run_underlying hd w
  show (Op.equalIn (9999 + 1) T a b).run P w = _
  rw [Op.equalIn]
  cases d <;> cases p <;> cases q <;> simp only [nilV] at ha hb <;> (try (exact ha.elim)) <;> (try (simp at h; done))
  all_goals (try obtain ⟨_, _, _, rfl⟩ := ha)
  all_goals (try obtain ⟨_, _, rfl⟩ := ha)
  all_goals (try obtain ⟨_, rfl⟩ := ha)
  all_goals (try obtain rfl := ha)
  all_goals (try obtain ⟨_, _, _, rfl⟩ := hb)
  all_goals (try obtain ⟨_, _, rfl⟩ := hb)
  all_goals (try obtain ⟨_, rfl⟩ := hb)
  all_goals (try obtain rfl := hb)
  all_goals simp [hun]

theorem run_eqGuard_nil (op : BinOp) (T : TypeId) {d : TypeDesc} {a b : Value} {p q : Bool} (ha : nilV d p a) (hb : nilV d q b) {x y : Operand} (hc : anyConst x y = true) (w : World) :
    (eqGuard op T x y a b).run P w = .ok () w := by
  have hcc : ((match x with | .const _ => true | _ => false) || (match y with | .const _ => true | _ => false)) = true := by
    unfold anyConst at hc; cases x <;> cases y <;> simp_all
  unfold eqGuard
  cases d <;> cases p <;> cases q <;> simp only [nilV] at ha hb <;> (try (exact ha.elim))
  all_goals (try obtain ⟨_, _, _, rfl⟩ := ha)
  all_goals (try obtain ⟨_, _, rfl⟩ := ha)
  all_goals (try obtain ⟨_, rfl⟩ := ha)
  all_goals (try obtain rfl := ha)
  all_goals (try obtain ⟨_, _, _, rfl⟩ := hb)
  all_goals (try obtain ⟨_, _, rfl⟩ := hb)
  all_goals (try obtain ⟨_, rfl⟩ := hb)
  all_goals (try obtain rfl := hb)
  all_goals (split <;> (try simp))
  all_goals (cases x <;> cases y <;> simp_all [anyConst])

theorem binOp_eql_of (T : TypeId) {a b : Value} (h : ∀ k n m k', ¬ (a = .int k n ∧ b = .int k' m)) : True := trivial

theorem aeq_run (T : TypeId) {d : TypeDesc} (hd : P.underlying T = some d) {x y : Operand} (hc : anyConst x y = true ∨ d = .bool) {X Y : AV} {a b : Value} {k : Bool → Ans} {fin : Fin × St} (h : aeq d X Y k = some fin) {g : Gh} {w : World} (hx : Rel g w X a) (hy : Rel g w Y b) :
    ∃ r, k r = some fin ∧ (eqGuard .eql T x y a b).run P w = .ok () w ∧ (eqGuard .neq T x y a b).run P w = .ok () w ∧ (binOp .eql T a b).run P w = .ok (.bool r) w ∧ (binOp .neq T a b).run P w = .ok (.bool !r) w := by
  unfold aeq at h
  split at h
  · split at h
    · rename_i a1 b1
      obtain rfl : a = .bool a1 := hx
      obtain rfl : b = .bool b1 := hy
      have : (Op.equal T (.bool a1) (.bool b1)).run P w = .ok (a1 == b1) w := by
        show (Op.equalIn (9999 + 1) T _ _).run P w = _
        rw [Op.equalIn]
        simp [run_underlying hd w]
      refine ⟨_, h, by simp [eqGuard], by simp [eqGuard], by simp [binOp, this], by simp [binOp, this]⟩
    · cases h
  · rename_i hnb
    have hc : anyConst x y = true := hc.resolve_right hnb
    have key : ∀ p q, nilIn d X = some p → nilIn d Y = some q → (p = true ∨ q = true) → k (p && q) = some fin → ∃ r, k r = some fin ∧ (eqGuard .eql T x y a b).run P w = .ok () w ∧ (eqGuard .neq T x y a b).run P w = .ok () w ∧ (binOp .eql T a b).run P w = .ok (.bool r) w ∧ (binOp .neq T a b).run P w = .ok (.bool !r) w := by
      intro p q hp hq hpq hk
      have ha := nilIn_shape hp hx
      have hb := nilIn_shape hq hy
      have he := run_equal_nil (P := P) T hd ha hb hpq w
      have h1 : binOp .eql T a b = (do pure (.bool (← Op.equal T a b)) : Sem Value) := by
        cases d <;> cases p <;> cases q <;> simp only [nilV] at ha hb <;> (try (exact ha.elim))
        all_goals (try obtain ⟨_, _, _, rfl⟩ := ha)
        all_goals (try obtain ⟨_, _, rfl⟩ := ha)
        all_goals (try obtain ⟨_, rfl⟩ := ha)
        all_goals (try obtain rfl := ha)
        all_goals (try obtain ⟨_, _, _, rfl⟩ := hb)
        all_goals (try obtain ⟨_, _, rfl⟩ := hb)
        all_goals (try obtain ⟨_, rfl⟩ := hb)
        all_goals (try obtain rfl := hb)
        all_goals rfl
      have h2 : binOp .neq T a b = (do pure (.bool (!(← Op.equal T a b))) : Sem Value) := by
        cases d <;> cases p <;> cases q <;> simp only [nilV] at ha hb <;> (try (exact ha.elim))
        all_goals (try obtain ⟨_, _, _, rfl⟩ := ha)
        all_goals (try obtain ⟨_, _, rfl⟩ := ha)
        all_goals (try obtain ⟨_, rfl⟩ := ha)
        all_goals (try obtain rfl := ha)
        all_goals (try obtain ⟨_, _, _, rfl⟩ := hb)
        all_goals (try obtain ⟨_, _, rfl⟩ := hb)
        all_goals (try obtain ⟨_, rfl⟩ := hb)
        all_goals (try obtain rfl := hb)
        all_goals rfl
      exact ⟨_, hk, run_eqGuard_nil .eql T ha hb hc w, run_eqGuard_nil .neq T ha hb hc w, by rw [h1]; simp [he], by rw [h2]; simp [he]⟩
    split at h
    · rename_i hX
      split at h
      · rename_i q hY
        exact key true q hX hY (.inl rfl) (by simpa using h)
      · cases h
    · rename_i hX
      split at h
      · rename_i hY
        exact key false true hX hY (.inr rfl) (by simpa using h)
      · cases h
    · cases h

def opEq (dst : Option Tmp) (T : TypeId) (d : TypeDesc) (hd : P.underlying T = some d) (x y : Operand) (hc : anyConst x y = true ∨ d = .bool) (T' : TypeId) (ty : TypeId) (pos : String) (after : Array Edge) : PSim P :=
  PSim.quiet (mkOp dst (.binOp .eql T x y T') ty pos after) rfl [x, y] (fun ev k => aeq d (ev x) (ev y) fun b => k (.bool b)) (fun ev ev' k h => by simp only [h x (by simp), h y (by simp)]) fun ev k fin h g w a st he hs => by
    obtain ⟨r, h1, h2, h3, h4, h5⟩ := aeq_run (P := P) T hd hc h (he x (by simp)) (he y (by simp))
    exact ⟨_, _, h1, by simp only [execOp, mkOp]; rw [Sem.run_bind, Sem.run_bind, h2]; simp only [Result.andThen_ok, h4]; rfl, rfl⟩

def opNe (dst : Option Tmp) (T : TypeId) (d : TypeDesc) (hd : P.underlying T = some d) (x y : Operand) (hc : anyConst x y = true ∨ d = .bool) (T' : TypeId) (ty : TypeId) (pos : String) (after : Array Edge) : PSim P :=
  PSim.quiet (mkOp dst (.binOp .neq T x y T') ty pos after) rfl [x, y] (fun ev k => aeq d (ev x) (ev y) fun b => k (.bool !b)) (fun ev ev' k h => by simp only [h x (by simp), h y (by simp)]) fun ev k fin h g w a st he hs => by
    obtain ⟨r, h1, h2, h3, h4, h5⟩ := aeq_run (P := P) T hd hc h (he x (by simp)) (he y (by simp))
    exact ⟨_, _, h1, by simp only [execOp, mkOp]; rw [Sem.run_bind, Sem.run_bind, h3]; simp only [Result.andThen_ok, h5]; rfl, rfl⟩

end
end Go.V
