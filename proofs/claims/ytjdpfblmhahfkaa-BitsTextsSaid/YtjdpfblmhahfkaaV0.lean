/- The base of an abstract semantics of the program: abstract values, what a world's value and an abstract value have to do with each other, and how worlds go on. -/
import Derived.Below
import Derived.Deep.LoopGhost
import Derived.Deep.Draws
import Derived.WalkKit
set_option linter.unusedVariables false
set_option linter.unusedSimpArgs false
namespace Go.V

/-- An abstract value. -/
inductive AV where
  | bool (b : Bool)
  | int (k : IntKind) (n : Int)
  | str (s : ByteArray)
  | nilptr
  | nilsl
  | nilmap
  | nilfn
  | nilif
  /-- a pointer into an object -/
  | ptr (k off : Nat)
  /-- a pointer to cells that never change -/
  | eptr (cs : List AV)
  /-- a slice whose elements never change (each element: its cells); full: its capacity is its length -/
  | sl (sz : Nat) (full : Bool) (l : List (List AV))
  /-- a slice at the begin of a row that may grow (by its token) -/
  | lg (t sz : Nat) (l : List (List AV))
  /-- a slice over an object -/
  | ms (k sz off n cap : Nat)
  /-- a map -/
  | mp (k : Nat)
  | fn (f : Fn) (first captured : List AV)
  | ifc (t : TypeId) (v : AV)
  | agg (cs : List AV)
  | tup (vs : List AV)
  | dead
  deriving Inhabited

/-- What a block is for. -/
inductive BK where
  | solid
  | obj (k : Nat)
  | row (t : Nat)

/-- What is known beside the world: each block's use, where the objects lie, how far each token's rows are taken (size of an element, elements). -/
structure Gh where
  kind : Nat → BK
  objs : List Nat
  tk : List (Nat × Nat)

/-- A cell that never changes. -/
def Gh.prot (g : Gh) (b off : Nat) : Prop :=
  match g.kind b with
  | .solid => True
  | .obj _ => False
  | .row t => ∃ sz n, g.tk[t]? = some (sz, n) ∧ off < n * sz

/-- An object. -/
inductive Ob where
  | cells (cs : List AV)
  | map (es : List (AV × AV))
  | gone
  deriving Inhabited

structure St where
  objs : List Ob
  tk : List (Nat × Nat)
  deriving Inhabited

mutual
def Rel (g : Gh) (w : World) : AV → Value → Prop
  | .bool b, v => v = .bool b
  | .int k n, v => v = .int k n
  | .str s, v => v = .string s
  | .nilptr, v => v = .pointer none
  | .nilsl, v => v = .slice none 0 0
  | .nilmap, v => v = .map none
  | .nilfn, v => v = .nilFunc
  | .nilif, v => v = .nilIface
  | .ptr k off, v => ∃ b, g.objs[k]? = some b ∧ v = .pointer (some ⟨b, off, none⟩)
  | .eptr cs, v => ∃ b off, v = .pointer (some ⟨b, off, none⟩) ∧ RelCells g w cs b off
  | .sl sz full l, v => ∃ b off sp cap, v = .slice (some ⟨b, off, sp⟩) l.length cap ∧ l.length ≤ cap ∧ (full = true → cap = l.length) ∧ (sp = none ∨ l = []) ∧ RelRows g w sz l b off
  | .lg t sz l, v => ∃ b cap C E fz, v = .slice (some ⟨b, 0, none⟩) l.length cap ∧ l.length ≤ cap ∧ g.kind b = .row t ∧ w.heap[b]? = some (.cells C E fz) ∧ cap * sz ≤ C.size ∧ (∀ i, i < C.size → ¬ (fz.1 ≤ i ∧ i < fz.2)) ∧ (∃ n, g.tk[t]? = some (sz, n) ∧ l.length ≤ n) ∧ RelRows g w sz l b 0
  | .ms k sz off n cap, v => ∃ b, g.objs[k]? = some b ∧ v = .slice (some ⟨b, off, none⟩) n cap ∧ n ≤ cap
  | .mp k, v => ∃ b, g.objs[k]? = some b ∧ v = .map (some b)
  | .fn f a c, v => ∃ va vc, v = .func f va vc ∧ RelAll g w a va.toList ∧ RelAll g w c vc.toList
  | .ifc t a, v => ∃ u, v = .iface t u ∧ Rel g w a u
  | .agg cs, v => ∃ vs, v = .agg vs ∧ RelAll g w cs vs.toList ∧ ∀ u ∈ vs.toList, u.oneCell' = true
  | .tup cs, v => ∃ vs, v = .tuple vs ∧ RelAll g w cs vs.toList
  | .dead, _ => True
def RelAll (g : Gh) (w : World) : List AV → List Value → Prop
  | [], vs => vs = []
  | a :: r, vs => ∃ v vr, vs = v :: vr ∧ Rel g w a v ∧ RelAll g w r vr
def RelCells (g : Gh) (w : World) : List AV → Nat → Nat → Prop
  | [], _, _ => True
  | a :: r, b, off => (∃ u, w.cell? ⟨b, off, none⟩ = some u ∧ g.prot b off ∧ u.oneCell' = true ∧ Rel g w a u) ∧ RelCells g w r b (off + 1)
def RelRows (g : Gh) (w : World) (sz : Nat) : List (List AV) → Nat → Nat → Prop
  | [], _, _ => True
  | x :: r, b, off => x.length = sz ∧ RelCells g w x b off ∧ RelRows g w sz r b (off + sz)
end

/-- A world goes on. -/
structure Ev (g : Gh) (w : World) (g' : Gh) (w' : World) : Prop where
  os : w'.os = w.os
  tape : w'.tape = w.tape
  output : w'.output = w.output
  size : w.heap.size ≤ w'.heap.size
  solid : ∀ b : Nat, b < w.heap.size → g.kind b = .solid → g'.kind b = .solid ∧ w'.heap[b]? = w.heap[b]?
  row : ∀ b t : Nat, b < w.heap.size → g.kind b = .row t → g'.kind b = .row t ∧ ∀ C E fz, w.heap[b]? = some (.cells C E fz) →
    ∃ C', w'.heap[b]? = some (.cells C' E fz) ∧ C'.size = C.size ∧ ∀ off, g.prot b off → C'[off]? = C[off]?
  obj : ∀ b k : Nat, b < w.heap.size → g.kind b = .obj k → g'.kind b = .obj k ∨ g'.kind b = .solid
  objs : ∀ k b : Nat, g.objs[k]? = some b → g'.objs[k]? = some b
  tk : ∀ t sz n : Nat, g.tk[t]? = some (sz, n) → ∃ n', g'.tk[t]? = some (sz, n') ∧ n ≤ n'

theorem lt_of_block {w : World} {b : Nat} {o : Obj} (h : w.heap[b]? = some o) : b < w.heap.size := by
  rcases Nat.lt_or_ge b w.heap.size with h' | h'
  · exact h'
  · simp [Array.getElem?_eq_none h'] at h

theorem Ev.prot {g g' : Gh} {w w' : World} (h : Ev g w g' w') {b off : Nat} (hb : b < w.heap.size) (hp : g.prot b off) : g'.prot b off := by
  unfold Gh.prot at hp ⊢
  cases hk : g.kind b with
  | solid => rw [(h.solid b hb hk).1]; trivial
  | obj k => rw [hk] at hp; exact hp.elim
  | row t =>
    rw [hk] at hp
    obtain ⟨sz, n, ht, ho⟩ := hp
    rw [(h.row b t hb hk).1]
    obtain ⟨n', ht', hn⟩ := h.tk t sz n ht
    exact ⟨sz, n', ht', Nat.lt_of_lt_of_le ho (Nat.mul_le_mul_right _ hn)⟩

theorem cell_some {w : World} {b off : Nat} {u : Value} (h : w.cell? ⟨b, off, none⟩ = some u) : ∃ C E fz, w.heap[b]? = some (.cells C E fz) ∧ C[off]? = some u := by
  unfold World.cell? at h
  split at h
  · rename_i c e f hb
    exact ⟨c, e, f, hb, by simpa using h⟩
  · simp at h

theorem cell_of {w : World} {b off : Nat} {C : Array Value} {E : TypeId} {fz : Nat × Nat} (h : w.heap[b]? = some (.cells C E fz)) : w.cell? ⟨b, off, none⟩ = C[off]? := by
  simp [World.cell?, h]

theorem Ev.cell {g g' : Gh} {w w' : World} (h : Ev g w g' w') {b off : Nat} {u : Value} (hc : w.cell? ⟨b, off, none⟩ = some u) (hp : g.prot b off) :
    w'.cell? ⟨b, off, none⟩ = some u ∧ g'.prot b off := by
  obtain ⟨C, E, fz, hb, hu⟩ := cell_some hc
  have hlt := lt_of_block hb
  refine ⟨?_, h.prot hlt hp⟩
  cases hk : g.kind b with
  | solid => rw [cell_of ((h.solid b hlt hk).2.trans hb)]; exact hu
  | obj k => unfold Gh.prot at hp; rw [hk] at hp; exact hp.elim
  | row t =>
    obtain ⟨C', hb', _, hs⟩ := (h.row b t hlt hk).2 C E fz hb
    rw [cell_of hb', hs off hp]; exact hu

theorem Ev.refl (g : Gh) (w : World) : Ev g w g w :=
  ⟨rfl, rfl, rfl, Nat.le_refl _, fun _ _ h => ⟨h, rfl⟩, fun _ _ _ h => ⟨h, fun C _ _ hb => ⟨C, hb, rfl, fun _ _ => rfl⟩⟩, fun _ _ _ h => .inl h, fun _ _ h => h, fun _ _ n h => ⟨n, h, Nat.le_refl _⟩⟩

theorem Ev.trans {g g' g'' : Gh} {w w' w'' : World} (h : Ev g w g' w') (k : Ev g' w' g'' w'') : Ev g w g'' w'' where
  os := k.os.trans h.os
  tape := k.tape.trans h.tape
  output := k.output.trans h.output
  size := Nat.le_trans h.size k.size
  solid := fun b hb hk => by
    obtain ⟨h1, h2⟩ := h.solid b hb hk
    obtain ⟨k1, k2⟩ := k.solid b (Nat.lt_of_lt_of_le hb h.size) h1
    exact ⟨k1, k2.trans h2⟩
  row := fun b t hb hk => by
    obtain ⟨h1, h2⟩ := h.row b t hb hk
    obtain ⟨k1, k2⟩ := k.row b t (Nat.lt_of_lt_of_le hb h.size) h1
    refine ⟨k1, fun C E fz hC => ?_⟩
    obtain ⟨C', hC', hs, hp⟩ := h2 C E fz hC
    obtain ⟨C'', hC'', hs', hp'⟩ := k2 C' E fz hC'
    exact ⟨C'', hC'', hs'.trans hs, fun off ho => (hp' off (h.prot hb ho)).trans (hp off ho)⟩
  obj := fun b j hb hk => by
    rcases h.obj b j hb hk with h1 | h1
    · exact k.obj b j (Nat.lt_of_lt_of_le hb h.size) h1
    · exact .inr (k.solid b (Nat.lt_of_lt_of_le hb h.size) h1).1
  objs := fun j b hj => k.objs j b (h.objs j b hj)
  tk := fun t sz n ht => by
    obtain ⟨n', h1, h2⟩ := h.tk t sz n ht
    obtain ⟨n'', k1, k2⟩ := k.tk t sz n' h1
    exact ⟨n'', k1, Nat.le_trans h2 k2⟩

mutual
theorem Rel.mono {g g' : Gh} {w w' : World} (h : Ev g w g' w') : ∀ (a : AV) (v : Value), Rel g w a v → Rel g' w' a v
  | .bool _, _, r => r
  | .int _ _, _, r => r
  | .str _, _, r => r
  | .nilptr, _, r => r
  | .nilsl, _, r => r
  | .nilmap, _, r => r
  | .nilfn, _, r => r
  | .nilif, _, r => r
  | .ptr k off, _, ⟨b, r1, r2⟩ => ⟨b, h.objs k b r1, r2⟩
  | .eptr cs, _, ⟨b, off, r1, r2⟩ => ⟨b, off, r1, RelCells.mono h cs b off r2⟩
  | .sl sz full l, _, ⟨b, off, sp, cap, r1, r2, r3, rs, r4⟩ => ⟨b, off, sp, cap, r1, r2, r3, rs, RelRows.mono h sz l b off r4⟩
  | .lg t sz l, _, ⟨b, cap, C, E, fz, r1, r2, r3, r4, r5, r9, ⟨n, r6, r7⟩, r8⟩ => by
    obtain ⟨k1, k2⟩ := h.row b t (lt_of_block r4) r3
    obtain ⟨C', k3, k4, _⟩ := k2 C E fz r4
    obtain ⟨n', k5, k6⟩ := h.tk t sz n r6
    exact ⟨b, cap, C', E, fz, r1, r2, k1, k3, by omega, by rw [k4]; exact r9, ⟨n', k5, Nat.le_trans r7 k6⟩, RelRows.mono h sz l b 0 r8⟩
  | .ms k sz off n cap, _, ⟨b, r1, r2⟩ => ⟨b, h.objs k b r1, r2⟩
  | .mp k, _, ⟨b, r1, r2⟩ => ⟨b, h.objs k b r1, r2⟩
  | .fn f a c, _, ⟨va, vc, r1, r2, r3⟩ => ⟨va, vc, r1, RelAll.mono h a va.toList r2, RelAll.mono h c vc.toList r3⟩
  | .ifc t a, _, ⟨u, r1, r2⟩ => ⟨u, r1, Rel.mono h a u r2⟩
  | .agg cs, _, ⟨vs, r1, r2, r3⟩ => ⟨vs, r1, RelAll.mono h cs vs.toList r2, r3⟩
  | .tup cs, _, ⟨vs, r1, r2⟩ => ⟨vs, r1, RelAll.mono h cs vs.toList r2⟩
  | .dead, _, _ => trivial
theorem RelAll.mono {g g' : Gh} {w w' : World} (h : Ev g w g' w') : ∀ (as : List AV) (vs : List Value), RelAll g w as vs → RelAll g' w' as vs
  | [], _, r => r
  | a :: as, _, ⟨v, vr, r1, r2, r3⟩ => ⟨v, vr, r1, Rel.mono h a v r2, RelAll.mono h as vr r3⟩
theorem RelCells.mono {g g' : Gh} {w w' : World} (h : Ev g w g' w') : ∀ (as : List AV) (b off : Nat), RelCells g w as b off → RelCells g' w' as b off
  | [], _, _, _ => trivial
  | a :: as, b, off, ⟨⟨u, r1, r2, r5, r3⟩, r4⟩ => ⟨⟨u, (h.cell r1 r2).1, (h.cell r1 r2).2, r5, Rel.mono h a u r3⟩, RelCells.mono h as b (off + 1) r4⟩
theorem RelRows.mono {g g' : Gh} {w w' : World} (h : Ev g w g' w') (sz : Nat) : ∀ (l : List (List AV)) (b off : Nat), RelRows g w sz l b off → RelRows g' w' sz l b off
  | [], _, _, _ => trivial
  | x :: l, b, off, ⟨r1, r2, r3⟩ => ⟨r1, RelCells.mono h x b off r2, RelRows.mono h sz l b (off + sz) r3⟩
end

/-- An object and its block. -/
def ObRel (g : Gh) (w : World) (k b : Nat) : Ob → Prop
  | .cells cs => g.kind b = .obj k ∧ ∃ C E, w.heap[b]? = some (.cells C E (0, 0)) ∧ RelAll g w cs C.toList ∧ ∀ u ∈ C.toList, u.oneCell' = true
  | .map es => g.kind b = .obj k ∧ ∃ M clock, w.heap[b]? = some (.map M clock) ∧ RelAll g w (es.map (·.1)) (M.toList.map (·.key)) ∧ RelAll g w (es.map (·.2)) (M.toList.map (·.val))
  | .gone => True

structure StRel (g : Gh) (st : St) (w : World) : Prop where
  tk : g.tk = st.tk
  len : g.objs.length = st.objs.length
  obj : ∀ (k b : Nat) (o : Ob), g.objs[k]? = some b → st.objs[k]? = some o → b < w.heap.size ∧ ObRel g w k b o
  back : ∀ b k : Nat, b < w.heap.size → g.kind b = .obj k → ∃ o, st.objs[k]? = some o ∧ g.objs[k]? = some b ∧ (match o with | .gone => False | _ => True)
  rowlt : ∀ b t : Nat, b < w.heap.size → g.kind b = .row t → t < st.tk.length

/-- The slots that are known. -/
structure Env where
  n : Nat
  m : List (Nat × AV)

def look : List (Nat × AV) → Nat → AV
  | [], _ => .dead
  | x :: r, t => match Nat.beq x.1 t with
    | true => x.2
    | false => look r t

def Env.put (e : Env) (d : Nat) (v : AV) : Env :=
  match Nat.blt d e.n with
  | true => ⟨e.n, (d, v) :: e.m⟩
  | false => ⟨e.n, []⟩

def Env.norm (l : List Nat) (e : Env) : Env := ⟨e.n, l.map fun t => (t, look e.m t)⟩

structure EnvRel (g : Gh) (w : World) (e : Env) (a : Act) : Prop where
  size : a.tmps.size = e.n
  slot : ∀ t, Rel g w (look e.m t) (a.tmps.getD t undef)

theorem EnvRel.mono {g g' : Gh} {w w' : World} {e : Env} {a : Act} (h : EnvRel g w e a) (k : Ev g w g' w') : EnvRel g' w' e a :=
  ⟨h.size, fun t => Rel.mono k _ _ (h.slot t)⟩

theorem EnvRel.put {g : Gh} {w : World} {e : Env} {a : Act} (h : EnvRel g w e a) (d : Nat) {x : AV} {v : Value} (hv : Rel g w x v) :
    EnvRel g w (e.put d x) (a.put (some d) v) := by
  unfold Env.put
  cases hd : Nat.blt d e.n with
  | false => exact ⟨by simp [Act.put, h.size], fun t => trivial⟩
  | true =>
    have hlt : d < e.n := by simpa using hd
    refine ⟨by simp [Act.put, h.size], fun t => ?_⟩
    simp only [look, Act.put]
    cases ht : Nat.beq d t with
    | true =>
      have : d = t := by simpa using ht
      subst this
      simp only [Array.getD_eq_getD_getElem?, Array.getElem?_setIfInBounds]
      simp only [if_true, if_pos (show d < a.tmps.size by rw [h.size]; exact hlt), Option.getD_some]
      exact hv
    | false =>
      have hne : d ≠ t := by intro e; subst e; simp at ht
      simp only [Array.getD_eq_getD_getElem?, Array.getElem?_setIfInBounds, if_neg hne]
      have := h.slot t
      rw [Array.getD_eq_getD_getElem?] at this
      exact this

theorem EnvRel.put_none {g : Gh} {w : World} {e : Env} {a : Act} (h : EnvRel g w e a) {v : Value} : EnvRel g w e (a.put none v) := h

theorem look_norm (l : List Nat) (m : List (Nat × AV)) (t : Nat) : look (l.map fun t => (t, look m t)) t = look m t ∨ look (l.map fun t => (t, look m t)) t = .dead := by
  induction l with
  | nil => exact .inr rfl
  | cons x l ih =>
    simp only [List.map_cons, look]
    cases hx : Nat.beq x t with
    | true => have : x = t := by simpa using hx
              subst this; exact .inl rfl
    | false => exact ih

theorem EnvRel.norm {g : Gh} {w : World} {e : Env} {a : Act} (h : EnvRel g w e a) (l : List Nat) : EnvRel g w (e.norm l) a := by
  refine ⟨h.size, fun t => ?_⟩
  rcases look_norm l e.m t with hl | hl
  · simp only [Env.norm, hl]; exact h.slot t
  · simp only [Env.norm, hl]; trivial

/-- A constant. -/
def ofLitS : Value → AV
  | .bool b => .bool b
  | .int k n => .int k n
  | .string s => .str s
  | .pointer none => .nilptr
  | .slice none 0 0 => .nilsl
  | .map none => .nilmap
  | .nilFunc => .nilfn
  | .nilIface => .nilif
  | _ => .dead
def ofLit : Value → AV
  | .agg cs => match cs.toList.all Value.oneCell' with
    | true => .agg (cs.toList.map ofLitS)
    | false => .dead
  | v => ofLitS v

theorem ofLitS_rel (g : Gh) (w : World) (v : Value) : Rel g w (ofLitS v) v := by
  unfold ofLitS
  split <;> simp [Rel]
theorem ofLits_rel (g : Gh) (w : World) : ∀ vs : List Value, RelAll g w (vs.map ofLitS) vs
  | [] => rfl
  | v :: vs => ⟨v, vs, rfl, ofLitS_rel g w v, ofLits_rel g w vs⟩
theorem ofLit_rel (g : Gh) (w : World) (v : Value) : Rel g w (ofLit v) v := by
  unfold ofLit
  split
  · split
    · rename_i h
      exact ⟨_, rfl, ofLits_rel g w _, List.all_eq_true.mp h⟩
    · trivial
  · exact ofLitS_rel g w v

def Env.eval (e : Env) : Operand → AV
  | .tmp t => look e.m t
  | .const v => ofLit v
  | .func f => .fn (.func f) [] []
  | .global _ => .dead

theorem EnvRel.eval {g : Gh} {w : World} {e : Env} {a : Act} (h : EnvRel g w e a) (x : Operand) : Rel g w (e.eval x) (a.eval x) := by
  cases x with
  | tmp t => exact h.slot t
  | const v => exact ofLit_rel g w v
  | func f => exact ⟨#[], #[], rfl, rfl, rfl⟩
  | global g => trivial

/-- How a run ends: it returns, or panics. -/
inductive Fin where
  | ret (v : AV)
  | pan (v : AV)

abbrev Ans := Option (Fin × St)

inductive AX where
  | normal
  | exit (id : Nat)
  | goto (l : Nat)
  | ret
  | panic (v : AV)

def XRel (g : Gh) (w : World) : AX → Exit → Prop
  | .normal, e => e = .normal
  | .exit id, e => e = .exit id
  | .goto l, e => e = .goto l
  | .ret, e => e = .ret
  | .panic x, e => ∃ v, e = .panic [{ v, recovered := false }] ∧ Rel g w x v

abbrev Cont := AX → Env → St → Ans

def Post (K : Cont) (fin : Fin × St) (g : Gh) (w : World) (d : List Deferred) (Q : Exit → Act → World → Prop) : Prop :=
  ∀ x env' st' g' w' a' e, K x env' st' = some fin → EnvRel g' w' env' a' → StRel g' st' w' → Ev g w g' w' → a'.defers = d → XRel g' w' x e → Q e a' w'

theorem Post.later {K : Cont} {fin : Fin × St} {g g1 : Gh} {w w1 : World} {d : List Deferred} {Q : Exit → Act → World → Prop}
    (h : Post K fin g w d Q) (k : Ev g w g1 w1) : Post K fin g1 w1 d Q :=
  fun x env' st' g' w' a' e h1 h2 h3 h4 h5 h6 => h x env' st' g' w' a' e h1 h2 h3 (k.trans h4) h5 h6

end Go.V
