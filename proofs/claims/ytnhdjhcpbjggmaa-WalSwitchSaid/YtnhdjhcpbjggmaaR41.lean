/- Merged out of 9 texts: what the claim's code comes to, and why. -/
import Derived.Below
import Derived.Deep.LoopGhost
import Derived.Deep.Draws
import Derived.WalkKit
import Derived.RangeFuncRecord
import Derived.Sort.LoopGhostIn
import Derived.OrdersIn
import Derived.TacticsIn
import Derived.Test.YtnhdjhcpbjggmaaProg
import Derived.Laws.Slices
import Derived.Laws.AppendOwn
import Derived.Laws.Rows
import Derived.Laws.MakeOwn

namespace Go.V
/-- The grounds of an order, in short. -/
abbrev eD (n : Nat) : Go.Edge := { on := n, ground := Go.Ground.data }
abbrev eP (n : Nat) : Go.Edge := { on := n, ground := Go.Ground.phase }
abbrev eC (n : Nat) : Go.Edge := { on := n, ground := Go.Ground.chain }
abbrev eG (n : Nat) : Go.Edge := { on := n, ground := Go.Ground.guard }
abbrev eT (n : Nat) : Go.Edge := { on := n, ground := Go.Ground.textOnly Go.Departure.lateStores }
abbrev eX (n : Nat) : Go.Edge := { on := n, ground := Go.Ground.gcOnly Go.Departure.lateStores }
end Go.V
set_option linter.unusedVariables false
set_option linter.unusedSimpArgs false
set_option maxRecDepth 100000
namespace Go.V
inductive AV where
 | bool (b : Bool)
 | int (k : IntKind) (n : Int)
 | str (s : ByteArray)
 | nilptr
 | nilsl
 | nilmap
 | nilfn
 | nilif
 | ptr (k off : Nat)
 | eptr (cs : List AV)
 | sl (sz : Nat) (full : Bool) (l : List (List AV))
 | lg (t sz : Nat) (l : List (List AV))
 | ms (k sz off n cap : Nat)
 | mp (k : Nat)
 | fn (f : Fn) (first captured : List AV)
 | ifc (t : TypeId) (v : AV)
 | agg (cs : List AV)
 | tup (vs : List AV)
 | dead
 | ns (z : Bool) (sz : Nat) (l : List (List AV))
 | vs (k v sz n : Nat)
 | vp (k v off : Nat)
 | tp (k E n : Nat)
 deriving Inhabited
inductive BK where
 | solid
 | part (S : Nat → Prop)
 | obj (k : Nat)
 | row (t : Nat)
 | vec (k : Nat)
structure Gh where
 kind : Nat → BK
 objs : List Nat
 tk : List (Nat × Nat)
 ver : Nat → Nat
def Gh.prot (g : Gh) (b off : Nat) : Prop :=
 match g.kind b with
 | .solid => True
 | .part S => S off
 | .obj _ => False
 | .vec _ => False
 | .row t => ∃ sz n, g.tk[t]? = some (sz, n) ∧ off < n * sz
inductive Ob where
 | cells (cs : List AV)
 | map (es : List (AV × AV))
 | gone
 | vec (v : Nat) (cs : List AV)
 | nov (v : Nat)
 | lp (s j f : Nat) (tm : List AV)
 deriving Inhabited
def okE (sz e : Nat) : Bool := true
def okAll (sz : Nat) : Bool := true
theorem okAll_all {sz : Nat} (h : okAll sz = true) (e : Nat) : okE sz e = true := by
 unfold okAll at h; unfold okE; first | rfl | (cases hs : Nat.beq sz 1 <;> simp_all)
structure St where
 objs : List Ob
 tk : List (Nat × Nat)
 deriving Inhabited
def FnR (g : Gh) (f : Fn) (v : Value) (va vc : Array Value) : Prop :=
 match f with
 | .yield k => ∃ b, g.objs[k]? = some b ∧ v = .func (.yield b) va vc
 | f => v = .func f va vc
def noY : Fn → Prop
 | .yield _ => False
 | _ => True
theorem FnR.plain {g : Gh} {f : Fn} {v : Value} {va vc : Array Value} (h : FnR g f v va vc) (hn : noY f) : v = .func f va vc := by
 cases f <;> first | exact h | exact hn.elim
theorem FnR.isfn {g : Gh} {f : Fn} {v : Value} {va vc : Array Value} (h : FnR g f v va vc) : ∃ p q r, v = .func p q r := by
 cases f with
 | yield k => obtain ⟨b, _, h⟩ := h; exact ⟨_, _, _, h⟩
 | _ => exact ⟨_, _, _, h⟩
theorem FnR.of {g : Gh} {f : Fn} {v : Value} {va vc : Array Value} (h : v = .func f va vc) (hn : noY f) : FnR g f v va vc := by
 cases f <;> first | exact h | exact hn.elim
theorem FnR.move {g g' : Gh} {f : Fn} {v : Value} {va vc : Array Value} (h : FnR g f v va vc) (hn : noY f) : FnR g' f v va vc := .of (h.plain hn) hn
theorem FnR.map {g g' : Gh} {f : Fn} {v : Value} {va vc : Array Value} (h : FnR g f v va vc) (ho : ∀ k b : Nat, g.objs[k]? = some b → g'.objs[k]? = some b) : FnR g' f v va vc := by
 cases f with
 | yield k => obtain ⟨b, h1, h2⟩ := h; exact ⟨b, ho k b h1, h2⟩
 | _ => exact h
mutual
def Rel (g : Gh) (w : World) : AV → Value → Prop
 | .bool b, v => v = .bool b
 | .int k n, v => v = .int k n
 | .str s, v => v = .string s
 | .nilptr, v => v = .pointer none
 | .nilsl, v => v = .slice none 0 0
 | .nilmap, v => v = .map none
 | .nilfn, v => v = .nilFunc
 | .nilif, v => v = .nilIface
 | .ptr k off, v => ∃ b, g.objs[k]? = some b ∧ v = .pointer (some ⟨b, off, none⟩)
 | .eptr cs, v => ∃ b off, v = .pointer (some ⟨b, off, none⟩) ∧ RelCells g w cs b off
 | .sl sz full l, v => ∃ b off sp cap, v = .slice (some ⟨b, off, sp⟩) l.length cap ∧ l.length ≤ cap ∧ (full = true → cap = l.length) ∧ (sp = none ∨ l = []) ∧ RelRows g w sz l b off
 | .lg t sz l, v => ∃ b cap C E fz, v = .slice (some ⟨b, 0, none⟩) l.length cap ∧ l.length ≤ cap ∧ g.kind b = .row t ∧ w.heap[b]? = some (.cells C E fz) ∧ cap * sz ≤ C.size ∧ (∀ i, i < C.size → ¬ (fz.1 ≤ i ∧ i < fz.2)) ∧ (∃ n, g.tk[t]? = some (sz, n) ∧ l.length ≤ n) ∧ RelRows g w sz l b 0
 | .ms k sz off n cap, v => ∃ b, g.objs[k]? = some b ∧ v = .slice (some ⟨b, off, none⟩) n cap ∧ n ≤ cap
 | .mp k, v => ∃ b, g.objs[k]? = some b ∧ v = .map (some b)
 | .fn f a c, v => ∃ va vc, FnR g f v va vc ∧ RelAll g w a va.toList ∧ RelAll g w c vc.toList
 | .ifc t a, v => ∃ u, v = .iface t u ∧ Rel g w a u
 | .agg cs, v => ∃ vs, v = .agg vs ∧ RelAll g w cs vs.toList ∧ ∀ u ∈ vs.toList, u.oneCell' = true
 | .tup cs, v => ∃ vs, v = .tuple vs ∧ RelAll g w cs vs.toList
 | .dead, _ => True
 | .ns z sz l, v => (z = true ∧ l = [] ∧ v = .slice none 0 0) ∨ (z = false ∧ ∃ b off sp cap, v = .slice (some ⟨b, off, sp⟩) l.length cap ∧ l.length ≤ cap ∧ (sp = none ∨ l = []) ∧ RelRows g w sz l b off)
 | .vs k v sz n, u => ∃ b c, u = .slice (some ⟨b, 0, none⟩) n c ∧ n ≤ c ∧ k < g.objs.length ∧ v ≤ g.ver k ∧ (v = g.ver k → g.kind b = .vec k ∧ ∃ C E fz, w.heap[b]? = some (.cells C E fz) ∧ okE sz E = true ∧ c * sz ≤ C.size)
 | .tp k E n, v => ∃ b, g.objs[k]? = some b ∧ v = .pointer (some ⟨b, 0, none⟩) ∧ ∃ C fz, w.heap[b]? = some (.cells C E fz) ∧ C.size = n
 | .vp k v off, u => ∃ b, u = .pointer (some ⟨b, off, none⟩) ∧ k < g.objs.length ∧ v ≤ g.ver k ∧ (v = g.ver k → g.kind b = .vec k ∧ b < w.heap.size)
def RelAll (g : Gh) (w : World) : List AV → List Value → Prop
 | [], vs => vs = []
 | a :: r, vs => ∃ v vr, vs = v :: vr ∧ Rel g w a v ∧ RelAll g w r vr
def RelCells (g : Gh) (w : World) : List AV → Nat → Nat → Prop
 | [], _, _ => True
 | a :: r, b, off => (∃ u, w.cell? ⟨b, off, none⟩ = some u ∧ g.prot b off ∧ u.oneCell' = true ∧ Rel g w a u) ∧ RelCells g w r b (off + 1)
def RelRows (g : Gh) (w : World) (sz : Nat) : List (List AV) → Nat → Nat → Prop
 | [], _, _ => True
 | x :: r, b, off => x.length = sz ∧ RelCells g w x b off ∧ RelRows g w sz r b (off + sz)
end
def fixedK : BK → Bool
 | .solid => true
 | .part _ => true
 | _ => false
structure Ev (g : Gh) (w : World) (g' : Gh) (w' : World) : Prop where
 os : w'.os = w.os
 tape : w'.tape = w.tape
 output : w'.output = w.output
 size : w.heap.size ≤ w'.heap.size
 fixed : ∀ b : Nat, b < w.heap.size → fixedK (g.kind b) = true → g'.kind b = g.kind b ∧ w'.heap[b]? = w.heap[b]?
 row : ∀ b t : Nat, b < w.heap.size → g.kind b = .row t → g'.kind b = .row t ∧ ∀ C E fz, w.heap[b]? = some (.cells C E fz) →
  ∃ C', w'.heap[b]? = some (.cells C' E fz) ∧ C'.size = C.size ∧ ∀ off, g.prot b off → C'[off]? = C[off]?
 obj : ∀ b k : Nat, b < w.heap.size → g.kind b = .obj k → (g'.kind b = .obj k ∨ g'.kind b = .solid)
 objs : ∀ k b : Nat, g.objs[k]? = some b → g'.objs[k]? = some b
 tk : ∀ t sz n : Nat, g.tk[t]? = some (sz, n) → ∃ n', g'.tk[t]? = some (sz, n') ∧ n ≤ n'
 ver : ∀ k, k < g.objs.length → g.ver k ≤ g'.ver k
 vec : ∀ b k : Nat, b < w.heap.size → k < g.objs.length → g.kind b = .vec k → g'.ver k = g.ver k → g'.kind b = .vec k ∧ ∀ C E fz, w.heap[b]? = some (.cells C E fz) → ∃ C', w'.heap[b]? = some (.cells C' E fz) ∧ C'.size = C.size
 ty : ∀ (b : Nat) C E fz, w.heap[b]? = some (.cells C E fz) → ∃ C' fz', w'.heap[b]? = some (.cells C' E fz') ∧ C'.size = C.size
theorem Ev.solid {g g' : Gh} {w w' : World} (h : Ev g w g' w') (b : Nat) (hb : b < w.heap.size) (hk : g.kind b = .solid) : g'.kind b = .solid ∧ w'.heap[b]? = w.heap[b]? := by
 obtain ⟨h1, h2⟩ := h.fixed b hb (by rw [hk]; rfl)
 exact ⟨h1.trans hk, h2⟩
theorem Ev.part {g g' : Gh} {w w' : World} (h : Ev g w g' w') (b : Nat) {S : Nat → Prop} (hb : b < w.heap.size) (hk : g.kind b = .part S) : g'.kind b = .part S ∧ w'.heap[b]? = w.heap[b]? := by
 obtain ⟨h1, h2⟩ := h.fixed b hb (by rw [hk]; rfl)
 exact ⟨h1.trans hk, h2⟩
theorem lt_of_block {w : World} {b : Nat} {o : Obj} (h : w.heap[b]? = some o) : b < w.heap.size := by
 rcases Nat.lt_or_ge b w.heap.size with h' | h'
 ·exact h'
 ·simp [Array.getElem?_eq_none h'] at h
theorem Ev.prot {g g' : Gh} {w w' : World} (h : Ev g w g' w') {b off : Nat} (hb : b < w.heap.size) (hp : g.prot b off) : g'.prot b off := by
 unfold Gh.prot at hp ⊢
 cases hk : g.kind b with
 | solid => rw [(h.solid b hb hk).1]; trivial
 | part S => rw [hk] at hp; rw [(h.part b hb hk).1]; exact hp
 | obj k => rw [hk] at hp; exact hp.elim
 | vec k => rw [hk] at hp; exact hp.elim
 | row t =>
  rw [hk] at hp
  obtain ⟨sz, n, ht, ho⟩ := hp
  rw [(h.row b t hb hk).1]
  obtain ⟨n', ht', hn⟩ := h.tk t sz n ht
  exact ⟨sz, n', ht', Nat.lt_of_lt_of_le ho (Nat.mul_le_mul_right _ hn)⟩
theorem cell_some {w : World} {b off : Nat} {u : Value} (h : w.cell? ⟨b, off, none⟩ = some u) : ∃ C E fz, w.heap[b]? = some (.cells C E fz) ∧ C[off]? = some u := by
 unfold World.cell? at h
 split at h
 ·rename_i c e f hb
  exact ⟨c, e, f, hb, by simpa using h⟩
 ·simp at h
theorem cell_of {w : World} {b off : Nat} {C : Array Value} {E : TypeId} {fz : Nat × Nat} (h : w.heap[b]? = some (.cells C E fz)) : w.cell? ⟨b, off, none⟩ = C[off]? := by
 simp [World.cell?, h]
theorem Ev.cell {g g' : Gh} {w w' : World} (h : Ev g w g' w') {b off : Nat} {u : Value} (hc : w.cell? ⟨b, off, none⟩ = some u) (hp : g.prot b off) :
  w'.cell? ⟨b, off, none⟩ = some u ∧ g'.prot b off := by
 obtain ⟨C, E, fz, hb, hu⟩ := cell_some hc
 have hlt := lt_of_block hb
 refine ⟨?_, h.prot hlt hp⟩
 cases hk : g.kind b with
 | solid => rw [cell_of ((h.solid b hlt hk).2.trans hb)]; exact hu
 | part S => rw [cell_of ((h.part b hlt hk).2.trans hb)]; exact hu
 | obj k => unfold Gh.prot at hp; rw [hk] at hp; exact hp.elim
 | vec k => unfold Gh.prot at hp; rw [hk] at hp; exact hp.elim
 | row t =>
  obtain ⟨C', hb', _, hs⟩ := (h.row b t hlt hk).2 C E fz hb
  rw [cell_of hb', hs off hp]; exact hu
theorem Ev.objlen {g g' : Gh} {w w' : World} (h : Ev g w g' w') : g.objs.length ≤ g'.objs.length := by
 rcases Nat.lt_or_ge g'.objs.length g.objs.length with h' | h'
 ·have h1 : g.objs[g'.objs.length]? = some g.objs[g'.objs.length] := List.getElem?_eq_getElem h'
  have h2 := h.objs _ _ h1
  rw [List.getElem?_eq_none (Nat.le_refl _)] at h2
  cases h2
 ·exact h'
theorem Ev.refl (g : Gh) (w : World) : Ev g w g w :=
 ⟨rfl, rfl, rfl, Nat.le_refl _, fun _ _ _ => ⟨rfl, rfl⟩, fun _ _ _ h => ⟨h, fun C _ _ hb => ⟨C, hb, rfl, fun _ _ => rfl⟩⟩, fun _ _ _ h => .inl h, fun _ _ h => h, fun _ _ n h => ⟨n, h, Nat.le_refl _⟩, fun _ _ => Nat.le_refl _, fun _ _ _ _ h _ => ⟨h, fun C _ _ hb => ⟨C, hb, rfl⟩⟩, fun _ C _ fz h => ⟨C, fz, h, rfl⟩⟩
theorem Ev.trans {g g' g'' : Gh} {w w' w'' : World} (h : Ev g w g' w') (k : Ev g' w' g'' w'') : Ev g w g'' w'' where
 os := k.os.trans h.os
 tape := k.tape.trans h.tape
 output := k.output.trans h.output
 size := Nat.le_trans h.size k.size
 fixed := fun b hb hk => by
  obtain ⟨h1, h2⟩ := h.fixed b hb hk
  obtain ⟨k1, k2⟩ := k.fixed b (Nat.lt_of_lt_of_le hb h.size) (by rw [h1]; exact hk)
  exact ⟨k1.trans h1, k2.trans h2⟩
 row := fun b t hb hk => by
  obtain ⟨h1, h2⟩ := h.row b t hb hk
  obtain ⟨k1, k2⟩ := k.row b t (Nat.lt_of_lt_of_le hb h.size) h1
  refine ⟨k1, fun C E fz hC => ?_⟩
  obtain ⟨C', hC', hs, hp⟩ := h2 C E fz hC
  obtain ⟨C'', hC'', hs', hp'⟩ := k2 C' E fz hC'
  exact ⟨C'', hC'', hs'.trans hs, fun off ho => (hp' off (h.prot hb ho)).trans (hp off ho)⟩
 obj := fun b j hb hk => by
  have hb' := Nat.lt_of_lt_of_le hb h.size
  rcases h.obj b j hb hk with h1 | h1
  ·exact k.obj b j hb' h1
  ·exact .inr (k.solid b hb' h1).1
 objs := fun j b hj => k.objs j b (h.objs j b hj)
 tk := fun t sz n ht => by
  obtain ⟨n', h1, h2⟩ := h.tk t sz n ht
  obtain ⟨n'', k1, k2⟩ := k.tk t sz n' h1
  exact ⟨n'', k1, Nat.le_trans h2 k2⟩
 ver := fun j hj => Nat.le_trans (h.ver j hj) (k.ver j (Nat.lt_of_lt_of_le hj h.objlen))
 vec := fun b j hb hj hk hv => by
  have h1 := h.ver j hj
  have h2 := k.ver j (Nat.lt_of_lt_of_le hj h.objlen)
  obtain ⟨k1, k2⟩ := h.vec b j hb hj hk (by omega)
  obtain ⟨k3, k4⟩ := k.vec b j (Nat.lt_of_lt_of_le hb h.size) (Nat.lt_of_lt_of_le hj h.objlen) k1 (by omega)
  refine ⟨k3, fun C E fz hC => ?_⟩
  obtain ⟨C', h5, h6⟩ := k2 C E fz hC
  obtain ⟨C'', h7, h8⟩ := k4 C' E fz h5
  exact ⟨C'', h7, h8.trans h6⟩
 ty := fun b C E fz hb => by
  obtain ⟨C', fz', h1, h2⟩ := h.ty b C E fz hb
  obtain ⟨C'', fz'', h3, h4⟩ := k.ty b C' E fz' h1
  exact ⟨C'', fz'', h3, h4.trans h2⟩
mutual
theorem Rel.mono {g g' : Gh} {w w' : World} (h : Ev g w g' w') : ∀ (a : AV) (v : Value), Rel g w a v → Rel g' w' a v
 | .bool _, _, r => r
 | .int _ _, _, r => r
 | .str _, _, r => r
 | .nilptr, _, r => r
 | .nilsl, _, r => r
 | .nilmap, _, r => r
 | .nilfn, _, r => r
 | .nilif, _, r => r
 | .ptr k off, _, ⟨b, r1, r2⟩ => ⟨b, h.objs k b r1, r2⟩
 | .eptr cs, _, ⟨b, off, r1, r2⟩ => ⟨b, off, r1, RelCells.mono h cs b off r2⟩
 | .sl sz full l, _, ⟨b, off, sp, cap, r1, r2, r3, rs, r4⟩ => ⟨b, off, sp, cap, r1, r2, r3, rs, RelRows.mono h sz l b off r4⟩
 | .lg t sz l, _, ⟨b, cap, C, E, fz, r1, r2, r3, r4, r5, r9, ⟨n, r6, r7⟩, r8⟩ => by
  obtain ⟨k1, k2⟩ := h.row b t (lt_of_block r4) r3
  obtain ⟨C', k3, k4, _⟩ := k2 C E fz r4
  obtain ⟨n', k5, k6⟩ := h.tk t sz n r6
  exact ⟨b, cap, C', E, fz, r1, r2, k1, k3, by omega, by rw [k4]; exact r9, ⟨n', k5, Nat.le_trans r7 k6⟩, RelRows.mono h sz l b 0 r8⟩
 | .ms k sz off n cap, _, ⟨b, r1, r2⟩ => ⟨b, h.objs k b r1, r2⟩
 | .mp k, _, ⟨b, r1, r2⟩ => ⟨b, h.objs k b r1, r2⟩
 | .fn f a c, _, ⟨va, vc, r1, r2, r3⟩ => ⟨va, vc, r1.map h.objs, RelAll.mono h a va.toList r2, RelAll.mono h c vc.toList r3⟩
 | .ifc t a, _, ⟨u, r1, r2⟩ => ⟨u, r1, Rel.mono h a u r2⟩
 | .agg cs, _, ⟨vs, r1, r2, r3⟩ => ⟨vs, r1, RelAll.mono h cs vs.toList r2, r3⟩
 | .tup cs, _, ⟨vs, r1, r2⟩ => ⟨vs, r1, RelAll.mono h cs vs.toList r2⟩
 | .dead, _, _ => trivial
 | .ns z sz l, _, .inl r => .inl r
 | .ns z sz l, _, .inr ⟨r0, b, off, sp, cap, r1, r2, rs, r4⟩ => .inr ⟨r0, b, off, sp, cap, r1, r2, rs, RelRows.mono h sz l b off r4⟩
 | .vs k v sz n, _, ⟨b, c, r1, r2, r3, r4, r5⟩ => by
  have hv := h.ver k r3
  refine ⟨b, c, r1, r2, Nat.lt_of_lt_of_le r3 h.objlen, Nat.le_trans r4 hv, fun e => ?_⟩
  obtain ⟨k1, C, E, fz, k2, k3⟩ := r5 (by omega)
  obtain ⟨h1, h2⟩ := h.vec b k (lt_of_block k2) r3 k1 (by omega)
  obtain ⟨C', h3, h4⟩ := h2 C E fz k2
  exact ⟨h1, C', E, fz, h3, k3.1, by rw [h4]; exact k3.2⟩
 | .tp k E n, _, ⟨b, r1, r2, C, fz, r3, r4⟩ => by
  obtain ⟨C', fz', h1, h2⟩ := h.ty b C E fz r3
  exact ⟨b, h.objs k b r1, r2, C', fz', h1, h2.trans r4⟩
 | .vp k v off, _, ⟨b, r1, r3, r4, r5⟩ => by
  have hv := h.ver k r3
  refine ⟨b, r1, Nat.lt_of_lt_of_le r3 h.objlen, Nat.le_trans r4 hv, fun e => ?_⟩
  obtain ⟨k1, k2⟩ := r5 (by omega)
  exact ⟨(h.vec b k k2 r3 k1 (by omega)).1, Nat.lt_of_lt_of_le k2 h.size⟩
theorem RelAll.mono {g g' : Gh} {w w' : World} (h : Ev g w g' w') : ∀ (ays : List AV) (vs : List Value), RelAll g w ays vs → RelAll g' w' ays vs
 | [], _, r => r
 | a :: ays, _, ⟨v, vr, r1, r2, r3⟩ => ⟨v, vr, r1, Rel.mono h a v r2, RelAll.mono h ays vr r3⟩
theorem RelCells.mono {g g' : Gh} {w w' : World} (h : Ev g w g' w') : ∀ (ays : List AV) (b off : Nat), RelCells g w ays b off → RelCells g' w' ays b off
 | [], _, _, _ => trivial
 | a :: ays, b, off, ⟨⟨u, r1, r2, r5, r3⟩, r4⟩ => ⟨⟨u, (h.cell r1 r2).1, (h.cell r1 r2).2, r5, Rel.mono h a u r3⟩, RelCells.mono h ays b (off + 1) r4⟩
theorem RelRows.mono {g g' : Gh} {w w' : World} (h : Ev g w g' w') (sz : Nat) : ∀ (l : List (List AV)) (b off : Nat), RelRows g w sz l b off → RelRows g' w' sz l b off
 | [], _, _, _ => trivial
 | x :: l, b, off, ⟨r1, r2, r3⟩ => ⟨r1, RelCells.mono h x b off r2, RelRows.mono h sz l b (off + sz) r3⟩
end
def firstRange : Code → Option (Array Tmp × Code × Code)
 | .rangeFunc _ ps a b => some (ps, a, b)
 | .seq a b => match firstRange a with
  | some x => some x
  | none => firstRange b
 | .cond _ a b => match firstRange a with
  | some x => some x
  | none => firstRange b
 | .block _ a => firstRange a
 | .loop a => firstRange a
 | .scope a => firstRange a
 | _ => none
noncomputable def rngs : Nat → Option (Array Tmp × Code × Code) := fun f => match f with | 40 => (Go.Proofs.Try.f40.body).bind firstRange | _ => none
def jcode : Nat → Code
 | 0 => .ret
 | i + 1 => .exit i
def LSt (s j : Nat) (L : Loop) : Prop :=
 match s with
 | 0 => L.state = .ready ∧ L.pending = none
 | 1 => L.state = .busy
 | _ => L.state = .done ∧ L.pending = some (jcode j)
def ObRel (g : Gh) (w : World) (k b : Nat) : Ob → Prop
 | .cells cs => g.kind b = .obj k ∧ ∃ C E, w.heap[b]? = some (.cells C E (0, 0)) ∧ RelAll g w cs (C.toList.take cs.length) ∧ ∀ u ∈ C.toList.take cs.length, u.oneCell' = true
 | .map es => g.kind b = .obj k ∧ ∃ M clock, w.heap[b]? = some (.map M clock) ∧ RelAll g w (es.map (·.1)) (M.toList.map (·.key)) ∧ RelAll g w (es.map (·.2)) (M.toList.map (·.val))
 | .gone => True
 | .nov v => g.ver k = v
 | .lp s j f tm => g.kind b = .obj k ∧ ∃ L, w.heap[b]? = some (.loop L) ∧ rngs f = some (L.params, L.assign, L.body) ∧ LSt s j L ∧ RelAll g w tm L.tmps.toList
 | .vec v cs => g.ver k = v ∧ ∃ b', b' < w.heap.size ∧ g.kind b' = .vec k ∧ ∃ C E, w.heap[b']? = some (.cells C E (0, 0)) ∧ RelAll g w cs (C.toList.take cs.length) ∧ ∀ u ∈ C.toList.take cs.length, u.oneCell' = true
def globs : List (Nat × List AV) := []
def Globs (g : Gh) (w : World) : Prop := ∀ x ∈ globs, RelCells g w x.2 x.1 0
theorem Globs.mono {g g' : Gh} {w w' : World} (h : Globs g w) (k : Ev g w g' w') : Globs g' w' := fun x hx => RelCells.mono k _ _ _ (h x hx)
structure StRel (g : Gh) (st : St) (w : World) : Prop where
 tk : g.tk = st.tk
 len : g.objs.length = st.objs.length
 obj : ∀ (k b : Nat) (o : Ob), g.objs[k]? = some b → st.objs[k]? = some o → b < w.heap.size ∧ ObRel g w k b o
 back : ∀ b k : Nat, b < w.heap.size → g.kind b = .obj k → ∃ o, st.objs[k]? = some o ∧ g.objs[k]? = some b ∧ (match o with | .gone => False | .vec .. => False | .nov _ => False | _ => True)
 rowlt : ∀ b t : Nat, b < w.heap.size → g.kind b = .row t → t < st.tk.length
 vec : ∀ b k : Nat, b < w.heap.size → g.kind b = .vec k → (∃ v cs, st.objs[k]? = some (.vec v cs)) ∧ ∀ b', b' < w.heap.size → g.kind b' = .vec k → b' = b
 glob : Globs g w
structure Env where
 n : Nat
 m : List (Nat × AV)
def look : List (Nat × AV) → Nat → AV
 | [], _ => .dead
 | x :: r, t => match Nat.beq x.1 t with
  | true => x.2
  | false => look r t
def Env.put (e : Env) (d : Nat) (v : AV) : Env :=
 match Nat.blt d e.n with
 | true => ⟨e.n, (d, v) :: e.m⟩
 | false => ⟨e.n, []⟩
def Env.norm (l : List Nat) (e : Env) : Env := ⟨e.n, l.map fun t => (t, look e.m t)⟩
structure EnvRel (g : Gh) (w : World) (e : Env) (a : Act) : Prop where
 size : a.tmps.size = e.n
 slot : ∀ t, Rel g w (look e.m t) (a.tmps.getD t undef)
theorem EnvRel.mono {g g' : Gh} {w w' : World} {e : Env} {a : Act} (h : EnvRel g w e a) (k : Ev g w g' w') : EnvRel g' w' e a :=
 ⟨h.size, fun t => Rel.mono k _ _ (h.slot t)⟩
theorem EnvRel.put {g : Gh} {w : World} {e : Env} {a : Act} (h : EnvRel g w e a) (d : Nat) {x : AV} {v : Value} (hv : Rel g w x v) :
  EnvRel g w (e.put d x) (a.put (some d) v) := by
 unfold Env.put
 cases hd : Nat.blt d e.n with
 | false => exact ⟨by simp [Act.put, h.size], fun t => trivial⟩
 | true =>
  have hlt : d < e.n := by simpa using hd
  refine ⟨by simp [Act.put, h.size], fun t => ?_⟩
  simp only [look, Act.put]
  cases ht : Nat.beq d t with
  | true =>
   have : d = t := by simpa using ht
   subst this
   simp only [Array.getD_eq_getD_getElem?, Array.getElem?_setIfInBounds]
   simp only [if_true, if_pos (show d < a.tmps.size by rw [h.size]; exact hlt), Option.getD_some]
   exact hv
  | false =>
   have hne : d ≠ t := by intro e; subst e; simp at ht
   simp only [Array.getD_eq_getD_getElem?, Array.getElem?_setIfInBounds, if_neg hne]
   have := h.slot t
   rw [Array.getD_eq_getD_getElem?] at this
   exact this
theorem look_norm (l : List Nat) (m : List (Nat × AV)) (t : Nat) : look (l.map fun t => (t, look m t)) t = look m t ∨ look (l.map fun t => (t, look m t)) t = .dead := by
 induction l with
 | nil => exact .inr rfl
 | cons x l ih =>
  simp only [List.map_cons, look]
  cases hx : Nat.beq x t with
  | true => have : x = t := by simpa using hx
            subst this; exact .inl rfl
  | false => exact ih
theorem EnvRel.norm {g : Gh} {w : World} {e : Env} {a : Act} (h : EnvRel g w e a) (l : List Nat) : EnvRel g w (e.norm l) a := by
 refine ⟨h.size, fun t => ?_⟩
 rcases look_norm l e.m t with hl | hl
 ·simp only [Env.norm, hl]; exact h.slot t
 ·simp only [Env.norm, hl]; trivial
def ofLitS : Value → AV
 | .bool b => .bool b
 | .int k n => .int k n
 | .string s => .str s
 | .pointer none => .nilptr
 | .slice none 0 0 => .nilsl
 | .map none => .nilmap
 | .nilFunc => .nilfn
 | .nilIface => .nilif
 | _ => .dead
def ofLit : Value → AV
 | .agg cs => match cs.toList.all Value.oneCell' with
  | true => .agg (cs.toList.map ofLitS)
  | false => .dead
 | v => ofLitS v
theorem ofLitS_rel (g : Gh) (w : World) (v : Value) : Rel g w (ofLitS v) v := by
 unfold ofLitS
 split <;> simp [Rel]
theorem ofLits_rel (g : Gh) (w : World) : ∀ vs : List Value, RelAll g w (vs.map ofLitS) vs
 | [] => rfl
 | v :: vs => ⟨v, vs, rfl, ofLitS_rel g w v, ofLits_rel g w vs⟩
theorem ofLit_rel (g : Gh) (w : World) (v : Value) : Rel g w (ofLit v) v := by
 unfold ofLit
 split
 ·split
  ·rename_i h
   exact ⟨_, rfl, ofLits_rel g w _, List.all_eq_true.mp h⟩
  ·trivial
 ·exact ofLitS_rel g w v
def Env.eval (e : Env) : Operand → AV
 | .tmp t => look e.m t
 | .const v => ofLit v
 | .func f => .fn (.func f) [] []
 | .global _ => .dead
theorem EnvRel.eval {g : Gh} {w : World} {e : Env} {a : Act} (h : EnvRel g w e a) (x : Operand) : Rel g w (e.eval x) (a.eval x) := by
 cases x with
 | tmp t => exact h.slot t
 | const v => exact ofLit_rel g w v
 | func f => exact ⟨#[], #[], rfl, rfl, rfl⟩
 | global g => trivial
inductive Fin where
 | ret (v : AV)
 | pan (v : AV)
abbrev Ans := Option (Fin × St)
inductive AX where
 | normal
 | exit (id : Nat)
 | goto (l : Nat)
 | ret
 | panic (v : AV)
def XRel (g : Gh) (w : World) : AX → Exit → Prop
 | .normal, e => e = .normal
 | .exit id, e => e = .exit id
 | .goto l, e => e = .goto l
 | .ret, e => e = .ret
 | .panic x, e => ∃ v, e = .panic [{ v, recovered := false }] ∧ Rel g w x v
abbrev Cont := AX → Env → St → Ans
def mark (D : Nat) : Deferred := { target := .collected D, args := #[] }
def DG (g : Gh) (n : Nat) (w : World) (d d' : List Deferred) : Prop :=
 ∃ Ds : List Nat, d' = Ds.map mark ++ d ∧ Ds.Pairwise (· > ·) ∧ ∀ D ∈ Ds, n ≤ D ∧ D < w.heap.size ∧ g.kind D = .solid ∧ w.heap[D]? = some (.deferred (some []))
theorem DG.refl (g : Gh) (n : Nat) (w : World) (d : List Deferred) : DG g n w d d := ⟨[], rfl, .nil, fun _ h => by cases h⟩
theorem DG.of_eq {g : Gh} {n : Nat} {w : World} {d d' : List Deferred} (h : d' = d) : DG g n w d d' := h ▸ DG.refl ..
theorem DG.mono {g g' : Gh} {n m : Nat} {w w' : World} {d d' : List Deferred} (h : DG g n w d d') (e : Ev g w g' w') (hm : m ≤ n) : DG g' m w' d d' := by
 obtain ⟨Ds, h1, h2, h3⟩ := h
 refine ⟨Ds, h1, h2, fun D hD => ?_⟩
 obtain ⟨k1, k2, k3, k4⟩ := h3 D hD
 obtain ⟨e1, e2⟩ := e.solid D k2 k3
 exact ⟨Nat.le_trans hm k1, Nat.lt_of_lt_of_le k2 e.size, e1, e2.trans k4⟩
theorem DG.le {g : Gh} {n m : Nat} {w : World} {d d' : List Deferred} (h : DG g n w d d') (hm : m ≤ n) : DG g m w d d' := h.mono (Ev.refl g w) hm
theorem DG.trans {g g1 : Gh} {n : Nat} {w w1 : World} {d d1 d2 : List Deferred} (h : DG g n w d d1) (e : Ev g w g1 w1) (k : DG g1 w.heap.size w1 d1 d2) (hn : n ≤ w.heap.size) : DG g1 n w1 d d2 := by
 have h' := h.mono e (Nat.le_refl n)
 obtain ⟨Ds, h1, h2, h3⟩ := h
 obtain ⟨Ds', h1', _, h3'⟩ := h'
 have : Ds' = Ds := by
  rw [h1] at h1'
  have h4 := List.append_cancel_right h1'
  have hinj : ∀ a b : Nat, mark a = mark b → a = b := fun a b hab => by injection hab with h5 _; injection h5
  have hmi : ∀ l l' : List Nat, l.map mark = l'.map mark → l = l' := by
   intro l
   induction l with
   | nil => intro l' h; cases l' with
    | nil => rfl
    | cons x l' => cases h
   | cons x l ih => intro l' h; cases l' with
    | nil => cases h
    | cons y l' => simp only [List.map_cons, List.cons.injEq] at h; rw [hinj _ _ h.1, ih _ h.2]
  exact (hmi _ _ h4).symm
 subst this
 obtain ⟨Es, k1, k2, k3⟩ := k
 refine ⟨Es ++ Ds', by rw [k1, h1, List.map_append, List.append_assoc], ?_, fun D hD => ?_⟩
 ·rw [List.pairwise_append]
  exact ⟨k2, h2, fun a ha b hb => Nat.lt_of_lt_of_le (h3 b hb).2.1 (k3 a ha).1⟩
 ·rcases List.mem_append.mp hD with h5 | h5
  ·obtain ⟨m1, m2⟩ := k3 D h5; exact ⟨Nat.le_trans hn m1, m2⟩
  ·exact h3' D h5
def Post (K : Cont) (fin : Fin × St) (g : Gh) (w : World) (d : List Deferred) (Q : Exit → Act → World → Prop) : Prop :=
 ∀ x env' st' g' w' a' e, K x env' st' = some fin → EnvRel g' w' env' a' → StRel g' st' w' → Ev g w g' w' → DG g' w.heap.size w' d a'.defers → XRel g' w' x e → Q e a' w'
theorem Post.later2 {K : Cont} {fin : Fin × St} {g g1 : Gh} {w w1 : World} {d d1 : List Deferred} {Q : Exit → Act → World → Prop}
  (h : Post K fin g w d Q) (k : Ev g w g1 w1) (hd : DG g1 w.heap.size w1 d d1) : Post K fin g1 w1 d1 Q :=
 fun x env' st' g' w' a' e h1 h2 h3 h4 h5 h6 => h x env' st' g' w' a' e h1 h2 h3 (k.trans h4) (hd.trans h4 h5 k.size) h6
def Rd (ρ : Option Nat) : Fence := { Fence.wide with round := ρ }
theorem rd_calls {ρ : Option Nat} {n : Nat} {P : Program} {f : FuncId} {args : Array Value} {w : World} {R : Ending → World → Prop} (h : Calls P f args w R) : CallsIn (Rd ρ) n P f args w R := callsIn_wide.2 h
theorem rd_depth {ρ : Option Nat} {p : Prop} : (Rd ρ).depth.isSome = true → p := fun h => by cases h
theorem semAt_of {ρ : Option Nat} {ev : Operand → Value} {o : Oper} {P : Program} {w w' : World} {n : Next} (h : (execOp ev o).run P w = .ok n w') (hn : ∀ d, n ≠ .defer d) : (o.semAt ρ ev).run P w = .ok n w' := by
 by_cases hd : ∃ c, o.op = .defer c
 ·obtain ⟨c, hc⟩ := hd
  unfold execOp at h
  rw [hc] at h
  simp only [Sem.run_bind] at h
  cases hr : (resolve ev c o.type).run P w with
  | ok d w1 => rw [hr] at h; simp [Result.andThen] at h; exact absurd h.1.symm (hn _)
  | halt x w1 => rw [hr] at h; simp [Result.andThen] at h
 ·rw [Oper.semAt_eq ρ ev o fun c hc => hd ⟨c, hc⟩]; exact h
end Go.V
namespace Go.V
structure OpSim (P : Program) where
 oper : Oper
 plain : oper.guard = none
 run : Cont → Env → St → Ans
 sound : ∀ K env st fin, run K env st = some fin → ∀ g w a, EnvRel g w env a → StRel g st w → ∀ next Q, Post K fin g w a.defers (Exit.then next Q) →
  ∀ ρ, oper.wpIn (Rd ρ) 0 P a w next Q
def noRange : Code → Bool
 | .seq a b => noRange a && noRange b
 | .cond _ a b => noRange a && noRange b
 | .block _ a => noRange a
 | .loop a => noRange a
 | .scope a => noRange a
 | .rangeFunc .. => false
 | _ => true
def flatC (ρ : Option Nat) (c : Code) : Prop := ρ = none ∨ noRange c = true
theorem flatC.l {ρ : Option Nat} {c : Code} {x y : Bool} (h : ρ = none ∨ noRange c = true) (e : noRange c = (x && y)) : ρ = none ∨ x = true := h.imp id fun h => by rw [e, Bool.and_eq_true] at h; exact h.1
theorem flatC.r {ρ : Option Nat} {c : Code} {x y : Bool} (h : ρ = none ∨ noRange c = true) (e : noRange c = (x && y)) : ρ = none ∨ y = true := h.imp id fun h => by rw [e, Bool.and_eq_true] at h; exact h.2
structure Sim (P : Program) where
 code : Code
 run : Nat → Cont → Env → St → Ans
 sound : ∀ F K env st fin, run F K env st = some fin → ∀ g w a, EnvRel g w env a → StRel g st w → ∀ Q, Post K fin g w a.defers Q → ∀ ρ, flatC ρ code → code.wpIn (Rd ρ) 0 P Q a w
section
variable {P : Program}
def Sim.skip : Sim P where
 code := .skip
 run F K env st := K .normal env st
 sound F K env st fin h g w a he hs Q hp ρ _ := wpIn_skip (hp .normal env st g w a .normal h he hs (Ev.refl g w) (.refl ..) rfl)
def Sim.ret : Sim P where
 code := .ret
 run F K env st := K .ret env st
 sound F K env st fin h g w a he hs Q hp ρ _ := wpIn_ret (hp .ret env st g w a .ret h he hs (Ev.refl g w) (.refl ..) rfl)
def Sim.exit (id : Nat) : Sim P where
 code := .exit id
 run F K env st := K (.exit id) env st
 sound F K env st fin h g w a he hs Q hp ρ _ := wpIn_exit (hp (.exit id) env st g w a (.exit id) h he hs (Ev.refl g w) (.refl ..) rfl)
def Cont.then (k : Env → St → Ans) (K : Cont) : Cont := fun x env st =>
 match x with
 | .normal => k env st
 | x => K x env st
def Sim.seq (x y : Sim P) : Sim P where
 code := .seq x.code y.code
 run F K env st := x.run F (Cont.then (y.run F K) K) env st
 sound F K env st fin h g w a he hs Q hp ρ hr := by
  refine wpIn_seq (x.sound F _ env st fin h g w a he hs _ ?_ ρ (flatC.l hr rfl))
  intro ex env' st' g' w' a' e h1 h2 h3 h4 h5 h6
  cases ex with
  | normal =>
   obtain rfl := h6
   exact y.sound F K env' st' fin h1 g' w' a' h2 h3 Q (hp.later2 h4 h5) ρ (flatC.r hr rfl)
  | exit id => obtain rfl := h6; exact hp _ _ _ _ _ _ _ h1 h2 h3 h4 h5 rfl
  | goto id => obtain rfl := h6; exact hp _ _ _ _ _ _ _ h1 h2 h3 h4 h5 rfl
  | ret => obtain rfl := h6; exact hp _ _ _ _ _ _ _ h1 h2 h3 h4 h5 rfl
  | panic v => obtain ⟨u, rfl, h7⟩ := h6; exact hp _ _ _ _ _ _ _ h1 h2 h3 h4 h5 ⟨u, rfl, h7⟩
def Env.assume (e : Env) (c : Operand) (b : Bool) : Env :=
 match c with
 | .tmp t => e.put t (.bool b)
 | _ => e
theorem put_same {a : Act} {t : Nat} {v : Value} (h : a.tmps.getD t undef = v) : a.put (some t) v = a := by
 unfold Act.put
 have : a.tmps.setIfInBounds t v = a.tmps := by
  apply Array.ext
  ·simp
  ·intro i h1 h2
   rw [Array.getElem_setIfInBounds]
   split
   ·rename_i e
    subst e
    rw [← h, Array.getD_eq_getD_getElem?, Array.getElem?_eq_getElem h2]
    rfl
   ·rfl
 simp only [this]
theorem EnvRel.assume {g : Gh} {w : World} {e : Env} {a : Act} (h : EnvRel g w e a) {c : Operand} {b : Bool} (hc : a.eval c = .bool b) : EnvRel g w (e.assume c b) a := by
 cases c with
 | tmp t =>
  have := h.put t (x := .bool b) (v := .bool b) rfl
  rw [put_same (show a.tmps.getD t undef = .bool b from hc)] at this
  exact this
 | const v => exact h
 | func f => exact h
 | global g => exact h
def branch (c : AV) (y n : Ans) : Ans :=
 match c with
 | .bool true => y
 | .bool false => n
 | _ => none
def Sim.cond (c : Operand) (x y : Sim P) : Sim P where
 code := .cond c x.code y.code
 run F K env st := branch (env.eval c) (x.run F K (env.assume c true) st) (y.run F K (env.assume c false) st)
 sound F K env st fin h g w a he hs Q hp ρ hr := by
  have hv := he.eval c
  unfold branch at h
  split at h
  ·rename_i hc
   rw [hc] at hv
   exact wpIn_cond_true hv (x.sound F K _ st fin h g w a (he.assume hv) hs Q hp ρ (flatC.l hr rfl))
  ·rename_i hc
   rw [hc] at hv
   exact wpIn_cond_false hv (y.sound F K _ st fin h g w a (he.assume hv) hs Q hp ρ (flatC.r hr rfl))
  ·cases h
def Cont.block (id : Nat) (K : Cont) : Cont := fun x env st =>
 match x with
 | .exit j => match Nat.beq j id with
  | true => K .normal env st
  | false => K (.exit j) env st
 | x => K x env st
def Sim.block (id : Nat) (x : Sim P) : Sim P where
 code := .block id x.code
 run F K env st := x.run F (Cont.block id K) env st
 sound F K env st fin h g w a he hs Q hp ρ hr := by
  refine wpIn_block (x.sound F _ env st fin h g w a he hs _ ?_ ρ hr)
  intro ex env' st' g' w' a' e h1 h2 h3 h4 h5 h6
  cases ex with
  | normal => obtain rfl := h6; exact hp _ _ _ _ _ _ _ h1 h2 h3 h4 h5 rfl
  | exit j =>
   obtain rfl := h6
   simp only [Cont.block] at h1
   simp only [Exit.inBlock]
   cases hj : Nat.beq j id with
   | true =>
    have : j = id := by simpa using hj
    rw [hj] at h1
    rw [if_pos this]
    exact hp _ _ _ _ _ _ _ h1 h2 h3 h4 h5 rfl
   | false =>
    have : j ≠ id := by intro e; subst e; simp at hj
    rw [hj] at h1
    rw [if_neg this]
    exact hp _ _ _ _ _ _ _ h1 h2 h3 h4 h5 rfl
  | goto id => obtain rfl := h6; exact hp _ _ _ _ _ _ _ h1 h2 h3 h4 h5 rfl
  | ret => obtain rfl := h6; exact hp _ _ _ _ _ _ _ h1 h2 h3 h4 h5 rfl
  | panic v => obtain ⟨u, rfl, h7⟩ := h6; exact hp _ _ _ _ _ _ _ h1 h2 h3 h4 h5 ⟨u, rfl, h7⟩
def Cont.norm (l : List Nat) (K : Cont) : Cont := fun x env st => K x (env.norm l) st
theorem Post.norm {K : Cont} {fin : Fin × St} {g : Gh} {w : World} {d : List Deferred} {Q : Exit → Act → World → Prop} (l : List Nat) (h : Post K fin g w d Q) : Post (Cont.norm l K) fin g w d Q :=
 fun x env' st' g' w' a' e h1 h2 h3 h4 h5 h6 => h x _ st' g' w' a' e h1 (h2.norm l) h3 h4 h5 h6
def Sim.live (l : List Nat) (x : Sim P) : Sim P where
 code := x.code
 run F K env st := x.run F (Cont.norm l K) env st
 sound F K env st fin h g w a he hs Q hp ρ hr := x.sound F _ env st fin h g w a he hs Q (hp.norm l) ρ hr
noncomputable def loopRun (body : Cont → Env → St → Ans) (l : List Nat) (K : Cont) (n : Nat) : Env → St → Ans :=
 Nat.rec (motive := fun _ => Env → St → Ans) (fun _ _ => none) (fun _ ih env st => body (Cont.then (fun e s => ih (e.norm l) s) K) env st) n
noncomputable def Sim.loop (l : List Nat) (x : Sim P) : Sim P where
 code := .loop x.code
 run F K env st := loopRun (x.run F) l K F (env.norm l) st
 sound F K env st fin h g w a he hs Q hp ρ hr := by
  refine wpIn_loop_ghost (fun n a' w' => ∃ env' st' g', loopRun (x.run F) l K n env' st' = some fin ∧ EnvRel g' w' env' a' ∧ StRel g' st' w' ∧ Ev g w g' w' ∧ DG g' w.heap.size w' a.defers a'.defers) F
   ⟨_, st, g, h, he.norm l, hs, Ev.refl g w, .refl ..⟩ ?_
  intro n a1 w1 hI
  obtain ⟨env1, st1, g1, h1, h2, h3, h4, h5⟩ := hI
  cases n with
  | zero => cases h1
  | succ n =>
   refine x.sound F _ env1 st1 fin h1 g1 w1 a1 h2 h3 _ ?_ ρ hr
   intro ex env' st' g' w' a' e k1 k2 k3 k4 k5 k6
   cases ex with
   | normal =>
    obtain rfl := k6
    exact ⟨n, Nat.lt_succ_self n, _, st', g', k1, k2.norm l, k3, h4.trans k4, h5.trans k4 k5 h4.size⟩
   | exit id => obtain rfl := k6; exact hp _ _ _ _ _ _ _ k1 k2 k3 (h4.trans k4) (h5.trans k4 k5 h4.size) rfl
   | goto id => obtain rfl := k6; exact hp _ _ _ _ _ _ _ k1 k2 k3 (h4.trans k4) (h5.trans k4 k5 h4.size) rfl
   | ret => obtain rfl := k6; exact hp _ _ _ _ _ _ _ k1 k2 k3 (h4.trans k4) (h5.trans k4 k5 h4.size) rfl
   | panic v => obtain ⟨u, rfl, k7⟩ := k6; exact hp _ _ _ _ _ _ _ k1 k2 k3 (h4.trans k4) (h5.trans k4 k5 h4.size) ⟨u, rfl, k7⟩
structure ROp (P : Program) where
 o : OpSim P
 grd : Option (Nat × Nat × Bool)
def ROp.oper (r : ROp P) : Oper := { r.o.oper with guard := r.grd.map fun x => (x.1, x.2.2) }
def Env.off (e : Env) (d : Option Tmp) : Env :=
 match d with
 | some d => e.put d (.tup [])
 | none => e
def gate (c : AV) (b : Bool) (y n o : Ans) : Ans :=
 match c with
 | .bool c => match b with
  | true => branch (.bool c) y n
  | false => branch (.bool c) n y
 | .tup [] => o
 | _ => none
def runOps : List (ROp P) → Cont → Env → St → Ans
 | [], K, env, st => K .normal env st
 | r :: rest, K, env, st =>
  match r.grd with
  | none => r.o.run (Cont.then (runOps rest K) K) env st
  | some (_, d, b) => gate (look env.m d) b (r.o.run (Cont.then (runOps rest K) K) (env.put d (.bool b)) st) (runOps rest K ((env.put d (.bool !b)).off r.o.oper.dst) st) (runOps rest K (env.off r.o.oper.dst) st)
def okGuards (ops : List (ROp P)) : Bool :=
 ops.all fun r => match r.grd with
  | none => true
  | some (j, d, _) => match (ops[j]?).bind (·.oper.dst) with
   | some d' => Nat.beq d' d
   | none => false
theorem EnvRel.off {g : Gh} {w : World} {e : Env} {a : Act} (h : EnvRel g w e a) (d : Option Tmp) : EnvRel g w (e.off d) (a.put d undef) := by
 cases d with
 | none => exact h
 | some d => exact h.put d (x := .tup []) (v := undef) ⟨#[], rfl, rfl⟩
theorem Oper.wp_guard {o : Oper} {x : Option (Nat × Bool)} {a : Act} {w : World} {next : Act → World → Prop} {Q : Exit → Act → World → Prop} {ρ : Option Nat} (h : o.wpIn (Rd ρ) 0 P a w next Q) : Oper.wpIn (Rd ρ) 0 P { o with guard := x } a w next Q := ⟨fun _ _ => trivial, h.2⟩
theorem getD_of_yield {tmps : Array Value} {d : Nat} {b : Bool} (h : tmps.getD d undef = .bool b) : tmps[d]? = some (.bool b) := by
 rw [Array.getD_eq_getD_getElem?] at h
 cases hx : tmps[d]? with
 | none => rw [hx] at h; exact absurd h (by simp [undef])
 | some v => rw [hx] at h; rw [← h]; rfl
theorem runOps_sound (whole : List (ROp P)) (hw : okGuards whole = true) : ∀ (l : List (ROp P)), (∀ r ∈ l, r ∈ whole) → ∀ K env st fin, runOps l K env st = some fin → ∀ g w a, EnvRel g w env a → StRel g st w → ∀ Q, Post K fin g w a.defers Q → ∀ ρ,
  wpListIn (Rd ρ) 0 P (whole.map ROp.oper).toArray Q (l.map ROp.oper) a w
 | [], _, K, env, st, fin, h, g, w, a, he, hs, Q, hp, ρ => hp .normal env st g w a .normal h he hs (Ev.refl g w) (.refl ..) rfl
 | r :: l, hm, K, env, st, fin, h, g, w, a, he, hs, Q, hp, ρ => by
  have ih := runOps_sound whole hw l (fun x hx => hm x (List.mem_cons_of_mem _ hx))
  have step : ∀ env1, EnvRel g w env1 a → r.o.run (Cont.then (runOps l K) K) env1 st = some fin → r.oper.wpIn (Rd ρ) 0 P a w (wpListIn (Rd ρ) 0 P (whole.map ROp.oper).toArray Q (l.map ROp.oper)) Q := by
   intro env1 he1 h1
   refine Oper.wp_guard (r.o.sound _ env1 st fin h1 g w a he1 hs _ _ ?_ ρ)
   intro ex env' st' g' w' a' e k1 k2 k3 k4 k5 k6
   cases ex with
   | normal =>
    obtain rfl := k6
    exact ih K env' st' fin k1 g' w' a' k2 k3 Q (hp.later2 k4 k5) ρ
   | exit id => obtain rfl := k6; exact hp _ _ _ _ _ _ _ k1 k2 k3 k4 k5 rfl
   | goto id => obtain rfl := k6; exact hp _ _ _ _ _ _ _ k1 k2 k3 k4 k5 rfl
   | ret => obtain rfl := k6; exact hp _ _ _ _ _ _ _ k1 k2 k3 k4 k5 rfl
   | panic v => obtain ⟨u, rfl, k7⟩ := k6; exact hp _ _ _ _ _ _ _ k1 k2 k3 k4 k5 ⟨u, rfl, k7⟩
  simp only [runOps] at h
  simp only [List.map_cons]
  unfold wpListIn
  cases hg : r.grd with
  | none =>
   rw [hg] at h
   rw [if_pos (by simp [Region.wanted, ROp.oper, hg])]
   exact step env he h
  | some x =>
   obtain ⟨j, d, b⟩ := x
   rw [hg] at h
   have hok := List.all_eq_true.mp hw r (hm r (List.mem_cons_self))
   simp only [hg] at hok
   have hd : ((whole.map ROp.oper)[j]?).bind (·.dst) = some d := by
    rw [List.getElem?_map]
    cases hj : whole[j]? with
    | none => rw [hj] at hok; simp at hok
    | some y =>
     rw [hj] at hok
     simp only [Option.bind_some, Option.map_some] at hok ⊢
     cases hy : y.oper.dst with
     | none => rw [hy] at hok; simp at hok
     | some d' => rw [hy] at hok; have : d' = d := by simpa using hok
                  rw [this]
   have key : ∀ c : Bool, a.tmps.getD d undef = .bool c → Region.wanted r.oper (yielded (whole.map ROp.oper).toArray a.tmps) = (c == b) := by
    intro c hc
    simp only [Region.wanted, ROp.oper, hg, Option.map_some]
    unfold yielded
    rw [List.getElem?_toArray, hd, Option.bind_some, getD_of_yield hc]
    cases c <;> cases b <;> rfl
   have hv := he.slot d
   have yes : look env.m d = .bool b → r.o.run (Cont.then (runOps l K) K) (env.put d (.bool b)) st = some fin → (if Region.wanted r.oper (yielded (whole.map ROp.oper).toArray a.tmps) = true then r.oper.wpIn (Rd ρ) 0 P a w (wpListIn (Rd ρ) 0 P (whole.map ROp.oper).toArray Q (l.map ROp.oper)) Q else (∀ f, r.oper.about P w a.eval = some f → (Rd ρ).fn f) ∧ wpListIn (Rd ρ) 0 P (whole.map ROp.oper).toArray Q (l.map ROp.oper) (a.put r.oper.dst undef) w) := by
    intro hl hr
    rw [hl] at hv
    rw [if_pos (by rw [key b hv]; simp)]
    exact step _ (he.assume (c := .tmp d) hv) hr
   have no : look env.m d = .bool (!b) → runOps l K ((env.put d (.bool !b)).off r.o.oper.dst) st = some fin → (if Region.wanted r.oper (yielded (whole.map ROp.oper).toArray a.tmps) = true then r.oper.wpIn (Rd ρ) 0 P a w (wpListIn (Rd ρ) 0 P (whole.map ROp.oper).toArray Q (l.map ROp.oper)) Q else (∀ f, r.oper.about P w a.eval = some f → (Rd ρ).fn f) ∧ wpListIn (Rd ρ) 0 P (whole.map ROp.oper).toArray Q (l.map ROp.oper) (a.put r.oper.dst undef) w) := by
    intro hl hr
    rw [hl] at hv
    rw [if_neg (by rw [key _ hv]; cases b <;> simp)]
    refine ⟨fun _ _ => trivial, ih K _ st fin hr g w _ ((he.assume (c := .tmp d) hv).off r.o.oper.dst) hs Q ?_ ρ⟩
    have hdf : (a.put r.oper.dst undef).defers = a.defers := by unfold Act.put; split <;> rfl
    exact (show Post K fin g w (a.put r.oper.dst undef).defers Q by rw [hdf]; exact hp)
   have out : look env.m d = .tup [] → runOps l K (env.off r.o.oper.dst) st = some fin → (if Region.wanted r.oper (yielded (whole.map ROp.oper).toArray a.tmps) = true then r.oper.wpIn (Rd ρ) 0 P a w (wpListIn (Rd ρ) 0 P (whole.map ROp.oper).toArray Q (l.map ROp.oper)) Q else (∀ f, r.oper.about P w a.eval = some f → (Rd ρ).fn f) ∧ wpListIn (Rd ρ) 0 P (whole.map ROp.oper).toArray Q (l.map ROp.oper) (a.put r.oper.dst undef) w) := by
    intro hl hr
    rw [hl] at hv
    obtain ⟨vs, hvs, hv0⟩ := hv
    have hw0 : Region.wanted r.oper (yielded (whole.map ROp.oper).toArray a.tmps) = false := by
     simp only [Region.wanted, ROp.oper, hg, Option.map_some]
     unfold yielded
     rw [List.getElem?_toArray, hd, Option.bind_some]
     rw [Array.getD_eq_getD_getElem?] at hvs
     cases hx : a.tmps[d]? with
     | none => cases b <;> rfl
     | some u => rw [hx] at hvs; simp only [Option.getD_some] at hvs; subst hvs; cases b <;> rfl
    rw [if_neg (by rw [hw0]; simp)]
    refine ⟨fun _ _ => trivial, ih K _ st fin hr g w _ (he.off r.o.oper.dst) hs Q ?_ ρ⟩
    have hdf : (a.put r.oper.dst undef).defers = a.defers := by unfold Act.put; split <;> rfl
    exact (show Post K fin g w (a.put r.oper.dst undef).defers Q by rw [hdf]; exact hp)
   simp only at h
   unfold gate at h
   split at h
   ·rename_i c hc
    cases b with
    | true =>
     cases c with
     | true => exact yes hc h
     | false => exact no hc h
    | false =>
     cases c with
     | true => exact no hc h
     | false => exact yes hc h
   ·rename_i hc; exact out hc h
   ·cases h
def Sim.region (id : Nat) (ops : List (ROp P)) (h : okGuards ops = true) : Sim P where
 code := .region id (ops.map ROp.oper).toArray false
 run F K env st := runOps ops K env st
 sound F K env st fin hr g w a he hs Q hp ρ _ := by
  refine wpIn_region_list ?_
  have := runOps_sound ops h ops (fun _ hx => hx) K env st fin hr g w a he hs Q hp ρ
  simpa using this
end
end Go.V
namespace Go.V
section
variable {P : Program}
def Env.putO (e : Env) (d : Option Tmp) (v : AV) : Env :=
 match d with
 | some d => e.put d v
 | none => e
theorem EnvRel.putO {g : Gh} {w : World} {e : Env} {a : Act} (h : EnvRel g w e a) (d : Option Tmp) {x : AV} {v : Value} (hv : Rel g w x v) :
  EnvRel g w (e.putO d x) (a.put d v) := by
 cases d with
 | none => exact h
 | some d => exact h.put d hv
theorem put_defers (a : Act) (d : Option Tmp) (v : Value) : (a.put d v).defers = a.defers := by unfold Act.put; split <;> rfl
def EvR (g : Gh) (w : World) (ev : Operand → AV) (a : Act) (xs : List Operand) : Prop := ∀ x ∈ xs, Rel g w (ev x) (a.eval x)
theorem EnvRel.ev {g : Gh} {w : World} {e : Env} {a : Act} (h : EnvRel g w e a) (xs : List Operand) : EvR g w e.eval a xs := fun x _ => h.eval x
def Told (P : Program) (oper : Oper) (a : Act) (g : Gh) (w : World) (r : AV) (st' : St) : Prop :=
 ∀ next Q, (∀ v g' w', Rel g' w' r v → StRel g' st' w' → Ev g w g' w' → next (a.put oper.dst v) w') → ∀ ρ, oper.wpIn (Rd ρ) 0 P a w next Q
structure PSim (P : Program) where
 oper : Oper
 plain : oper.guard = none
 xs : List Operand
 f : (Operand → AV) → (AV → Ans) → Ans
 congr : ∀ ev ev' k, (∀ x ∈ xs, ev x = ev' x) → f ev k = f ev' k
 sound : ∀ ev k fin, f ev k = some fin → ∀ g w a st, EvR g w ev a xs → StRel g st w → ∃ r, k r = some fin ∧ Told P oper a g w r st
structure QSim (P : Program) where
 oper : Oper
 plain : oper.guard = none
 xs : List Operand
 f : (Operand → AV) → St → (AV → Ans) → Ans
 congr : ∀ ev ev' st k, (∀ x ∈ xs, ev x = ev' x) → f ev st k = f ev' st k
 sound : ∀ ev st k fin, f ev st k = some fin → ∀ g w a, EvR g w ev a xs → StRel g st w → ∃ r, k r = some fin ∧ Told P oper a g w r st
structure MSim (P : Program) where
 oper : Oper
 plain : oper.guard = none
 xs : List Operand
 f : (Operand → AV) → St → (AV → St → Ans) → Ans
 congr : ∀ ev ev' st k, (∀ x ∈ xs, ev x = ev' x) → f ev st k = f ev' st k
 sound : ∀ ev st k fin, f ev st k = some fin → ∀ g w a, EvR g w ev a xs → StRel g st w → ∃ r st', k r st' = some fin ∧ Told P oper a g w r st'
theorem wpIn_enter {o : Oper} {a : Act} {w w' : World} {f : FuncId} {vals : Array Value} {next : Act → World → Prop} {Q : Exit → Act → World → Prop} {ρ : Option Nat} (h : (execOp a.eval o).run P w = .ok (.enter f vals) w')
  (hk : o.uponIn (Rd ρ) 0 P a next Q (.ok (.enter f vals) w')) : o.wpIn (Rd ρ) 0 P a w next Q :=
 ⟨fun _ _ => trivial, by rw [show (o.semAt (Rd ρ).round a.eval).run P w = _ from semAt_of h fun _ e => (by cases e)]; exact hk⟩
theorem wpIn_value {o : Oper} {a : Act} {w w' : World} {v : Value} {next : Act → World → Prop} {Q : Exit → Act → World → Prop} {ρ : Option Nat} (h : (execOp a.eval o).run P w = .ok (.value v) w')
  (hk : next (a.put o.dst v) w') : o.wpIn (Rd ρ) 0 P a w next Q :=
 ⟨fun _ _ => trivial, by rw [show (o.semAt (Rd ρ).round a.eval).run P w = _ from semAt_of h fun _ e => (by cases e)]; exact hk⟩
theorem wpIn_skip' {o : Oper} {a : Act} {w w' : World} {next : Act → World → Prop} {Q : Exit → Act → World → Prop} {ρ : Option Nat} (h : (execOp a.eval o).run P w = .ok .skip w')
  (hk : next (a.put o.dst undef) w') : o.wpIn (Rd ρ) 0 P a w next Q :=
 ⟨fun _ _ => trivial, by rw [show (o.semAt (Rd ρ).round a.eval).run P w = _ from semAt_of h fun _ e => (by cases e)]; exact hk⟩
theorem upon_enter' {o : Oper} {a : Act} {w : World} {f : FuncId} {vals : Array Value} {next : Act → World → Prop} {Q : Exit → Act → World → Prop} {ρ : Option Nat}
  (hc : Calls P f vals w fun e w'' => (∀ v, e = .returned v → next (a.put o.dst v) w'') ∧ (∀ ch, e = .panicked ch → Q (.panic ch) a w'') ∧ e ≠ .outgrown) : o.uponIn (Rd ρ) 0 P a next Q (.ok (.enter f vals) w) := by
 rw [Oper.uponIn_enter]
 refine ⟨rd_depth, rd_calls (hc.mono fun e w'' ⟨h1, h2, h3⟩ => ?_)⟩
 cases e with
 | returned v => exact h1 v rfl
 | panicked ch => exact h2 ch rfl
 | outgrown => exact absurd rfl h3
theorem told_value {oper : Oper} {a : Act} {g g' : Gh} {w w' : World} {r : AV} {v : Value} {st' : St} (h : (execOp a.eval oper).run P w = .ok (.value v) w') (hr : Rel g' w' r v) (hs : StRel g' st' w') (he : Ev g w g' w') : Told P oper a g w r st' := by
 intro next Q hn ρ
 refine ⟨fun _ _ => trivial, ?_⟩
 rw [show (oper.semAt (Rd ρ).round a.eval).run P w = _ from semAt_of h fun _ e => (by cases e), Oper.uponIn_value]
 exact hn v g' w' hr hs he
theorem told_skip {oper : Oper} {a : Act} {g g' : Gh} {w w' : World} {st' : St} (h : (execOp a.eval oper).run P w = .ok .skip w') (hs : StRel g' st' w') (he : Ev g w g' w') : Told P oper a g w .dead st' := by
 intro next Q hn ρ
 refine ⟨fun _ _ => trivial, ?_⟩
 rw [show (oper.semAt (Rd ρ).round a.eval).run P w = _ from semAt_of h fun _ e => (by cases e), Oper.uponIn_skip]
 exact hn undef g' w' trivial hs he
def retA (r : AV) : Ans := some (.ret r, default)
def thenA (a : Ans) (k : AV → Ans) : Ans :=
 match a with
 | some (.ret r, _) => k r
 | _ => none
def retM (r : AV) (st : St) : Ans := some (.ret r, st)
def thenM (a : Ans) (k : AV → St → Ans) : Ans :=
 match a with
 | some (.ret r, st) => k r st
 | _ => none
def MSim.NatM (x : MSim P) : Prop := ∀ ev st k, x.f ev st k = thenM (x.f ev st retM) k
def PSim.Nat (x : PSim P) : Prop := ∀ ev k, x.f ev k = thenA (x.f ev retA) k
def QSim.Nat (x : QSim P) : Prop := ∀ ev st k, x.f ev st k = thenA (x.f ev st retA) k
def PSim.quiet (oper : Oper) (hg : oper.guard = none) (xs : List Operand) (f : (Operand → AV) → (AV → Ans) → Ans) (hc : ∀ ev ev' k, (∀ x ∈ xs, ev x = ev' x) → f ev k = f ev' k)
  (hf : ∀ ev k fin, f ev k = some fin → ∀ g w a st, EvR g w ev a xs → StRel g st w → ∃ r v, k r = some fin ∧ (execOp a.eval oper).run P w = .ok (.value v) w ∧ Rel g w r v) : PSim P where
 oper := oper
 plain := hg
 xs := xs
 f := f
 congr := hc
 sound ev k fin h g w a st he hs := by
  obtain ⟨r, v, h1, h2, h3⟩ := hf ev k fin h g w a st he hs
  exact ⟨r, h1, told_value h2 h3 hs (Ev.refl g w)⟩
def QSim.quiet (oper : Oper) (hg : oper.guard = none) (xs : List Operand) (f : (Operand → AV) → St → (AV → Ans) → Ans) (hc : ∀ ev ev' st k, (∀ x ∈ xs, ev x = ev' x) → f ev st k = f ev' st k)
  (hf : ∀ ev st k fin, f ev st k = some fin → ∀ g w a, EvR g w ev a xs → StRel g st w → ∃ r v, k r = some fin ∧ (execOp a.eval oper).run P w = .ok (.value v) w ∧ Rel g w r v) : QSim P where
 oper := oper
 plain := hg
 xs := xs
 f := f
 congr := hc
 sound ev st k fin h g w a he hs := by
  obtain ⟨r, v, h1, h2, h3⟩ := hf ev st k fin h g w a he hs
  exact ⟨r, h1, told_value h2 h3 hs (Ev.refl g w)⟩
def PSim.makes (oper : Oper) (hg : oper.guard = none) (xs : List Operand) (f : (Operand → AV) → (AV → Ans) → Ans) (hc : ∀ ev ev' k, (∀ x ∈ xs, ev x = ev' x) → f ev k = f ev' k)
  (hf : ∀ ev k fin, f ev k = some fin → ∀ g w a st, EvR g w ev a xs → StRel g st w → ∃ r v g' w', k r = some fin ∧ (execOp a.eval oper).run P w = .ok (.value v) w' ∧ Rel g' w' r v ∧ StRel g' st w' ∧ Ev g w g' w') : PSim P where
 oper := oper
 plain := hg
 xs := xs
 f := f
 congr := hc
 sound ev k fin h g w a st he hs := by
  obtain ⟨r, v, g', w', h1, h2, h3, h4, h5⟩ := hf ev k fin h g w a st he hs
  exact ⟨r, h1, told_value h2 h3 h4 h5⟩
def MSim.makes (oper : Oper) (hg : oper.guard = none) (xs : List Operand) (f : (Operand → AV) → St → (AV → St → Ans) → Ans) (hc : ∀ ev ev' st k, (∀ x ∈ xs, ev x = ev' x) → f ev st k = f ev' st k)
  (hf : ∀ ev st k fin, f ev st k = some fin → ∀ g w a, EvR g w ev a xs → StRel g st w → ∃ r v st' g' w', k r st' = some fin ∧ (execOp a.eval oper).run P w = .ok (.value v) w' ∧ Rel g' w' r v ∧ StRel g' st' w' ∧ Ev g w g' w') : MSim P where
 oper := oper
 plain := hg
 xs := xs
 f := f
 congr := hc
 sound ev st k fin h g w a he hs := by
  obtain ⟨r, v, st', g', w', h1, h2, h3, h4, h5⟩ := hf ev st k fin h g w a he hs
  exact ⟨r, st', h1, told_value h2 h3 h4 h5⟩
def MSim.does (oper : Oper) (hg : oper.guard = none) (xs : List Operand) (f : (Operand → AV) → St → (AV → St → Ans) → Ans) (hc : ∀ ev ev' st k, (∀ x ∈ xs, ev x = ev' x) → f ev st k = f ev' st k)
  (hf : ∀ ev st k fin, f ev st k = some fin → ∀ g w a, EvR g w ev a xs → StRel g st w → ∃ st' g' w', k .dead st' = some fin ∧ (execOp a.eval oper).run P w = .ok .skip w' ∧ StRel g' st' w' ∧ Ev g w g' w') : MSim P where
 oper := oper
 plain := hg
 xs := xs
 f := f
 congr := hc
 sound ev st k fin h g w a he hs := by
  obtain ⟨st', g', w', h1, h2, h4, h5⟩ := hf ev st k fin h g w a he hs
  exact ⟨.dead, st', h1, told_skip h2 h4 h5⟩
def PSim.q (p : PSim P) : QSim P where
 oper := p.oper
 plain := p.plain
 xs := p.xs
 f ev st k := p.f ev k
 congr ev ev' st k h := p.congr ev ev' k h
 sound ev st k fin h g w a he hs := p.sound ev k fin h g w a st he hs
def QSim.m (p : QSim P) : MSim P where
 oper := p.oper
 plain := p.plain
 xs := p.xs
 f ev st k := p.f ev st fun r => k r st
 congr ev ev' st k h := p.congr ev ev' st _ h
 sound ev st k fin h g w a he hs := by
  obtain ⟨r, h1, h2⟩ := p.sound ev st _ fin h g w a he hs
  exact ⟨r, st, h1, h2⟩
def Cont.op (K : Cont) (env : Env) (dst : Option Tmp) : AV → St → Ans := fun r st' => K .normal (env.putO dst r) st'
def MSim.op (p : MSim P) : OpSim P where
 oper := p.oper
 plain := p.plain
 run K env st := p.f env.eval st (Cont.op K env p.oper.dst)
 sound K env st fin h g w a he hs next Q hp ρ := by
  obtain ⟨r, st', h1, h2⟩ := p.sound _ st _ fin h g w a (he.ev _) hs
  exact h2 next Q (fun v g' w' k1 k2 k3 => hp .normal _ st' g' w' _ .normal h1 ((he.mono k3).putO _ k1) k2 k3 (.of_eq (put_defers ..)) rfl) ρ
def PSim.op (p : PSim P) : OpSim P where
 oper := p.oper
 plain := p.plain
 run K env st := p.f env.eval fun r => Cont.op K env p.oper.dst r st
 sound := p.q.m.op.sound
def QSim.op (p : QSim P) : OpSim P where
 oper := p.oper
 plain := p.plain
 run K env st := p.f env.eval st fun r => Cont.op K env p.oper.dst r st
 sound := p.m.op.sound
theorem run_sizeOf' {t : TypeId} {n : Nat} (h : (P.info? t).map (·.size) = some n) (w : World) : (sizeOf t).run P w = .ok n w := by
 cases hi : P.info? t with
 | none => rw [hi] at h; cases h
 | some i =>
  rw [hi] at h
  simp only [Option.map_some, Option.some.injEq] at h
  simp [sizeOf, typeInfo, hi, h]
theorem run_zeroValue' {t : TypeId} {z : Value} (h : (P.info? t).bind (·.zero) = some z) (w : World) : (zeroValue t).run P w = .ok z w := by
 cases hi : P.info? t with
 | none => rw [hi] at h; cases h
 | some i =>
  rw [hi] at h
  simp only [Option.bind_some] at h
  simp [zeroValue, typeInfo, hi, h]
def mkOp (dst : Option Tmp) (op : Op) (ty : TypeId) (pos : String) (after : Array Edge) : Oper := { dst, op, type := ty, pos, after, guard := none }
def opMove (dst : Option Tmp) (x : Operand) (ty : TypeId) (pos : String) (after : Array Edge) : PSim P :=
 PSim.quiet (mkOp dst (.move x) ty pos after) rfl [x] (fun ev k => k (ev x)) (fun ev ev' k h => by simp only [h x (by simp)]) fun ev k fin h g w a st he hs => ⟨_, _, h, rfl, he x (by simp)⟩
def opAssign (dst : Option Tmp) (x : Operand) (ty : TypeId) (pos : String) (after : Array Edge) : PSim P :=
 PSim.quiet (mkOp dst (.assign x) ty pos after) rfl [x] (fun ev k => k (ev x)) (fun ev ev' k h => by simp only [h x (by simp)]) fun ev k fin h g w a st he hs => ⟨_, _, h, rfl, he x (by simp)⟩
def opPick (dst : Option Tmp) (c x y : Operand) (ty : TypeId) (pos : String) (after : Array Edge) : PSim P :=
 PSim.quiet (mkOp dst (.pick c x y) ty pos after) rfl [c, x, y] (fun ev k => branch (ev c) (k (ev x)) (k (ev y))) (fun ev ev' k h => by simp only [h c (by simp), h x (by simp), h y (by simp)]) fun ev k fin h g w a st he hs => by
  have hv := he c (by simp)
  unfold branch at h
  split at h
  ·rename_i hc; rw [hc] at hv; have hv : a.eval c = .bool true := hv
   exact ⟨_, _, h, by simp [execOp, mkOp, hv, asBool], he x (by simp)⟩
  ·rename_i hc; rw [hc] at hv; have hv : a.eval c = .bool false := hv
   exact ⟨_, _, h, by simp [execOp, mkOp, hv, asBool], he y (by simp)⟩
  ·cases h
def bitsI (op : BinOp) (k : IntKind) (x y : Int) : Int :=
 match op with
 | .and => k.wrap (BitVec.ofInt k.bits x &&& BitVec.ofInt k.bits y).toNat
 | .or => k.wrap (BitVec.ofInt k.bits x ||| BitVec.ofInt k.bits y).toNat
 | .xor => k.wrap (BitVec.ofInt k.bits x ^^^ BitVec.ofInt k.bits y).toNat
 | .andNot => k.wrap (BitVec.ofInt k.bits x &&& ~~~ BitVec.ofInt k.bits y).toNat
 | _ => 0
def onInt (x : AV) (s : IntKind → Int → Ans) : Ans :=
 match x with
 | .int k n => s k n
 | _ => none
def onStr (x : AV) (s : ByteArray → Ans) : Ans :=
 match x with
 | .str b => s b
 | _ => none
def onBool (x : AV) (s : Bool → Ans) : Ans :=
 match x with
 | .bool b => s b
 | _ => none
theorem onInt_some {x : AV} {s : IntKind → Int → Ans} {fin : Fin × St} (h : onInt x s = some fin) : ∃ k n, x = .int k n ∧ s k n = some fin := by
 unfold onInt at h
 split at h
 ·exact ⟨_, _, rfl, h⟩
 ·cases h
theorem onStr_some {x : AV} {s : ByteArray → Ans} {fin : Fin × St} (h : onStr x s = some fin) : ∃ b, x = .str b ∧ s b = some fin := by
 unfold onStr at h
 split at h
 ·exact ⟨_, rfl, h⟩
 ·cases h
def aint (op : BinOp) (kx : IntKind) (a : Int) (ky : IntKind) (b : Int) (k : AV → Ans) : Ans :=
 match op with
 | .shl => if 0 ≤ b then k (.int kx (kx.wrap (a * 2 ^ min b.toNat kx.bits))) else none
 | .shr => if 0 ≤ b then k (.int kx (a.fdiv (2 ^ min b.toNat kx.bits))) else none
 | .add => if kx = ky then k (.int kx (kx.wrap (a + b))) else none
 | .sub => if kx = ky then k (.int kx (kx.wrap (a - b))) else none
 | .mul => if kx = ky then k (.int kx (kx.wrap (a * b))) else none
 | .quo => if kx = ky then (if b = 0 then none else k (.int kx (kx.wrap (a.tdiv b)))) else none
 | .rem => if kx = ky then (if b = 0 then none else k (.int kx (a.tmod b))) else none
 | .and => if kx = ky then k (.int kx (bitsI .and kx a b)) else none
 | .or => if kx = ky then k (.int kx (bitsI .or kx a b)) else none
 | .xor => if kx = ky then k (.int kx (bitsI .xor kx a b)) else none
 | .andNot => if kx = ky then k (.int kx (bitsI .andNot kx a b)) else none
 | .eql => if kx = ky then k (.bool (a == b)) else none
 | .neq => if kx = ky then k (.bool (a != b)) else none
 | .lss => if kx = ky then k (.bool (a < b)) else none
 | .leq => if kx = ky then k (.bool (a ≤ b)) else none
 | .gtr => if kx = ky then k (.bool (a > b)) else none
 | .geq => if kx = ky then k (.bool (a ≥ b)) else none
def atext (op : BinOp) (a b : ByteArray) (k : AV → Ans) : Ans :=
 match op with
 | .add => if ((a.size + b.size : Nat) : Int) > IntKind.i64.max then none else k (.str (a ++ b))
 | .eql => k (.bool (a.toList == b.toList))
 | .neq => k (.bool (!(a.toList == b.toList)))
 | .lss => k (.bool (Op.bytesLess a.toList b.toList))
 | .leq => k (.bool (Op.bytesLess a.toList b.toList || a.toList == b.toList))
 | .gtr => k (.bool (!(Op.bytesLess a.toList b.toList || a.toList == b.toList)))
 | .geq => k (.bool (!Op.bytesLess a.toList b.toList))
 | _ => none
def abinI (op : BinOp) (x y : AV) (k : AV → Ans) : Ans := onInt x fun kx a => onInt y fun ky b => aint op kx a ky b k
def abinS (op : BinOp) (x y : AV) (k : AV → Ans) : Ans := onStr x fun a => onStr y fun b => atext op a b k
theorem abinI_run (op : BinOp) (T : TypeId) (x y : Operand) {X Y : AV} {a b : Value} {k : AV → Ans} {fin : Fin × St} (h : abinI op X Y k = some fin) {g : Gh} {w : World} (hx : Rel g w X a) (hy : Rel g w Y b) :
  ∃ r v, k r = some fin ∧ (do eqGuard op T x y a b; binOp op T a b : Sem Value).run P w = .ok v w ∧ Rel g w r v := by
 obtain ⟨kx, a1, rfl, h0⟩ := onInt_some h
 obtain ⟨ky, b1, rfl, h2⟩ := onInt_some h0
 clear h h0
 have h := h2
 clear h2
 obtain rfl : a = .int kx a1 := hx
 obtain rfl : b = .int ky b1 := hy
 unfold aint at h
 cases op <;> simp only at h <;> (repeat (split at h)) <;> first
  | (cases h; done)
  | (rename_i hk; subst hk; exact ⟨_, _, h, by simp [eqGuard, binOp, Op.intArith, Op.intBits, Op.intCmp, bitsI] <;> rfl, rfl⟩)
  | (rename_i hk hb; subst hk; exact ⟨_, _, h, by simp [eqGuard, binOp, Op.intDiv, hb] <;> rfl, rfl⟩)
  | (rename_i hb; exact ⟨_, _, h, by simp [eqGuard, binOp, Op.shift, show ¬ b1 < 0 by omega] <;> rfl, rfl⟩)
theorem abinS_run (op : BinOp) (T : TypeId) (x y : Operand) {X Y : AV} {a b : Value} {k : AV → Ans} {fin : Fin × St} (h : abinS op X Y k = some fin) {g : Gh} {w : World} (hx : Rel g w X a) (hy : Rel g w Y b) :
  ∃ r v, k r = some fin ∧ (do eqGuard op T x y a b; binOp op T a b : Sem Value).run P w = .ok v w ∧ Rel g w r v := by
 obtain ⟨a1, rfl, h0⟩ := onStr_some h
 obtain ⟨b1, rfl, h2⟩ := onStr_some h0
 clear h h0
 have h := h2
 clear h2
 obtain rfl : a = .string a1 := hx
 obtain rfl : b = .string b1 := hy
 unfold atext at h
 cases op <;> simp only at h <;> (try (split at h)) <;> first
  | (cases h; done)
  | (rename_i hk; exact ⟨_, _, h, by simp only [eqGuard, binOp, Op.stringOp]; rw [if_neg hk]; simp, rfl⟩)
  | (exact ⟨_, _, h, by simp [eqGuard, binOp, Op.stringOp] <;> rfl, rfl⟩)
def opBin (dst : Option Tmp) (op : BinOp) (T : TypeId) (x y : Operand) (T' : TypeId) (ty : TypeId) (pos : String) (after : Array Edge) : PSim P :=
 PSim.quiet (mkOp dst (.binOp op T x y T') ty pos after) rfl [x, y] (fun ev k => abinI op (ev x) (ev y) k) (fun ev ev' k h => by simp only [h x (by simp), h y (by simp)]) fun ev k fin h g w a st he hs => by
  obtain ⟨r, v, h1, h2, h3⟩ := abinI_run (P := P) op T x y h (he x (by simp)) (he y (by simp))
  exact ⟨r, v, h1, by simp only [execOp, mkOp]; rw [Sem.run_bind, h2]; rfl, h3⟩
def opBinS (dst : Option Tmp) (op : BinOp) (T : TypeId) (x y : Operand) (T' : TypeId) (ty : TypeId) (pos : String) (after : Array Edge) : PSim P :=
 PSim.quiet (mkOp dst (.binOp op T x y T') ty pos after) rfl [x, y] (fun ev k => abinS op (ev x) (ev y) k) (fun ev ev' k h => by simp only [h x (by simp), h y (by simp)]) fun ev k fin h g w a st he hs => by
  obtain ⟨r, v, h1, h2, h3⟩ := abinS_run (P := P) op T x y h (he x (by simp)) (he y (by simp))
  exact ⟨r, v, h1, by simp only [execOp, mkOp]; rw [Sem.run_bind, h2]; rfl, h3⟩
def anyConst (x y : Operand) : Bool :=
 match x, y with
 | .const _, _ => true
 | _, .const _ => true
 | _, _ => false
def nilIn (d : TypeDesc) (x : AV) : Option Bool :=
 match d with
 | .slice _ => match x with
  | .nilsl => some true
  | .ns z _ _ => some z
  | .vs .. => some false
  | .sl .. => some false
  | .lg .. => some false
  | .ms .. => some false
  | _ => none
 | .pointer _ => match x with
  | .nilptr => some true
  | .ptr .. => some false
  | .vp .. => some false
  | .tp .. => some false
  | .eptr .. => some false
  | _ => none
 | .map _ _ => match x with
  | .nilmap => some true
  | .mp .. => some false
  | _ => none
 | .func _ _ _ => match x with
  | .nilfn => some true
  | .fn .. => some false
  | _ => none
 | .interface _ => match x with
  | .nilif => some true
  | .ifc .. => some false
  | _ => none
 | _ => none
def nilV (d : TypeDesc) (b : Bool) (v : Value) : Prop :=
 match d, b with
 | .slice _, true => v = .slice none 0 0
 | .slice _, false => ∃ p n c, v = .slice (some p) n c
 | .pointer _, true => v = .pointer none
 | .pointer _, false => ∃ p, v = .pointer (some p)
 | .map _ _, true => v = .map none
 | .map _ _, false => ∃ p, v = .map (some p)
 | .func _ _ _, true => v = .nilFunc
 | .func _ _ _, false => ∃ p q r, v = .func p q r
 | .interface _, true => v = .nilIface
 | .interface _, false => ∃ p q, v = .iface p q
 | _, _ => False
theorem nilIn_shape {d : TypeDesc} {x : AV} {b : Bool} (h : nilIn d x = some b) {g : Gh} {w : World} {v : Value} (hv : Rel g w x v) : nilV d b v := by
 by_cases hx : ∃ z sz l, x = .ns z sz l
 ·obtain ⟨z, sz, l, rfl⟩ := hx
  unfold nilIn at h
  split at h <;> simp only [Option.some.injEq, reduceCtorEq] at h
  subst h
  rcases hv with ⟨rfl, _, rfl⟩ | ⟨rfl, _, _, _, _, rfl, _⟩
  ·rfl
  ·exact ⟨_, _, _, rfl⟩
 unfold nilIn at h
 split at h <;> (try (cases h; done)) <;> split at h <;> (try (exact absurd ⟨_, _, _, rfl⟩ hx)) <;> (try (cases h; done)) <;> simp only [Option.some.injEq] at h <;> subst h <;> simp only [Rel] at hv <;> simp only [nilV]
 all_goals first
  | exact hv
  | (obtain ⟨_, _, hv, _⟩ := hv; exact FnR.isfn hv)
  | (obtain ⟨_, _, _, rfl, _⟩ := hv; exact ⟨_, _, _, rfl⟩)
  | (obtain ⟨_, _, _, _, rfl, _⟩ := hv; exact ⟨_, _, _, rfl⟩)
  | (obtain ⟨_, _, _, _, _, rfl, _⟩ := hv; exact ⟨_, _, _, rfl⟩)
  | (obtain ⟨_, _, rfl, _⟩ := hv; exact ⟨_, _, _, rfl⟩)
  | (obtain ⟨_, _, rfl⟩ := hv; exact ⟨_, rfl⟩)
  | (obtain ⟨_, _, rfl, _⟩ := hv; exact ⟨_, rfl⟩)
  | (obtain ⟨_, rfl, _⟩ := hv; exact ⟨_, rfl⟩)
  | (obtain ⟨_, rfl, _⟩ := hv; exact ⟨_, _, rfl⟩)
def aeq (d : TypeDesc) (x y : AV) (k : Bool → Ans) : Ans :=
 match d with
 | .bool => match x, y with
  | .bool a, .bool b => k (a == b)
  | _, _ => none
 | d => match nilIn d y with
  | some true => match nilIn d x with
   | some b => k b
   | none => none
  | some false => match nilIn d x with
   | some true => k false
   | _ => none
  | none => none
theorem run_equal_nil (T : TypeId) {d : TypeDesc} (hd : P.underlying T = some d) {a b : Value} {p q : Bool} (ha : nilV d p a) (hb : nilV d q b) (h : p = true ∨ q = true) (w : World) :
  (Op.equal T a b).run P w = .ok (p && q) w := by
 have hun : ∀ w, (underlying T).run P w = .ok d w := fun w => run_underlying hd w
 show (Op.equalIn (9999 + 1) T a b).run P w = _
 rw [Op.equalIn]
 cases d <;> cases p <;> cases q <;> simp only [nilV] at ha hb <;> (try (exact ha.elim)) <;> (try (simp at h; done))
 all_goals (try obtain ⟨_, _, _, rfl⟩ := ha)
 all_goals (try obtain ⟨_, _, rfl⟩ := ha)
 all_goals (try obtain ⟨_, rfl⟩ := ha)
 all_goals (try obtain rfl := ha)
 all_goals (try obtain ⟨_, _, _, rfl⟩ := hb)
 all_goals (try obtain ⟨_, _, rfl⟩ := hb)
 all_goals (try obtain ⟨_, rfl⟩ := hb)
 all_goals (try obtain rfl := hb)
 all_goals simp [hun]
theorem run_eqGuard_nil (op : BinOp) (T : TypeId) {d : TypeDesc} {a b : Value} {p q : Bool} (ha : nilV d p a) (hb : nilV d q b) {x y : Operand} (hc : anyConst x y = true) (w : World) :
  (eqGuard op T x y a b).run P w = .ok () w := by
 have hcc : ((match x with | .const _ => true | _ => false) || (match y with | .const _ => true | _ => false)) = true := by
  unfold anyConst at hc; cases x <;> cases y <;> simp_all
 unfold eqGuard
 cases d <;> cases p <;> cases q <;> simp only [nilV] at ha hb <;> (try (exact ha.elim))
 all_goals (try obtain ⟨_, _, _, rfl⟩ := ha)
 all_goals (try obtain ⟨_, _, rfl⟩ := ha)
 all_goals (try obtain ⟨_, rfl⟩ := ha)
 all_goals (try obtain rfl := ha)
 all_goals (try obtain ⟨_, _, _, rfl⟩ := hb)
 all_goals (try obtain ⟨_, _, rfl⟩ := hb)
 all_goals (try obtain ⟨_, rfl⟩ := hb)
 all_goals (try obtain rfl := hb)
 all_goals (split <;> (try simp))
 all_goals (cases x <;> cases y <;> simp_all [anyConst])
theorem aeq_run (T : TypeId) {d : TypeDesc} (hd : P.underlying T = some d) {x y : Operand} (hc : anyConst x y = true ∨ d = .bool) {X Y : AV} {a b : Value} {k : Bool → Ans} {fin : Fin × St} (h : aeq d X Y k = some fin) {g : Gh} {w : World} (hx : Rel g w X a) (hy : Rel g w Y b) :
  ∃ r, k r = some fin ∧ (eqGuard .eql T x y a b).run P w = .ok () w ∧ (eqGuard .neq T x y a b).run P w = .ok () w ∧ (binOp .eql T a b).run P w = .ok (.bool r) w ∧ (binOp .neq T a b).run P w = .ok (.bool !r) w := by
 unfold aeq at h
 split at h
 ·split at h
  ·rename_i a1 b1
   obtain rfl : a = .bool a1 := hx
   obtain rfl : b = .bool b1 := hy
   have : (Op.equal T (.bool a1) (.bool b1)).run P w = .ok (a1 == b1) w := by
    show (Op.equalIn (9999 + 1) T _ _).run P w = _
    rw [Op.equalIn]
    simp [run_underlying hd w]
   refine ⟨_, h, by simp [eqGuard], by simp [eqGuard], by simp [binOp, this], by simp [binOp, this]⟩
  ·cases h
 ·rename_i hnb
  have hc : anyConst x y = true := hc.resolve_right hnb
  have key : ∀ p q, nilIn d X = some p → nilIn d Y = some q → (p = true ∨ q = true) → k (p && q) = some fin → ∃ r, k r = some fin ∧ (eqGuard .eql T x y a b).run P w = .ok () w ∧ (eqGuard .neq T x y a b).run P w = .ok () w ∧ (binOp .eql T a b).run P w = .ok (.bool r) w ∧ (binOp .neq T a b).run P w = .ok (.bool !r) w := by
   intro p q hp hq hpq hk
   have ha := nilIn_shape hp hx
   have hb := nilIn_shape hq hy
   have he := run_equal_nil (P := P) T hd ha hb hpq w
   have h1 : binOp .eql T a b = (do pure (.bool (← Op.equal T a b)) : Sem Value) := by
    cases d <;> cases p <;> cases q <;> simp only [nilV] at ha hb <;> (try (exact ha.elim))
    all_goals (try obtain ⟨_, _, _, rfl⟩ := ha)
    all_goals (try obtain ⟨_, _, rfl⟩ := ha)
    all_goals (try obtain ⟨_, rfl⟩ := ha)
    all_goals (try obtain rfl := ha)
    all_goals (try obtain ⟨_, _, _, rfl⟩ := hb)
    all_goals (try obtain ⟨_, _, rfl⟩ := hb)
    all_goals (try obtain ⟨_, rfl⟩ := hb)
    all_goals (try obtain rfl := hb)
    all_goals rfl
   have h2 : binOp .neq T a b = (do pure (.bool (!(← Op.equal T a b))) : Sem Value) := by
    cases d <;> cases p <;> cases q <;> simp only [nilV] at ha hb <;> (try (exact ha.elim))
    all_goals (try obtain ⟨_, _, _, rfl⟩ := ha)
    all_goals (try obtain ⟨_, _, rfl⟩ := ha)
    all_goals (try obtain ⟨_, rfl⟩ := ha)
    all_goals (try obtain rfl := ha)
    all_goals (try obtain ⟨_, _, _, rfl⟩ := hb)
    all_goals (try obtain ⟨_, _, rfl⟩ := hb)
    all_goals (try obtain ⟨_, rfl⟩ := hb)
    all_goals (try obtain rfl := hb)
    all_goals rfl
   exact ⟨_, hk, run_eqGuard_nil .eql T ha hb hc w, run_eqGuard_nil .neq T ha hb hc w, by rw [h1]; simp [he], by rw [h2]; simp [he]⟩
  split at h
  ·rename_i hY
   split at h
   ·rename_i q hX
    exact key q true hX hY (.inr rfl) (by simpa using h)
   ·cases h
  ·rename_i hY
   split at h
   ·rename_i hX
    exact key true false hX hY (.inl rfl) (by simpa using h)
   ·cases h
  ·cases h
def opEq (dst : Option Tmp) (T : TypeId) (d : TypeDesc) (hd : P.underlying T = some d) (x y : Operand) (hc : anyConst x y = true ∨ d = .bool) (T' : TypeId) (ty : TypeId) (pos : String) (after : Array Edge) : PSim P :=
 PSim.quiet (mkOp dst (.binOp .eql T x y T') ty pos after) rfl [x, y] (fun ev k => aeq d (ev x) (ev y) fun b => k (.bool b)) (fun ev ev' k h => by simp only [h x (by simp), h y (by simp)]) fun ev k fin h g w a st he hs => by
  obtain ⟨r, h1, h2, h3, h4, h5⟩ := aeq_run (P := P) T hd hc h (he x (by simp)) (he y (by simp))
  exact ⟨_, _, h1, by simp only [execOp, mkOp]; rw [Sem.run_bind, Sem.run_bind, h2]; simp only [Result.andThen_ok, h4]; rfl, rfl⟩
end
end Go.V
namespace Go.V
section
variable {P : Program}
def takeN : Nat → List AV → Option (List AV)
 | 0, _ => some []
 | _ + 1, [] => none
 | n + 1, a :: l => match takeN n l with
  | some r => some (a :: r)
  | none => none
theorem takeN_eq : ∀ (n : Nat) (l r : List AV), takeN n l = some r → r = l.take n ∧ n ≤ l.length
 | 0, l, r, h => by simp [takeN] at h; simp [h]
 | n + 1, [], r, h => by simp [takeN] at h
 | n + 1, a :: l, r, h => by
  simp only [takeN] at h
  split at h
  ·rename_i r' hr
   obtain ⟨h1, h2⟩ := takeN_eq n l r' hr
   simp only [Option.some.injEq] at h
   subst h; subst h1
   exact ⟨rfl, by simpa using h2⟩
  ·cases h
theorem RelAll.length {g : Gh} {w : World} : ∀ (cs : List AV) (vs : List Value), RelAll g w cs vs → cs.length = vs.length
 | [], vs, h => by obtain rfl : vs = [] := h; rfl
 | c :: cs, vs, ⟨v, vr, e, _, h⟩ => by subst e; simp [RelAll.length cs vr h]
theorem RelAll.drop {g : Gh} {w : World} : ∀ (n : Nat) (cs : List AV) (vs : List Value), RelAll g w cs vs → RelAll g w (cs.drop n) (vs.drop n)
 | 0, cs, vs, h => h
 | n + 1, [], vs, h => by obtain rfl : vs = [] := h; exact rfl
 | n + 1, c :: cs, vs, ⟨v, vr, e, _, h⟩ => by subst e; exact RelAll.drop n cs vr h
theorem RelAll.take {g : Gh} {w : World} : ∀ (n : Nat) (cs : List AV) (vs : List Value), RelAll g w cs vs → RelAll g w (cs.take n) (vs.take n)
 | 0, cs, vs, h => rfl
 | n + 1, [], vs, h => by obtain rfl : vs = [] := h; exact rfl
 | n + 1, c :: cs, vs, ⟨v, vr, e, hv, h⟩ => by subst e; exact ⟨v, vr.take n, rfl, hv, RelAll.take n cs vr h⟩
theorem RelAll.get {g : Gh} {w : World} : ∀ (cs : List AV) (vs : List Value) (i : Nat) (c : AV), RelAll g w cs vs → cs[i]? = some c → ∃ v, vs[i]? = some v ∧ Rel g w c v
 | [], vs, i, c, h, hc => by simp at hc
 | x :: cs, vs, 0, c, ⟨v, vr, e, hv, h⟩, hc => by subst e; simp at hc; subst hc; exact ⟨v, rfl, hv⟩
 | x :: cs, vs, i + 1, c, ⟨v, vr, e, hv, h⟩, hc => by subst e; simpa using RelAll.get cs vr i c h (by simpa using hc)
theorem RelAll.append {g : Gh} {w : World} : ∀ (cs ds : List AV) (vs us : List Value), RelAll g w cs vs → RelAll g w ds us → RelAll g w (cs ++ ds) (vs ++ us)
 | [], ds, vs, us, h, k => by obtain rfl : vs = [] := h; exact k
 | c :: cs, ds, vs, us, ⟨v, vr, e, hv, h⟩, k => by subst e; exact ⟨v, vr ++ us, rfl, hv, RelAll.append cs ds vr us h k⟩
theorem RelCells.drop {g : Gh} {w : World} : ∀ (n : Nat) (cs : List AV) (b off : Nat), RelCells g w cs b off → RelCells g w (cs.drop n) b (off + n)
 | 0, cs, b, off, h => h
 | n + 1, [], b, off, h => trivial
 | n + 1, c :: cs, b, off, ⟨_, h⟩ => by
  have := RelCells.drop n cs b (off + 1) h
  rwa [show off + 1 + n = off + (n + 1) by omega] at this
theorem RelCells.values {g : Gh} {w : World} : ∀ (cs : List AV) (b off : Nat), RelCells g w cs b off → ∃ vs : List Value, RelAll g w cs vs ∧ ∀ j v, vs[j]? = some v → w.cell? ⟨b, off + j, none⟩ = some v ∧ g.prot b (off + j) ∧ v.oneCell' = true
 | [], b, off, _ => ⟨[], rfl, fun j v h => by simp at h⟩
 | c :: cs, b, off, ⟨⟨u, h1, h2, h5, h3⟩, h⟩ => by
  obtain ⟨vs, k1, k2⟩ := RelCells.values cs b (off + 1) h
  refine ⟨u :: vs, ⟨u, vs, rfl, h3, k1⟩, fun j v hj => ?_⟩
  cases j with
  | zero => simp at hj; subst hj; exact ⟨h1, h2, h5⟩
  | succ j =>
   have := k2 j v (by simpa using hj)
   rwa [show off + 1 + j = off + (j + 1) by omega] at this
theorem RelCells.of {g : Gh} {w : World} : ∀ (cs : List AV) (vs : List Value) (b off : Nat), RelAll g w cs vs → (∀ j v, vs[j]? = some v → w.cell? ⟨b, off + j, none⟩ = some v ∧ g.prot b (off + j) ∧ v.oneCell' = true) → RelCells g w cs b off
 | [], vs, b, off, _, _ => trivial
 | c :: cs, vs, b, off, ⟨v, vr, e, hv, h⟩, k => by
  subst e
  refine ⟨⟨v, (k 0 v rfl).1, (k 0 v rfl).2.1, (k 0 v rfl).2.2, hv⟩, RelCells.of cs vr b (off + 1) h fun j u hj => ?_⟩
  have := k (j + 1) u (by simpa using hj)
  rwa [show off + (j + 1) = off + 1 + j by omega] at this
theorem RelRows.get {g : Gh} {w : World} (sz : Nat) : ∀ (l : List (List AV)) (b off i : Nat) (c : List AV), RelRows g w sz l b off → l[i]? = some c → c.length = sz ∧ RelCells g w c b (off + i * sz)
 | [], b, off, i, c, _, hc => by simp at hc
 | x :: l, b, off, 0, c, ⟨h1, h2, h3⟩, hc => by simp at hc; subst hc; simpa using ⟨h1, h2⟩
 | x :: l, b, off, i + 1, c, ⟨h1, h2, h3⟩, hc => by
  have := RelRows.get sz l b (off + sz) i c h3 (by simpa using hc)
  rwa [show off + sz + i * sz = off + (i + 1) * sz by rw [Nat.add_mul]; omega] at this
theorem RelRows.drop {g : Gh} {w : World} (sz : Nat) : ∀ (n : Nat) (l : List (List AV)) (b off : Nat), RelRows g w sz l b off → RelRows g w sz (l.drop n) b (off + n * sz)
 | 0, l, b, off, h => by simpa using h
 | n + 1, [], b, off, h => trivial
 | n + 1, x :: l, b, off, ⟨_, _, h⟩ => by
  have := RelRows.drop sz n l b (off + sz) h
  rwa [show off + sz + n * sz = off + (n + 1) * sz by rw [Nat.add_mul]; omega] at this
theorem RelRows.take {g : Gh} {w : World} (sz : Nat) : ∀ (n : Nat) (l : List (List AV)) (b off : Nat), RelRows g w sz l b off → RelRows g w sz (l.take n) b off
 | 0, l, b, off, h => trivial
 | n + 1, [], b, off, h => trivial
 | n + 1, x :: l, b, off, ⟨h1, h2, h⟩ => ⟨h1, h2, RelRows.take sz n l b (off + sz) h⟩
theorem add_none (b off n : Nat) : (⟨b, off, none⟩ : Addr).add n = ⟨b, off + n, none⟩ := by
 unfold Addr.add; split
 ·rename_i h; subst h; rfl
 ·rfl
def anot (x : AV) (k : AV → Ans) : Ans :=
 match x with
 | .bool b => k (.bool !b)
 | _ => none
def opNot (dst : Option Tmp) (T : TypeId) (x : Operand) (ty : TypeId) (pos : String) (after : Array Edge) : PSim P :=
 PSim.quiet (mkOp dst (.unOp .not T x) ty pos after) rfl [x] (fun ev k => anot (ev x) k) (fun ev ev' k h => by simp only [h x (by simp)]) fun ev k fin h g w a st he hs => by
  have hv := he x (by simp)
  unfold anot at h
  split at h
  ·rename_i b hb; rw [hb] at hv; have hv : a.eval x = .bool b := hv
   exact ⟨_, _, h, by simp [execOp, mkOp, hv, Op.unary] <;> rfl, rfl⟩
  ·cases h
def aconv (kd : IntKind) (x : AV) (k : AV → Ans) : Ans :=
 match x with
 | .int _ n => k (.int kd (kd.wrap n))
 | _ => none
def opConvInt (dst : Option Tmp) (S T : TypeId) (x : Operand) (d : TypeDesc) (hS : P.underlying S = some d) (kd : IntKind) (hT : P.underlying T = some (.int kd)) (ty : TypeId) (pos : String) (after : Array Edge) : PSim P :=
 PSim.quiet (mkOp dst (.convert S T x) ty pos after) rfl [x] (fun ev k => aconv kd (ev x) k) (fun ev ev' k h => by simp only [h x (by simp)]) fun ev k fin h g w a st he hs => by
  have hv := he x (by simp)
  unfold aconv at h
  split at h
  ·rename_i kx n hb; rw [hb] at hv; have hv : a.eval x = .int kx n := hv
   exact ⟨_, _, h, by simp [execOp, mkOp, hv, convert, run_underlying hS, run_underlying hT, Conv.intToInt], rfl⟩
  ·cases h
def aextract (i : Nat) (x : AV) (k : AV → Ans) : Ans :=
 match x with
 | .tup vs => match vs[i]? with
  | some v => k v
  | none => none
 | _ => none
def opExtract (dst : Option Tmp) (x : Operand) (i : Nat) (ty : TypeId) (pos : String) (after : Array Edge) : PSim P :=
 PSim.quiet (mkOp dst (.extract x i) ty pos after) rfl [x] (fun ev k => aextract i (ev x) k) (fun ev ev' k h => by simp only [h x (by simp)]) fun ev k fin h g w a st he hs => by
  have hv := he x (by simp)
  unfold aextract at h
  split at h
  ·rename_i vs hb
   rw [hb] at hv
   obtain ⟨us, hv, hr⟩ := hv
   split at h
   ·rename_i c hc
    obtain ⟨v, h1, h2⟩ := RelAll.get vs us.toList i c hr hc
    have h1 : us[i]? = some v := by simpa using h1
    exact ⟨_, _, h, by simp [execOp, mkOp, hv, Instr.extract, h1], h2⟩
   ·cases h
  ·cases h
def alen (d : TypeDesc) (x : AV) (k : AV → Ans) : Ans :=
 match d with
 | .string => match x with
  | .str s => k (.int .i64 s.size)
  | _ => none
 | .slice _ => match x with
  | .nilsl => k (.int .i64 0)
  | .sl _ _ l => k (.int .i64 l.length)
  | .lg _ _ l => k (.int .i64 l.length)
  | .ms _ _ _ n _ => k (.int .i64 n)
  | .ns _ _ l => k (.int .i64 l.length)
  | .vs _ _ _ n => k (.int .i64 n)
  | _ => none
 | .array n _ => k (.int .i64 n)
 | _ => none
theorem callBuiltin (ρ : Operand → Value) (dst : Option Tmp) (b : Builtin) (args : Array Operand) (tys : Array TypeId) (ty : TypeId) (pos : String) (after : Array Edge) :
  execOp ρ (mkOp dst (.call { callee := .builtin b, args := args, argTypes := tys }) ty pos after) = builtin b tys ty (args.map fun | .const _ => true | _ => false) (args.map ρ) := rfl
theorem ob_of {g : Gh} {st : St} {w : World} (hs : StRel g st w) {k b : Nat} {o : Ob} (h1 : g.objs[k]? = some b) (h2 : st.objs[k]? = some o) : ObRel g w k b o := (hs.obj k b o h1 h2).2
def opLen (dst : Option Tmp) (x : Operand) (T : TypeId) (d : TypeDesc) (hd : P.underlying T = some d) (ty : TypeId) (pos : String) (after : Array Edge) : PSim P :=
 PSim.quiet (mkOp dst (.call { callee := .builtin .len, args := #[x], argTypes := #[T] }) ty pos after) rfl [x] (fun ev k => alen d (ev x) k) (fun ev ev' k h => by simp only [h x (by simp)]) fun ev k fin h g w a st he hs => by
  have hv := he x (by simp)
  rw [callBuiltin]
  have hu := fun w => run_underlying hd w
  unfold alen at h
  split at h
  ·split at h
   ·rename_i s hb; rw [hb] at hv; have hv : a.eval x = .string s := hv
    exact ⟨_, _, h, by simp [builtin, Builtin.len_, hv, hu, goInt], rfl⟩
   ·cases h
  ·split at h <;> (try (cases h; done)) <;> rename_i hb <;> rw [hb] at hv
   ·have hv : a.eval x = .slice none 0 0 := hv
    exact ⟨_, _, h, by simp [builtin, Builtin.len_, hv, hu, goInt], rfl⟩
   ·obtain ⟨_, _, _, _, hv, _⟩ := hv
    exact ⟨_, _, h, by simp [builtin, Builtin.len_, hv, hu, goInt], rfl⟩
   ·obtain ⟨_, _, _, _, _, hv, _⟩ := hv
    exact ⟨_, _, h, by simp [builtin, Builtin.len_, hv, hu, goInt], rfl⟩
   ·obtain ⟨_, _, hv, _⟩ := hv
    exact ⟨_, _, h, by simp [builtin, Builtin.len_, hv, hu, goInt], rfl⟩
   ·rcases hv with ⟨_, hl, hv⟩ | ⟨_, _, _, _, _, hv, _⟩
    ·exact ⟨_, .int .i64 0, h, by simp [builtin, Builtin.len_, hv, hu, goInt], by rw [hl]; rfl⟩
    ·exact ⟨_, _, h, by simp [builtin, Builtin.len_, hv, hu, goInt], rfl⟩
   ·obtain ⟨_, _, hv, _⟩ := hv
    exact ⟨_, _, h, by simp [builtin, Builtin.len_, hv, hu, goInt], rfl⟩
  ·exact ⟨_, _, h, by simp [builtin, Builtin.len_, hu, goInt], rfl⟩
  ·cases h
def anil (x : AV) (k : AV → Ans) : Ans :=
 match x with
 | .ptr a b => k (.ptr a b)
 | .eptr cs => k (.eptr cs)
 | .fn (.func f) a c => k (.fn (.func f) a c)
 | .fn (.yield f) a c => k (.fn (.yield f) a c)
 | .ifc t v => k (.ifc t v)
 | .vp j v o => k (.vp j v o)
 | .tp j E n => k (.tp j E n)
 | _ => none
def opNilCheck (dst : Option Tmp) (x : Operand) (ty : TypeId) (pos : String) (after : Array Edge) : PSim P :=
 PSim.quiet (mkOp dst (.nilCheck x) ty pos after) rfl [x] (fun ev k => anil (ev x) k) (fun ev ev' k h => by simp only [h x (by simp)]) fun ev k fin h g w a st he hs => by
  have hv := he x (by simp)
  unfold anil at h
  split at h <;> (try (cases h; done)) <;> rename_i hb <;> rw [hb] at hv
  ·obtain ⟨b, h1, hv⟩ := hv
   exact ⟨_, _, h, by simp [execOp, mkOp, hv] <;> rfl, b, h1, rfl⟩
  ·obtain ⟨b, off, hv, h1⟩ := hv
   exact ⟨_, _, h, by simp [execOp, mkOp, hv] <;> rfl, b, off, rfl, h1⟩
  ·obtain ⟨va, vc, hv, h1, h2⟩ := hv
   exact ⟨_, _, h, by simp [execOp, mkOp, show a.eval x = _ from hv] <;> rfl, va, vc, rfl, h1, h2⟩
  ·obtain ⟨va, vc, ⟨b, hb2, hv⟩, h1, h2⟩ := hv
   exact ⟨_, _, h, by simp [execOp, mkOp, hv] <;> rfl, va, vc, ⟨b, hb2, rfl⟩, h1, h2⟩
  ·obtain ⟨u, hv, h1⟩ := hv
   exact ⟨_, _, h, by simp [execOp, mkOp, hv] <;> rfl, u, rfl, h1⟩
  ·obtain ⟨b, hv, h1⟩ := hv
   exact ⟨_, _, h, by simp [execOp, mkOp, hv] <;> rfl, b, rfl, h1⟩
  ·obtain ⟨b, h1, hv, h2⟩ := hv
   exact ⟨_, _, h, by simp [execOp, mkOp, hv] <;> rfl, b, h1, rfl, h2⟩
theorem EvR.list {g : Gh} {w : World} {ev : Operand → AV} {a : Act} {xs : List Operand} (h : EvR g w ev a xs) : ∀ (ys : List Operand), (∀ y ∈ ys, y ∈ xs) → RelAll g w (ys.map ev) (ys.map a.eval)
 | [], _ => rfl
 | y :: ys, hy => ⟨_, _, rfl, h y (hy y (by simp)), h.list ys fun z hz => hy z (by simp [hz])⟩
theorem map_ev {ev ev' : Operand → AV} {xs : List Operand} (h : ∀ x ∈ xs, ev x = ev' x) {ys : List Operand} (hy : ∀ y ∈ ys, y ∈ xs) : ys.map ev = ys.map ev' :=
 List.map_congr_left fun y h' => h y (hy y h')
theorem EnvRel.evals {g : Gh} {w : World} {e : Env} {a : Act} (h : EnvRel g w e a) (xs : List Operand) : RelAll g w (xs.map e.eval) (xs.map a.eval) :=
 (h.ev xs).list xs fun _ h => h
def opMakeFunc (dst : Option Tmp) (f : Fn) (first captured : Array Operand) (ty : TypeId) (pos : String) (after : Array Edge) (hn : noY f := by trivial) : PSim P :=
 PSim.quiet (mkOp dst (.makeFunc f first captured) ty pos after) rfl (first.toList ++ captured.toList) (fun ev k => k (.fn f (first.toList.map ev) (captured.toList.map ev)))
  (fun ev ev' k h => by rw [map_ev h (ys := first.toList) (fun y hy => by simp at hy ⊢; exact .inl hy), map_ev h (ys := captured.toList) (fun y hy => by simp at hy ⊢; exact .inr hy)]) fun ev k fin h g w a st he hs =>
  ⟨_, _, h, rfl, _, _, .of rfl hn, by simpa using he.list first.toList (fun y hy => by simp at hy ⊢; exact .inl hy), by simpa using he.list captured.toList (fun y hy => by simp at hy ⊢; exact .inr hy)⟩
end
end Go.V
namespace Go.V
section
variable {P : Program}
def isAggD (d : TypeDesc) : Bool :=
 match d with
 | .struct _ => true
 | .array _ _ => true
 | _ => false
theorem run_isAgg {t : TypeId} {d : TypeDesc} (h : P.underlying t = some d) (w : World) : (isAgg t).run P w = .ok (isAggD d) w := by
 unfold isAgg
 cases d <;> simp [run_underlying h, isAggD]
def fieldB (P : Program) (s f off sz : Nat) (ag : Bool) : Bool :=
 match P.underlying s with
 | some (.struct fs) => match fs[f]? with
  | some fd => Nat.beq fd.offset off && (match P.info? fd.type with | some i => Nat.beq i.size sz | none => false) && (match P.underlying fd.type with | some d => isAggD d == ag | none => false)
  | none => false
 | _ => false
theorem fieldB_spec {s f off sz : Nat} {ag : Bool} (h : fieldB P s f off sz ag = true) :
  ∃ fs fd d, P.underlying s = some (.struct fs) ∧ fs[f]? = some fd ∧ fd.offset = off ∧ (P.info? fd.type).map (·.size) = some sz ∧ P.underlying fd.type = some d ∧ isAggD d = ag := by
 unfold fieldB at h
 split at h
 ·rename_i fs hu
  split at h
  ·rename_i fd hf
   simp only [Bool.and_eq_true] at h
   obtain ⟨⟨h1, h2⟩, h3⟩ := h
   split at h2
   ·rename_i i hi
    split at h3
    ·rename_i d hd
     exact ⟨fs, fd, d, hu, hf, by simpa using h1, by rw [hi]; simpa using h2, hd, by simpa using h3⟩
    ·cases h3
   ·cases h2
  ·cases h
 ·cases h
def apart (ag : Bool) (sz : Nat) (cs : List AV) (k : AV → Ans) : Ans :=
 match ag with
 | true => match takeN sz cs with
  | some ds => k (.agg ds)
  | none => none
 | false => match cs with
  | c :: _ => k c
  | [] => none
def aoff (off : Nat) (x : AV) (k : AV → Ans) : Ans :=
 match x with
 | .ptr j o => k (.ptr j (o + off))
 | .vp j v o => k (.vp j v (o + off))
 | .tp j _ _ => k (.ptr j off)
 | .eptr cs => k (.eptr (cs.drop off))
 | _ => none
def opFieldAddr (dst : Option Tmp) (T : TypeId) (x : Operand) (f off sz : Nat) (ag : Bool) (hf : fieldB P T f off sz ag = true) (h0 : sz ≠ 0) (ty : TypeId) (pos : String) (after : Array Edge) : PSim P :=
 PSim.quiet (mkOp dst (.fieldAddr T x f) ty pos after) rfl [x] (fun ev k => aoff off (ev x) k) (fun ev ev' k h => by simp only [h x (by simp)]) fun ev k fin h g w a st he hs => by
  obtain ⟨fs, fd, d, h1, h2, h3, h4, h5, h6⟩ := fieldB_spec hf
  have hv := he x (by simp)
  have key : ∀ b o, a.eval x = .pointer (some ⟨b, o, none⟩) → (execOp a.eval (mkOp dst (.fieldAddr T x f) ty pos after)).run P w = .ok (.value (.pointer (some ⟨b, o + off, none⟩))) w := by
   intro b o hv
   simp [execOp, mkOp, Instr.fieldAt, run_underlying h1, h2, hv, Instr.sureAddr, fieldPlace, run_sizeOf' h4, h0, add_none, h3]
  unfold aoff at h
  split at h
  ·rename_i j o hb
   rw [hb] at hv
   obtain ⟨b, hg, hv⟩ := hv
   exact ⟨_, _, h, key b o hv, b, hg, rfl⟩
  ·rename_i j v o hb
   rw [hb] at hv
   obtain ⟨b, hv, hg⟩ := hv
   exact ⟨_, _, h, key b o hv, b, rfl, hg⟩
  ·rename_i j E n' hb
   rw [hb] at hv
   obtain ⟨b, hg, hv, _⟩ := hv
   exact ⟨_, _, h, key b 0 hv, b, hg, by rw [Nat.zero_add]⟩
  ·rename_i cs hb
   rw [hb] at hv
   obtain ⟨b, o, hv, hc⟩ := hv
   exact ⟨_, _, h, key b o hv, b, o + off, rfl, RelCells.drop off cs b o hc⟩
  ·cases h
def elemAt (l : List (List AV)) (i : Int) : Option (List AV) := if 0 ≤ i then l[i.toNat]? else none
def aidx (sz : Nat) (x i : AV) (k : AV → Ans) : Ans :=
 match i with
 | .int _ i => match x with
  | .sl s _ l => match Nat.beq s sz with
   | true => match elemAt l i with
    | some c => k (.eptr c)
    | none => none
   | false => none
  | .lg _ s l => match Nat.beq s sz with
   | true => match elemAt l i with
    | some c => k (.eptr c)
    | none => none
   | false => none
  | .ms j s o n _ => match Nat.beq s sz with
   | true => if 0 ≤ i ∧ i < n then k (.ptr j (o + i.toNat * sz)) else none
   | false => none
  | .ns _ s l => match Nat.beq s sz with
   | true => match elemAt l i with
    | some c => k (.eptr c)
    | none => none
   | false => none
  | .vs j v s n => match Nat.beq s sz with
   | true => if 0 ≤ i ∧ i < n then k (.vp j v (i.toNat * sz)) else none
   | false => none
  | _ => none
 | _ => none
theorem elemAt_some {l : List (List AV)} {i : Int} {c : List AV} (h : elemAt l i = some c) : 0 ≤ i ∧ i < l.length ∧ l[i.toNat]? = some c := by
 unfold elemAt at h
 split at h
 ·rename_i h0
  have : i.toNat < l.length := by
   rcases Nat.lt_or_ge i.toNat l.length with h' | h'
   ·exact h'
   ·rw [List.getElem?_eq_none h'] at h; cases h
  exact ⟨h0, by omega, h⟩
 ·cases h
def opIndexAddr (dst : Option Tmp) (T : TypeId) (x i : Operand) (e sz : Nat) (hT : P.underlying T = some (.slice e)) (hz : (P.info? e).map (·.size) = some sz) (ty : TypeId) (pos : String) (after : Array Edge) : PSim P :=
 PSim.quiet (mkOp dst (.indexAddr T x i) ty pos after) rfl [x, i] (fun ev k => aidx sz (ev x) (ev i) k) (fun ev ev' k h => by simp only [h x (by simp), h i (by simp)]) fun ev k fin h g w a st he hs => by
  have hv := he x (by simp)
  have hi := he i (by simp)
  have key : ∀ kd j b o n cap, a.eval i = .int kd j → a.eval x = .slice (some ⟨b, o, none⟩) n cap → 0 ≤ j → j < (n : Int) → (execOp a.eval (mkOp dst (.indexAddr T x i) ty pos after)).run P w = .ok (.value (.pointer (some ⟨b, o + j.toNat * sz, none⟩))) w := by
   intro kd j b o n cap h1 h2 h3 h4
   simp [execOp, mkOp, Instr.indexAt, h1, h2, asIntOf, run_underlying hT, h3, h4, run_sizeOf' hz, add_none]
  unfold aidx at h
  split at h
  ·rename_i kd j hj
   rw [hj] at hi
   have hi : a.eval i = .int kd j := hi
   split at h
   ·rename_i s full l hb
    rw [hb] at hv
    obtain ⟨b, o, sp, cap, hv, hle, _, hsp, hr⟩ := hv
    split at h
    ·rename_i hsz
     obtain rfl : s = sz := by simpa using hsz
     split at h
     ·rename_i c hc
      obtain ⟨h0, h1, h2⟩ := elemAt_some hc
      obtain rfl : sp = none := hsp.resolve_right (by rintro rfl; simp at h2)
      obtain ⟨k1, k2⟩ := RelRows.get s l b o _ c hr h2
      exact ⟨_, _, h, key _ _ _ _ _ _ hi hv h0 h1, b, _, rfl, k2⟩
     ·cases h
    ·cases h
   ·rename_i t s l hb
    rw [hb] at hv
    obtain ⟨b, cap, C, E, fz, hv, hle, _, _, _, _, _, hr⟩ := hv
    split at h
    ·rename_i hsz
     obtain rfl : s = sz := by simpa using hsz
     split at h
     ·rename_i c hc
      obtain ⟨h0, h1, h2⟩ := elemAt_some hc
      obtain ⟨k1, k2⟩ := RelRows.get s l b 0 _ c hr h2
      exact ⟨_, _, h, key _ _ _ _ _ _ hi hv h0 h1, b, _, rfl, k2⟩
     ·cases h
    ·cases h
   ·rename_i j2 s o n cap hb
    rw [hb] at hv
    obtain ⟨b, hg, hv, hle⟩ := hv
    split at h
    ·rename_i hsz
     obtain rfl : s = sz := by simpa using hsz
     split at h
     ·rename_i hc
      exact ⟨_, _, h, key _ _ _ _ _ _ hi hv hc.1 hc.2, b, hg, rfl⟩
     ·cases h
    ·cases h
   ·rename_i z s l hb
    rw [hb] at hv
    split at h
    ·rename_i hsz
     obtain rfl : s = sz := by simpa using hsz
     split at h
     ·rename_i c hc
      obtain ⟨h0, h1, h2⟩ := elemAt_some hc
      rcases hv with ⟨_, rfl, _⟩ | ⟨_, b, o, sp, cap, hv, hle, hsp, hr⟩
      ·simp at h2
      ·obtain rfl : sp = none := hsp.resolve_right (by rintro rfl; simp at h2)
       obtain ⟨k1, k2⟩ := RelRows.get s l b o _ c hr h2
       exact ⟨_, _, h, key _ _ _ _ _ _ hi hv h0 h1, b, _, rfl, k2⟩
     ·cases h
    ·cases h
   ·rename_i j2 v s n hb
    rw [hb] at hv
    obtain ⟨b, c, hv, hle, hg, hg2, hg3⟩ := hv
    split at h
    ·rename_i hsz
     obtain rfl : s = sz := by simpa using hsz
     split at h
     ·rename_i hc
      exact ⟨_, _, h, key _ _ _ _ _ _ hi hv hc.1 hc.2, b, by rw [Nat.zero_add], hg, hg2, fun e => by
       obtain ⟨k1, C, E, fz, k2, _⟩ := hg3 e
       exact ⟨k1, lt_of_block k2⟩⟩
     ·cases h
    ·cases h
   ·cases h
  ·cases h
def aload (ag : Bool) (sz : Nat) (p : AV) (st : St) (k : AV → Ans) : Ans :=
 match p with
 | .eptr cs => apart ag sz cs k
 | .ptr j o => match st.objs[j]? with
  | some (.cells cs) => apart ag sz (cs.drop o) k
  | _ => none
 | .vp j v o => match st.objs[j]? with
  | some (.vec v' cs) => match Nat.beq v v' with
   | true => apart ag sz (cs.drop o) k
   | false => none
  | _ => none
 | _ => none
theorem vec_of {g : Gh} {st : St} {w : World} (hs : StRel g st w) {k v : Nat} {cs : List AV} (h1 : k < g.objs.length) (h2 : st.objs[k]? = some (.vec v cs)) : g.ver k = v ∧ ∃ b', b' < w.heap.size ∧ g.kind b' = .vec k ∧ ∃ C E, w.heap[b']? = some (.cells C E (0, 0)) ∧ RelAll g w cs (C.toList.take cs.length) ∧ ∀ u ∈ C.toList.take cs.length, u.oneCell' = true :=
 (hs.obj k _ _ (List.getElem?_eq_getElem h1) h2).2
theorem vp_of {g : Gh} {st : St} {w : World} (hs : StRel g st w) {k v o : Nat} {cs : List AV} {x : Value} (hv : Rel g w (.vp k v o) x) (h2 : st.objs[k]? = some (.vec v cs)) :
  ∃ b, x = .pointer (some ⟨b, o, none⟩) ∧ b < w.heap.size ∧ g.kind b = .vec k ∧ ∃ C E, w.heap[b]? = some (.cells C E (0, 0)) ∧ RelAll g w cs (C.toList.take cs.length) ∧ ∀ u ∈ C.toList.take cs.length, u.oneCell' = true := by
 obtain ⟨b, h1, h3, h4, h5⟩ := hv
 obtain ⟨k1, b', k2, k3, C, E, k4, k5⟩ := vec_of hs h3 h2
 obtain ⟨h6, h7⟩ := h5 k1.symm
 obtain rfl := (hs.vec b k h7 h6).2 b' k2 k3
 exact ⟨b', h1, h7, h6, C, E, k4, k5⟩
theorem run_load_cell {w : World} {b o : Nat} {v : Value} (h : w.cell? ⟨b, o, none⟩ = some v) : (load ⟨b, o, none⟩).run P w = .ok v w := by
 rw [run_load, h]
theorem aload_run {t : TypeId} {d : TypeDesc} (hd : P.underlying t = some d) {sz : Nat} (hs : (P.info? t).map (·.size) = some sz) {g : Gh} {w : World} {b o : Nat} {cs : List AV} {vs : List Value}
  (hr : RelAll g w cs vs) (hc : ∀ j v, vs[j]? = some v → w.cell? ⟨b, o + j, none⟩ = some v) (h1c : ∀ u ∈ vs, u.oneCell' = true) {k : AV → Ans} {fin : Fin × St} (h : apart (isAggD d) sz cs k = some fin) :
  ∃ r v, k r = some fin ∧ (loadVar t ⟨b, o, none⟩).run P w = .ok v w ∧ Rel g w r v := by
 unfold apart at h
 split at h
 ·rename_i hag
  split at h
  ·rename_i ds hds
   obtain ⟨rfl, hle⟩ := takeN_eq _ _ _ hds
   have hr' := RelAll.take sz _ _ hr
   have hlen : (vs.take sz).length = sz := by rw [List.length_take, ← RelAll.length _ _ hr]; omega
   have hl := run_loadCells_list (P := P) w ⟨b, o, none⟩ (vs.take sz) (fun j v hj => by
    rw [add_none]
    refine hc j v ?_
    rw [List.getElem?_take] at hj
    split at hj
    ·exact hj
    ·cases hj)
   rw [hlen] at hl
   exact ⟨_, .agg (vs.take sz).toArray, h, by unfold loadVar; simp [run_isAgg hd, hag, run_sizeOf' hs, hl], _, rfl, by simpa using hr', fun u hu => h1c u (List.mem_of_mem_take (by simpa using hu))⟩
  ·cases h
 ·rename_i hag
  split at h
  ·rename_i c rest
   obtain ⟨v, vr, rfl, h2, _⟩ := hr
   have := hc 0 v rfl
   exact ⟨_, _, h, by unfold loadVar; simp only [Sem.run_bind, run_isAgg hd, hag, Result.andThen_ok]; simpa using run_load_cell (P := P) (by simpa using this), h2⟩
  ·cases h
theorem aload_ptr {T : TypeId} {d : TypeDesc} (hd : P.underlying T = some d) {sz : Nat} (hz : (P.info? T).map (·.size) = some sz) {g : Gh} {st : St} {w : World} (hs : StRel g st w) {X : AV} {x : Value} (hv : Rel g w X x) {k : AV → Ans} {fin : Fin × St} (h : aload (isAggD d) sz X st k = some fin) :
  ∃ r v b o, k r = some fin ∧ x = .pointer (some ⟨b, o, none⟩) ∧ (loadVar T ⟨b, o, none⟩).run P w = .ok v w ∧ Rel g w r v := by
 unfold aload at h
 split at h
 ·rename_i cs
  obtain ⟨b, o, hv, hc⟩ := hv
  obtain ⟨vs, h1, h2⟩ := RelCells.values cs b o hc
  obtain ⟨r, v, k1, k2, k3⟩ := aload_run (P := P) hd hz h1 (fun j v hj => (h2 j v hj).1) (fun u hu => by obtain ⟨j, hj⟩ := List.getElem?_of_mem hu; exact (h2 j u hj).2.2) h
  exact ⟨r, v, b, o, k1, hv, k2, k3⟩
 ·rename_i j o
  obtain ⟨b, hg, hv⟩ := hv
  split at h
  ·rename_i cs hcs
   obtain ⟨_, C, E, hC, hr, h1c⟩ := ob_of hs hg hcs
   have hr' := RelAll.drop o _ _ hr
   obtain ⟨r, v, k1, k2, k3⟩ := aload_run (P := P) hd hz hr' (fun j v hj => by
    rw [cell_of hC]
    rw [List.getElem?_drop, List.getElem?_take] at hj
    split at hj
    ·simpa using hj
    ·cases hj) (fun u hu => h1c u (List.mem_of_mem_drop hu)) h
   exact ⟨r, v, b, o, k1, hv, k2, k3⟩
  ·cases h
 ·rename_i j v o
  split at h
  ·rename_i v' cs hcs
   split at h
   ·rename_i hvv
    obtain rfl := Nat.eq_of_beq_eq_true hvv
    obtain ⟨b, hv, _, _, C, E, hC, hr, h1c⟩ := vp_of hs hv hcs
    have hr' := RelAll.drop o _ _ hr
    obtain ⟨r, v, k1, k2, k3⟩ := aload_run (P := P) hd hz hr' (fun j v hj => by
     rw [cell_of hC]
     rw [List.getElem?_drop, List.getElem?_take] at hj
     split at hj
     ·simpa using hj
     ·cases hj) (fun u hu => h1c u (List.mem_of_mem_drop hu)) h
    exact ⟨r, v, b, o, k1, hv, k2, k3⟩
   ·cases h
  ·cases h
 ·cases h
def opLoad (dst : Option Tmp) (T : TypeId) (x : Operand) (d : TypeDesc) (hd : P.underlying T = some d) (sz : Nat) (hz : (P.info? T).map (·.size) = some sz) (ty : TypeId) (pos : String) (after : Array Edge) : QSim P :=
 QSim.quiet (mkOp dst (.load T x) ty pos after) rfl [x] (fun ev st k => aload (isAggD d) sz (ev x) st k) (fun ev ev' st k h => by simp only [h x (by simp)]) fun ev st k fin h g w a he hs => by
  obtain ⟨r, v, b, o, k1, hv, k2, k3⟩ := aload_ptr (P := P) hd hz hs (he x (by simp)) h
  exact ⟨r, v, k1, by simp [execOp, mkOp, Instr.loadAt, hv, Instr.sureAddr, k2], k3⟩
def aloadF (ag : Bool) (sz : Nat) (p : AV) (k : AV → Ans) : Ans :=
 match p with
 | .eptr cs => apart ag sz cs k
 | _ => none
def opLoadF (dst : Option Tmp) (T : TypeId) (x : Operand) (d : TypeDesc) (hd : P.underlying T = some d) (sz : Nat) (hz : (P.info? T).map (·.size) = some sz) (ty : TypeId) (pos : String) (after : Array Edge) : PSim P :=
 PSim.quiet (mkOp dst (.load T x) ty pos after) rfl [x] (fun ev k => aloadF (isAggD d) sz (ev x) k) (fun ev ev' k h => by simp only [h x (by simp)]) fun ev k fin h g w a st he hs => by
  have h' : aload (isAggD d) sz (ev x) st k = some fin := by
   unfold aloadF at h
   split at h
   ·rename_i cs hb; rw [hb]; exact h
   ·cases h
  obtain ⟨r, v, b, o, k1, hv, k2, k3⟩ := aload_ptr (P := P) hd hz hs (he x (by simp)) h'
  exact ⟨r, v, k1, by simp [execOp, mkOp, Instr.loadAt, hv, Instr.sureAddr, k2], k3⟩
end
end Go.V
namespace Go.V
section
variable {P : Program}
def bnd (x : Option AV) (y dflt : Nat) (k : Nat → Ans) : Ans :=
 match x with
 | none => k dflt
 | some x => match x with
  | .int _ i => if 0 ≤ i ∧ i ≤ (y : Int) then k i.toNat else none
  | _ => none
theorem bnd_run {xo : Option Operand} {ev : Operand → AV} {xs : List Operand} {g : Gh} {w : World} {a : Act} (he : EvR g w ev a xs) (hx : ∀ o, xo = some o → o ∈ xs) {y dflt : Nat} {k : Nat → Ans} {fin : Fin × St} (h : bnd (xo.map ev) y dflt k = some fin) :
  ∃ n, k n = some fin ∧ (xo = none → n = dflt) ∧ ∀ o, xo = some o → n ≤ y ∧ ∀ y' code, y ≤ y' → (Instr.sliceBound (a.eval o) y' code).run P w = .ok n w := by
 cases xo with
 | none => exact ⟨dflt, h, fun _ => rfl, fun o ho => by cases ho⟩
 | some o =>
  have hv := he o (hx o rfl)
  simp only [Option.map_some, bnd] at h
  split at h
  ·rename_i kd i hb
   rw [hb] at hv
   have hv : a.eval o = .int kd i := hv
   split at h
   ·rename_i hc
    refine ⟨_, h, fun e => (by cases e), fun o' ho => ?_⟩
    cases ho
    refine ⟨by omega, fun y' code hy => ?_⟩
    rw [hv]
    exact run_sliceBound w kd i y' code hc.1 (by omega)
   ·cases h
  ·cases h
def abounds (n : Nat) (lo hi mx : Option AV) (k : Nat → Nat → Option Nat → Ans) : Ans :=
 match mx with
 | none => bnd hi n n fun h => bnd lo h 0 fun l => k l h none
 | some _ => match hi with
  | none => none
  | some _ => bnd mx n n fun m => bnd hi m 0 fun h => bnd lo h 0 fun l => k l h (some m)
theorem abounds_run {lo hi mx : Option Operand} {ev : Operand → AV} {xs : List Operand} {g : Gh} {w : World} {a : Act} (he : EvR g w ev a xs) (hlo : ∀ o, lo = some o → o ∈ xs) (hhi : ∀ o, hi = some o → o ∈ xs) (hmx : ∀ o, mx = some o → o ∈ xs) {n : Nat} {k : Nat → Nat → Option Nat → Ans} {fin : Fin × St}
  (h : abounds n (lo.map ev) (hi.map ev) (mx.map ev) k = some fin) :
  ∃ l r m, k l r m = some fin ∧ l ≤ r ∧ r ≤ m.getD n ∧ m.getD n ≤ n ∧ ∀ s cap, n ≤ cap → (Instr.sliceBounds s n cap (lo.map a.eval) (hi.map a.eval) (mx.map a.eval)).run P w = .ok (l, r, m.getD cap) w := by
 unfold abounds at h
 cases mx with
 | none =>
  simp only [Option.map_none] at h
  obtain ⟨r, h1, h2, h3⟩ := bnd_run (P := P) he hhi h
  obtain ⟨l, k1, k2, k3⟩ := bnd_run (P := P) he hlo h1
  have hr : r ≤ n := by
   cases hi with
   | none => rw [h2 rfl]; exact Nat.le_refl _
   | some o => exact (h3 o rfl).1
  have hl : l ≤ r := by
   cases lo with
   | none => rw [k2 rfl]; exact Nat.zero_le _
   | some o => exact (k3 o rfl).1
  refine ⟨l, r, none, k1, hl, hr, Nat.le_refl _, fun s cap hcap => ?_⟩
  unfold Instr.sliceBounds
  cases hi with
  | none =>
   obtain rfl := h2 rfl
   cases lo with
   | none => obtain rfl := k2 rfl; simp
   | some o => simp [(k3 o rfl).2 r _ (Nat.le_refl _)]
  | some o' =>
   cases lo with
   | none => obtain rfl := k2 rfl; simp [(h3 o' rfl).2 cap _ hcap]
   | some o => simp [(h3 o' rfl).2 cap _ hcap, (k3 o rfl).2 r _ (Nat.le_refl _)]
 | some om =>
  simp only [Option.map_some] at h
  cases hi with
  | none => cases h
  | some oh =>
   simp only [Option.map_some] at h
   obtain ⟨m, m1, m2, m3⟩ := bnd_run (P := P) (xo := some om) he hmx h
   obtain ⟨r, h1, h2, h3⟩ := bnd_run (P := P) (xo := some oh) he hhi m1
   obtain ⟨l, k1, k2, k3⟩ := bnd_run (P := P) he hlo h1
   have hl : l ≤ r := by
    cases lo with
    | none => rw [k2 rfl]; exact Nat.zero_le _
    | some o => exact (k3 o rfl).1
   refine ⟨l, r, some m, k1, hl, (h3 oh rfl).1, (m3 om rfl).1, fun s cap hcap => ?_⟩
   unfold Instr.sliceBounds
   cases lo with
   | none => obtain rfl := k2 rfl; simp [(m3 om rfl).2 cap _ hcap, (h3 oh rfl).2 m _ (Nat.le_refl _)]
   | some o => simp [(m3 om rfl).2 cap _ hcap, (h3 oh rfl).2 m _ (Nat.le_refl _), (k3 o rfl).2 r _ (Nat.le_refl _)]
theorem map_evO {ev ev' : Operand → AV} {xs : List Operand} (h : ∀ x ∈ xs, ev x = ev' x) {o : Option Operand} (ho : ∀ x, o = some x → x ∈ xs) : o.map ev = o.map ev' := by
 cases o with
 | none => rfl
 | some x => simp only [Option.map_some, h x (ho x rfl)]
def sliceOps (x : Operand) (lo hi mx : Option Operand) : List Operand := x :: (lo.toList ++ (hi.toList ++ mx.toList))
theorem sliceOps_lo {x : Operand} {lo hi mx : Option Operand} : ∀ o, lo = some o → o ∈ sliceOps x lo hi mx := fun o h => by subst h; simp [sliceOps]
theorem sliceOps_hi {x : Operand} {lo hi mx : Option Operand} : ∀ o, hi = some o → o ∈ sliceOps x lo hi mx := fun o h => by subst h; simp [sliceOps]
theorem sliceOps_mx {x : Operand} {lo hi mx : Option Operand} : ∀ o, mx = some o → o ∈ sliceOps x lo hi mx := fun o h => by subst h; simp [sliceOps]
theorem sliceOps_x {x : Operand} {lo hi mx : Option Operand} : x ∈ sliceOps x lo hi mx := by simp [sliceOps]
def asl (sz : Nat) (x : AV) (lo hi mx : Option AV) (k : AV → Ans) : Ans :=
 match x with
 | .nilsl => abounds 0 lo hi mx fun _ _ _ => k .nilsl
 | .sl s full l => match Nat.beq s sz with
  | true => abounds l.length lo hi mx fun i j m => k (.sl sz (match m with | none => full && Nat.beq j l.length | some m => Nat.beq j m) ((l.take j).drop i))
  | false => none
 | .lg _ s l => match Nat.beq s sz with
  | true => abounds l.length lo hi mx fun i j m => k (.sl sz (match m with | none => false | some m => Nat.beq j m) ((l.take j).drop i))
  | false => none
 | .ms b s o n cap => match Nat.beq s sz with
  | true => abounds n lo hi mx fun i j m => if i < m.getD cap then k (.ms b sz (o + i * sz) (j - i) (m.getD cap - i)) else k (.sl sz true [])
  | false => none
 | .ns z s l => match Nat.beq s sz with
  | true => abounds l.length lo hi mx fun i j m => k (.ns z sz ((l.take j).drop i))
  | false => none
 | .vs q v s n => match Nat.beq s sz with
  | true => abounds n lo hi mx fun i j m => match Nat.beq i 0 && m.isNone with
   | true => k (.vs q v sz j)
   | false => none
  | false => none
 | _ => none
theorem run_slice_of {T e sz : Nat} (hT : P.underlying T = some (.slice e)) (hz : (P.info? e).map (·.size) = some sz) {w : World} {p : Option Addr} {n cap l r m : Nat} {lo hi mx : Option Value}
  (h : (Instr.sliceBounds true n cap lo hi mx).run P w = .ok (l, r, m) w) :
  (Instr.sliceAt T (.slice p n cap) lo hi mx).run P w = .ok (.slice (if m = l then p else p.map (·.add (l * sz))) (r - l) (m - l)) w := by
 simp [Instr.sliceAt, Instr.slice, run_underlying hT, h, run_sizeOf' hz]
theorem rows_piece {g : Gh} {w : World} {sz : Nat} {l : List (List AV)} {b o : Nat} (h : RelRows g w sz l b o) (i j : Nat) : RelRows g w sz ((l.take j).drop i) b (o + i * sz) :=
 RelRows.drop sz i _ b o (RelRows.take sz j l b o h)
def opSlice (dst : Option Tmp) (T : TypeId) (x : Operand) (lo hi mx : Option Operand) (e sz : Nat) (hT : P.underlying T = some (.slice e)) (hz : (P.info? e).map (·.size) = some sz) (ty : TypeId) (pos : String) (after : Array Edge) : PSim P :=
 PSim.quiet (mkOp dst (.slice T x lo hi mx) ty pos after) rfl (sliceOps x lo hi mx) (fun ev k => asl sz (ev x) (lo.map ev) (hi.map ev) (mx.map ev) k)
  (fun ev ev' k h => by simp only [h x sliceOps_x, map_evO h (o := lo) sliceOps_lo, map_evO h (o := hi) sliceOps_hi, map_evO h (o := mx) sliceOps_mx]) fun ev k fin h g w a st he hs => by
  have hv := he x sliceOps_x
  have key : ∀ p n cap l r m, a.eval x = .slice p n cap → (Instr.sliceBounds true n cap (lo.map a.eval) (hi.map a.eval) (mx.map a.eval)).run P w = .ok (l, r, m) w →
    (execOp a.eval (mkOp dst (.slice T x lo hi mx) ty pos after)).run P w = .ok (.value (.slice (if m = l then p else p.map (·.add (l * sz))) (r - l) (m - l))) w := by
   intro p n cap l r m h1 h2
   have := run_slice_of (P := P) hT hz (p := p) h2
   simp [execOp, mkOp, h1, this]
  have frozen : ∀ {k : AV → Ans} {fin : Fin × St} b o sp cap full' (l : List (List AV)) i j m, (sp = none ∨ l = []) → a.eval x = .slice (some ⟨b, o, sp⟩) l.length cap → l.length ≤ cap → RelRows g w sz l b o → k (.sl sz full' ((l.take j).drop i)) = some fin → i ≤ j → j ≤ (Option.getD m l.length) → Option.getD m l.length ≤ l.length →
    (full' = true → Option.getD m cap = j) →
    (Instr.sliceBounds true l.length cap (lo.map a.eval) (hi.map a.eval) (mx.map a.eval)).run P w = .ok (i, j, Option.getD m cap) w → ∃ r v, k r = some fin ∧ (execOp a.eval (mkOp dst (.slice T x lo hi mx) ty pos after)).run P w = .ok (.value v) w ∧ Rel g w r v := by
   intro k fin b o sp cap full' l i j m hsp h1 h2 h3 h4 h5 h6 h7 h8 h9
   have hlen : ((l.take j).drop i).length = j - i := by simp; omega
   have hmc : j ≤ Option.getD m cap := by cases m <;> simp at h6 h7 ⊢ <;> omega
   refine ⟨_, _, h4, key _ _ _ _ _ _ h1 h9, ?_⟩
   by_cases hm : Option.getD m cap = i
   ·rw [if_pos hm]
    have h0 : (l.take j).drop i = [] := by apply List.eq_nil_of_length_eq_zero; omega
    refine ⟨b, o, sp, Option.getD m cap - i, by rw [h0]; simp; omega, by rw [hlen]; omega, fun _ => by rw [hlen]; omega, .inr h0, by rw [h0]; trivial⟩
   ·rw [if_neg hm]
    rcases hsp with rfl | rfl
    ·exact ⟨b, o + i * sz, none, Option.getD m cap - i, by rw [hlen, Option.map_some, add_none], by rw [hlen]; omega, fun hf => by rw [hlen, h8 hf], .inl rfl, rows_piece h3 i j⟩
    ·simp only [List.length_nil] at h6 h7
     have hj0 : j = 0 := by omega
     have hi0 : i = 0 := by omega
     subst hj0; subst hi0
     exact ⟨b, o, sp, Option.getD m cap, by simp [Addr.add], by simp, fun hf => by simp [h8 hf], .inr rfl, trivial⟩
  unfold asl at h
  split at h
  ·rename_i hb
   rw [hb] at hv
   have hv : a.eval x = .slice none 0 0 := hv
   obtain ⟨i, j, m, h1, h2, h3, h4, h5⟩ := abounds_run (P := P) he sliceOps_lo sliceOps_hi sliceOps_mx h
   refine ⟨_, _, h1, key _ _ _ _ _ _ hv (h5 true 0 (Nat.le_refl _)), ?_⟩
   have hm0 : Option.getD m 0 = 0 := by omega
   have hi0 : i = 0 := by omega
   have hj0 : j = 0 := by omega
   subst hi0; subst hj0
   simp [Rel, hm0]
  ·rename_i s full l hb
   split at h
   ·rename_i hsz
    obtain rfl : s = sz := by simpa using hsz
    rw [hb] at hv
    obtain ⟨b, o, sp, cap, hv, hle, hf, hsp, hr⟩ := hv
    obtain ⟨i, j, m, h1, h2, h3, h4, h5⟩ := abounds_run (P := P) he sliceOps_lo sliceOps_hi sliceOps_mx h
    refine frozen b o sp cap _ l i j m hsp hv hle hr h1 h2 h3 h4 ?_ (h5 true cap hle)
    intro hfull
    cases m with
    | none =>
     simp only [Bool.and_eq_true] at hfull
     have : j = l.length := by simpa using hfull.2
     simp [hf hfull.1, this]
    | some m => have : j = m := by simpa using hfull
                simp [this]
   ·cases h
  ·rename_i t s l hb
   split at h
   ·rename_i hsz
    obtain rfl : s = sz := by simpa using hsz
    rw [hb] at hv
    obtain ⟨b, cap, C, E, fz, hv, hle, _, _, _, _, _, hr⟩ := hv
    obtain ⟨i, j, m, h1, h2, h3, h4, h5⟩ := abounds_run (P := P) he sliceOps_lo sliceOps_hi sliceOps_mx h
    refine frozen b 0 none cap _ l i j m (.inl rfl) hv hle hr h1 h2 h3 h4 ?_ (h5 true cap hle)
    intro hfull
    cases m with
    | none => cases hfull
    | some m => have : j = m := by simpa using hfull
                simp [this]
   ·cases h
  ·rename_i b s o n cap hb
   split at h
   ·rename_i hsz
    obtain rfl : s = sz := by simpa using hsz
    rw [hb] at hv
    obtain ⟨B, hg, hv, hle⟩ := hv
    obtain ⟨i, j, m, h1, h2, h3, h4, h5⟩ := abounds_run (P := P) he sliceOps_lo sliceOps_hi sliceOps_mx h
    have hm : Option.getD m n ≤ Option.getD m cap := by cases m <;> simp [hle]
    split at h1
    ·rename_i hlt
     refine ⟨_, _, h1, key _ _ _ _ _ _ hv (h5 true cap hle), B, hg, ?_, by omega⟩
     rw [if_neg (by omega), Option.map_some, add_none]
    ·rename_i hlt
     have : Option.getD m cap = i := by omega
     refine ⟨_, _, h1, key _ _ _ _ _ _ hv (h5 true cap hle), B, o, none, 0, ?_, Nat.le_refl _, fun _ => rfl, .inl rfl, trivial⟩
     rw [if_pos this]
     simp; omega
   ·cases h
  ·rename_i z s l hb
   split at h
   ·rename_i hsz
    obtain rfl : s = sz := by simpa using hsz
    rw [hb] at hv
    obtain ⟨i, j, m, h1, h2, h3, h4, h5⟩ := abounds_run (P := P) he sliceOps_lo sliceOps_hi sliceOps_mx h
    rcases hv with ⟨hz, hl, hv⟩ | ⟨hz, b, o, sp, cap, hv, hle, hsp, hr⟩
    ·subst hl
     simp only [List.length_nil] at h2 h3 h4 h5
     refine ⟨_, _, h1, key _ _ _ _ _ _ hv (h5 true 0 (Nat.le_refl _)), .inl ⟨hz, by simp, ?_⟩⟩
     have hm0 : Option.getD m 0 = 0 := by omega
     have hi0 : i = 0 := by omega
     have hj0 : j = 0 := by omega
     subst hi0; subst hj0
     simp [hm0]
    ·obtain ⟨r, v, f1, f2, f3⟩ := frozen (k := fun r => some (.ret r, st)) b o sp cap false l i j m hsp hv hle hr rfl h2 h3 h4 (fun h => by cases h) (h5 true cap hle)
     simp only [Option.some.injEq, Prod.mk.injEq, Fin.ret.injEq] at f1
     obtain ⟨f1, _⟩ := f1
     subst f1
     obtain ⟨b', o', sp', cap', g1, g2, g3, g4, g5⟩ := f3
     exact ⟨_, _, h1, f2, .inr ⟨hz, b', o', sp', cap', g1, g2, g4, g5⟩⟩
   ·cases h
  ·rename_i q v s n hb
   split at h
   ·rename_i hsz
    obtain rfl : s = sz := by simpa using hsz
    rw [hb] at hv
    obtain ⟨b, c, hv, hle, hg⟩ := hv
    obtain ⟨i, j, m, h1, h2, h3, h4, h5⟩ := abounds_run (P := P) he sliceOps_lo sliceOps_hi sliceOps_mx h
    split at h1
    ·rename_i hi
     simp only [Bool.and_eq_true, Option.isNone_iff_eq_none] at hi
     obtain ⟨hi, rfl⟩ := hi
     obtain rfl := Nat.eq_of_beq_eq_true hi
     simp only [Option.getD_none] at h3 h4 h5
     refine ⟨_, _, h1, key _ _ _ _ _ _ hv (h5 true c hle), b, c, ?_, by omega, hg⟩
     by_cases h0 : c = 0
     ·rw [if_pos h0, Nat.sub_zero, Nat.sub_zero]
     ·rw [if_neg h0, Option.map_some, Nat.zero_mul, add_none, Nat.add_zero, Nat.sub_zero, Nat.sub_zero]
    ·cases h1
   ·cases h
  ·cases h
def rowsOf (sz : Nat) : Nat → List AV → Option (List (List AV))
 | 0, _ => some []
 | n + 1, cs => match takeN sz cs with
  | some r => match rowsOf sz n (cs.drop sz) with
   | some l => some (r :: l)
   | none => none
  | none => none
theorem rowsOf_rel {g : Gh} {w : World} (sz : Nat) : ∀ (n : Nat) (cs : List AV) (b o : Nat) (l : List (List AV)), rowsOf sz n cs = some l → RelCells g w cs b o → l.length = n ∧ RelRows g w sz l b o
 | 0, cs, b, o, l, h, _ => by simp [rowsOf] at h; subst h; exact ⟨rfl, trivial⟩
 | n + 1, cs, b, o, l, h, hc => by
  simp only [rowsOf] at h
  split at h
  ·rename_i r hr
   split at h
   ·rename_i l' hl
    simp only [Option.some.injEq] at h
    subst h
    obtain ⟨rfl, hle⟩ := takeN_eq _ _ _ hr
    obtain ⟨h1, h2⟩ := rowsOf_rel sz n _ b (o + sz) l' hl (RelCells.drop sz cs b o hc)
    refine ⟨by simp [h1], by simp; omega, ?_, h2⟩
    obtain ⟨vs, k1, k2⟩ := RelCells.values cs b o hc
    exact RelCells.of _ (vs.take sz) b o (RelAll.take sz _ _ k1) fun j v hj => k2 j v (by
     rw [List.getElem?_take] at hj
     split at hj
     ·exact hj
     ·cases hj)
   ·cases h
  ·cases h
def cellsA (x : AV) : Option (List AV) :=
 match x with
 | .agg cs => some cs
 | .tup _ => none
 | .dead => none
 | x => some [x]
theorem cellsA_rel {g : Gh} {w : World} {x : AV} {v : Value} {cs : List AV} (h : cellsA x = some cs) (hv : Rel g w x v) : RelAll g w cs v.cells.toList ∧ ∀ u ∈ v.cells.toList, u.oneCell' = true := by
 cases x <;> simp only [cellsA, Option.some.injEq] at h <;> (try (cases h; done)) <;> subst h
 case agg cs => obtain ⟨vs, rfl, hr, h1c⟩ := hv; exact ⟨hr, h1c⟩
 case ns z sz l =>
  have hv' := hv
  rcases hv' with ⟨_, _, rfl⟩ | ⟨_, _, _, _, _, rfl, _⟩
  ·exact ⟨⟨_, [], rfl, hv, rfl⟩, by simp [Value.cells, Value.oneCell']⟩
  ·exact ⟨⟨_, [], rfl, hv, rfl⟩, by simp [Value.cells, Value.oneCell']⟩
 case fn f a c =>
  obtain ⟨_, _, hf, _⟩ := id hv
  obtain ⟨_, _, _, rfl⟩ := hf.isfn
  exact ⟨⟨_, [], rfl, hv, rfl⟩, by simp [Value.cells, Value.oneCell']⟩
 all_goals
  have hv' := hv
  simp only [Rel] at hv'
  first
   | (subst hv'; exact ⟨⟨_, [], rfl, hv, rfl⟩, by simp [Value.cells, Value.oneCell']⟩)
   | (obtain ⟨_, _, _, rfl, _⟩ := hv'; exact ⟨⟨_, [], rfl, hv, rfl⟩, by simp [Value.cells, Value.oneCell']⟩)
   | (obtain ⟨_, _, _, _, rfl, _⟩ := hv'; exact ⟨⟨_, [], rfl, hv, rfl⟩, by simp [Value.cells, Value.oneCell']⟩)
   | (obtain ⟨_, _, _, _, _, rfl, _⟩ := hv'; exact ⟨⟨_, [], rfl, hv, rfl⟩, by simp [Value.cells, Value.oneCell']⟩)
   | (obtain ⟨_, _, rfl⟩ := hv'; exact ⟨⟨_, [], rfl, hv, rfl⟩, by simp [Value.cells, Value.oneCell']⟩)
   | (obtain ⟨_, _, rfl, _⟩ := hv'; exact ⟨⟨_, [], rfl, hv, rfl⟩, by simp [Value.cells, Value.oneCell']⟩)
   | (obtain ⟨_, rfl, _⟩ := hv'; exact ⟨⟨_, [], rfl, hv, rfl⟩, by simp [Value.cells, Value.oneCell']⟩)
def setAt : List AV → Nat → List AV → List AV
 | cs, _, [] => cs
 | [], _, _ => []
 | _ :: cs, 0, x :: xs => x :: setAt cs 0 xs
 | c :: cs, n + 1, xs => c :: setAt cs n xs
def setV : List Value → Nat → List Value → List Value
 | cs, _, [] => cs
 | [], _, _ => []
 | _ :: cs, 0, x :: xs => x :: setV cs 0 xs
 | c :: cs, n + 1, xs => c :: setV cs n xs
theorem setAt_rel {g : Gh} {w : World} : ∀ (cs : List AV) (n : Nat) (xs : List AV) (vs us : List Value), RelAll g w cs vs → RelAll g w xs us → RelAll g w (setAt cs n xs) (setV vs n us)
 | cs, n, [], vs, us, h, k => by obtain rfl : us = [] := k; cases cs <;> cases vs <;> simpa [setAt, setV] using h
 | [], n, x :: xs, vs, us, h, k => by obtain rfl : vs = [] := h; obtain ⟨u, ur, rfl, _, _⟩ := k; rfl
 | c :: cs, 0, x :: xs, vs, us, ⟨v, vr, e, _, h⟩, ⟨u, ur, e', hu, k⟩ => by
  subst e; subst e'
  exact ⟨u, _, rfl, hu, setAt_rel cs 0 xs vr ur h k⟩
 | c :: cs, n + 1, x :: xs, vs, us, ⟨v, vr, e, hv, h⟩, ⟨u, ur, e', hu, k⟩ => by
  subst e; subst e'
  exact ⟨v, _, rfl, hv, setAt_rel cs n (x :: xs) vr (u :: ur) h ⟨u, ur, rfl, hu, k⟩⟩
theorem length_setV : ∀ (cs : List Value) (n : Nat) (xs : List Value), (setV cs n xs).length = cs.length
 | cs, n, [] => by cases cs <;> rfl
 | [], n, x :: xs => rfl
 | c :: cs, 0, x :: xs => by simp [setV, length_setV cs 0 xs]
 | c :: cs, n + 1, x :: xs => by simp [setV, length_setV cs n (x :: xs)]
theorem set_setV : ∀ (cs : List Value) (n : Nat) (x : Value) (xs : List Value), n < cs.length → setV (cs.set n x) (n + 1) xs = setV cs n (x :: xs)
 | [], n, x, xs, h => by simp at h
 | c :: cs, 0, x, xs, h => by
  cases xs with
  | nil => cases cs <;> rfl
  | cons y ys => rfl
 | c :: cs, n + 1, x, xs, h => by
  have := set_setV cs n x xs (by simpa using h)
  cases xs with
  | nil => simp only [List.set_cons_succ, setV]; rw [← this]; cases hc : (cs.set n x) <;> rfl
  | cons y ys => simp only [List.set_cons_succ, setV]; rw [this]
theorem mem_setV : ∀ (cs : List Value) (n : Nat) (xs : List Value) (u : Value), u ∈ setV cs n xs → u ∈ cs ∨ u ∈ xs
 | [], n, [], u, h => .inl h
 | c :: cs, n, [], u, h => .inl h
 | [], n, x :: xs, u, h => .inl h
 | c :: cs, 0, x :: xs, u, h => by
  simp only [setV, List.mem_cons] at h ⊢
  rcases h with h | h
  ·exact .inr (.inl h)
  ·rcases mem_setV cs 0 xs u h with h | h
   ·exact .inl (.inr h)
   ·exact .inr (.inr h)
 | c :: cs, n + 1, x :: xs, u, h => by
  simp only [setV, List.mem_cons] at h
  rcases h with h | h
  ·exact .inl (by simp [h])
  ·rcases mem_setV cs n (x :: xs) u h with h | h
   ·exact .inl (by simp [h])
   ·exact .inr h
theorem foldl_setV : ∀ (xs : List Value) (cs : Array Value) (off k : Nat), off + k + xs.length ≤ cs.size →
  ((xs.zipIdx k).foldl (fun cs (x : Value × Nat) => cs.setIfInBounds (off + x.2) x.1) cs).toList = setV cs.toList (off + k) xs
 | [], cs, off, k, h => by cases hc : cs.toList <;> simp [setV, hc]
 | x :: xs, cs, off, k, h => by
  simp only [List.zipIdx_cons, List.foldl_cons]
  rw [foldl_setV xs _ off (k + 1) (by simp at h ⊢; omega)]
  rw [Array.toList_setIfInBounds, ← Nat.add_assoc]
  exact set_setV _ _ _ _ (by simp at h ⊢; omega)
def aparts : List (Nat × Nat × AV) → List AV → (List AV → Ans) → Ans
 | [], cs, k => k cs
 | (off, sz, x) :: r, cs, k => match cellsA x with
  | some xs => if xs.length = sz ∧ off + sz ≤ cs.length then aparts r (setAt cs off xs) k else none
  | none => none
theorem aparts_run {g : Gh} {w : World} {ev : Operand → AV} {a : Act} {xs : List Operand} (he : EvR g w ev a xs) (place : Nat → Option (Nat × Nat)) {k : List AV → Ans} {fin : Fin × St} :
  ∀ (parts : List (Nat × Nat × Nat × Operand)), (∀ p ∈ parts, p.2.2.2 ∈ xs) → (∀ p ∈ parts, place p.1 = some (p.2.1, p.2.2.1)) → ∀ (cs : List AV) (vs : Array Value), RelAll g w cs vs.toList → (∀ u ∈ vs.toList, u.oneCell' = true) →
   aparts (parts.map fun p => (p.2.1, p.2.2.1, ev p.2.2.2)) cs k = some fin →
   ∃ ds us, k ds = some fin ∧ Instr.fill place vs (parts.map fun p => (p.1, a.eval p.2.2.2)) = some us ∧ RelAll g w ds us.toList ∧ ∀ u ∈ us.toList, u.oneCell' = true
 | [], _, _, cs, vs, hr, h1c, h => ⟨cs, vs, h, rfl, hr, h1c⟩
 | (i, off, sz, x) :: parts, hpx, hp, cs, vs, hr, h1c, h => by
  simp only [List.map_cons, aparts] at h
  split at h
  ·rename_i xs' hxs
   split at h
   ·rename_i hc
    obtain ⟨hv, hvc⟩ := cellsA_rel hxs (he x (hpx _ (List.mem_cons_self)))
    have hlen := RelAll.length _ _ hv
    have hlen2 := RelAll.length _ _ hr
    have hlen : xs'.length = (a.eval x).cells.size := by simpa using hlen
    have hlen2 : cs.length = vs.size := by simpa using hlen2
    have e := foldl_setV (a.eval x).cells.toList vs off 0 (by simp; omega)
    have e : ((((a.eval x).cells.zipIdx).foldl (fun cs (c, j) => cs.setIfInBounds (off + j) c) vs)).toList = setV vs.toList off (a.eval x).cells.toList := by
     rw [← Array.foldl_toList, Array.toList_zipIdx]; exact e
    obtain ⟨ds, us, h1, h2, h3⟩ := aparts_run he place parts (fun q hq => hpx q (List.mem_cons_of_mem _ hq)) (fun q hq => hp q (List.mem_cons_of_mem _ hq)) _ ((((a.eval x).cells.zipIdx).foldl (fun cs (c, j) => cs.setIfInBounds (off + j) c) vs)) (by
     rw [e]
     exact setAt_rel cs off xs' _ _ hr hv) (by
     rw [e]
     intro u hu
     rcases mem_setV _ _ _ _ hu with hu | hu
     ·exact h1c u hu
     ·exact hvc u hu) h
    refine ⟨ds, us, h1, ?_, h3⟩
    simp only [List.map_cons, Instr.fill, hp _ (List.mem_cons_self)]
    rw [if_neg (by simp; omega)]
    exact h2
   ·cases h
  ·cases h
def placesOf (P : Program) : List Field → Option (List (Nat × Nat))
 | [] => some []
 | f :: r => match P.info? f.type with
  | some i => match placesOf P r with
   | some l => some ((f.offset, i.size) :: l)
   | none => none
  | none => none
theorem placesOf_run {w : World} : ∀ (fs : List Field) (l : List (Nat × Nat)), placesOf P fs = some l → (fs.mapM (m := Sem) fun f => do pure (f.offset, ← sizeOf f.type)).run P w = .ok l w
 | [], l, h => by simp [placesOf] at h; subst h; rfl
 | f :: r, l, h => by
  simp only [placesOf] at h
  split at h
  ·rename_i i hi
   split at h
   ·rename_i l' hl
    simp only [Option.some.injEq] at h
    subst h
    rw [List.mapM_cons]
    have h1 := run_sizeOf' (P := P) (t := f.type) (n := i.size) (by rw [hi]; rfl) w
    have h2 := placesOf_run (w := w) r l' hl
    simp only [Sem.run_bind, Sem.run_pure, h1, Result.andThen_ok]
    rw [h2]
    rfl
   ·cases h
  ·cases h
def buildB (P : Program) (T : TypeId) (Z : Array Value) (parts : List (Nat × Nat × Nat × Operand)) : Bool :=
 match P.underlying T with
 | some (.struct fs) => match placesOf P fs.toList with
  | some l => Z.toList.all Value.oneCell' && parts.all fun p => match l[p.1]? with
   | some x => Nat.beq x.1 p.2.1 && Nat.beq x.2 p.2.2.1
   | none => false
  | none => false
 | _ => false
def abuild (Z : Array Value) (parts : List (Nat × Nat × AV)) (k : AV → Ans) : Ans := aparts parts (Z.toList.map ofLitS) fun cs => k (.agg cs)
theorem parts_ev {ev ev' : Operand → AV} {parts : List (Nat × Nat × Nat × Operand)} (h : ∀ x ∈ parts.map (·.2.2.2), ev x = ev' x) : (parts.map fun p => (p.2.1, p.2.2.1, ev p.2.2.2)) = parts.map fun p => (p.2.1, p.2.2.1, ev' p.2.2.2) :=
 List.map_congr_left fun p hp => by rw [h p.2.2.2 (List.mem_map_of_mem hp)]
def opBuild (dst : Option Tmp) (T : TypeId) (Z : Array Value) (parts : List (Nat × Nat × Nat × Operand)) (hz : (P.info? T).bind (·.zero) = some (.agg Z)) (hb : buildB P T Z parts = true) (ty : TypeId) (pos : String) (after : Array Edge) : PSim P :=
 PSim.quiet (mkOp dst (.build T (parts.map fun p => (p.1, p.2.2.2)).toArray) ty pos after) rfl (parts.map (·.2.2.2)) (fun ev k => abuild Z (parts.map fun p => (p.2.1, p.2.2.1, ev p.2.2.2)) k)
  (fun ev ev' k h => by rw [parts_ev h]) fun ev k fin h g w a st he hs => by
  unfold buildB at hb
  split at hb
  ·rename_i fs hu
   split at hb
   ·rename_i l hl
    rw [Bool.and_eq_true] at hb
    have hb2 := List.all_eq_true.mp hb.2
    have hp : ∀ p ∈ parts, (l.toArray)[p.1]? = some (p.2.1, p.2.2.1) := by
     intro p hp
     have := hb2 p hp
     rw [List.getElem?_toArray]
     split at this
     ·rename_i x hx
      simp only [Bool.and_eq_true] at this
      rw [hx]
      have e1 : x.1 = p.2.1 := by simpa using this.1
      have e2 : x.2 = p.2.2.1 := by simpa using this.2
      rw [← e1, ← e2]
     ·cases this
    obtain ⟨ds, us, h1, h2, h3, h4⟩ := aparts_run he (fun i => l.toArray[i]?) parts (fun p hp => List.mem_map_of_mem hp) hp _ Z (ofLits_rel g w Z.toList) (List.all_eq_true.mp hb.1) h
    refine ⟨_, _, h1, ?_, us, rfl, h3, h4⟩
    have hpl : (fs.mapM (m := Sem) fun f => do pure (f.offset, ← sizeOf f.type)).run P w = .ok l.toArray w := by
     rw [Array.mapM_eq_mapM_toList, Sem.run_map, placesOf_run _ _ hl]; rfl
    have h2' : Instr.fill (fun i => l.toArray[i]?) Z (List.map (fun x => match x with | (i, x) => (i, a.eval x)) (parts.map fun p => (p.1, p.2.2.2))) = some us := by
     rw [List.map_map]; exact h2
    simp only [execOp, mkOp, Instr.build, Sem.run_bind, run_zeroValue' hz, Result.andThen_ok, run_underlying hu, hpl, Value.cells, List.map_toArray]
    rw [h2']
    rfl
   ·cases hb
  ·cases hb
def leastI (mx : Bool) (a b : Int) : Int :=
 match mx with
 | true => if b > a then b else a
 | false => if b < a then b else a
def aminmax (mx : Bool) (x : AV) : List AV → (AV → Ans) → Ans
 | [], k => k x
 | y :: r, k => match x with
  | .int kx a => match y with
   | .int _ b => aminmax mx (.int kx (leastI mx a b)) r k
   | _ => none
  | _ => none
theorem aminmax_run (mx : Bool) {g : Gh} {w : World} {k : AV → Ans} {fin : Fin × St} : ∀ (ys : List AV) (us : List Value) (x : AV) (v : Value), Rel g w x v → RelAll g w ys us → aminmax mx x ys k = some fin →
  ∃ r u, k r = some fin ∧ (us.foldlM (match mx with | true => Builtin.max2 | false => Builtin.min2) v).run P w = .ok u w ∧ Rel g w r u
 | [], us, x, v, hx, hy, h => by obtain rfl : us = [] := hy; exact ⟨x, v, h, rfl, hx⟩
 | y :: ys, us, x, v, hx, ⟨u, ur, e, hu, hy⟩, h => by
  subst e
  simp only [aminmax] at h
  split at h
  ·rename_i kx p
   split at h
   ·rename_i ky q
    obtain rfl : v = .int kx p := hx
    obtain rfl : u = .int ky q := hu
    obtain ⟨r, z, h1, h2, h3⟩ := aminmax_run mx ys ur (.int kx (leastI mx p q)) (.int kx (leastI mx p q)) rfl hy h
    refine ⟨r, z, h1, ?_, h3⟩
    rw [List.foldlM_cons, Sem.run_bind]
    cases mx <;> simpa [Builtin.max2, Builtin.min2, leastI] using h2
   ·cases h
  ·cases h
def opMinMax (dst : Option Tmp) (mx : Bool) (x : Operand) (ys : List Operand) (tys : Array TypeId) (ty : TypeId) (pos : String) (after : Array Edge) : PSim P :=
 PSim.quiet (mkOp dst (.call { callee := .builtin (match mx with | true => .max | false => .min), args := (x :: ys).toArray, argTypes := tys }) ty pos after) rfl (x :: ys) (fun ev k => aminmax mx (ev x) (ys.map ev) k)
  (fun ev ev' k h => by rw [h x (by simp), map_ev h (ys := ys) (fun y hy => by simp [hy])]) fun ev k fin h g w a st he hs => by
  obtain ⟨r, v, h1, h2, h3⟩ := aminmax_run (P := P) mx _ _ _ _ (he x (by simp)) (he.list ys fun y hy => by simp [hy]) h
  refine ⟨r, v, h1, ?_, h3⟩
  rw [callBuiltin]
  cases mx
  ·simp only [builtin, Builtin.min_, List.map_toArray, List.map_cons, Sem.run_bind]
   rw [h2]; rfl
  ·simp only [builtin, Builtin.max_, List.map_toArray, List.map_cons, Sem.run_bind]
   rw [h2]; rfl
end
end Go.V
namespace Go.V
section
variable {P : Program}
def Gh.use (g : Gh) (b : Nat) (kd : BK) : Nat → BK := fun x => if x = b then kd else g.kind x
structure Push (w w1 : World) (o : Obj) : Prop where
 os : w1.os = w.os
 tape : w1.tape = w.tape
 output : w1.output = w.output
 heap : w1.heap = w.heap.push o
theorem Push.old {w w1 : World} {o : Obj} (h : Push w w1 o) {b : Nat} (hb : b < w.heap.size) : w1.heap[b]? = w.heap[b]? := by
 rw [h.heap, Array.getElem?_push, if_neg (by omega)]
theorem Push.new {w w1 : World} {o : Obj} (h : Push w w1 o) : w1.heap[w.heap.size]? = some o := by
 rw [h.heap, Array.getElem?_push, if_pos rfl]
theorem Push.size {w w1 : World} {o : Obj} (h : Push w w1 o) : w1.heap.size = w.heap.size + 1 := by
 rw [h.heap]; simp
theorem Push.alloc (w : World) (o : Obj) : Push w (w.alloc o) o := ⟨rfl, rfl, rfl, rfl⟩
theorem Push.drew (w : World) (o : Obj) : Push w (w.drew.alloc o) o := ⟨rfl, rfl, rfl, rfl⟩
theorem Ev.push {g : Gh} {w w1 : World} {o : Obj} (h : Push w w1 o) (kd : BK) (os : List Nat) (tk' : List (Nat × Nat)) (htk : ∀ t sz n : Nat, g.tk[t]? = some (sz, n) → ∃ n', tk'[t]? = some (sz, n') ∧ n ≤ n') :
  Ev g w ⟨g.use w.heap.size kd, g.objs ++ os, tk', g.ver⟩ w1 where
 os := h.os
 tape := h.tape
 output := h.output
 size := by rw [h.size]; omega
 fixed := fun b hb hk => ⟨by simp only [Gh.use]; rw [if_neg (by omega)], h.old hb⟩
 row := fun b t hb hk => ⟨by simp only [Gh.use]; rw [if_neg (by omega)]; exact hk, fun C E fz hC => ⟨C, (h.old hb).trans hC, rfl, fun _ _ => rfl⟩⟩
 obj := fun b k hb hk => .inl (by simp only [Gh.use]; rw [if_neg (by omega)]; exact hk)
 ver := fun k _ => Nat.le_refl _
 vec := fun b k hb _ hk _ => ⟨by simp only [Gh.use]; rw [if_neg (by omega)]; exact hk, fun C E fz hC => ⟨C, (h.old hb).trans hC, rfl⟩⟩
 objs := fun k b hk => by
  show (g.objs ++ os)[k]? = some b
  have hlt : k < g.objs.length := by
   rcases Nat.lt_or_ge k g.objs.length with h' | h'
   ·exact h'
   ·rw [List.getElem?_eq_none h'] at hk; cases hk
  rw [List.getElem?_append_left hlt]; exact hk
 tk := htk
 ty := fun b C E fz hb => ⟨C, fz, (h.old (lt_of_block hb)).trans hb, rfl⟩
theorem tk_refl (tk : List (Nat × Nat)) : ∀ t sz n : Nat, tk[t]? = some (sz, n) → ∃ n', tk[t]? = some (sz, n') ∧ n ≤ n' := fun _ _ n h => ⟨n, h, Nat.le_refl _⟩
theorem tk_more (tk ts : List (Nat × Nat)) : ∀ t sz n : Nat, tk[t]? = some (sz, n) → ∃ n', (tk ++ ts)[t]? = some (sz, n') ∧ n ≤ n' := fun t sz n h => ⟨n, by
 have hlt : t < tk.length := by
  rcases Nat.lt_or_ge t tk.length with h' | h'
  ·exact h'
  ·rw [List.getElem?_eq_none h'] at h; cases h
 rw [List.getElem?_append_left hlt]; exact h, Nat.le_refl _⟩
theorem tk_set (tk : List (Nat × Nat)) (t0 s0 n0 m : Nat) (h0 : tk[t0]? = some (s0, n0)) (hm : n0 ≤ m) : ∀ t sz n : Nat, tk[t]? = some (sz, n) → ∃ n', (tk.set t0 (s0, m))[t]? = some (sz, n') ∧ n ≤ n' := fun t sz n h => by
 by_cases ht : t0 = t
 ·subst ht
  rw [h0] at h
  simp only [Option.some.injEq, Prod.mk.injEq] at h
  have hlt : t0 < tk.length := by
   rcases Nat.lt_or_ge t0 tk.length with h' | h'
   ·exact h'
   ·rw [List.getElem?_eq_none h'] at h0; cases h0
  exact ⟨m, by rw [List.getElem?_set, if_pos rfl, if_pos hlt, h.1], by omega⟩
 ·exact ⟨n, by rw [List.getElem?_set, if_neg ht]; exact h, Nat.le_refl _⟩
theorem ObRel.keep {g g' : Gh} {w w' : World} (h : Ev g w g' w') {k b : Nat} {o : Ob} (hb : w'.heap[b]? = w.heap[b]?) (hk : g'.kind b = g.kind b) (hv : ∀ b', b' < w.heap.size → g.kind b' = .vec k → w'.heap[b']? = w.heap[b']? ∧ g'.kind b' = .vec k) (hver : g'.ver k = g.ver k) (hr : ObRel g w k b o) : ObRel g' w' k b o := by
 cases o with
 | cells cs =>
  obtain ⟨h1, C, E, h2, h3, h4⟩ := hr
  exact ⟨hk.trans h1, C, E, hb.trans h2, RelAll.mono h _ _ h3, h4⟩
 | map es =>
  obtain ⟨h1, M, c, h2, h3, h4⟩ := hr
  exact ⟨hk.trans h1, M, c, hb.trans h2, RelAll.mono h _ _ h3, RelAll.mono h _ _ h4⟩
 | gone => trivial
 | lp s j f tm =>
  obtain ⟨h1, L, h2, h3, h4, h5⟩ := hr
  exact ⟨hk.trans h1, L, hb.trans h2, h3, h4, RelAll.mono h _ _ h5⟩
 | nov v => exact hver.trans hr
 | vec v cs =>
  obtain ⟨h1, b', h2, h3, C, E, h4, h5, h6⟩ := hr
  obtain ⟨k1, k2⟩ := hv b' h2 h3
  exact ⟨hver.trans h1, b', Nat.lt_of_lt_of_le h2 h.size, k2, C, E, k1.trans h4, RelAll.mono h _ _ h5, h6⟩
theorem getElem?_lt {α : Type} {l : List α} {i : Nat} {x : α} (h : l[i]? = some x) : i < l.length := by
 rcases Nat.lt_or_ge i l.length with h' | h'
 ·exact h'
 ·rw [List.getElem?_eq_none h'] at h; cases h
theorem StRel.push {g : Gh} {st : St} {w w1 : World} {o : Obj} (hs : StRel g st w) (h : Push w w1 o) (kd : BK) (tk' : List (Nat × Nat)) (htk : ∀ t sz n : Nat, g.tk[t]? = some (sz, n) → ∃ n', tk'[t]? = some (sz, n') ∧ n ≤ n')
  (hkd : match kd with | .solid => True | .part _ => True | .row t => t < tk'.length | .obj _ => False | .vec _ => False) : StRel ⟨g.use w.heap.size kd, g.objs, tk', g.ver⟩ ⟨st.objs, tk'⟩ w1 := by
 have hE : Ev g w ⟨g.use w.heap.size kd, g.objs, tk', g.ver⟩ w1 := by simpa using Ev.push h kd [] tk' htk
 refine ⟨rfl, hs.len, fun k b x hk hx => ?_, fun b k hb hk => ?_, fun b t hb hk => ?_, fun b k hb hk => ?_, hs.glob.mono hE⟩
 ·obtain ⟨h1, h2⟩ := hs.obj k b x hk hx
  exact ⟨by rw [h.size]; omega, h2.keep hE (h.old h1) (by simp only [Gh.use]; rw [if_neg (by omega)]) (fun b' hb' hk' => ⟨h.old hb', by simp only [Gh.use]; rw [if_neg (by omega)]; exact hk'⟩) rfl⟩
 ·simp only [Gh.use] at hk
  split at hk
  ·subst hk; exact hkd.elim
  ·rename_i hne
   exact hs.back b k (by rw [h.size] at hb; omega) hk
 ·simp only [Gh.use] at hk
  split at hk
  ·subst hk; exact hkd
  ·rename_i hne
   have := hs.rowlt b t (by rw [h.size] at hb; omega) hk
   have h1 : st.tk.length ≤ tk'.length := by
    rcases Nat.lt_or_ge tk'.length st.tk.length with h' | h'
    ·have hx : g.tk[tk'.length]? = some st.tk[tk'.length] := by rw [hs.tk]; exact List.getElem?_eq_getElem h'
     obtain ⟨n', h1, _⟩ := htk _ _ _ hx
     rw [List.getElem?_eq_none (Nat.le_refl _)] at h1; cases h1
    ·exact h'
   show t < tk'.length
   omega
 ·simp only [Gh.use] at hk
  split at hk
  ·subst hk; exact hkd.elim
  ·rename_i hne
   obtain ⟨h1, h2⟩ := hs.vec b k (by rw [h.size] at hb; omega) hk
   refine ⟨h1, fun b' hb' hk' => ?_⟩
   simp only [Gh.use] at hk'
   split at hk'
   ·subst hk'; exact hkd.elim
   ·exact h2 b' (by rw [h.size] at hb'; omega) hk'
theorem StRel.pushObj {g : Gh} {st : St} {w w1 : World} {o : Obj} (hs : StRel g st w) (h : Push w w1 o) (x : Ob) (hx : match x with | .gone => False | .vec .. => False | .nov _ => False | _ => True)
  (hr : Ev g w ⟨g.use w.heap.size (.obj st.objs.length), g.objs ++ [w.heap.size], g.tk, g.ver⟩ w1 → ObRel ⟨g.use w.heap.size (.obj st.objs.length), g.objs ++ [w.heap.size], g.tk, g.ver⟩ w1 st.objs.length w.heap.size x) :
  StRel ⟨g.use w.heap.size (.obj st.objs.length), g.objs ++ [w.heap.size], g.tk, g.ver⟩ ⟨st.objs ++ [x], st.tk⟩ w1 := by
 have hE : Ev g w ⟨g.use w.heap.size (.obj st.objs.length), g.objs ++ [w.heap.size], g.tk, g.ver⟩ w1 := Ev.push h _ _ _ (tk_refl _)
 refine ⟨hs.tk, by simp [hs.len], fun k b y hk hy => ?_, fun b k hb hk => ?_, fun b t hb hk => ?_, fun b k hb hk => ?_, hs.glob.mono hE⟩
 ·rcases Nat.lt_or_ge k st.objs.length with hlt | hge
  ·rw [List.getElem?_append_left (by rw [hs.len]; exact hlt)] at hk
   rw [List.getElem?_append_left hlt] at hy
   obtain ⟨h1, h2⟩ := hs.obj k b y hk hy
   exact ⟨by rw [h.size]; omega, h2.keep hE (h.old h1) (by simp only [Gh.use]; rw [if_neg (by omega)]) (fun b' hb' hk' => ⟨h.old hb', by simp only [Gh.use]; rw [if_neg (by omega)]; exact hk'⟩) rfl⟩
  ·have hkl : k = st.objs.length := by have := getElem?_lt hy; simp at this; omega
   subst hkl
   rw [List.getElem?_append_right (by rw [hs.len]; exact Nat.le_refl _)] at hk
   rw [List.getElem?_append_right (Nat.le_refl _)] at hy
   simp [hs.len] at hk hy
   subst hk; subst hy
   exact ⟨by rw [h.size]; omega, hr hE⟩
 ·simp only [Gh.use] at hk
  split at hk
  ·rename_i hb'
   simp only [BK.obj.injEq] at hk
   subst hk; subst hb'
   refine ⟨x, by simp, ?_, hx⟩
   show (g.objs ++ [w.heap.size])[st.objs.length]? = some w.heap.size
   rw [List.getElem?_append_right (by rw [hs.len]; exact Nat.le_refl _)]; simp [hs.len]
  ·rename_i hne
   obtain ⟨y, h1, h2, h3⟩ := hs.back b k (by rw [h.size] at hb; omega) hk
   exact ⟨y, by rw [List.getElem?_append_left (getElem?_lt h1)]; exact h1, by show (g.objs ++ [w.heap.size])[k]? = some b; rw [List.getElem?_append_left (getElem?_lt h2)]; exact h2, h3⟩
 ·simp only [Gh.use] at hk
  split at hk
  ·cases hk
  ·exact hs.rowlt b t (by rw [h.size] at hb; omega) hk
 ·simp only [Gh.use] at hk
  split at hk
  ·cases hk
  ·obtain ⟨⟨v, cs, h1⟩, h2⟩ := hs.vec b k (by rw [h.size] at hb; omega) hk
   refine ⟨⟨v, cs, by rw [List.getElem?_append_left (getElem?_lt h1)]; exact h1⟩, fun b' hb' hk' => ?_⟩
   simp only [Gh.use] at hk'
   split at hk'
   ·cases hk'
   ·exact h2 b' (by rw [h.size] at hb'; omega) hk'
theorem run_newRow (e : TypeId) (C : Array Value) (w : World) : (newRow e C).run P w = .ok ⟨w.heap.size, 0, none⟩ (w.alloc (.cells C e)) := rfl
theorem solid_cells {g : Gh} {w w1 : World} {C : Array Value} {E : TypeId} (h : Push w w1 (.cells C E)) (tk' : List (Nat × Nat)) (htk : ∀ t sz n : Nat, g.tk[t]? = some (sz, n) → ∃ n', tk'[t]? = some (sz, n') ∧ n ≤ n') (objs : List Nat) :
  ∀ j v, C.toList[j]? = some v → w1.cell? ⟨w.heap.size, 0 + j, none⟩ = some v ∧ Gh.prot ⟨g.use w.heap.size .solid, objs, tk', g.ver⟩ w.heap.size (0 + j) := by
 intro j v hj
 refine ⟨by rw [cell_of h.new]; simpa using hj, ?_⟩
 simp [Gh.prot, Gh.use]
def opBoxF (dst : Option Tmp) (T : TypeId) (x : Operand) (ty : TypeId) (pos : String) (after : Array Edge) : PSim P :=
 PSim.makes (mkOp dst (.box T x) ty pos after) rfl [x] (fun ev k => match cellsA (ev x) with
  | some cs => k (.eptr cs)
  | none => none) (fun ev ev' k h => by simp only [h x (by simp)]) fun ev k fin h g w a st he hs => by
  split at h
  ·rename_i cs hcs
   obtain ⟨h1, h1c⟩ := cellsA_rel hcs (he x (by simp))
   have hp := Push.alloc w (.cells (a.eval x).cells T)
   have hE : Ev g w ⟨g.use w.heap.size .solid, g.objs, g.tk, g.ver⟩ (w.alloc (.cells (a.eval x).cells T)) := by simpa using Ev.push hp .solid [] g.tk (tk_refl _)
   refine ⟨_, .pointer (some ⟨w.heap.size, 0, none⟩), ⟨g.use w.heap.size .solid, g.objs, g.tk, g.ver⟩, w.alloc (.cells (a.eval x).cells T), h, ?_, ⟨_, _, rfl, ?_⟩, ?_, hE⟩
   ·simp [execOp, mkOp, Instr.box, newVar, run_newRow]
   ·exact RelCells.of cs _ _ _ (RelAll.mono hE _ _ h1) fun j v hj => ⟨(solid_cells (g := g) hp g.tk (tk_refl _) g.objs j v hj).1, (solid_cells (g := g) hp g.tk (tk_refl _) g.objs j v hj).2, h1c v (List.mem_of_getElem? hj)⟩
   ·have := hs.push hp .solid g.tk (tk_refl _) trivial
    rw [hs.tk] at this ⊢; exact this
  ·cases h
theorem newObj_rel {g : Gh} {st : St} {w : World} (hs : StRel g st w) (v : Value) (T : TypeId) {cs : List AV} (h1 : RelAll g w cs v.cells.toList) (h1c : ∀ u ∈ v.cells.toList, u.oneCell' = true) :
  ∃ g', StRel g' ⟨st.objs ++ [.cells cs], st.tk⟩ (w.alloc (.cells v.cells T)) ∧ Ev g w g' (w.alloc (.cells v.cells T)) ∧ Rel g' (w.alloc (.cells v.cells T)) (.ptr st.objs.length 0) (.pointer (some ⟨w.heap.size, 0, none⟩)) := by
 have hp := Push.alloc w (.cells v.cells T)
 refine ⟨_, hs.pushObj hp (.cells cs) trivial (fun hE => ⟨by simp [Gh.use], v.cells, T, hp.new, by rw [List.take_of_length_le (by rw [RelAll.length _ _ h1]; exact Nat.le_refl _)]; exact RelAll.mono hE _ _ h1, fun u hu => h1c u (List.mem_of_mem_take hu)⟩), Ev.push hp _ _ _ (tk_refl _), w.heap.size, ?_, rfl⟩
 show (g.objs ++ [w.heap.size])[st.objs.length]? = some w.heap.size
 rw [List.getElem?_append_right (by rw [hs.len]; exact Nat.le_refl _)]; simp [hs.len]
def opBox (dst : Option Tmp) (T : TypeId) (x : Operand) (ty : TypeId) (pos : String) (after : Array Edge) : MSim P :=
 MSim.makes (mkOp dst (.box T x) ty pos after) rfl [x] (fun ev st k => match cellsA (ev x) with
  | some cs => k (.ptr st.objs.length 0) ⟨st.objs ++ [.cells cs], st.tk⟩
  | none => none) (fun ev ev' st k h => by simp only [h x (by simp)]) fun ev st k fin h g w a he hs => by
  split at h
  ·rename_i cs hcs
   obtain ⟨h1, h1c⟩ := cellsA_rel hcs (he x (by simp))
   obtain ⟨g', k1, k2, k3⟩ := newObj_rel hs (a.eval x) T h1 h1c
   exact ⟨_, _, _, g', _, h, by simp [execOp, mkOp, Instr.box, newVar, run_newRow] <;> rfl, k3, k1, k2⟩
  ·cases h
def opAlloc (dst : Option Tmp) (T : TypeId) (z : Value) (hz : (P.info? T).bind (·.zero) = some z) (ty : TypeId) (pos : String) (after : Array Edge) : MSim P :=
 MSim.makes (mkOp dst (.alloc T) ty pos after) rfl [] (fun ev st k => match cellsA (ofLit z) with
  | some cs => k (.ptr st.objs.length 0) ⟨st.objs ++ [.cells cs], st.tk⟩
  | none => none) (fun ev ev' st k h => rfl) fun ev st k fin h g w a he hs => by
  split at h
  ·rename_i cs hcs
   obtain ⟨h1, h1c⟩ := cellsA_rel hcs (ofLit_rel g w z)
   obtain ⟨g', k1, k2, k3⟩ := newObj_rel hs z T h1 h1c
   exact ⟨_, _, _, g', _, h, by simp [execOp, mkOp, Instr.alloc, newVar, run_newRow, run_zeroValue' hz] <;> rfl, k3, k1, k2⟩
  ·cases h
theorem setRow_other' (w : World) (g k : Nat) (cs : Array Value) (h : k ≠ g) : (w.setRow g cs).heap[k]? = w.heap[k]? := by
 simp only [World.setRow, Array.getElem?_modify]
 rw [if_neg (by omega)]
theorem run_storeCells_gen (b o : Nat) (E : TypeId) (fz : Nat × Nat) : ∀ (vs : List Value) (i : Nat) (C : Array Value) (w : World), w.heap[b]? = some (.cells C E fz) → o + i + vs.length ≤ C.size → (∀ j, o + i ≤ j → j < o + i + vs.length → ¬ (fz.1 ≤ j ∧ j < fz.2)) → (∀ v ∈ vs, v.oneCell' = true) →
  (storeCells ⟨b, o, none⟩ vs i).run P w = .ok () (w.setRow b (setV C.toList (o + i) vs).toArray)
 | [], i, C, w, hb, _, _, _ => by
  have : setV C.toList (o + i) [] = C.toList := by cases C.toList <;> rfl
  rw [this, Array.toArray_toList, setRow_self w b C E fz hb]
  rfl
 | v :: vs, i, C, w, hb, hl, hf, h1 => by
  have hi : o + i < C.size := by simp at hl; omega
  have hcell : w.cell? ⟨b, o + i, none⟩ = some C[o + i] := by rw [cell_of hb]; simp [hi]
  have hfro : w.frozen? ⟨b, o + i, none⟩ = false := by
   have := hf (o + i) (Nat.le_refl _) (by simp)
   simp only [World.frozen?, hb]
   simpa using this
  have hst : (store ((⟨b, o, none⟩ : Addr).add i) v).run P w = .ok () (w.setRow b (C.setIfInBounds (o + i) v)) := by
   rw [add_none, run_store P w _ v _ (h1 v (by simp)), hcell]
   simp [hfro, setCell_eq_setRow w b (o + i) C E fz v hb]
  have ih := run_storeCells_gen b o E fz vs (i + 1) (C.setIfInBounds (o + i) v) (w.setRow b (C.setIfInBounds (o + i) v)) (setRow_heap w b C _ E _ hb) (by simp at hl ⊢; omega) (fun j h2 h3 => hf j (by omega) (by simp; omega)) (fun x hx => h1 x (by simp [hx]))
  simp only [storeCells, Sem.run_bind, hst, Result.andThen_ok, ih, setRow_setRow]
  rw [Array.toList_setIfInBounds, ← Nat.add_assoc, set_setV _ _ _ _ (by simpa using hi)]
theorem length_setAt : ∀ (L : List AV) (o : Nat) (xs : List AV), (setAt L o xs).length = L.length
 | L, o, [] => by cases L <;> rfl
 | [], o, x :: xs => by simp [setAt]
 | l :: L, 0, x :: xs => by simp [setAt, length_setAt L 0 xs]
 | l :: L, o + 1, x :: xs => by simp [setAt, length_setAt L o (x :: xs)]
theorem setV_take : ∀ (L : List Value) (o n : Nat) (vs : List Value), o + vs.length ≤ n → (setV L o vs).take n = setV (L.take n) o vs
 | L, o, n, [], _ => by
  have h : ∀ M : List Value, setV M o [] = M := fun M => by cases M <;> rfl
  rw [h, h]
 | [], o, n, v :: vs, _ => by simp [setV]
 | l :: L, 0, 0, v :: vs, h => by simp at h
 | l :: L, 0, n + 1, v :: vs, h => by
  have ih := setV_take L 0 n vs (by simp at h ⊢; omega)
  simp [setV, ih]
 | l :: L, o + 1, 0, v :: vs, h => by simp at h
 | l :: L, o + 1, n + 1, v :: vs, h => by
  have ih := setV_take L o n (v :: vs) (by simp at h ⊢; omega)
  simp [setV, ih]
theorem setRow_ty {w : World} {b x : Nat} {C C' D : Array Value} {E E' : TypeId} {f f' : Nat × Nat} (hC : w.heap[b]? = some (.cells C E f)) (hC' : w.heap[x]? = some (.cells C' E' f')) (hD : D.size = C.size) : ∃ C'' f'', (w.setRow b D).heap[x]? = some (.cells C'' E' f'') ∧ C''.size = C'.size := by
 by_cases hxb : x = b
 ·subst hxb
  rw [hC] at hC'
  cases hC'
  exact ⟨_, _, setRow_heap w x C D E f hC, hD⟩
 ·exact ⟨C', f', by rw [setRow_other' _ _ _ _ hxb]; exact hC', rfl⟩
theorem write_obj {g : Gh} {st : St} {w : World} (hs : StRel g st w) {j b : Nat} (hg : g.objs[j]? = some b) {cs cs' : List AV} (hcs : st.objs[j]? = some (.cells cs)) {C : Array Value} {E : TypeId} (hC : w.heap[b]? = some (.cells C E (0, 0))) {o : Nat} {vs : List Value} (h1 : ∀ u ∈ vs, u.oneCell' = true) (hfit : o + vs.length ≤ C.size)
  (hr : RelAll g w cs' ((setV C.toList o vs).take cs'.length)) (hrc : ∀ u ∈ (setV C.toList o vs).take cs'.length, u.oneCell' = true) :
  ∃ w', (storeCells ⟨b, o, none⟩ vs 0).run P w = .ok () w' ∧ StRel g ⟨st.objs.set j (.cells cs'), st.tk⟩ w' ∧ Ev g w g w' ∧ w'.heap[b]? = some (.cells (setV C.toList o vs).toArray E (0, 0)) := by
 obtain ⟨hkind, _⟩ := ob_of hs hg hcs
 have hlt := lt_of_block hC
 have hrun := run_storeCells_gen (P := P) b o E (0, 0) vs 0 C w hC (by omega) (fun j _ _ => by simp) h1
 rw [Nat.add_zero] at hrun
 have hE : Ev g w g (w.setRow b (setV C.toList o vs).toArray) := by
  refine ⟨rfl, rfl, rfl, by simp, fun x hx hk => ⟨rfl, ?_⟩, fun x t hx hk => ⟨hk, fun C' E' fz hC' => ⟨C', ?_, rfl, fun _ _ => rfl⟩⟩, fun x k hx hk => .inl hk, fun _ _ h => h, tk_refl _, fun _ _ => Nat.le_refl _, fun x k hx _ hk _ => ⟨hk, fun C' E' fz hC' => ⟨C', ?_, rfl⟩⟩, fun x C' E' fz hC' => ?_⟩
  ·refine setRow_other' _ _ _ _ ?_
   intro e; subst e; rw [hkind] at hk; cases hk
  ·rw [setRow_other' _ _ _ _ ?_]
   ·exact hC'
   ·intro e; subst e; rw [hkind] at hk; cases hk
  ·rw [setRow_other' _ _ _ _ ?_]
   ·exact hC'
   ·intro e; subst e; rw [hkind] at hk; cases hk
  ·exact setRow_ty hC hC' (by simp [length_setV])
 refine ⟨_, hrun, ⟨hs.tk, by simp [hs.len], fun k b' y hk hy => ?_, fun b' k hb' hk => ?_, fun b' t hb' hk => hs.rowlt b' t (by simpa using hb') hk, fun b' k hb' hk => ?_, hs.glob.mono hE⟩, hE, setRow_heap w b C _ E _ hC⟩
 ·by_cases hkj : k = j
  ·subst hkj
   rw [hg] at hk
   cases hk
   rw [List.getElem?_set_self (getElem?_lt hcs)] at hy
   cases hy
   exact ⟨by simpa using hlt, hkind, _, E, setRow_heap w b C _ E _ hC, RelAll.mono hE _ _ (by simpa using hr), fun u hu => hrc u (by simpa using hu)⟩
  ·rw [List.getElem?_set_ne (fun e => hkj e.symm)] at hy
   obtain ⟨h2, h3⟩ := hs.obj k b' y hk hy
   refine ⟨by simpa using h2, ?_⟩
   have hvk : ∀ b'', b'' < w.heap.size → g.kind b'' = .vec k → (w.setRow b (setV C.toList o vs).toArray).heap[b'']? = w.heap[b'']? ∧ g.kind b'' = .vec k := fun b'' _ h5 =>
    ⟨setRow_other' _ _ _ _ (by intro e; subst e; rw [hkind] at h5; cases h5), h5⟩
   by_cases hbb : b' = b
   ·subst hbb
    cases y with
    | gone => trivial
    | nov v => exact h3
    | cells cs' => have := h3.1; rw [hkind] at this; cases this; exact absurd rfl hkj
    | map es => have := h3.1; rw [hkind] at this; cases this; exact absurd rfl hkj
    | lp _ _ _ _ => have := h3.1; rw [hkind] at this; cases this; exact absurd rfl hkj
    | vec v cs' =>
     obtain ⟨e1, b'', e2, e3, C', E', e4, e5, e6⟩ := h3
     exact ⟨e1, b'', by simpa using e2, e3, C', E', (hvk b'' e2 e3).1.trans e4, RelAll.mono hE _ _ e5, e6⟩
   ·exact h3.keep hE (setRow_other' _ _ _ _ hbb) rfl hvk rfl
 ·obtain ⟨y, h2, h3, h4⟩ := hs.back b' k (by simpa using hb') hk
  by_cases hkj : k = j
  ·subst hkj
   exact ⟨_, List.getElem?_set_self (getElem?_lt hcs), h3, trivial⟩
  ·exact ⟨y, by rw [List.getElem?_set_ne (fun e => hkj e.symm)]; exact h2, h3, h4⟩
 ·obtain ⟨⟨v, cs', h2⟩, h3⟩ := hs.vec b' k (by simpa using hb') hk
  refine ⟨⟨v, cs', ?_⟩, fun b'' hb'' h5 => h3 b'' (by simpa using hb'') h5⟩
  have hkj : k ≠ j := by intro e; subst e; rw [hcs] at h2; cases h2
  rw [List.getElem?_set_ne (fun e => hkj e.symm)]; exact h2
theorem store_obj {g : Gh} {st : St} {w : World} (hs : StRel g st w) {j b : Nat} (hg : g.objs[j]? = some b) {cs : List AV} (hcs : st.objs[j]? = some (.cells cs)) {o : Nat} {xs : List AV} {vs : List Value} (hx : RelAll g w xs vs) (h1 : ∀ u ∈ vs, u.oneCell' = true) (hfit : o + xs.length ≤ cs.length) :
  ∃ w', (storeCells ⟨b, o, none⟩ vs 0).run P w = .ok () w' ∧ StRel g ⟨st.objs.set j (.cells (setAt cs o xs)), st.tk⟩ w' ∧ Ev g w g w' := by
 obtain ⟨hkind, C, E, hC, hr, hrc⟩ := ob_of hs hg hcs
 have hlen := RelAll.length _ _ hr
 have hlen2 := RelAll.length _ _ hx
 rw [List.length_take] at hlen
 have hle : cs.length ≤ C.size := by
  have : C.toList.length = C.size := by simp
  omega
 have hsl : (setAt cs o xs).length = cs.length := length_setAt _ _ _
 have ht := setV_take C.toList o cs.length vs (by omega)
 obtain ⟨w', k1, k2, k3, _⟩ := write_obj (P := P) (cs' := setAt cs o xs) hs hg hcs hC (o := o) h1 (by omega) (by rw [hsl, ht]; exact setAt_rel _ _ _ _ _ hr hx) (fun u hu => by
  rw [hsl, ht] at hu
  rcases mem_setV _ _ _ _ hu with hu | hu
  ·exact hrc u hu
  ·exact h1 u hu)
 exact ⟨w', k1, k2, k3⟩
theorem write_vec {g : Gh} {st : St} {w : World} (hs : StRel g st w) {j b v v' : Nat} (hj : j < g.objs.length) {cs cs' : List AV} (hcs : st.objs[j]? = some (.vec v cs)) (hvv : v ≤ v') (hkind : g.kind b = .vec j) {C : Array Value} {E : TypeId} (hC : w.heap[b]? = some (.cells C E (0, 0))) {o : Nat} {vs : List Value} (h1 : ∀ u ∈ vs, u.oneCell' = true) (hfit : o + vs.length ≤ C.size)
  (hr : RelAll g w cs' ((setV C.toList o vs).take cs'.length)) (hrc : ∀ u ∈ (setV C.toList o vs).take cs'.length, u.oneCell' = true) :
  ∃ w', (storeCells ⟨b, o, none⟩ vs 0).run P w = .ok () w' ∧ StRel ⟨g.kind, g.objs, g.tk, fun x => if x = j then v' else g.ver x⟩ ⟨st.objs.set j (.vec v' cs'), st.tk⟩ w' ∧ Ev g w ⟨g.kind, g.objs, g.tk, fun x => if x = j then v' else g.ver x⟩ w' ∧ w'.heap[b]? = some (.cells (setV C.toList o vs).toArray E (0, 0)) := by
 have hlt := lt_of_block hC
 have hver := (vec_of hs hj hcs).1
 have hrun := run_storeCells_gen (P := P) b o E (0, 0) vs 0 C w hC (by omega) (fun j _ _ => by simp) h1
 rw [Nat.add_zero] at hrun
 have hne : ∀ x, g.kind x ≠ .vec j → x ≠ b := fun x hx e => hx (by rw [e]; exact hkind)
 have hE : Ev g w ⟨g.kind, g.objs, g.tk, fun x => if x = j then v' else g.ver x⟩ (w.setRow b (setV C.toList o vs).toArray) := by
  refine ⟨rfl, rfl, rfl, by simp, fun x hx hk => ⟨rfl, ?_⟩, fun x t hx hk => ⟨hk, fun C' E' fz hC' => ⟨C', ?_, rfl, fun _ _ => rfl⟩⟩, fun x k hx hk => .inl hk, fun _ _ h => h, tk_refl _, fun k _ => ?_, fun x k hx _ hk _ => ⟨hk, fun C' E' fz hC' => ?_⟩, fun x C' E' fz hC' => setRow_ty hC hC' (by simp [length_setV])⟩
  ·refine setRow_other' _ _ _ _ (hne x ?_)
   intro e; rw [e] at hk; cases hk
  ·rw [setRow_other' _ _ _ _ (hne x (by intro e; rw [e] at hk; cases hk))]
   exact hC'
  ·simp only
   split
   ·rename_i e; subst e; omega
   ·exact Nat.le_refl _
  ·by_cases hxb : x = b
   ·subst hxb
    rw [hC] at hC'
    cases hC'
    exact ⟨_, setRow_heap w x C _ E _ hC, by simp [length_setV]⟩
   ·exact ⟨C', by rw [setRow_other' _ _ _ _ hxb]; exact hC', rfl⟩
 refine ⟨_, hrun, ⟨hs.tk, by simp [hs.len], fun k b' y hk hy => ?_, fun b' k hb' hk => ?_, fun b' t hb' hk => hs.rowlt b' t (by simpa using hb') hk, fun b' k hb' hk => ?_, hs.glob.mono hE⟩, hE, setRow_heap w b C _ E _ hC⟩
 ·by_cases hkj : k = j
  ·subst hkj
   rw [List.getElem?_set_self (getElem?_lt hcs)] at hy
   cases hy
   have hb0 := (hs.obj k b' _ hk hcs).1
   exact ⟨by simpa using hb0, by simp, b, by simpa using hlt, hkind, _, E, setRow_heap w b C _ E _ hC, RelAll.mono hE _ _ (by simpa using hr), fun u hu => hrc u (by simpa using hu)⟩
  ·rw [List.getElem?_set_ne (fun e => hkj e.symm)] at hy
   obtain ⟨h2, h3⟩ := hs.obj k b' y hk hy
   refine ⟨by simpa using h2, ?_⟩
   have hvk : ∀ b'', b'' < w.heap.size → g.kind b'' = .vec k → (w.setRow b (setV C.toList o vs).toArray).heap[b'']? = w.heap[b'']? ∧ g.kind b'' = .vec k := fun b'' _ h5 =>
    ⟨setRow_other' _ _ _ _ (hne b'' (by rw [h5]; intro e; cases e; exact hkj rfl)), h5⟩
   by_cases hbb : b' = b
   ·subst hbb
    cases y with
    | gone => trivial
    | nov v => exact (by show (if k = j then v' else g.ver k) = v; rw [if_neg hkj]; exact h3)
    | cells cs' => have := h3.1; rw [hkind] at this; cases this
    | map es => have := h3.1; rw [hkind] at this; cases this
    | lp _ _ _ _ => have := h3.1; rw [hkind] at this; cases this
    | vec v cs' =>
     obtain ⟨e1, b'', e2, e3, C', E', e4, e5, e6⟩ := h3
     exact ⟨by simp only; rw [if_neg hkj]; exact e1, b'', by simpa using e2, e3, C', E', (hvk b'' e2 e3).1.trans e4, RelAll.mono hE _ _ e5, e6⟩
   ·exact h3.keep hE (setRow_other' _ _ _ _ hbb) rfl hvk (by simp only; rw [if_neg hkj])
 ·obtain ⟨y, h2, h3, h4⟩ := hs.back b' k (by simpa using hb') hk
  have hkj : k ≠ j := by intro e; subst e; rw [hcs] at h2; cases h2; exact h4.elim
  exact ⟨y, by rw [List.getElem?_set_ne (fun e => hkj e.symm)]; exact h2, h3, h4⟩
 ·obtain ⟨⟨v2, cs2, h2⟩, h3⟩ := hs.vec b' k (by simpa using hb') hk
  refine ⟨?_, fun b'' hb'' h5 => h3 b'' (by simpa using hb'') h5⟩
  by_cases hkj : k = j
  ·subst hkj; exact ⟨v', cs', List.getElem?_set_self (getElem?_lt hcs)⟩
  ·exact ⟨v2, cs2, by rw [List.getElem?_set_ne (fun e => hkj e.symm)]; exact h2⟩
theorem store_vec {g : Gh} {st : St} {w : World} (hs : StRel g st w) {j v o : Nat} {p : Value} (hp : Rel g w (.vp j v o) p) {cs : List AV} (hcs : st.objs[j]? = some (.vec v cs)) {xs : List AV} {vs : List Value} (hx : RelAll g w xs vs) (h1 : ∀ u ∈ vs, u.oneCell' = true) (hfit : o + xs.length ≤ cs.length) :
  ∃ b g' w', p = .pointer (some ⟨b, o, none⟩) ∧ (storeCells ⟨b, o, none⟩ vs 0).run P w = .ok () w' ∧ StRel g' ⟨st.objs.set j (.vec v (setAt cs o xs)), st.tk⟩ w' ∧ Ev g w g' w' := by
 obtain ⟨b, hp1, _, hkind, C, E, hC, hr, hrc⟩ := vp_of hs hp hcs
 obtain ⟨_, _, hj, _⟩ := hp
 have hlen := RelAll.length _ _ hr
 have hlen2 := RelAll.length _ _ hx
 rw [List.length_take] at hlen
 have hle : cs.length ≤ C.size := by
  have : C.toList.length = C.size := by simp
  omega
 have hsl : (setAt cs o xs).length = cs.length := length_setAt _ _ _
 have ht := setV_take C.toList o cs.length vs (by omega)
 obtain ⟨w', k1, k2, k3, _⟩ := write_vec (P := P) (cs' := setAt cs o xs) hs hj hcs (Nat.le_refl v) hkind hC (o := o) h1 (by omega) (by rw [hsl, ht]; exact setAt_rel _ _ _ _ _ hr hx) (fun u hu => by
  rw [hsl, ht] at hu
  rcases mem_setV _ _ _ _ hu with hu | hu
  ·exact hrc u hu
  ·exact h1 u hu)
 exact ⟨b, _, w', hp1, k1, k2, k3⟩
def astore (sz : Nat) (p x : AV) (st : St) (k : AV → St → Ans) : Ans :=
 match p with
 | .ptr j o => match st.objs[j]? with
  | some (.cells cs) => match cellsA x with
   | some xs => if xs.length = sz ∧ o + sz ≤ cs.length then k .dead ⟨st.objs.set j (.cells (setAt cs o xs)), st.tk⟩ else none
   | none => none
  | _ => none
 | .vp j v o => match st.objs[j]? with
  | some (.vec v' cs) => match Nat.beq v v' with
   | true => match cellsA x with
    | some xs => if xs.length = sz ∧ o + sz ≤ cs.length then k .dead ⟨st.objs.set j (.vec v (setAt cs o xs)), st.tk⟩ else none
    | none => none
   | false => none
  | _ => none
 | _ => none
def opStore (dst : Option Tmp) (T : TypeId) (p x : Operand) (sz : Nat) (hz : (P.info? T).map (·.size) = some sz) (ty : TypeId) (pos : String) (after : Array Edge) : MSim P :=
 MSim.does (mkOp dst (.store T p x) ty pos after) rfl [p, x] (fun ev st k => astore sz (ev p) (ev x) st k) (fun ev ev' st k h => by simp only [h p (by simp), h x (by simp)]) fun ev st k fin h g w a he hs => by
  have hv := he p (by simp)
  unfold astore at h
  split at h
  ·rename_i j o hb
   rw [hb] at hv
   obtain ⟨b, hg, hv⟩ := hv
   split at h
   ·rename_i cs hcs
    split at h
    ·rename_i xs hxs
     split at h
     ·rename_i hc
      obtain ⟨h1, h1c⟩ := cellsA_rel hxs (he x (by simp))
      have hl := RelAll.length _ _ h1
      obtain ⟨w', k1, k2, k3⟩ := store_obj (P := P) (o := o) hs hg hcs h1 h1c (by omega)
      refine ⟨_, g, w', h, ?_, k2, k3⟩
      have hsize : (a.eval x).cells.size = sz := by rw [← hc.1]; simpa using hl.symm
      simp [execOp, mkOp, Instr.storeAt, hv, Instr.sureAddr, storeVar, run_sizeOf' hz, hsize, k1]
     ·cases h
    ·cases h
   ·cases h
  ·rename_i j v o hb
   rw [hb] at hv
   split at h
   ·rename_i v' cs hcs
    split at h
    ·rename_i hvv
     obtain rfl := Nat.eq_of_beq_eq_true hvv
     split at h
     ·rename_i xs hxs
      split at h
      ·rename_i hc
       obtain ⟨h1, h1c⟩ := cellsA_rel hxs (he x (by simp))
       have hl := RelAll.length _ _ h1
       obtain ⟨b, g', w', k0, k1, k2, k3⟩ := store_vec (P := P) (o := o) hs hv hcs h1 h1c (by omega)
       refine ⟨_, g', w', h, ?_, k2, k3⟩
       have hsize : (a.eval x).cells.size = sz := by rw [← hc.1]; simpa using hl.symm
       simp [execOp, mkOp, Instr.storeAt, k0, Instr.sureAddr, storeVar, run_sizeOf' hz, hsize, k1]
      ·cases h
     ·cases h
    ·cases h
   ·cases h
  ·cases h
end
end Go.V
namespace Go.V
section
variable {P : Program}
theorem RelAll.split {g : Gh} {w : World} : ∀ (cs ds : List AV) (vs : List Value), RelAll g w (cs ++ ds) vs → ∃ us ws, vs = us ++ ws ∧ RelAll g w cs us ∧ RelAll g w ds ws
 | [], ds, vs, h => ⟨[], vs, rfl, rfl, h⟩
 | c :: cs, ds, vs, ⟨v, vr, e, hv, h⟩ => by
  subst e
  obtain ⟨us, ws, rfl, h1, h2⟩ := RelAll.split cs ds vr h
  exact ⟨v :: us, ws, rfl, ⟨v, us, rfl, hv, h1⟩, h2⟩
theorem RelRows.values {g : Gh} {w : World} (sz : Nat) : ∀ (l : List (List AV)) (b off : Nat), RelRows g w sz l b off →
  ∃ vs : List Value, RelAll g w l.flatten vs ∧ vs.length = l.length * sz ∧ ∀ j v, vs[j]? = some v → w.cell? ⟨b, off + j, none⟩ = some v ∧ g.prot b (off + j) ∧ v.oneCell' = true
 | [], b, off, _ => ⟨[], rfl, by simp, fun j v h => by simp at h⟩
 | x :: l, b, off, ⟨h1, h2, h3⟩ => by
  obtain ⟨us, k1, k2⟩ := RelCells.values x b off h2
  obtain ⟨vs, k3, k4, k5⟩ := RelRows.values sz l b (off + sz) h3
  have hul : us.length = sz := by rw [← RelAll.length _ _ k1, h1]
  refine ⟨us ++ vs, RelAll.append _ _ _ _ k1 k3, by simp [hul, k4, Nat.add_mul]; omega, fun j v hj => ?_⟩
  rcases Nat.lt_or_ge j us.length with hlt | hge
  ·rw [List.getElem?_append_left hlt] at hj; exact k2 j v hj
  ·rw [List.getElem?_append_right hge] at hj
   have := k5 _ v hj
   rwa [show off + sz + (j - us.length) = off + j by omega] at this
theorem RelRows.of {g : Gh} {w : World} (sz : Nat) : ∀ (l : List (List AV)) (vs : List Value) (b off : Nat), (∀ x ∈ l, x.length = sz) → RelAll g w l.flatten vs → (∀ j v, vs[j]? = some v → w.cell? ⟨b, off + j, none⟩ = some v ∧ g.prot b (off + j) ∧ v.oneCell' = true) → RelRows g w sz l b off
 | [], vs, b, off, _, _, _ => trivial
 | x :: l, vs, b, off, hl, h, k => by
  obtain ⟨us, ws, rfl, h1, h2⟩ := RelAll.split x l.flatten vs (by simpa using h)
  have hx := hl x (by simp)
  have hul : us.length = sz := by rw [← RelAll.length _ _ h1, hx]
  refine ⟨hx, RelCells.of x us b off h1 fun j v hj => k j v (by rw [List.getElem?_append_left (getElem?_lt hj)]; exact hj), RelRows.of sz l ws b (off + sz) (fun y hy => hl y (by simp [hy])) h2 fun j v hj => ?_⟩
  have := k (sz + j) v (by rw [List.getElem?_append_right (by omega)]; simpa [hul] using hj)
  rwa [show off + (sz + j) = off + sz + j by omega] at this
theorem RelRows.lens {g : Gh} {w : World} (sz : Nat) : ∀ (l : List (List AV)) (b off : Nat), RelRows g w sz l b off → ∀ x ∈ l, x.length = sz
 | [], _, _, _, x, hx => by simp at hx
 | y :: l, b, off, ⟨h1, _, h3⟩, x, hx => by
  simp at hx
  rcases hx with rfl | hx
  ·exact h1
  ·exact RelRows.lens sz l b (off + sz) h3 x hx
theorem rowsOf_list (sz : Nat) : ∀ (n : Nat) (cs : List AV) (l : List (List AV)), rowsOf sz n cs = some l → l.length = n ∧ (∀ x ∈ l, x.length = sz) ∧ l.flatten = cs.take (n * sz)
 | 0, cs, l, h => by simp [rowsOf] at h; subst h; simp
 | n + 1, cs, l, h => by
  simp only [rowsOf] at h
  split at h
  ·rename_i r hr
   split at h
   ·rename_i l' hl
    simp only [Option.some.injEq] at h
    subst h
    obtain ⟨rfl, hle⟩ := takeN_eq _ _ _ hr
    obtain ⟨h1, h2, h3⟩ := rowsOf_list sz n _ l' hl
    refine ⟨by simp [h1], ?_, ?_⟩
    ·intro x hx
     simp only [List.mem_cons] at hx
     rcases hx with rfl | hx
     ·simp; omega
     ·exact h2 x hx
    ·simp only [List.flatten_cons, h3]
     rw [Nat.add_mul, Nat.one_mul, Nat.add_comm, List.take_add]
   ·cases h
  ·cases h
theorem flat_len {sz : Nat} : ∀ (l : List (List AV)), (∀ x ∈ l, x.length = sz) → l.flatten.length = l.length * sz
 | [], _ => by simp
 | x :: l, h => by
  rw [List.flatten_cons, List.length_append, flat_len l (fun y hy => h y (by simp [hy])), h x (by simp), List.length_cons, Nat.add_mul]; omega
def rowsA (sz : Nat) (x : AV) (st : St) : Option (List (List AV)) :=
 match x with
 | .nilsl => some []
 | .sl s _ l => match Nat.beq s sz with
  | true => some l
  | false => none
 | .lg _ s l => match Nat.beq s sz with
  | true => some l
  | false => none
 | .ms j s o n _ => match Nat.beq s sz with
  | true => match st.objs[j]? with
   | some (.cells cs) => rowsOf sz n (cs.drop o)
   | _ => none
  | false => none
 | .str s => match Nat.beq 1 sz with
  | true => some (s.data.toList.map fun c => [.int .u8 c.toNat])
  | false => none
 | .ns _ s l => match Nat.beq s sz with
  | true => some l
  | false => none
 | .vs j v s n => match Nat.beq s sz with
  | true => match st.objs[j]? with
   | some (.vec v' cs) => match Nat.beq v v' with
    | true => rowsOf sz n cs
    | false => none
   | _ => none
  | false => none
 | _ => none
theorem flat_bytes {g : Gh} {w : World} : ∀ l : List UInt8, RelAll g w (l.map fun c => [AV.int .u8 c.toNat]).flatten (l.map fun c => Value.int .u8 c.toNat)
 | [] => rfl
 | c :: l => ⟨_, _, rfl, rfl, flat_bytes l⟩
theorem sl_cells {w : World} {sz : Nat} {l : List (List AV)} {b o : Nat} {sp : Option Nat} {vs : List Value} (hsp : sp = none ∨ l = []) (h2 : vs.length = l.length * sz) (h3 : ∀ j u, vs[j]? = some u → w.cell? ⟨b, o + j, none⟩ = some u) :
  ∀ j u, vs[j]? = some u → w.cell? ((⟨b, o, sp⟩ : Addr).add j) = some u := by
 intro j u hj
 rcases hsp with rfl | rfl
 ·rw [add_none]; exact h3 j u hj
 ·have : vs = [] := List.eq_nil_of_length_eq_zero (by simpa using h2)
  subst this; simp at hj
theorem vs_of {g : Gh} {st : St} {w : World} (hs : StRel g st w) {k v sz n b c n' : Nat} {cs : List AV} {x : Value} (hv : Rel g w (.vs k v sz n) x) (hx : x = .slice (some ⟨b, 0, none⟩) n' c) (h2 : st.objs[k]? = some (.vec v cs)) :
  g.kind b = .vec k ∧ ∃ C E, w.heap[b]? = some (.cells C E (0, 0)) ∧ RelAll g w cs (C.toList.take cs.length) ∧ (∀ u ∈ C.toList.take cs.length, u.oneCell' = true) ∧ c * sz ≤ C.size ∧ okE sz E = true := by
 obtain ⟨b0, c0, h1, _, h3, h4, h5⟩ := hv
 rw [hx] at h1
 cases h1
 obtain ⟨k1, b', k2, k3, C, E, k4, k5, k6⟩ := vec_of hs h3 h2
 obtain ⟨h6, C', E', fz', h7, h8⟩ := h5 k1.symm
 obtain rfl := (hs.vec b k (lt_of_block h7) h6).2 b' k2 k3
 rw [k4] at h7
 cases h7
 exact ⟨h6, C, E, k4, k5, k6, h8.2, h8.1⟩
theorem rowsA_run {g : Gh} {st : St} {w : World} (hs : StRel g st w) {sz : Nat} {x : AV} {v : Value} (hx : Rel g w x v) {l : List (List AV)} (h : rowsA sz x st = some l) :
  ∃ vs : List Value, RelAll g w l.flatten vs ∧ (∀ r ∈ l, r.length = sz) ∧ (∀ u ∈ vs, u.oneCell' = true) ∧ vs.length = l.length * sz ∧ (∀ w', (Builtin.lenOf v).run P w' = .ok l.length w') ∧ ∀ w', w'.heap = w.heap → (Builtin.firstCells sz l.length v).run P w' = .ok vs.toArray w' := by
 have slice : ∀ b o sp (vs : List Value) n cap, v = .slice (some ⟨b, o, sp⟩) n cap → n = l.length → vs.length = l.length * sz → (sp = none ∨ l = []) → (∀ j u, vs[j]? = some u → w.cell? ⟨b, o + j, none⟩ = some u) →
   (∀ w', (Builtin.lenOf v).run P w' = .ok l.length w') ∧ ∀ w', w'.heap = w.heap → (Builtin.firstCells sz l.length v).run P w' = .ok vs.toArray w' := by
  intro b o sp vs n cap hv hn hvl hsp hc
  subst hv; subst hn
  refine ⟨fun w' => rfl, fun w' hw => ?_⟩
  simp only [Builtin.firstCells]
  have := run_loadCells_list (P := P) w' ⟨b, o, sp⟩ vs (fun j u hj => by
   have := sl_cells hsp hvl hc j u hj
   simp only [World.cell?, hw] at this ⊢
   exact this)
  rw [← hvl]
  exact this
 unfold rowsA at h
 split at h
 ·simp only [Option.some.injEq] at h; subst h
  obtain rfl : v = .slice none 0 0 := hx
  exact ⟨[], rfl, by simp, by simp, by simp, fun w' => rfl, fun w' _ => by simp [Builtin.firstCells]⟩
 ·rename_i s full l'
  split at h
  ·rename_i hsz
   obtain rfl : s = sz := by simpa using hsz
   simp only [Option.some.injEq] at h; subst h
   obtain ⟨b, o, sp, cap, hv, hle, hf, hsp, hr⟩ := hx
   obtain ⟨vs, h1, h2, h3⟩ := RelRows.values s l' b o hr
   obtain ⟨h4, h5⟩ := slice b o sp vs _ cap hv rfl h2 hsp (fun j u hj => (h3 j u hj).1)
   exact ⟨vs, h1, RelRows.lens s l' b o hr, fun u hu => by obtain ⟨j, hj⟩ := List.getElem?_of_mem hu; exact (h3 j u hj).2.2, h2, h4, h5⟩
  ·cases h
 ·rename_i t s l'
  split at h
  ·rename_i hsz
   obtain rfl : s = sz := by simpa using hsz
   simp only [Option.some.injEq] at h; subst h
   obtain ⟨b, cap, C, E, fz, hv, hle, _, _, _, _, _, hr⟩ := hx
   obtain ⟨vs, h1, h2, h3⟩ := RelRows.values s l' b 0 hr
   obtain ⟨h4, h5⟩ := slice b 0 none vs _ cap hv rfl h2 (.inl rfl) (fun j u hj => (h3 j u hj).1)
   exact ⟨vs, h1, RelRows.lens s l' b 0 hr, fun u hu => by obtain ⟨j, hj⟩ := List.getElem?_of_mem hu; exact (h3 j u hj).2.2, h2, h4, h5⟩
  ·cases h
 ·rename_i j s o n cap
  split at h
  ·rename_i hsz
   obtain rfl : s = sz := by simpa using hsz
   obtain ⟨b, hg, hv, hle⟩ := hx
   split at h
   ·rename_i cs hcs
    obtain ⟨_, C, E, hC, hr, hrc⟩ := ob_of hs hg hcs
    obtain ⟨h1, h2, h3⟩ := rowsOf_list s n _ l h
    have hr' := RelAll.take (n * s) _ _ (RelAll.drop o _ _ hr)
    rw [← h3] at hr'
    have hfl := flat_len l h2
    have hvl : (((C.toList.take cs.length).drop o).take (n * s)).length = l.length * s := by rw [← RelAll.length _ _ hr', hfl]
    obtain ⟨h4, h5⟩ := slice b o none (((C.toList.take cs.length).drop o).take (n * s)) n cap hv h1.symm hvl (.inl rfl) (fun j u hj => by
     rw [cell_of hC]
     rw [List.getElem?_take] at hj
     split at hj
     ·rw [List.getElem?_drop, List.getElem?_take] at hj
      split at hj
      ·simpa using hj
      ·cases hj
     ·cases hj)
    exact ⟨_, hr', h2, fun u hu => hrc u (List.mem_of_mem_drop (List.mem_of_mem_take hu)), hvl, h4, h5⟩
   ·cases h
  ·cases h
 ·rename_i s
  split at h
  ·rename_i hsz
   obtain rfl : 1 = sz := by simpa using hsz
   simp only [Option.some.injEq] at h; subst h
   obtain rfl : v = .string s := hx
   refine ⟨s.data.toList.map fun c => .int .u8 c.toNat, flat_bytes _, by simp, by simp [Value.oneCell'], by simp, fun w' => ?_, fun w' _ => ?_⟩
   ·simp [Builtin.lenOf]
   ·have hx : (Array.map (fun b : UInt8 => Value.int IntKind.u8 (b.toNat : Int)) s.data).extract 0 s.data.size = Array.map (fun b : UInt8 => Value.int IntKind.u8 (b.toNat : Int)) s.data := by
     have hs : s.data.size = (Array.map (fun b : UInt8 => Value.int IntKind.u8 (b.toNat : Int)) s.data).size := by rw [Array.size_map]
     rw [hs, Array.extract_size]
    simp [Builtin.firstCells, hx]
    rw [← Array.toList_map]
  ·cases h
 ·rename_i z s l'
  split at h
  ·rename_i hsz
   obtain rfl : s = sz := by simpa using hsz
   simp only [Option.some.injEq] at h; subst h
   rcases hx with ⟨_, rfl, rfl⟩ | ⟨_, b, o, sp, cap, hv, hle, hsp, hr⟩
   ·exact ⟨[], rfl, by simp, by simp, by simp, fun w' => rfl, fun w' _ => by simp [Builtin.firstCells]⟩
   ·obtain ⟨vs, h1, h2, h3⟩ := RelRows.values s l' b o hr
    obtain ⟨h4, h5⟩ := slice b o sp vs _ cap hv rfl h2 hsp (fun j u hj => (h3 j u hj).1)
    exact ⟨vs, h1, RelRows.lens s l' b o hr, fun u hu => by obtain ⟨j, hj⟩ := List.getElem?_of_mem hu; exact (h3 j u hj).2.2, h2, h4, h5⟩
  ·cases h
 ·rename_i j v0 s n
  split at h
  ·rename_i hsz
   obtain rfl : s = sz := by simpa using hsz
   have hx0 := hx
   obtain ⟨b, cap, hv, hle, _⟩ := hx
   split at h
   ·rename_i v' cs hcs
    split at h
    case h_2 => cases h
    rename_i hvv
    obtain rfl := Nat.eq_of_beq_eq_true hvv
    obtain ⟨hg, C, E, hC, hr, hrc, _⟩ := vs_of hs hx0 hv hcs
    obtain ⟨h1, h2, h3⟩ := rowsOf_list s n _ l h
    have hr' := RelAll.take (n * s) _ _ hr
    rw [← h3] at hr'
    have hfl := flat_len l h2
    have hvl : ((C.toList.take cs.length).take (n * s)).length = l.length * s := by rw [← RelAll.length _ _ hr', hfl]
    obtain ⟨h4, h5⟩ := slice b 0 none ((C.toList.take cs.length).take (n * s)) n cap hv h1.symm hvl (.inl rfl) (fun j u hj => by
     rw [cell_of hC, Nat.zero_add]
     rw [List.getElem?_take] at hj
     split at hj
     ·rw [List.getElem?_take] at hj
      split at hj
      ·simpa using hj
      ·cases hj
     ·cases hj)
    exact ⟨_, hr', h2, fun u hu => hrc u (List.mem_of_mem_take hu), hvl, h4, h5⟩
   ·cases h
  ·cases h
 ·cases h
def isSeq (d : TypeDesc) : Bool :=
 match d with
 | .slice _ => true
 | .string => true
 | _ => false
structure ElemOf (P : Program) (T e sz bytes : Nat) (z : Value) : Prop where
 ty : P.underlying T = some (.slice e)
 size : (P.info? e).map (·.size) = some sz
 byte : (P.info? e).map (·.bytes) = some bytes
 zero : (P.info? e).bind (·.zero) = some z
 cells : z.cells.size = sz
 pos : bytes ≠ 0
theorem ElemOf.info {T e sz bytes : Nat} {z : Value} (h : ElemOf P T e sz bytes z) : ∃ i, P.info? e = some i ∧ i.size = sz ∧ i.bytes = bytes ∧ i.zero = some z := by
 cases hi : P.info? e with
 | none => have := h.size; rw [hi] at this; cases this
 | some i =>
  have h1 := h.size; have h2 := h.byte; have h3 := h.zero
  rw [hi] at h1 h2 h3
  exact ⟨i, rfl, by simpa using h1, by simpa using h2, by simpa using h3⟩
theorem run_append_fits {T X e sz bytes : Nat} {z : Value} (hT : ElemOf P T e sz bytes z) {dx : TypeDesc} (hX : P.underlying X = some dx) (hdx : isSeq dx = true) (ty : TypeId) {w : World} {p : Option Addr} {n cap m : Nat} {x : Value} {news : List Value}
  (hlen : ∀ w', (Builtin.lenOf x).run P w' = .ok m w') (hnew : (Builtin.firstCells sz m x).run P w = .ok news.toArray w) (hfit : n + m ≤ cap) :
  (Builtin.append_ #[T, X] ty #[.slice p n cap, x]).run P w = ((match p with | some a => storeCells (a.add (n * sz)) news | none => pure ()).run P w).andThen fun _ w' => .ok (.slice p (n + m) cap) w' := by
 unfold Builtin.append_
 have h1 := run_underlying hX w
 have h2 := run_underlying hT.ty w
 have h3 := run_sizeOf' hT.size w
 cases dx <;> simp only [isSeq, Bool.false_eq_true] at hdx <;>
  simp only [List.getElem?_toArray, List.getElem?_cons_zero, List.getElem?_cons_succ, Sem.run_bind, Sem.run_pure, h1, h2, h3, Result.andThen_ok, hlen, if_pos hfit, Bool.false_eq_true, if_false, Bool.not_false, if_true, hnew] <;> cases p <;> simp
theorem run_append_grows {T X e sz bytes : Nat} {z : Value} (hT : ElemOf P T e sz bytes z) {dx : TypeDesc} (hX : P.underlying X = some dx) (hdx : isSeq dx = true) (ty : TypeId) {w : World} {p : Option Addr} {n cap m : Nat} {x : Value} {olds news : List Value}
  (hlen : ∀ w', (Builtin.lenOf x).run P w' = .ok m w') (hold : ∀ w', w'.heap = w.heap → (Builtin.firstCells sz n (.slice p n cap)).run P w' = .ok olds.toArray w') (hnew : ∀ w', w'.heap = w.heap → (Builtin.firstCells sz m x).run P w' = .ok news.toArray w') (hfit : cap < n + m) (hb : (n + m) * bytes ≤ 140737488355328) :
  (Builtin.append_ #[T, X] ty #[.slice p n cap, x]).run P w = .ok (.slice (some ⟨w.heap.size, 0, none⟩) (n + m) (grownCap w (n + m) cap e)) (w.drew.alloc (.cells (olds ++ news ++ (Builtin.zeroCells z.cells (grownCap w (n + m) cap e - (n + m))).toList).toArray e)) := by
 obtain ⟨i, hi, h1, h2, h3⟩ := hT.info
 have hnf : ¬ (n + m ≤ cap) := by omega
 have hpos := hT.pos
 have hbs : n + m ≤ 140737488355328 := Nat.le_trans (Nat.le_mul_of_pos_right _ (Nat.pos_of_ne_zero hpos)) hb
 have h63 : ¬ (((n + m : Nat) : Int) > IntKind.i64.max ∧ (False ∨ i.bytes = 0)) := by
  intro hc
  rcases hc.2 with h | h
  ·cases h
  ·exact hpos (h2.symm.trans h)
 have h48 : ¬ (Builtin.nextslicecap (n + m) cap * i.bytes > 2 ^ 48) := by rw [h2]; have := growslice_fits (bytes := bytes) hfit hb; omega
 have ho := hold w.drew rfl
 have hn := hnew w.drew rfl
 have k1 := run_underlying hX w
 have k2 := run_underlying hT.ty w
 have k3 := run_sizeOf' hT.size w
 have k4 : ∀ w, (typeInfo e).run P w = .ok i w := fun w => by simp [typeInfo, hi]
 have k5 : ∀ w, (zeroValue e).run P w = .ok z w := fun w => run_zeroValue' hT.zero w
 have k6 : (choose (.appendCap (n + m) cap e)).run P w = .ok (grownCap w (n + m) cap e) w.drew := by rw [run_choose]; rfl
 unfold Builtin.append_
 cases dx <;> simp only [isSeq, Bool.false_eq_true] at hdx <;>
  simp only [List.getElem?_toArray, List.getElem?_cons_zero, List.getElem?_cons_succ, Sem.run_bind, Sem.run_pure, k1, k2, k3, Result.andThen_ok, hlen, if_neg hnf, Bool.false_eq_true, if_false, k4, if_neg h63, if_neg h48, k6, run_askRoom, ho, hn, Bool.not_false, if_true, k5, run_newRow] <;>
  (congr 3; apply Array.ext'; simp)
theorem RelRows.append {g : Gh} {w : World} (sz : Nat) : ∀ (l r : List (List AV)) (b off : Nat), RelRows g w sz l b off → RelRows g w sz r b (off + l.length * sz) → RelRows g w sz (l ++ r) b off
 | [], r, b, off, _, h => by simpa using h
 | x :: l, r, b, off, ⟨h1, h2, h3⟩, h => ⟨h1, h2, RelRows.append sz l r b (off + sz) h3 (by rwa [show off + sz + l.length * sz = off + (x :: l).length * sz by simp [Nat.add_mul]; omega])⟩
theorem grow_rel {g : Gh} {st : St} {w : World} (hs : StRel g st w) {t sz cap e : Nat} {L : List (List AV)} {vs rest : List Value} (tk' : List (Nat × Nat)) (htk : ∀ t sz n : Nat, g.tk[t]? = some (sz, n) → ∃ n', tk'[t]? = some (sz, n') ∧ n ≤ n') (ht : tk'[t]? = some (sz, L.length))
  (hr : RelAll g w L.flatten vs) (h1 : ∀ u ∈ vs, u.oneCell' = true) (hL : ∀ x ∈ L, x.length = sz) (hle : L.length ≤ cap) (hfit : cap * sz ≤ vs.length + rest.length) :
  Rel ⟨g.use w.heap.size (.row t), g.objs, tk', g.ver⟩ (w.drew.alloc (.cells (vs ++ rest).toArray e)) (.lg t sz L) (.slice (some ⟨w.heap.size, 0, none⟩) L.length cap) ∧
  StRel ⟨g.use w.heap.size (.row t), g.objs, tk', g.ver⟩ ⟨st.objs, tk'⟩ (w.drew.alloc (.cells (vs ++ rest).toArray e)) ∧
  Ev g w ⟨g.use w.heap.size (.row t), g.objs, tk', g.ver⟩ (w.drew.alloc (.cells (vs ++ rest).toArray e)) := by
 have hp := Push.drew w (.cells (vs ++ rest).toArray e)
 have hE : Ev g w ⟨g.use w.heap.size (.row t), g.objs, tk', g.ver⟩ (w.drew.alloc (.cells (vs ++ rest).toArray e)) := by simpa using Ev.push hp (.row t) [] tk' htk
 have hvl : vs.length = L.length * sz := by rw [← RelAll.length _ _ hr, flat_len L hL]
 refine ⟨⟨w.heap.size, cap, _, e, (0, 0), rfl, hle, by simp [Gh.use], hp.new, by simpa using hfit, fun i _ => by simp, ⟨_, ht, Nat.le_refl _⟩, ?_⟩, hs.push hp (.row t) tk' htk (getElem?_lt ht), hE⟩
 refine RelRows.of sz L vs _ _ hL (RelAll.mono hE _ _ hr) fun j v hj => ?_
 have hlt := getElem?_lt hj
 refine ⟨?_, ?_, h1 v (List.mem_of_getElem? hj)⟩
 ·rw [cell_of hp.new, Nat.zero_add, List.getElem?_toArray, List.getElem?_append_left hlt]; exact hj
 ·simp only [Gh.prot, Gh.use, if_true]
  exact ⟨sz, _, ht, by omega⟩
theorem inplace_rel {g : Gh} {st : St} {w : World} (hs : StRel g st w) {t sz cap b : Nat} {l rows : List (List AV)} {C : Array Value} {E : TypeId} {fz : Nat × Nat} (hk : g.kind b = .row t) (hC : w.heap[b]? = some (.cells C E fz)) (hfz : ∀ i, i < C.size → ¬ (fz.1 ≤ i ∧ i < fz.2)) (hcap : cap * sz ≤ C.size)
  (ht : st.tk[t]? = some (sz, l.length)) (hrl : RelRows g w sz l b 0) {vs : List Value} (hr : RelAll g w rows.flatten vs) (h1 : ∀ u ∈ vs, u.oneCell' = true) (hL : ∀ x ∈ rows, x.length = sz) (hfit : l.length + rows.length ≤ cap) :
  ∃ w1, (storeCells ⟨b, l.length * sz, none⟩ vs).run P w = .ok () w1 ∧
  Rel ⟨g.kind, g.objs, st.tk.set t (sz, l.length + rows.length), g.ver⟩ w1 (.lg t sz (l ++ rows)) (.slice (some ⟨b, 0, none⟩) (l.length + rows.length) cap) ∧
  StRel ⟨g.kind, g.objs, st.tk.set t (sz, l.length + rows.length), g.ver⟩ ⟨st.objs, st.tk.set t (sz, l.length + rows.length)⟩ w1 ∧
  Ev g w ⟨g.kind, g.objs, st.tk.set t (sz, l.length + rows.length), g.ver⟩ w1 := by
 have hvl : vs.length = rows.length * sz := by rw [← RelAll.length _ _ hr, flat_len rows hL]
 have hmul : (l.length + rows.length) * sz ≤ cap * sz := Nat.mul_le_mul_right _ hfit
 rw [Nat.add_mul] at hmul
 have hrun := run_storeCells_gen (P := P) b (l.length * sz) E fz vs 0 C w hC (by omega) (fun j _ _ => hfz j (by omega)) h1
 rw [Nat.add_zero] at hrun
 have htl := getElem?_lt ht
 have ht' : (st.tk.set t (sz, l.length + rows.length))[t]? = some (sz, l.length + rows.length) := by rw [List.getElem?_set, if_pos rfl, if_pos htl]
 have hold : ∀ off, off < l.length * sz → (setV C.toList (l.length * sz) vs).toArray[off]? = C[off]? := by
  intro off ho
  rw [List.getElem?_toArray, ← Array.getElem?_toList]
  clear hrun hmul hcap hC hfz
  generalize C.toList = D
  generalize l.length * sz = N at ho
  induction D generalizing N off with
  | nil => cases vs <;> rfl
  | cons d D ih =>
   cases vs with
   | nil => rfl
   | cons v vs =>
    cases N with
    | zero => omega
    | succ N => cases off with
     | zero => rfl
     | succ off => simpa [setV] using ih off N (by omega)
 have hE : Ev g w ⟨g.kind, g.objs, st.tk.set t (sz, l.length + rows.length), g.ver⟩ (w.setRow b (setV C.toList (l.length * sz) vs).toArray) := by
  refine ⟨rfl, rfl, rfl, by simp, fun x hx hkx => ⟨rfl, ?_⟩, fun x t' hx hkx => ⟨hkx, fun C' E' fz' hC' => ?_⟩, fun x k hx hkx => .inl hkx, fun _ _ h => h, by rw [hs.tk]; exact tk_set _ _ _ _ _ ht (by omega), fun _ _ => Nat.le_refl _, fun x k hx _ hkx _ => ⟨hkx, fun C' E' fz' hC' => ⟨C', by rw [setRow_other' _ _ _ _ (by intro e; subst e; rw [hk] at hkx; cases hkx)]; exact hC', rfl⟩⟩, fun x C' E' fz' hC' => setRow_ty hC hC' (by simp [length_setV])⟩
  ·refine setRow_other' _ _ _ _ ?_
   intro e; subst e; rw [hk] at hkx; cases hkx
  ·by_cases hxb : x = b
   ·subst hxb
    rw [hC] at hC'; cases hC'
    rw [hk] at hkx; cases hkx
    refine ⟨_, setRow_heap w x C _ E fz hC, by simp [length_setV], fun off ho => hold off ?_⟩
    simp only [Gh.prot, hk] at ho
    obtain ⟨s', n', h2, h3⟩ := ho
    rw [hs.tk, ht] at h2; cases h2
    exact h3
   ·exact ⟨C', by rw [setRow_other' _ _ _ _ hxb]; exact hC', rfl, fun _ _ => rfl⟩
 have hnew : ∀ j v, vs[j]? = some v → (setV C.toList (l.length * sz) vs).toArray[l.length * sz + j]? = some v := by
  intro j v hj
  rw [List.getElem?_toArray]
  have hfitD : l.length * sz + vs.length ≤ C.toList.length := by simp; omega
  clear hrun hmul hcap hC hfz hold hE hvl h1 hr
  generalize C.toList = D at hfitD
  generalize l.length * sz = N at hfitD
  induction D generalizing N j vs with
  | nil => have := getElem?_lt hj; simp only [List.length_nil] at hfitD; omega
  | cons d D ih =>
   cases vs with
   | nil => simp at hj
   | cons u vs =>
    cases N with
    | zero =>
     cases j with
     | zero => simpa [setV] using hj
     | succ j => simpa [setV] using ih (vs := vs) j (by simpa using hj) 0 (by simp at hfitD ⊢; omega)
    | succ N =>
     rw [show N + 1 + j = (N + j) + 1 by omega]
     simpa [setV] using ih (vs := u :: vs) j hj N (by simp at hfitD ⊢; omega)
 refine ⟨_, hrun, ⟨b, cap, _, E, fz, by simp, by simpa using hfit, hk, setRow_heap w b C _ E fz hC, by simpa [length_setV] using hcap, by simpa [length_setV] using hfz, ⟨_, ht', by simp⟩, ?_⟩, ⟨rfl, hs.len, fun k b' y hk' hy => ?_, fun b' k hb' hk' => hs.back b' k (by simpa using hb') hk', fun b' t' hb' hk' => by simpa using hs.rowlt b' t' (by simpa using hb') hk', fun b' k hb' hk' => by
   obtain ⟨h1, h2⟩ := hs.vec b' k (by simpa using hb') hk'
   exact ⟨h1, fun b'' hb'' hk'' => h2 b'' (by simpa using hb'') hk''⟩, hs.glob.mono hE⟩, hE⟩
 ·have h5 := RelRows.mono hE sz l b 0 hrl
  have h6 : RelRows ⟨g.kind, g.objs, st.tk.set t (sz, l.length + rows.length), g.ver⟩ (w.setRow b (setV C.toList (l.length * sz) vs).toArray) sz rows b (0 + l.length * sz) := by
   refine RelRows.of sz rows vs _ _ hL (RelAll.mono hE _ _ hr) fun j v hj => ⟨?_, ?_, h1 v (List.mem_of_getElem? hj)⟩
   ·rw [cell_of (setRow_heap w b C _ E fz hC), Nat.zero_add]; exact hnew j v hj
   ·simp only [Gh.prot, hk]
    have := getElem?_lt hj
    refine ⟨sz, _, ht', ?_⟩
    rw [Nat.add_mul, Nat.zero_add]
    exact Nat.add_lt_add_left (by rw [← hvl]; exact this) _
  exact RelRows.append sz l rows b 0 h5 h6
 ·obtain ⟨h2, h3⟩ := hs.obj k b' y hk' hy
  refine ⟨by simpa using h2, ?_⟩
  have hvk : ∀ b'', b'' < w.heap.size → g.kind b'' = .vec k → (w.setRow b (setV C.toList (l.length * sz) vs).toArray).heap[b'']? = w.heap[b'']? ∧ g.kind b'' = .vec k := fun b'' _ h5 =>
   ⟨setRow_other' _ _ _ _ (by intro e; subst e; rw [hk] at h5; cases h5), h5⟩
  by_cases hbb : b' = b
  ·subst hbb
   cases y with
   | gone => trivial
   | nov v => exact h3
   | cells cs' => have := h3.1; rw [hk] at this; cases this
   | map es => have := h3.1; rw [hk] at this; cases this
   | lp _ _ _ _ => have := h3.1; rw [hk] at this; cases this
   | vec v cs' =>
    obtain ⟨e1, b'', e2, e3, C', E', e4, e5, e6⟩ := h3
    exact ⟨e1, b'', by simpa using e2, e3, C', E', (hvk b'' e2 e3).1.trans e4, RelAll.mono hE _ _ e5, e6⟩
  ·exact h3.keep hE (setRow_other' _ _ _ _ hbb) rfl hvk rfl
def aappend (sz bytes : Nat) (s x : AV) (st : St) (k : AV → St → Ans) : Ans :=
 match rowsA sz x st with
 | none => none
 | some rows => match s with
  | .nilsl => match rows with
   | [] => k .nilsl st
   | r :: rows => if (r :: rows).length * bytes ≤ 140737488355328 then k (.lg st.tk.length sz (r :: rows)) ⟨st.objs, st.tk ++ [(sz, (r :: rows).length)]⟩ else none
  | .sl s' full l => match Nat.beq s' sz with
   | true => match rows with
    | [] => k (.sl sz full l) st
    | r :: rows => match full with
     | true => if (l.length + (r :: rows).length) * bytes ≤ 140737488355328 then k (.lg st.tk.length sz (l ++ r :: rows)) ⟨st.objs, st.tk ++ [(sz, (l ++ r :: rows).length)]⟩ else none
     | false => none
   | false => none
  | .lg t s' l => match Nat.beq s' sz with
   | true => if st.tk[t]? = some (sz, l.length) ∧ (l.length + rows.length) * bytes ≤ 140737488355328 then k (.lg t sz (l ++ rows)) ⟨st.objs, st.tk.set t (sz, l.length + rows.length)⟩ else none
   | false => none
  | _ => none
theorem aappend_run {T X e sz bytes : Nat} {z : Value} (hT : ElemOf P T e sz bytes z) {dx : TypeDesc} (hX : P.underlying X = some dx) (hdx : isSeq dx = true) (ty : TypeId) {g : Gh} {st : St} {w : World} (hs : StRel g st w) {S Y : AV} {s x : Value} (hS : Rel g w S s) (hY : Rel g w Y x) {k : AV → St → Ans} {fin : Fin × St} (h : aappend sz bytes S Y st k = some fin) :
  ∃ r v st' g' w', k r st' = some fin ∧ (Builtin.append_ #[T, X] ty #[s, x]).run P w = .ok v w' ∧ Rel g' w' r v ∧ StRel g' st' w' ∧ Ev g w g' w' := by
 have hzc : ∀ n, (Builtin.zeroCells z.cells n).toList.length = n * sz := fun n => by rw [Array.length_toList (xs := Builtin.zeroCells z.cells n), size_zeroCells, hT.cells]
 unfold aappend at h
 split at h
 ·cases h
 ·rename_i rows hrows
  obtain ⟨news, h1, h2, h3, h4, h5, h6⟩ := rowsA_run (P := P) hs hY hrows
  have grows : ∀ p (l : List (List AV)) (olds : List Value) cap t tk', s = .slice p l.length cap → (∀ t sz n : Nat, g.tk[t]? = some (sz, n) → ∃ n', tk'[t]? = some (sz, n') ∧ n ≤ n') → tk'[t]? = some (sz, l.length + rows.length) → RelAll g w l.flatten olds → (∀ u ∈ olds, u.oneCell' = true) → (∀ x ∈ l, x.length = sz) →
    (∀ w', w'.heap = w.heap → (Builtin.firstCells sz l.length (.slice p l.length cap)).run P w' = .ok olds.toArray w') → cap < l.length + rows.length → (l.length + rows.length) * bytes ≤ 140737488355328 → k (.lg t sz (l ++ rows)) ⟨st.objs, tk'⟩ = some fin →
    ∃ r v st' g' w', k r st' = some fin ∧ (Builtin.append_ #[T, X] ty #[s, x]).run P w = .ok v w' ∧ Rel g' w' r v ∧ StRel g' st' w' ∧ Ev g w g' w' := by
   intro p l olds cap t tk' hs' htk ht ho ho1 hol hfirst hcap hb hk
   subst hs'
   have hrun := run_append_grows (P := P) hT hX hdx ty h5 hfirst h6 hcap hb
   have hge := grownCap_ge w (l.length + rows.length) cap e
   have hal := RelAll.append _ _ _ _ ho h1
   rw [← List.flatten_append] at hal
   have holen : olds.length = l.length * sz := by rw [← RelAll.length _ _ ho, flat_len l hol]
   obtain ⟨k1, k2, k3⟩ := grow_rel (e := e) hs tk' htk (L := l ++ rows) (by rw [List.length_append]; exact ht) hal (fun u hu => by
    rcases List.mem_append.mp hu with hu | hu
    ·exact ho1 u hu
    ·exact h3 u hu) (fun y hy => by
    rcases List.mem_append.mp hy with hy | hy
    ·exact hol y hy
    ·exact h2 y hy) (cap := grownCap w (l.length + rows.length) cap e) (by rw [List.length_append]; exact hge) (rest := (Builtin.zeroCells z.cells (grownCap w (l.length + rows.length) cap e - (l.length + rows.length))).toList) (by
    rw [hzc, List.length_append, holen, h4, ← Nat.add_mul, ← Nat.add_mul]
    exact Nat.mul_le_mul_right _ (by omega))
   rw [List.length_append] at k1
   exact ⟨_, _, _, _, _, hk, hrun, k1, k2, k3⟩
  split at h
  ·obtain rfl : s = .slice none 0 0 := hS
   split at h
   ·have hn : news = [] := List.eq_nil_of_length_eq_zero (by simpa using h4)
    have := run_append_fits (P := P) (p := none) (n := 0) (cap := 0) hT hX hdx ty h5 (h6 w rfl) (by simp)
    exact ⟨_, _, _, g, w, h, by simpa using this, rfl, hs, Ev.refl g w⟩
   ·rename_i r rows
    split at h
    ·rename_i hb
     refine grows none [] [] 0 st.tk.length _ rfl (by rw [hs.tk]; exact tk_more _ _) ?_ rfl (by simp) (by simp) (fun w' _ => by simp [Builtin.firstCells]) (by simp) (by simpa using hb) h
     rw [List.getElem?_append_right (Nat.le_refl _)]; simp
    ·cases h
  ·rename_i s' full l
   split at h
   ·rename_i hsz
    obtain rfl : s' = sz := by simpa using hsz
    obtain ⟨b, o, sp, cap, rfl, hle, hf, hsp, hr⟩ := hS
    split at h
    ·have hn : news = [] := List.eq_nil_of_length_eq_zero (by simpa using h4)
     subst hn
     have := run_append_fits (P := P) (p := some ⟨b, o, sp⟩) (n := l.length) (cap := cap) hT hX hdx ty h5 (h6 w rfl) (by simpa using hle)
     refine ⟨_, _, _, g, w, h, by simpa [storeCells] using this, ⟨b, o, sp, cap, rfl, hle, hf, hsp, hr⟩, hs, Ev.refl g w⟩
    ·rename_i r rows
     split at h
     ·split at h
      ·rename_i hb
       have hcap := hf rfl
       obtain ⟨olds, o1, o2, o3⟩ := RelRows.values s' l b o hr
       have hlens := RelRows.lens s' l b o hr
       refine grows (some ⟨b, o, sp⟩) l olds cap st.tk.length _ rfl (by rw [hs.tk]; exact tk_more _ _) ?_ o1 (fun u hu => by obtain ⟨j, hj⟩ := List.getElem?_of_mem hu; exact (o3 j u hj).2.2) hlens (fun w' hw => ?_) (by simp; omega) hb h
       ·rw [List.getElem?_append_right (Nat.le_refl _)]; simp
       ·simp only [Builtin.firstCells]
        rw [← o2]
        exact run_loadCells_list (P := P) w' ⟨b, o, sp⟩ olds (fun j u hj => by
         have := sl_cells hsp o2 (fun j u hj => (o3 j u hj).1) j u hj
         simp only [World.cell?, hw] at this ⊢
         exact this)
      ·cases h
     ·cases h
   ·cases h
  ·rename_i t s' l
   split at h
   ·rename_i hsz
    obtain rfl : s' = sz := by simpa using hsz
    obtain ⟨b, cap, C, E, fz, rfl, hle, hkd, hC, hcs, hfz, ⟨n0, hn0, hn1⟩, hr⟩ := hS
    split at h
    ·rename_i hc
     obtain ⟨ht, hb⟩ := hc
     by_cases hfit : l.length + rows.length ≤ cap
     ·obtain ⟨w1, i1, i2, i3, i4⟩ := inplace_rel (P := P) hs hkd hC hfz hcs ht hr h1 h3 h2 hfit
      have := run_append_fits (P := P) (p := some ⟨b, 0, none⟩) (n := l.length) (cap := cap) hT hX hdx ty h5 (h6 w rfl) hfit
      refine ⟨_, _, _, _, w1, h, ?_, i2, i3, i4⟩
      rw [this]
      simp [add_none, i1]
     ·obtain ⟨olds, o1, o2, o3⟩ := RelRows.values s' l b 0 hr
      have hlens := RelRows.lens s' l b 0 hr
      refine grows (some ⟨b, 0, none⟩) l olds cap t _ rfl (by rw [hs.tk]; exact tk_set _ _ _ _ _ ht (by omega)) ?_ o1 (fun u hu => by obtain ⟨j, hj⟩ := List.getElem?_of_mem hu; exact (o3 j u hj).2.2) hlens (fun w' hw => ?_) (by omega) hb h
      ·rw [List.getElem?_set, if_pos rfl, if_pos (getElem?_lt ht)]
      ·simp only [Builtin.firstCells]
       rw [← o2]
       exact run_loadCells_list (P := P) w' ⟨b, 0, none⟩ olds (fun j u hj => by
        rw [add_none]
        have := (o3 j u hj).1
        simp only [World.cell?, hw] at this ⊢
        exact this)
    ·cases h
   ·cases h
  ·cases h
def opAppend (dst : Option Tmp) (s x : Operand) (T X e sz bytes : Nat) (z : Value) (hT : ElemOf P T e sz bytes z) (dx : TypeDesc) (hX : P.underlying X = some dx) (hdx : isSeq dx = true) (ty : TypeId) (pos : String) (after : Array Edge) : MSim P :=
 MSim.makes (mkOp dst (.call { callee := .builtin .append, args := #[s, x], argTypes := #[T, X] }) ty pos after) rfl [s, x] (fun ev st k => aappend sz bytes (ev s) (ev x) st k) (fun ev ev' st k h => by simp only [h s (by simp), h x (by simp)]) fun ev st k fin h g w a he hs => by
  obtain ⟨r, v, st', g', w', h1, h2, h3⟩ := aappend_run (P := P) hT hX hdx ty hs (he s (by simp)) (he x (by simp)) h
  refine ⟨r, v, st', g', w', h1, ?_, h3⟩
  rw [callBuiltin]
  simp only [builtin, List.map_toArray, List.map_cons, List.map_nil, Sem.run_bind, h2]
  rfl
end
end Go.V
namespace Go.V
section
variable {P : Program}
def FinRel (g : Gh) (w : World) (r : Fin) (e : Ending) : Prop :=
 match r with
 | .ret x => ∃ v, e = .returned v ∧ Rel g w x v
 | .pan x => ∃ v, e = .panicked [{ v, recovered := false }] ∧ Rel g w x v
def CallsTo (P : Program) (id : FuncId) (args : List AV) (st : St) (fin : Fin × St) : Prop :=
 ∀ g w vals, RelAll g w args vals.toList → StRel g st w →
  Calls P id vals w fun e w' => ∃ g', FinRel g' w' fin.1 e ∧ StRel g' fin.2 w' ∧ Ev g w g' w'
structure Orc (P : Program) where
 id : FuncId
 fn : Func
 hf : P.funcs[id]? = some fn
 hname : (fn.name == "runtime.NumGoroutine") = false
 hb : fn.body.isNone = false
 sem : List AV → St → (Fin → St → Ans) → Ans
 sound : ∀ k args st fin, sem args st k = some fin → ∀ g w vals, RelAll g w args vals.toList → StRel g st w →
  Calls P id vals w fun e w' => ∃ r st' g', k r st' = some fin ∧ FinRel g' w' r e ∧ StRel g' st' w' ∧ Ev g w g' w'
structure OrcS (P : Program) where
 id : FuncId
 fn : Func
 hf : P.funcs[id]? = some fn
 hname : (fn.name == "runtime.NumGoroutine") = false
 hb : fn.body.isNone = false
 sem : List AV → St → (Fin → St → Ans) → Ans
 sound : ∀ k args st fin, sem args st k = some fin → ∃ r st', k r st' = some fin ∧ CallsTo P id args st (r, st')
def OrcS.orc (O : OrcS P) : Orc P where
 id := O.id
 fn := O.fn
 hf := O.hf
 hname := O.hname
 hb := O.hb
 sem := O.sem
 sound k args st fin h g w vals hr hs := by
  obtain ⟨r, st', h1, h2⟩ := O.sound k args st fin h
  exact (h2 g w vals hr hs).mono fun e w' ⟨g', k1, k2, k3⟩ => ⟨r, st', g', h1, k1, k2, k3⟩
def rvRun (tmps : Array Value) (rv : ResultVar) : Sem Value :=
 match rv with
 | .tmp t => pure (tmps.getD t undef)
 | .cell p t => do loadVar t (← asAddr (tmps.getD p undef))
structure RSim (P : Program) where
 rv : ResultVar
 run : Env → St → (AV → Ans) → Ans
 sound : ∀ env st k fin, run env st k = some fin → ∀ g w a, EnvRel g w env a → StRel g st w → ∃ r v, k r = some fin ∧
  (rvRun a.tmps rv).run P w = .ok v w ∧ Rel g w r v
def rTmp (t : Tmp) : RSim P where
 rv := .tmp t
 run env st k := k (look env.m t)
 sound env st k fin h g w a he hs := ⟨_, _, h, rfl, he.slot t⟩
def rCell (p : Tmp) (T : TypeId) (d : TypeDesc) (hd : P.underlying T = some d) (sz : Nat) (hz : (P.info? T).map (·.size) = some sz) : RSim P where
 rv := .cell p T
 run env st k := aload (isAggD d) sz (look env.m p) st k
 sound env st k fin h g w a he hs := by
  obtain ⟨r, v, b, o, k1, hv, k2, k3⟩ := aload_ptr (P := P) hd hz hs (he.slot p) h
  exact ⟨r, v, k1, by simp [rvRun, hv, asAddr, k2], k3⟩
def resRun : List (RSim P) → Env → St → (List AV → Ans) → Ans
 | [], _, _, k => k []
 | r :: rs, env, st, k => r.run env st fun x => resRun rs env st fun xs => k (x :: xs)
def oneOf (xs : List AV) : AV :=
 match xs with
 | [x] => x
 | xs => .tup xs
theorem resRun_sound {g : Gh} {w : World} {env : Env} {st : St} {a : Act} (he : EnvRel g w env a) (hs : StRel g st w) {fin : Fin × St} : ∀ (rs : List (RSim P)) (k : List AV → Ans), resRun rs env st k = some fin →
  ∃ xs vs, k xs = some fin ∧ ((rs.map (·.rv)).mapM (m := Sem) (rvRun a.tmps)).run P w = .ok vs w ∧ RelAll g w xs vs
 | [], k, h => ⟨[], [], h, rfl, rfl⟩
 | r :: rs, k, h => by
  obtain ⟨x, v, h1, h2, h3⟩ := r.sound env st _ fin h g w a he hs
  obtain ⟨xs, vs, k1, k2, k3⟩ := resRun_sound he hs rs _ h1
  refine ⟨x :: xs, v :: vs, k1, ?_, v, vs, rfl, h3, k3⟩
  rw [List.map_cons, List.mapM_cons, Sem.run_bind]
  rw [h2, Result.andThen_ok, Sem.run_bind, k2]
  rfl
theorem results_run {fn : Func} {rs : List (RSim P)} (hres : fn.results = (rs.map (·.rv)).toArray) {w : World} {a : Act} {vs : List Value}
  (h : ((rs.map (·.rv)).mapM (m := Sem) (rvRun a.tmps)).run P w = .ok vs w) :
  (results fn a.tmps).run P w = .ok (if hh : vs.length = 1 then vs[0] else .tuple vs.toArray) w := by
 unfold results
 rw [hres, Sem.run_bind, Array.mapM_eq_mapM_toList, Sem.run_map]
 have e : (fun x : ResultVar => (match x with | .tmp t => pure (a.tmps.getD t undef) | .cell p t => do loadVar t (← asAddr (a.tmps.getD p undef)) : Sem Value)) = rvRun a.tmps := by
  funext x; cases x <;> rfl
 have e2 := h
 rw [← e] at e2
 have e3 := congrArg (fun r : Result (List Value) => (r.andThen fun a w' => Result.ok a.toArray w').andThen fun a w' => Sem.run P (pure (if h : a.size = 1 then a[0] else Value.tuple a)) w') e2
 refine Eq.trans ?_ (e3.trans (by simp))
 rfl
structure Fun (P : Program) where
 id : FuncId
 fn : Func
 hf : P.funcs[id]? = some fn
 hname : (fn.name == "runtime.NumGoroutine") = false
 body : Sim P
 hbody : fn.body = some body.code
 res : List (RSim P)
 hres : fn.results = (res.map (·.rv)).toArray
 n : Nat
 hn : fn.ntmps = n
def argEnv : Nat → List AV → List (Nat × AV)
 | _, [] => []
 | i, x :: r => (i, x) :: argEnv (i + 1) r
def Fun.leaveK (f : Fun P) (k : Fin → St → Ans) : Cont := fun x env st =>
 match x with
 | .normal => resRun f.res env st fun xs => k (.ret (oneOf xs)) st
 | .ret => resRun f.res env st fun xs => k (.ret (oneOf xs)) st
 | .panic v => k (.pan v) st
 | _ => none
def Fun.runK (f : Fun P) (F : Nat) (args : List AV) (st : St) (k : Fin → St → Ans) : Ans :=
 match Nat.ble args.length f.n with
 | true => f.body.run F (f.leaveK k) ⟨f.n, argEnv 0 args⟩ st
 | false => none
def Fun.done : Fin → St → Ans := fun r st => some (r, st)
def Fun.run (f : Fun P) (F : Nat) (args : List AV) (st : St) : Ans := f.runK F args st Fun.done
theorem argEnv_rel {g : Gh} {w : World} : ∀ (args : List AV) (vals : List Value) (i : Nat) (pre rest : List Value), RelAll g w args vals → pre.length = i → ∀ t, Rel g w (look (argEnv i args) t) ((pre ++ vals ++ rest).toArray.getD t undef)
 | [], vals, i, pre, rest, h, hi, t => trivial
 | x :: args, vals, i, pre, rest, ⟨v, vr, e, hv, h⟩, hi, t => by
  subst e
  simp only [argEnv, look]
  cases ht : Nat.beq i t with
  | true =>
   have : i = t := by simpa using ht
   subst this
   simp only [Array.getD_eq_getD_getElem?, List.getElem?_toArray]
   rw [List.append_assoc, List.getElem?_append_right (by omega)]
   simpa [hi] using hv
  | false =>
   have := argEnv_rel args vr (i + 1) (pre ++ [v]) rest h (by simp [hi]) t
   simpa using this
structure Shut (n : Nat) (w w' : World) : Prop where
 os : w'.os = w.os
 tape : w'.tape = w.tape
 output : w'.output = w.output
 size : w'.heap.size = w.heap.size
 same : ∀ (b : Nat) o, w.heap[b]? = some o → (∀ d, o ≠ .deferred d) → w'.heap[b]? = some o
 low : ∀ b, b < n → w'.heap[b]? = w.heap[b]?
theorem Shut.refl (n : Nat) (w : World) : Shut n w w := ⟨rfl, rfl, rfl, rfl, fun _ _ h _ => h, fun _ _ => rfl⟩
theorem Shut.cells {n : Nat} {w w' : World} (h : Shut n w w') {b : Nat} {C : Array Value} {E : TypeId} {fz : Nat × Nat} (hb : w.heap[b]? = some (.cells C E fz)) : w'.heap[b]? = some (.cells C E fz) := h.same b _ hb fun _ e => by cases e
theorem Shut.cell {n : Nat} {w w' : World} (h : Shut n w w') {b off : Nat} {u : Value} (hc : w.cell? ⟨b, off, none⟩ = some u) : w'.cell? ⟨b, off, none⟩ = some u := by
 obtain ⟨C, E, fz, hb, hu⟩ := cell_some hc
 rw [cell_of (h.cells hb)]; exact hu
mutual
theorem Rel.shut {g : Gh} {n : Nat} {w w' : World} (h : Shut n w w') : ∀ (a : AV) (v : Value), Rel g w a v → Rel g w' a v
 | .bool _, _, r => r
 | .int _ _, _, r => r
 | .str _, _, r => r
 | .nilptr, _, r => r
 | .nilsl, _, r => r
 | .nilmap, _, r => r
 | .nilfn, _, r => r
 | .nilif, _, r => r
 | .ptr k off, _, r => r
 | .eptr cs, _, ⟨b, off, r1, r2⟩ => ⟨b, off, r1, RelCells.shut h cs b off r2⟩
 | .sl sz full l, _, ⟨b, off, sp, cap, r1, r2, r3, rs, r4⟩ => ⟨b, off, sp, cap, r1, r2, r3, rs, RelRows.shut h sz l b off r4⟩
 | .lg t sz l, _, ⟨b, cap, C, E, fz, r1, r2, r3, r4, r5, r9, r6, r8⟩ => ⟨b, cap, C, E, fz, r1, r2, r3, h.cells r4, r5, r9, r6, RelRows.shut h sz l b 0 r8⟩
 | .ms k sz off n cap, _, r => r
 | .mp k, _, r => r
 | .fn f a c, _, ⟨va, vc, r1, r2, r3⟩ => ⟨va, vc, r1, RelAll.shut h a va.toList r2, RelAll.shut h c vc.toList r3⟩
 | .ifc t a, _, ⟨u, r1, r2⟩ => ⟨u, r1, Rel.shut h a u r2⟩
 | .agg cs, _, ⟨vs, r1, r2, r3⟩ => ⟨vs, r1, RelAll.shut h cs vs.toList r2, r3⟩
 | .tup cs, _, ⟨vs, r1, r2⟩ => ⟨vs, r1, RelAll.shut h cs vs.toList r2⟩
 | .dead, _, _ => trivial
 | .ns z sz l, _, .inl r => .inl r
 | .ns z sz l, _, .inr ⟨r0, b, off, sp, cap, r1, r2, rs, r4⟩ => .inr ⟨r0, b, off, sp, cap, r1, r2, rs, RelRows.shut h sz l b off r4⟩
 | .vs k v sz n, _, ⟨b, c, r1, r2, r3, r4, r5⟩ => ⟨b, c, r1, r2, r3, r4, fun e => by
  obtain ⟨k1, C, E, fz, k2, k3⟩ := r5 e
  exact ⟨k1, C, E, fz, h.cells k2, k3⟩⟩
 | .tp k E n, _, ⟨b, r1, r2, C, fz, r3, r4⟩ => ⟨b, r1, r2, C, fz, h.cells r3, r4⟩
 | .vp k v off, _, ⟨b, r1, r3, r4, r5⟩ => ⟨b, r1, r3, r4, fun e => ⟨(r5 e).1, by rw [h.size]; exact (r5 e).2⟩⟩
theorem RelAll.shut {g : Gh} {n : Nat} {w w' : World} (h : Shut n w w') : ∀ (ays : List AV) (vs : List Value), RelAll g w ays vs → RelAll g w' ays vs
 | [], _, r => r
 | a :: ays, _, ⟨v, vr, r1, r2, r3⟩ => ⟨v, vr, r1, Rel.shut h a v r2, RelAll.shut h ays vr r3⟩
theorem RelCells.shut {g : Gh} {n : Nat} {w w' : World} (h : Shut n w w') : ∀ (ays : List AV) (b off : Nat), RelCells g w ays b off → RelCells g w' ays b off
 | [], _, _, _ => trivial
 | a :: ays, b, off, ⟨⟨u, r1, r2, r5, r3⟩, r4⟩ => ⟨⟨u, h.cell r1, r2, r5, Rel.shut h a u r3⟩, RelCells.shut h ays b (off + 1) r4⟩
theorem RelRows.shut {g : Gh} {n : Nat} {w w' : World} (h : Shut n w w') (sz : Nat) : ∀ (l : List (List AV)) (b off : Nat), RelRows g w sz l b off → RelRows g w' sz l b off
 | [], _, _, _ => trivial
 | x :: l, b, off, ⟨r1, r2, r3⟩ => ⟨r1, RelCells.shut h x b off r2, RelRows.shut h sz l b (off + sz) r3⟩
end
theorem ObRel.shut {g : Gh} {n : Nat} {w w' : World} (h : Shut n w w') {k b : Nat} {o : Ob} (hr : ObRel g w k b o) : ObRel g w' k b o := by
 cases o with
 | cells cs => obtain ⟨h1, C, E, h2, h3, h4⟩ := hr; exact ⟨h1, C, E, h.cells h2, RelAll.shut h _ _ h3, h4⟩
 | map es => obtain ⟨h1, M, c, h2, h3, h4⟩ := hr; exact ⟨h1, M, c, h.same b _ h2 (fun _ e => by cases e), RelAll.shut h _ _ h3, RelAll.shut h _ _ h4⟩
 | gone => trivial
 | nov v => exact hr
 | lp s j f tm => obtain ⟨h1, L, h2, h3, h4, h5⟩ := hr; exact ⟨h1, L, h.same b _ h2 (fun _ e => by cases e), h3, h4, RelAll.shut h _ _ h5⟩
 | vec v cs =>
  obtain ⟨h1, b', h2, h3, C, E, h4, h5, h6⟩ := hr
  exact ⟨h1, b', by rw [h.size]; exact h2, h3, C, E, h.cells h4, RelAll.shut h _ _ h5, h6⟩
theorem StRel.shut {g : Gh} {n : Nat} {st : St} {w w' : World} (h : Shut n w w') (hs : StRel g st w) : StRel g st w' :=
 ⟨hs.tk, hs.len, fun k b o h1 h2 => ⟨by rw [h.size]; exact (hs.obj k b o h1 h2).1, (hs.obj k b o h1 h2).2.shut h⟩, fun b k hb hk => hs.back b k (by rw [← h.size]; exact hb) hk,
  fun b t hb hk => hs.rowlt b t (by rw [← h.size]; exact hb) hk, fun b k hb hk => by
   obtain ⟨k1, k2⟩ := hs.vec b k (by rw [← h.size]; exact hb) hk
   exact ⟨k1, fun b' hb' => k2 b' (by rw [← h.size]; exact hb')⟩, fun x hx => RelCells.shut h _ _ _ (hs.glob x hx)⟩
theorem EnvRel.shut {g : Gh} {n : Nat} {w w' : World} {e : Env} {a : Act} (h : Shut n w w') (he : EnvRel g w e a) : EnvRel g w' e a := ⟨he.size, fun t => Rel.shut h _ _ (he.slot t)⟩
theorem Ev.shut {g g' : Gh} {w w' w2 : World} (e : Ev g w g' w') (h : Shut w.heap.size w' w2) : Ev g w g' w2 where
 os := h.os.trans e.os
 tape := h.tape.trans e.tape
 output := h.output.trans e.output
 size := by rw [h.size]; exact e.size
 fixed b hb hk := ⟨(e.fixed b hb hk).1, (h.low b hb).trans (e.fixed b hb hk).2⟩
 row b t hb hk := ⟨(e.row b t hb hk).1, fun C E fz hC => by rw [h.low b hb]; exact (e.row b t hb hk).2 C E fz hC⟩
 obj := e.obj
 objs := e.objs
 tk := e.tk
 ver := e.ver
 vec b k hb hk hv he := ⟨(e.vec b k hb hk hv he).1, fun C E fz hC => by rw [h.low b hb]; exact (e.vec b k hb hk hv he).2 C E fz hC⟩
 ty b C E fz hb := by rw [h.low b (lt_of_block hb)]; exact e.ty b C E fz hb
theorem leaves_marks {fn : Func} {tmps : Array Value} {R : Ending → World → Prop} {u : FrameMode} (hu : u ≠ .run) {n : Nat} : ∀ (Ds : List Nat) (w : World), Ds.Pairwise (· > ·) → (∀ D ∈ Ds, n ≤ D ∧ D < w.heap.size ∧ w.heap[D]? = some (.deferred (some []))) →
  (∀ w', Shut n w w' → LeavesIn Fence.wide 0 P fn tmps R [] u w') → LeavesInM Fence.wide 0 P fn tmps R (Ds.map mark) u w
 | [], w, _, _, h => h w (.refl n w)
 | D :: Ds, w, hp, hD, h => by
  obtain ⟨h1, h2, h3⟩ := hD D (by simp)
  obtain ⟨hp1, hp2⟩ := List.pairwise_cons.mp hp
  have hoth : ∀ k, k ≠ D → (w.putObj D (.deferred none)).heap[k]? = w.heap[k]? := fun k hk => World.putObj_heap_other hk
  refine ⟨hu, .inl ⟨D, _, rfl, run_takeDeferred h3, leaves_marks hu (n := n) Ds _ hp2 (fun E hE => ?_) fun w' hw' => h w' ?_⟩⟩
  ·obtain ⟨k1, k2, k3⟩ := hD E (by simp [hE])
   have := hp1 E hE
   exact ⟨k1, by simpa using k2, by rw [hoth E (by omega)]; exact k3⟩
  ·refine ⟨hw'.os, hw'.tape, hw'.output, hw'.size.trans (by simp), fun b o hb hne => ?_, fun b hb => (hw'.low b hb).trans (hoth b (by omega))⟩
   refine hw'.same b o ?_ hne
   rw [hoth b (by intro e; subst e; rw [h3] at hb; cases hb; exact hne _ rfl)]; exact hb
theorem Fun.soundK (f : Fun P) {F : Nat} {args : List AV} {st : St} {k : Fin → St → Ans} {fin : Fin × St} (h : f.runK F args st k = some fin) : ∀ g w vals, RelAll g w args vals.toList → StRel g st w →
  Calls P f.id vals w fun e w' => ∃ r st' g', k r st' = some fin ∧ FinRel g' w' r e ∧ StRel g' st' w' ∧ Ev g w g' w' := by
 intro g w vals hr hs
 unfold Fun.runK at h
 split at h
 ·rename_i hle
  have hle : args.length ≤ f.n := by simpa using hle
  have hal := RelAll.length _ _ hr
  have hal : args.length = vals.size := by simpa using hal
  have he : EnvRel g w ⟨f.n, argEnv 0 args⟩ ⟨vals ++ Array.replicate (f.fn.ntmps - vals.size) undef, []⟩ := by
   refine ⟨by simp [f.hn]; omega, fun t => ?_⟩
   have := argEnv_rel args vals.toList 0 [] (List.replicate (f.fn.ntmps - vals.size) undef) hr rfl t
   rw [show vals ++ Array.replicate (f.fn.ntmps - vals.size) undef = ([] ++ vals.toList ++ List.replicate (f.fn.ntmps - vals.size) undef).toArray by apply Array.ext'; simp]
   exact this
  refine (callsIn_wide (n := 0)).1 (callsIn_of_wp_marks f.hf f.hbody trivial (f.body.sound F _ _ st fin h g w _ he hs _ ?_ none (.inl rfl)))
  intro x env' st' g' w' a' e h1 h2 h3 h4 h5 h6
  obtain ⟨Ds, d1, d2, d3⟩ := h5
  rw [List.append_nil] at d1
  have done : resRun f.res env' st' (fun xs => k (.ret (oneOf xs)) st') = some fin → LeavesInM Fence.wide 0 P f.fn a'.tmps (fun e w' => ∃ r st' g', k r st' = some fin ∧ FinRel g' w' r e ∧ StRel g' st' w' ∧ Ev g w g' w') a'.defers .returning w' := by
   intro hr
   rw [d1]
   refine leaves_marks (by intro e; cases e) Ds w' d2 (fun D hD => ⟨(d3 D hD).1, (d3 D hD).2.1, (d3 D hD).2.2.2⟩) fun w2 hw2 => ?_
   obtain ⟨xs, vs, k1, k2, k3⟩ := resRun_sound (h2.shut hw2) (h3.shut hw2) f.res _ hr
   refine ⟨_, results_run f.hres k2, _, st', g', k1, ⟨_, rfl, ?_⟩, h3.shut hw2, h4.shut hw2⟩
   have hl := RelAll.length _ _ k3
   unfold oneOf
   split
   ·obtain ⟨v, vr, rfl, hv, hvr⟩ := k3
    obtain rfl : vr = [] := hvr
    exact hv
   ·rename_i hne
    have : ¬ vs.length = 1 := by
     intro hv
     rw [hv] at hl
     cases xs with
     | nil => simp at hl
     | cons x xs => cases xs with
      | nil => exact hne x rfl
      | cons y ys => simp at hl
    rw [dif_neg this]
    exact ⟨vs.toArray, rfl, by simpa using k3⟩
  cases x with
  | normal => obtain rfl := h6; exact done h1
  | ret => obtain rfl := h6; exact done h1
  | panic v =>
   obtain ⟨u, rfl, h7⟩ := h6
   show LeavesInM Fence.wide 0 P f.fn a'.tmps _ a'.defers (.panicking _) w'
   rw [d1]
   refine leaves_marks (by intro e; cases e) Ds w' d2 (fun D hD => ⟨(d3 D hD).1, (d3 D hD).2.1, (d3 D hD).2.2.2⟩) fun w2 hw2 => ?_
   exact ⟨_, st', g', h1, ⟨u, rfl, Rel.shut hw2 _ _ h7⟩, h3.shut hw2, h4.shut hw2⟩
  | exit i => cases h1
  | goto l => cases h1
 ·cases h
theorem Fun.sound (f : Fun P) {F : Nat} {args : List AV} {st : St} {fin : Fin × St} (h : f.run F args st = some fin) : CallsTo P f.id args st fin := by
 intro g w vals hr hs
 refine (f.soundK h g w vals hr hs).mono fun e w' ⟨r, st', g', h1, h2, h3, h4⟩ => ?_
 simp only [Fun.done, Option.some.injEq] at h1
 subst h1
 exact ⟨g', h2, h3, h4⟩
def Fun.orc (f : Fun P) (F : Nat) : Orc P where
 id := f.id
 fn := f.fn
 hf := f.hf
 hname := f.hname
 hb := by rw [f.hbody]; rfl
 sem := f.runK F
 sound k args st fin h := f.soundK h
def Fun.orcS (f : Fun P) (F : Nat) : OrcS P where
 id := f.id
 fn := f.fn
 hf := f.hf
 hname := f.hname
 hb := by rw [f.hbody]; rfl
 sem args st k := match f.run F args st with
  | some (r, st') => k r st'
  | none => none
 sound k args st fin h := by
  split at h
  ·rename_i r st' hr
   exact ⟨r, st', h, f.sound hr⟩
  ·cases h
def Fun.told (f : Fun P) (sem : List AV → St → Option (Fin × St)) (hs : ∀ args st fin, sem args st = some fin → CallsTo P f.id args st fin) : OrcS P where
 id := f.id
 fn := f.fn
 hf := f.hf
 hname := f.hname
 hb := by rw [f.hbody]; rfl
 sem args st k := match sem args st with
  | some (r, st') => k r st'
  | none => none
 sound k args st fin h := by
  split at h
  ·rename_i r st' hr
   exact ⟨r, st', h, hs _ _ _ hr⟩
  ·cases h
theorem run_callFunc {f : FuncId} {fn : Func} (hf : P.funcs[f]? = some fn) (hname : (fn.name == "runtime.NumGoroutine") = false) (hb : fn.body.isNone = false) (args : Array Value) (w : World) :
  (callFunc f args).run P w = .ok (.enter f args) w := by
 unfold callFunc
 simp only [Sem.run_bind, run_program, Result.andThen_ok, hf, hname, hb, Bool.false_eq_true, if_false]
 rfl
theorem Ending.cases_call {o : Oper} {a : Act} {next : Act → World → Prop} {Q : Exit → Act → World → Prop} {f : FuncId} {vals : Array Value} {w : World} {K : Cont} {fin : Fin × St} {g : Gh} {env : Env} (he : EnvRel g w env a) (hp : Post K fin g w a.defers (Exit.then next Q))
  (hc : Calls P f vals w fun e w' => ∃ r st' g', (match r with | .ret v => K .normal (env.putO o.dst v) st' | .pan v => K (.panic v) env st') = some fin ∧ FinRel g' w' r e ∧ StRel g' st' w' ∧ Ev g w g' w') : ∀ ρ, o.uponIn (Rd ρ) 0 P a next Q (.ok (.enter f vals) w) := by
 intro ρ
 refine upon_enter' (hc.mono fun e w' ⟨r, st', g', hk, h1, h2, h3⟩ => ?_)
 cases r with
 | ret x =>
  obtain ⟨v, rfl, hv⟩ := h1
  refine ⟨fun _ e => ?_, fun _ e => (by cases e), fun e => (by cases e)⟩
  cases e
  exact hp .normal _ st' g' w' _ .normal hk ((he.mono h3).putO o.dst hv) h2 h3 (.of_eq (put_defers ..)) rfl
 | pan x =>
  obtain ⟨v, rfl, hv⟩ := h1
  refine ⟨fun _ e => (by cases e), fun _ e => ?_, fun e => (by cases e)⟩
  cases e
  exact hp (.panic x) _ st' g' w' a _ hk (he.mono h3) h2 h3 (.refl ..) ⟨v, rfl, hv⟩
def Cont.call (K : Cont) (env : Env) (dst : Option Tmp) : Fin → St → Ans := fun r st' =>
 match r with
 | .ret v => K .normal (env.putO dst v) st'
 | .pan v => K (.panic v) env st'
def opCall (O : Orc P) (dst : Option Tmp) (args : List Operand) (tys : Array TypeId) (ty : TypeId) (pos : String) (after : Array Edge) : OpSim P where
 oper := mkOp dst (.call { callee := .value (.func O.id), args := args.toArray, argTypes := tys }) ty pos after
 plain := rfl
 run K env st := O.sem (args.map env.eval) st (Cont.call K env dst)
 sound K env st fin h g w a he hs next Q hp ρ := by
  have hO := O.sound _ _ _ _ h g w ((args.map a.eval).toArray) (by simpa using he.evals args) hs
  have hrun : (execOp a.eval (mkOp dst (.call { callee := .value (.func O.id), args := args.toArray, argTypes := tys }) ty pos after)).run P w = .ok (.enter O.id (args.map a.eval).toArray) w := by
   simp only [execOp, mkOp, resolve, Act.eval, Deferred.ofValue]
   simp [invoke, run_callFunc O.hf O.hname O.hb, Act.eval]
  exact wpIn_enter hrun (Ending.cases_call he hp (hO.mono fun e w' ⟨r, st', g', h1, h2⟩ => ⟨r, st', g', by cases r <;> exact h1, h2⟩) ρ)
def findOrc (f : FuncId) : List (Orc P) → Option (Orc P)
 | [] => none
 | O :: r => match Nat.beq O.id f with
  | true => some O
  | false => findOrc f r
theorem findOrc_id {f : FuncId} : ∀ {l : List (Orc P)} {O : Orc P}, findOrc f l = some O → O.id = f
 | [], O, h => by cases h
 | x :: l, O, h => by
  simp only [findOrc] at h
  split at h
  ·rename_i hx
   cases h
   simpa using hx
  ·exact findOrc_id h
def acall (Os : List (Orc P)) (c : AV) (args : List AV) (st : St) (k : Fin → St → Ans) : Ans :=
 match c with
 | .fn (.func f) first captured => match findOrc f Os with
  | some O => O.sem (first ++ args ++ captured) st k
  | none => none
 | _ => none
theorem RelAll.appendV {g : Gh} {w : World} {cs ds : List AV} {vs us : Array Value} (h : RelAll g w cs vs.toList) (k : RelAll g w ds us.toList) : RelAll g w (cs ++ ds) (vs ++ us).toList := by
 rw [Array.toList_append]; exact RelAll.append _ _ _ _ h k
def opCallDyn (Os : List (Orc P)) (dst : Option Tmp) (t : Tmp) (args : List Operand) (tys : Array TypeId) (ty : TypeId) (pos : String) (after : Array Edge) : OpSim P where
 oper := mkOp dst (.call { callee := .value (.tmp t), args := args.toArray, argTypes := tys }) ty pos after
 plain := rfl
 run K env st := acall Os (look env.m t) (args.map env.eval) st (Cont.call K env dst)
 sound K env st fin h g w a he hs next Q hp ρ := by
  have hv := he.slot t
  unfold acall at h
  split at h
  ·rename_i f first captured hb
   split at h
   ·rename_i O hO
    have hid := findOrc_id hO
    have hS := O.sound _ _ _ _ h
    rw [hb] at hv
    obtain ⟨va, vc, hv, hva, hvc⟩ := hv
    have hev : a.eval (.tmp t) = .func (.func f) va vc := hv
    have hrun : (execOp a.eval (mkOp dst (.call { callee := .value (.tmp t), args := args.toArray, argTypes := tys }) ty pos after)).run P w = .ok (.enter f (va ++ (args.map a.eval).toArray ++ vc)) w := by
     simp only [execOp, mkOp, resolve, hev, Deferred.ofValue]
     subst hid
     simp [invoke, run_callFunc O.hf O.hname O.hb]
    subst hid
    exact wpIn_enter hrun (Ending.cases_call he hp ((hS g w _ (RelAll.appendV (RelAll.appendV hva (by simpa using he.evals args)) hvc) hs).mono fun e w' ⟨r, st', g', h1, h2⟩ => ⟨r, st', g', by cases r <;> exact h1, h2⟩) ρ)
   ·cases h
  ·cases h
end
end Go.V
