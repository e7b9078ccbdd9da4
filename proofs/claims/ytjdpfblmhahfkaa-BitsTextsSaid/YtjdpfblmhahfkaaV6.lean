/- Operations that make memory or write into objects: new blocks, stores, append. -/
import Derived.Test.YtjdpfblmhahfkaaV5
import Derived.Laws.AppendOwn
import Derived.Laws.Rows
set_option linter.unusedVariables false
set_option linter.unusedSimpArgs false
namespace Go.V
section
variable {P : Program}

/-- A block has a use. -/
def Gh.use (g : Gh) (b : Nat) (kd : BK) : Nat → BK := fun x => if x = b then kd else g.kind x

/-- A world with one block more. -/
structure Push (w w1 : World) (o : Obj) : Prop where
  os : w1.os = w.os
  tape : w1.tape = w.tape
  output : w1.output = w.output
  heap : w1.heap = w.heap.push o

theorem Push.old {w w1 : World} {o : Obj} (h : Push w w1 o) {b : Nat} (hb : b < w.heap.size) : w1.heap[b]? = w.heap[b]? := by
  rw [h.heap, Array.getElem?_push, if_neg (by omega)]
theorem Push.new {w w1 : World} {o : Obj} (h : Push w w1 o) : w1.heap[w.heap.size]? = some o := by
  rw [h.heap, Array.getElem?_push, if_pos rfl]
theorem Push.size {w w1 : World} {o : Obj} (h : Push w w1 o) : w1.heap.size = w.heap.size + 1 := by
  rw [h.heap]; simp
theorem Push.alloc (w : World) (o : Obj) : Push w (w.alloc o) o := ⟨rfl, rfl, rfl, rfl⟩
theorem Push.drew (w : World) (o : Obj) : Push w (w.drew.alloc o) o := ⟨rfl, rfl, rfl, rfl⟩

theorem Ev.push {g : Gh} {w w1 : World} {o : Obj} (h : Push w w1 o) (kd : BK) (os : List Nat) (tk' : List (Nat × Nat)) (htk : ∀ t sz n : Nat, g.tk[t]? = some (sz, n) → ∃ n', tk'[t]? = some (sz, n') ∧ n ≤ n') :
    Ev g w ⟨g.use w.heap.size kd, g.objs ++ os, tk'⟩ w1 where
  os := h.os
  tape := h.tape
  output := h.output
  size := by rw [h.size]; omega
  solid := fun b hb hk => ⟨by simp only [Gh.use]; rw [if_neg (by omega)]; exact hk, h.old hb⟩
  row := fun b t hb hk => ⟨by simp only [Gh.use]; rw [if_neg (by omega)]; exact hk, fun C E fz hC => ⟨C, (h.old hb).trans hC, rfl, fun _ _ => rfl⟩⟩
  obj := fun b k hb hk => .inl (by simp only [Gh.use]; rw [if_neg (by omega)]; exact hk)
  objs := fun k b hk => by
    show (g.objs ++ os)[k]? = some b
    have hlt : k < g.objs.length := by
      rcases Nat.lt_or_ge k g.objs.length with h' | h'
      · exact h'
      · rw [List.getElem?_eq_none h'] at hk; cases hk
    rw [List.getElem?_append_left hlt]; exact hk
  tk := htk

theorem tk_refl (tk : List (Nat × Nat)) : ∀ t sz n : Nat, tk[t]? = some (sz, n) → ∃ n', tk[t]? = some (sz, n') ∧ n ≤ n' := fun _ _ n h => ⟨n, h, Nat.le_refl _⟩
theorem tk_more (tk ts : List (Nat × Nat)) : ∀ t sz n : Nat, tk[t]? = some (sz, n) → ∃ n', (tk ++ ts)[t]? = some (sz, n') ∧ n ≤ n' := fun t sz n h => ⟨n, by
  have hlt : t < tk.length := by
    rcases Nat.lt_or_ge t tk.length with h' | h'
    · exact h'
    · rw [List.getElem?_eq_none h'] at h; cases h
  rw [List.getElem?_append_left hlt]; exact h, Nat.le_refl _⟩
theorem tk_set (tk : List (Nat × Nat)) (t0 s0 n0 m : Nat) (h0 : tk[t0]? = some (s0, n0)) (hm : n0 ≤ m) : ∀ t sz n : Nat, tk[t]? = some (sz, n) → ∃ n', (tk.set t0 (s0, m))[t]? = some (sz, n') ∧ n ≤ n' := fun t sz n h => by
  by_cases ht : t0 = t
  · subst ht
    rw [h0] at h
    simp only [Option.some.injEq, Prod.mk.injEq] at h
    have hlt : t0 < tk.length := by
      rcases Nat.lt_or_ge t0 tk.length with h' | h'
      · exact h'
      · rw [List.getElem?_eq_none h'] at h0; cases h0
    exact ⟨m, by rw [List.getElem?_set, if_pos rfl, if_pos hlt, h.1], by omega⟩
  · exact ⟨n, by rw [List.getElem?_set, if_neg ht]; exact h, Nat.le_refl _⟩

theorem ObRel.keep {g g' : Gh} {w w' : World} (h : Ev g w g' w') {k b : Nat} {o : Ob} (hb : w'.heap[b]? = w.heap[b]?) (hk : g'.kind b = g.kind b) (hr : ObRel g w k b o) : ObRel g' w' k b o := by
  cases o with
  | cells cs =>
    obtain ⟨h1, C, E, h2, h3, h4⟩ := hr
    exact ⟨hk.trans h1, C, E, hb.trans h2, RelAll.mono h _ _ h3, h4⟩
  | map es =>
    obtain ⟨h1, M, c, h2, h3, h4⟩ := hr
    exact ⟨hk.trans h1, M, c, hb.trans h2, RelAll.mono h _ _ h3, RelAll.mono h _ _ h4⟩
  | gone => trivial

theorem getElem?_lt {α : Type} {l : List α} {i : Nat} {x : α} (h : l[i]? = some x) : i < l.length := by
  rcases Nat.lt_or_ge i l.length with h' | h'
  · exact h'
  · rw [List.getElem?_eq_none h'] at h; cases h

/-- One solid or one row's block more. -/
theorem StRel.push {g : Gh} {st : St} {w w1 : World} {o : Obj} (hs : StRel g st w) (h : Push w w1 o) (kd : BK) (tk' : List (Nat × Nat)) (htk : ∀ t sz n : Nat, g.tk[t]? = some (sz, n) → ∃ n', tk'[t]? = some (sz, n') ∧ n ≤ n')
    (hkd : match kd with | .solid => True | .row t => t < tk'.length | .obj _ => False) : StRel ⟨g.use w.heap.size kd, g.objs, tk'⟩ ⟨st.objs, tk'⟩ w1 := by
  have hE : Ev g w ⟨g.use w.heap.size kd, g.objs, tk'⟩ w1 := by simpa using Ev.push h kd [] tk' htk
  refine ⟨rfl, hs.len, fun k b x hk hx => ?_, fun b k hb hk => ?_, fun b t hb hk => ?_⟩
  · obtain ⟨h1, h2⟩ := hs.obj k b x hk hx
    exact ⟨by rw [h.size]; omega, h2.keep hE (h.old h1) (by simp only [Gh.use]; rw [if_neg (by omega)])⟩
  · simp only [Gh.use] at hk
    split at hk
    · subst hk; exact hkd.elim
    · rename_i hne
      exact hs.back b k (by rw [h.size] at hb; omega) hk
  · simp only [Gh.use] at hk
    split at hk
    · subst hk; exact hkd
    · rename_i hne
      have := hs.rowlt b t (by rw [h.size] at hb; omega) hk
      have h1 : st.tk.length ≤ tk'.length := by
        rcases Nat.lt_or_ge tk'.length st.tk.length with h' | h'
        · have hx : g.tk[tk'.length]? = some st.tk[tk'.length] := by rw [hs.tk]; exact List.getElem?_eq_getElem h'
          obtain ⟨n', h1, _⟩ := htk _ _ _ hx
          rw [List.getElem?_eq_none (Nat.le_refl _)] at h1; cases h1
        · exact h'
      show t < tk'.length
      omega

/-- One object more. -/
theorem StRel.pushObj {g : Gh} {st : St} {w w1 : World} {o : Obj} (hs : StRel g st w) (h : Push w w1 o) (x : Ob) (hx : match x with | .gone => False | _ => True)
    (hr : Ev g w ⟨g.use w.heap.size (.obj st.objs.length), g.objs ++ [w.heap.size], g.tk⟩ w1 → ObRel ⟨g.use w.heap.size (.obj st.objs.length), g.objs ++ [w.heap.size], g.tk⟩ w1 st.objs.length w.heap.size x) :
    StRel ⟨g.use w.heap.size (.obj st.objs.length), g.objs ++ [w.heap.size], g.tk⟩ ⟨st.objs ++ [x], st.tk⟩ w1 := by
  have hE : Ev g w ⟨g.use w.heap.size (.obj st.objs.length), g.objs ++ [w.heap.size], g.tk⟩ w1 := Ev.push h _ _ _ (tk_refl _)
  refine ⟨hs.tk, by simp [hs.len], fun k b y hk hy => ?_, fun b k hb hk => ?_, fun b t hb hk => ?_⟩
  · rcases Nat.lt_or_ge k st.objs.length with hlt | hge
    · rw [List.getElem?_append_left (by rw [hs.len]; exact hlt)] at hk
      rw [List.getElem?_append_left hlt] at hy
      obtain ⟨h1, h2⟩ := hs.obj k b y hk hy
      exact ⟨by rw [h.size]; omega, h2.keep hE (h.old h1) (by simp only [Gh.use]; rw [if_neg (by omega)])⟩
    · have hkl : k = st.objs.length := by have := getElem?_lt hy; simp at this; omega
      subst hkl
      rw [List.getElem?_append_right (by rw [hs.len]; exact Nat.le_refl _)] at hk
      rw [List.getElem?_append_right (Nat.le_refl _)] at hy
      simp [hs.len] at hk hy
      subst hk; subst hy
      exact ⟨by rw [h.size]; omega, hr hE⟩
  · simp only [Gh.use] at hk
    split at hk
    · rename_i hb'
      simp only [BK.obj.injEq] at hk
      subst hk; subst hb'
      refine ⟨x, by simp, ?_, hx⟩
      show (g.objs ++ [w.heap.size])[st.objs.length]? = some w.heap.size
      rw [List.getElem?_append_right (by rw [hs.len]; exact Nat.le_refl _)]; simp [hs.len]
    · rename_i hne
      obtain ⟨y, h1, h2, h3⟩ := hs.back b k (by rw [h.size] at hb; omega) hk
      exact ⟨y, by rw [List.getElem?_append_left (getElem?_lt h1)]; exact h1, by show (g.objs ++ [w.heap.size])[k]? = some b; rw [List.getElem?_append_left (getElem?_lt h2)]; exact h2, h3⟩
  · simp only [Gh.use] at hk
    split at hk
    · cases hk
    · exact hs.rowlt b t (by rw [h.size] at hb; omega) hk

theorem run_newRow (e : TypeId) (C : Array Value) (w : World) : (newRow e C).run P w = .ok ⟨w.heap.size, 0, none⟩ (w.alloc (.cells C e)) := rfl

theorem solid_cells {g : Gh} {w w1 : World} {C : Array Value} {E : TypeId} (h : Push w w1 (.cells C E)) (tk' : List (Nat × Nat)) (htk : ∀ t sz n : Nat, g.tk[t]? = some (sz, n) → ∃ n', tk'[t]? = some (sz, n') ∧ n ≤ n') (objs : List Nat) :
    ∀ j v, C.toList[j]? = some v → w1.cell? ⟨w.heap.size, 0 + j, none⟩ = some v ∧ Gh.prot ⟨g.use w.heap.size .solid, objs, tk'⟩ w.heap.size (0 + j) := by
  intro j v hj
  refine ⟨by rw [cell_of h.new]; simpa using hj, ?_⟩
  simp [Gh.prot, Gh.use]

/-- A value put aside, that is never written again. -/
def opBoxF (dst : Option Tmp) (T : TypeId) (x : Operand) (ty : TypeId) (pos : String) (after : Array Edge) : PSim P :=
  PSim.makes (mkOp dst (.box T x) ty pos after) rfl [x] (fun ev k => match cellsA (ev x) with
    | some cs => k (.eptr cs)
    | none => none) (fun ev ev' k h => by simp only [h x (by simp)]) fun ev k fin h g w a st he hs => by
    split at h
    · rename_i cs hcs
      obtain ⟨h1, h1c⟩ := cellsA_rel hcs (he x (by simp))
      have hp := Push.alloc w (.cells (a.eval x).cells T)
      have hE : Ev g w ⟨g.use w.heap.size .solid, g.objs, g.tk⟩ (w.alloc (.cells (a.eval x).cells T)) := by simpa using Ev.push hp .solid [] g.tk (tk_refl _)
      refine ⟨_, .pointer (some ⟨w.heap.size, 0, none⟩), ⟨g.use w.heap.size .solid, g.objs, g.tk⟩, w.alloc (.cells (a.eval x).cells T), h, ?_, ⟨_, _, rfl, ?_⟩, ?_, hE⟩
      · simp [execOp, mkOp, Instr.box, newVar, run_newRow]
      · exact RelCells.of cs _ _ _ (RelAll.mono hE _ _ h1) fun j v hj => ⟨(solid_cells (g := g) hp g.tk (tk_refl _) g.objs j v hj).1, (solid_cells (g := g) hp g.tk (tk_refl _) g.objs j v hj).2, h1c v (List.mem_of_getElem? hj)⟩
      · have := hs.push hp .solid g.tk (tk_refl _) trivial
        rw [hs.tk] at this ⊢; exact this
    · cases h

/-- A new object. -/
theorem newObj_rel {g : Gh} {st : St} {w : World} (hs : StRel g st w) (v : Value) (T : TypeId) {cs : List AV} (h1 : RelAll g w cs v.cells.toList) (h1c : ∀ u ∈ v.cells.toList, u.oneCell' = true) :
    ∃ g', StRel g' ⟨st.objs ++ [.cells cs], st.tk⟩ (w.alloc (.cells v.cells T)) ∧ Ev g w g' (w.alloc (.cells v.cells T)) ∧ Rel g' (w.alloc (.cells v.cells T)) (.ptr st.objs.length 0) (.pointer (some ⟨w.heap.size, 0, none⟩)) := by
  have hp := Push.alloc w (.cells v.cells T)
  refine ⟨_, hs.pushObj hp (.cells cs) trivial (fun hE => ⟨by simp [Gh.use], v.cells, T, hp.new, RelAll.mono hE _ _ h1, h1c⟩), Ev.push hp _ _ _ (tk_refl _), w.heap.size, ?_, rfl⟩
  show (g.objs ++ [w.heap.size])[st.objs.length]? = some w.heap.size
  rw [List.getElem?_append_right (by rw [hs.len]; exact Nat.le_refl _)]; simp [hs.len]

/-- A value put aside, as an object. -/
def opBox (dst : Option Tmp) (T : TypeId) (x : Operand) (ty : TypeId) (pos : String) (after : Array Edge) : MSim P :=
  MSim.makes (mkOp dst (.box T x) ty pos after) rfl [x] (fun ev st k => match cellsA (ev x) with
    | some cs => k (.ptr st.objs.length 0) ⟨st.objs ++ [.cells cs], st.tk⟩
    | none => none) (fun ev ev' st k h => by simp only [h x (by simp)]) fun ev st k fin h g w a he hs => by
    split at h
    · rename_i cs hcs
      obtain ⟨h1, h1c⟩ := cellsA_rel hcs (he x (by simp))
      obtain ⟨g', k1, k2, k3⟩ := newObj_rel hs (a.eval x) T h1 h1c
      exact ⟨_, _, _, g', _, h, by simp [execOp, mkOp, Instr.box, newVar, run_newRow] <;> rfl, k3, k1, k2⟩
    · cases h

/-- A variable in memory, an object. -/
def opAlloc (dst : Option Tmp) (T : TypeId) (z : Value) (hz : (P.info? T).bind (·.zero) = some z) (ty : TypeId) (pos : String) (after : Array Edge) : MSim P :=
  MSim.makes (mkOp dst (.alloc T) ty pos after) rfl [] (fun ev st k => match cellsA (ofLit z) with
    | some cs => k (.ptr st.objs.length 0) ⟨st.objs ++ [.cells cs], st.tk⟩
    | none => none) (fun ev ev' st k h => rfl) fun ev st k fin h g w a he hs => by
    split at h
    · rename_i cs hcs
      obtain ⟨h1, h1c⟩ := cellsA_rel hcs (ofLit_rel g w z)
      obtain ⟨g', k1, k2, k3⟩ := newObj_rel hs z T h1 h1c
      exact ⟨_, _, _, g', _, h, by simp [execOp, mkOp, Instr.alloc, newVar, run_newRow, run_zeroValue' hz] <;> rfl, k3, k1, k2⟩
    · cases h

/-! ### Stores -/
theorem setRow_other' (w : World) (g k : Nat) (cs : Array Value) (h : k ≠ g) : (w.setRow g cs).heap[k]? = w.heap[k]? := by
  simp only [World.setRow, Array.getElem?_modify]
  rw [if_neg (by omega)]

theorem run_storeCells_gen (b o : Nat) (E : TypeId) (fz : Nat × Nat) : ∀ (vs : List Value) (i : Nat) (C : Array Value) (w : World), w.heap[b]? = some (.cells C E fz) → o + i + vs.length ≤ C.size → (∀ j, o + i ≤ j → j < o + i + vs.length → ¬ (fz.1 ≤ j ∧ j < fz.2)) → (∀ v ∈ vs, v.oneCell' = true) →
    (storeCells ⟨b, o, none⟩ vs i).run P w = .ok () (w.setRow b (setV C.toList (o + i) vs).toArray)
  | [], i, C, w, hb, _, _, _ => by
    have : setV C.toList (o + i) [] = C.toList := by cases C.toList <;> rfl
    rw [this, Array.toArray_toList, setRow_self w b C E fz hb]
    rfl
  | v :: vs, i, C, w, hb, hl, hf, h1 => by
    have hi : o + i < C.size := by simp at hl; omega
    have hcell : w.cell? ⟨b, o + i, none⟩ = some C[o + i] := by rw [cell_of hb]; simp [hi]
    have hfro : w.frozen? ⟨b, o + i, none⟩ = false := by
      have := hf (o + i) (Nat.le_refl _) (by simp)
      simp only [World.frozen?, hb]
      simpa using this
    have hst : (store ((⟨b, o, none⟩ : Addr).add i) v).run P w = .ok () (w.setRow b (C.setIfInBounds (o + i) v)) := by
      rw [add_none, run_store P w _ v _ (h1 v (by simp)), hcell]
      simp [hfro, setCell_eq_setRow w b (o + i) C E fz v hb]
    have ih := run_storeCells_gen b o E fz vs (i + 1) (C.setIfInBounds (o + i) v) (w.setRow b (C.setIfInBounds (o + i) v)) (setRow_heap w b C _ E _ hb) (by simp at hl ⊢; omega) (fun j h2 h3 => hf j (by omega) (by simp; omega)) (fun x hx => h1 x (by simp [hx]))
    simp only [storeCells, Sem.run_bind, hst, Result.andThen_ok, ih, setRow_setRow]
    rw [Array.toList_setIfInBounds, ← Nat.add_assoc, set_setV _ _ _ _ (by simpa using hi)]

/-- An object's cells are written. -/
theorem store_obj {g : Gh} {st : St} {w : World} (hs : StRel g st w) {j b : Nat} (hg : g.objs[j]? = some b) {cs : List AV} (hcs : st.objs[j]? = some (.cells cs)) {o : Nat} {xs : List AV} {vs : List Value} (hx : RelAll g w xs vs) (h1 : ∀ u ∈ vs, u.oneCell' = true) (hfit : o + xs.length ≤ cs.length) :
    ∃ w', (storeCells ⟨b, o, none⟩ vs 0).run P w = .ok () w' ∧ StRel g ⟨st.objs.set j (.cells (setAt cs o xs)), st.tk⟩ w' ∧ Ev g w g w' := by
  obtain ⟨hkind, C, E, hC, hr, hrc⟩ := ob_of hs hg hcs
  have hlen := RelAll.length _ _ hr
  have hlen2 := RelAll.length _ _ hx
  have hlen : cs.length = C.size := by simpa using hlen
  have hlt := lt_of_block hC
  have hrun := run_storeCells_gen (P := P) b o E (0, 0) vs 0 C w hC (by omega) (fun j _ _ => by simp) h1
  rw [Nat.add_zero] at hrun
  have hE : Ev g w g (w.setRow b (setV C.toList o vs).toArray) := by
    refine ⟨rfl, rfl, rfl, by simp, fun x hx hk => ⟨hk, ?_⟩, fun x t hx hk => ⟨hk, fun C' E' fz hC' => ⟨C', ?_, rfl, fun _ _ => rfl⟩⟩, fun x k hx hk => .inl hk, fun _ _ h => h, tk_refl _⟩
    · refine setRow_other' _ _ _ _ ?_
      intro e; subst e; rw [hkind] at hk; cases hk
    · rw [setRow_other' _ _ _ _ ?_]
      · exact hC'
      · intro e; subst e; rw [hkind] at hk; cases hk
  refine ⟨_, hrun, ⟨hs.tk, by simp [hs.len], fun k b' y hk hy => ?_, fun b' k hb' hk => ?_, fun b' t hb' hk => hs.rowlt b' t (by simpa using hb') hk⟩, hE⟩
  · by_cases hkj : k = j
    · subst hkj
      rw [hg] at hk
      cases hk
      rw [List.getElem?_set_self (getElem?_lt hcs)] at hy
      cases hy
      refine ⟨by simpa using hlt, hkind, _, E, setRow_heap w b C _ E _ hC, ?_, ?_⟩
      · exact setAt_rel _ _ _ _ _ (RelAll.mono hE _ _ hr) (RelAll.mono hE _ _ hx)
      · intro u hu
        rcases mem_setV _ _ _ _ (by simpa using hu) with hu | hu
        · exact hrc u hu
        · exact h1 u hu
    · rw [List.getElem?_set_ne (fun e => hkj e.symm)] at hy
      obtain ⟨h2, h3⟩ := hs.obj k b' y hk hy
      refine ⟨by simpa using h2, ?_⟩
      by_cases hbb : b' = b
      · subst hbb
        cases y with
        | gone => trivial
        | cells cs' => have := h3.1; rw [hkind] at this; cases this; exact absurd rfl hkj
        | map es => have := h3.1; rw [hkind] at this; cases this; exact absurd rfl hkj
      · exact h3.keep hE (setRow_other' _ _ _ _ hbb) rfl
  · obtain ⟨y, h2, h3, h4⟩ := hs.back b' k (by simpa using hb') hk
    by_cases hkj : k = j
    · subst hkj
      exact ⟨_, List.getElem?_set_self (getElem?_lt hcs), h3, trivial⟩
    · exact ⟨y, by rw [List.getElem?_set_ne (fun e => hkj e.symm)]; exact h2, h3, h4⟩

def astore (sz : Nat) (p x : AV) (st : St) (k : AV → St → Ans) : Ans :=
  match p with
  | .ptr j o => match st.objs[j]? with
    | some (.cells cs) => match cellsA x with
      | some xs => if xs.length = sz ∧ o + sz ≤ cs.length then k .dead ⟨st.objs.set j (.cells (setAt cs o xs)), st.tk⟩ else none
      | none => none
    | _ => none
  | _ => none

def opStore (dst : Option Tmp) (T : TypeId) (p x : Operand) (sz : Nat) (hz : (P.info? T).map (·.size) = some sz) (ty : TypeId) (pos : String) (after : Array Edge) : MSim P :=
  MSim.does (mkOp dst (.store T p x) ty pos after) rfl [p, x] (fun ev st k => astore sz (ev p) (ev x) st k) (fun ev ev' st k h => by simp only [h p (by simp), h x (by simp)]) fun ev st k fin h g w a he hs => by
    have hv := he p (by simp)
    unfold astore at h
    split at h
    · rename_i j o hb
      rw [hb] at hv
      obtain ⟨b, hg, hv⟩ := hv
      split at h
      · rename_i cs hcs
        split at h
        · rename_i xs hxs
          split at h
          · rename_i hc
            obtain ⟨h1, h1c⟩ := cellsA_rel hxs (he x (by simp))
            have hl := RelAll.length _ _ h1
            obtain ⟨w', k1, k2, k3⟩ := store_obj (P := P) (o := o) hs hg hcs h1 h1c (by omega)
            refine ⟨_, g, w', h, ?_, k2, k3⟩
            have hsize : (a.eval x).cells.size = sz := by rw [← hc.1]; simpa using hl.symm
            simp [execOp, mkOp, Instr.storeAt, hv, Instr.sureAddr, storeVar, run_sizeOf' hz, hsize, k1]
          · cases h
        · cases h
      · cases h
    · cases h

end
end Go.V
