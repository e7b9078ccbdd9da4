/- Slices written out, made, copied; texts and bytes; callees in regions; callees whose garbage is forgotten. -/
import Derived.Test.YtjdpfblmhahfkaaV9
set_option linter.unusedVariables false
set_option linter.unusedSimpArgs false
namespace Go.V
section
variable {P : Program}

/-! ### Slices written out -/
/-- What is put into a slice that never changes grows no more. -/
def frz : AV → AV
  | .lg _ sz l => .sl sz false l
  | .agg cs => .agg (cs.map frz1)
  | x => x
where
  frz1 : AV → AV
    | .lg _ sz l => .sl sz false l
    | x => x

theorem frz1_rel {g : Gh} {w : World} {x : AV} {v : Value} (h : Rel g w x v) : Rel g w (frz.frz1 x) v := by
  unfold frz.frz1
  split
  · obtain ⟨b, cap, C, E, fz, h1, h2, h3, h4, h5, h6, h7, h8⟩ := h
    exact ⟨b, 0, none, cap, h1, h2, (fun e => by cases e), .inl rfl, h8⟩
  · exact h
theorem frzs_rel {g : Gh} {w : World} : ∀ {xs : List AV} {vs : List Value}, RelAll g w xs vs → RelAll g w (xs.map frz.frz1) vs
  | [], _, h => h
  | x :: xs, _, ⟨v, vr, e, h1, h2⟩ => ⟨v, vr, e, frz1_rel h1, frzs_rel h2⟩
theorem frz_rel {g : Gh} {w : World} {x : AV} {v : Value} (h : Rel g w x v) : Rel g w (frz x) v := by
  unfold frz
  split
  · exact frz1_rel (x := .lg _ _ _) h
  · obtain ⟨vs, h1, h2, h3⟩ := h
    exact ⟨vs, h1, frzs_rel h2, h3⟩
  · exact h

theorem deads_rel {g : Gh} {w : World} : ∀ (vs : List Value), RelAll g w (List.replicate vs.length .dead) vs
  | [] => rfl
  | v :: vs => ⟨v, vs, rfl, trivial, deads_rel vs⟩

def abuildSl (sz len : Nat) (parts : List (Nat × Nat × AV)) (k : AV → Ans) : Ans :=
  aparts parts (List.replicate (len * sz) .dead) fun cs => match rowsOf sz len cs with
    | some l => k (.sl sz true l)
    | none => none

theorem zeroArr_cells {z : Value} {sz : Nat} (h1 : z.cells.toList.all Value.oneCell' = true) (hz : z.cells.size = sz) (n : Nat) :
    ∀ u ∈ ((Array.range (n * sz)).map (fun j => z.cells[j % z.cells.size]!)).toList, u.oneCell' = true := by
  intro u hu
  simp only [Array.toList_map, Array.toList_range, List.mem_map, List.mem_range] at hu
  obtain ⟨j, hj, rfl⟩ := hu
  have hpos : 0 < z.cells.size := by
    rcases Nat.eq_zero_or_pos z.cells.size with h | h
    · rw [hz] at h; subst h; simp at hj
    · exact h
  have hlt : j % z.cells.size < z.cells.size := Nat.mod_lt _ hpos
  rw [getElem!_pos z.cells _ hlt]
  exact List.all_eq_true.mp h1 _ (by simp)

theorem parts_evZ {ev ev' : Operand → AV} {sz : Nat} {parts : List (Nat × Operand)} (h : ∀ x ∈ parts.map (·.2), ev x = ev' x) : (parts.map fun p => (p.1 * sz, sz, frz (ev p.2))) = parts.map fun p => (p.1 * sz, sz, frz (ev' p.2)) :=
  List.map_congr_left fun p hp => by rw [h p.2 (List.mem_map_of_mem hp)]

def opBuildSlice (dst : Option Tmp) (T : TypeId) (len : Nat) (parts : List (Nat × Operand)) (e sz bytes : Nat) (z : Value) (hT : ElemOf P T e sz bytes z) (h1 : z.cells.toList.all Value.oneCell' = true) (hl : len * sz ≤ 16777216) (ty : TypeId) (pos : String) (after : Array Edge) : PSim P :=
  PSim.makes (mkOp dst (.buildSlice T len parts.toArray) ty pos after) rfl (parts.map (·.2)) (fun ev k => abuildSl sz len (parts.map fun p => (p.1 * sz, sz, frz (ev p.2))) k)
    (fun ev ev' k h => by rw [parts_evZ h]) fun ev k fin h g w a st he hs => by
    have hbig : ¬ (len * sz > 2 ^ 24) := by omega
    generalize hZ : (if len * sz = 0 then #[] else (Array.range (len * sz)).map (fun j => z.cells[j % z.cells.size]!)) = Z
    have hZ1 : ∀ u ∈ Z.toList, u.oneCell' = true := by
      subst hZ
      split
      · simp
      · exact zeroArr_cells h1 hT.cells len
    have hZs : Z.size = len * sz := by
      subst hZ
      split
      · rename_i h; simp [h]
      · simp
    have hr0 : RelAll g w (List.replicate (len * sz) .dead) Z.toList := by
      have := deads_rel (g := g) (w := w) Z.toList
      rw [Array.length_toList, hZs] at this; exact this
    -- the parts, with what was frozen
    have hfill : ∃ ds us, (match rowsOf sz len ds with | some l => k (.sl sz true l) | none => none) = some fin ∧ Instr.fill (fun i => some (i * sz, sz)) Z (parts.map fun p => (p.1, a.eval p.2)) = some us ∧ RelAll g w ds us.toList ∧ ∀ u ∈ us.toList, u.oneCell' = true := by
      have := aparts_run (ev := fun x => frz (ev x)) (xs := parts.map (·.2)) (fun x hx => frz_rel (he x hx)) (fun i => some (i * sz, sz)) (parts.map fun p => (p.1, p.1 * sz, sz, p.2)) (fun p hp => by
        simp only [List.mem_map] at hp
        obtain ⟨q, hq, rfl⟩ := hp
        exact List.mem_map.mpr ⟨q, hq, rfl⟩) (fun p hp => by
        simp only [List.mem_map] at hp
        obtain ⟨q, hq, rfl⟩ := hp
        rfl) _ Z hr0 hZ1 (by rw [List.map_map]; exact h)
      obtain ⟨ds, us, a1, a2, a3, a4⟩ := this
      exact ⟨ds, us, a1, by rw [List.map_map] at a2; exact a2, a3, a4⟩
    obtain ⟨ds, us, f1, f2, f3, f4⟩ := hfill
    split at f1
    · rename_i l hl'
      obtain ⟨l1, l2, l3⟩ := rowsOf_list sz len ds l hl'
      have hp := Push.alloc w (.cells us e)
      have hE : Ev g w ⟨g.use w.heap.size .solid, g.objs, g.tk⟩ (w.alloc (.cells us e)) := by simpa using Ev.push hp .solid [] g.tk (tk_refl _)
      refine ⟨_, .slice (some ⟨w.heap.size, 0, none⟩) len len, ⟨g.use w.heap.size .solid, g.objs, g.tk⟩, w.alloc (.cells us e), f1, ?_, ⟨w.heap.size, 0, none, len, by rw [l1], by omega, fun _ => l1.symm, .inl rfl, ?_⟩, ?_, hE⟩
      · simp only [execOp, mkOp, Instr.buildSlice, Sem.run_bind, run_underlying hT.ty, Result.andThen_ok, run_sizeOf' hT.size, if_neg hbig]
        by_cases h0 : len * sz = 0
        · rw [if_pos h0] at hZ
          simp only [if_pos h0, Sem.run_bind, Sem.run_pure, Result.andThen_ok, List.map_toArray]
          rw [show Array.range (len * sz) = #[] by rw [h0]; rfl, Array.map_empty, hZ]
          rw [show (Instr.fill (fun i => some (i * sz, sz)) Z (List.map (fun x => (x.fst, a.eval x.snd)) parts)) = some us from f2]
          rfl
        · rw [if_neg h0] at hZ
          simp only [if_neg h0, Sem.run_bind, Sem.run_pure, run_zeroValue' hT.zero, Result.andThen_ok, List.map_toArray]
          rw [hZ]
          rw [show (Instr.fill (fun i => some (i * sz, sz)) Z (List.map (fun x => (x.fst, a.eval x.snd)) parts)) = some us from f2]
          rfl
      · refine RelRows.of sz l (us.toList.take (len * sz)) _ _ l2 (by rw [l3]; exact RelAll.mono hE _ _ (RelAll.take _ _ _ f3)) fun j v hj => ?_
        have hj' : us.toList[j]? = some v := by
          rw [List.getElem?_take] at hj
          split at hj
          · exact hj
          · cases hj
        exact ⟨(solid_cells (g := g) hp g.tk (tk_refl _) g.objs j v hj').1, (solid_cells (g := g) hp g.tk (tk_refl _) g.objs j v hj').2, f4 v (List.mem_of_getElem? hj')⟩
      · have := hs.push hp .solid g.tk (tk_refl _) trivial
        rw [hs.tk] at this ⊢; exact this
    · cases f1

/-! ### Callees -/
/-- A callee whose answer hangs on its arguments alone. -/
structure POrc (P : Program) where
  id : FuncId
  fn : Func
  hf : P.funcs[id]? = some fn
  hname : (fn.name == "runtime.NumGoroutine") = false
  hb : fn.body.isNone = false
  F : List AV → (AV → Ans) → Ans
  sound : ∀ k args fin, F args k = some fin → ∃ r, k r = some fin ∧ ∀ st, CallsTo P id args st (.ret r, st)

def POrc.orcS (O : POrc P) : OrcS P where
  id := O.id
  fn := O.fn
  hf := O.hf
  hname := O.hname
  hb := O.hb
  sem args st k := O.F args fun r => k (.ret r) st
  sound k args st fin h := by
    obtain ⟨r, h1, h2⟩ := O.sound _ _ _ h
    exact ⟨_, st, h1, h2 st⟩

theorem call_told {id : FuncId} {fn : Func} (hf : P.funcs[id]? = some fn) (hname : (fn.name == "runtime.NumGoroutine") = false) (hb : fn.body.isNone = false) {dst : Option Tmp} {args : List Operand} {tys : Array TypeId} {ty : TypeId} {pos : String} {after : Array Edge}
    {ev : Operand → AV} {g : Gh} {w : World} {a : Act} {st : St} (he : EvR g w ev a args) (hs : StRel g st w) {r : AV} {st' : St} (h : CallsTo P id (args.map ev) st (.ret r, st')) :
    Told P (mkOp dst (.call { callee := .value (.func id), args := args.toArray, argTypes := tys }) ty pos after) a g w r st' := by
  intro next Q hn
  show (mkOp dst (.call { callee := .value (.func id), args := args.toArray, argTypes := tys }) ty pos after).upon P a next Q ((execOp a.eval _).run P w)
  have hrun : (execOp a.eval (mkOp dst (.call { callee := .value (.func id), args := args.toArray, argTypes := tys }) ty pos after)).run P w = .ok (.enter id (args.map a.eval).toArray) w := by
    simp only [execOp, mkOp, resolve, Act.eval, Deferred.ofValue]
    simp [invoke, run_callFunc hf hname hb, Act.eval]
  rw [hrun, Oper.upon_enter]
  refine (h g w _ (by simpa using he.list args fun _ h => h) hs).mono fun e w' ⟨g', h1, h2, h3⟩ => ?_
  obtain ⟨v, rfl, hv⟩ := h1
  exact hn v g' w' hv h2 h3

def opCallP (O : POrc P) (dst : Option Tmp) (args : List Operand) (tys : Array TypeId) (ty : TypeId) (pos : String) (after : Array Edge) : PSim P where
  oper := mkOp dst (.call { callee := .value (.func O.id), args := args.toArray, argTypes := tys }) ty pos after
  plain := rfl
  xs := args
  f ev k := O.F (args.map ev) k
  congr ev ev' k h := by rw [map_ev h fun _ h => h]
  sound ev k fin h g w a st he hs := by
    obtain ⟨r, h1, h2⟩ := O.sound _ _ _ h
    exact ⟨r, h1, call_told O.hf O.hname O.hb he hs (h2 st)⟩

def retOnly (k : AV → St → Ans) : Fin → St → Ans := fun r st' =>
  match r with
  | .ret v => k v st'
  | .pan _ => none

def opCallM (O : OrcS P) (dst : Option Tmp) (args : List Operand) (tys : Array TypeId) (ty : TypeId) (pos : String) (after : Array Edge) : MSim P where
  oper := mkOp dst (.call { callee := .value (.func O.id), args := args.toArray, argTypes := tys }) ty pos after
  plain := rfl
  xs := args
  f ev st k := O.sem (args.map ev) st (retOnly k)
  congr ev ev' st k h := by rw [map_ev h fun _ h => h]
  sound ev st k fin h g w a he hs := by
    obtain ⟨r, st', h1, h2⟩ := O.sound _ _ _ _ h
    cases r with
    | ret v => exact ⟨v, st', h1, call_told O.hf O.hname O.hb he hs h2⟩
    | pan v => cases h1

/-! ### What is made and not handed back is forgotten -/
mutual
def Scoped (n m : Nat) : AV → Prop
  | .ptr k _ => k < n
  | .ms k _ _ _ _ => k < n
  | .mp k => k < n
  | .lg t _ l => t < m ∧ ScopedR n m l
  | .sl _ _ l => ScopedR n m l
  | .eptr cs => ScopedL n m cs
  | .fn _ a c => ScopedL n m a ∧ ScopedL n m c
  | .ifc _ v => Scoped n m v
  | .agg cs => ScopedL n m cs
  | .tup cs => ScopedL n m cs
  | _ => True
def ScopedL (n m : Nat) : List AV → Prop
  | [] => True
  | x :: l => Scoped n m x ∧ ScopedL n m l
def ScopedR (n m : Nat) : List (List AV) → Prop
  | [] => True
  | x :: l => ScopedL n m x ∧ ScopedR n m l
end

def Gh.cut (g g' : Gh) (size : Nat) : Gh where
  kind b := if b < size then g.kind b else match g'.kind b with
    | .row t => if t < g.tk.length then .row t else .solid
    | _ => .solid
  objs := g.objs
  tk := g.tk

/-- The two pictures agree on what was there. -/
structure Cut (g g' : Gh) (w w' : World) : Prop where
  kind : ∀ b, b < w.heap.size → g'.kind b = g.kind b
  objs : ∀ k b : Nat, k < g.objs.length → g'.objs[k]? = some b → g.objs[k]? = some b
  tk : ∀ t : Nat, t < g.tk.length → g'.tk[t]? = g.tk[t]?
  row : ∀ b t, b < w.heap.size → g.kind b = .row t → t < g.tk.length

theorem Cut.prot {g g' : Gh} {w w' : World} (h : Cut g g' w w') {b off : Nat} (hp : g'.prot b off) : (g.cut g' w.heap.size).prot b off := by
  unfold Gh.prot at hp ⊢
  simp only [Gh.cut]
  by_cases hb : b < w.heap.size
  · rw [if_pos hb]
    rw [h.kind b hb] at hp
    cases hk : g.kind b with
    | solid => trivial
    | obj k => rw [hk] at hp; exact hp
    | row t =>
      rw [hk] at hp
      obtain ⟨sz, n, h1, h2⟩ := hp
      exact ⟨sz, n, by rw [← h.tk t (h.row b t hb hk)]; exact h1, h2⟩
  · rw [if_neg hb]
    cases hk : g'.kind b with
    | solid => trivial
    | obj k => rw [hk] at hp; exact hp.elim
    | row t =>
      rw [hk] at hp
      obtain ⟨sz, n, h1, h2⟩ := hp
      simp only
      by_cases ht : t < g.tk.length
      · rw [if_pos ht]; exact ⟨sz, n, by rw [← h.tk t ht]; exact h1, h2⟩
      · rw [if_neg ht]; trivial

mutual
theorem Cut.rel {g g' : Gh} {w w' : World} (h : Cut g g' w w') : ∀ (a : AV) (v : Value), Scoped g.objs.length g.tk.length a → Rel g' w' a v → Rel (g.cut g' w.heap.size) w' a v
  | .bool _, _, _, r => r
  | .int _ _, _, _, r => r
  | .str _, _, _, r => r
  | .nilptr, _, _, r => r
  | .nilsl, _, _, r => r
  | .nilmap, _, _, r => r
  | .nilfn, _, _, r => r
  | .nilif, _, _, r => r
  | .ptr k off, _, s, ⟨b, r1, r2⟩ => ⟨b, h.objs k b s r1, r2⟩
  | .eptr cs, _, s, ⟨b, off, r1, r2⟩ => ⟨b, off, r1, Cut.relCells h cs b off s r2⟩
  | .sl sz full l, _, s, ⟨b, off, sp, cap, r1, r2, r3, rs, r4⟩ => ⟨b, off, sp, cap, r1, r2, r3, rs, Cut.relRows h sz l b off s r4⟩
  | .lg t sz l, _, ⟨s1, s2⟩, ⟨b, cap, C, E, fz, r1, r2, r3, r4, r5, r9, ⟨n, r6, r7⟩, r8⟩ => by
    refine ⟨b, cap, C, E, fz, r1, r2, ?_, r4, r5, r9, ⟨n, by rw [show (g.cut g' w.heap.size).tk = g.tk from rfl, ← h.tk t s1]; exact r6, r7⟩, Cut.relRows h sz l b 0 s2 r8⟩
    simp only [Gh.cut]
    by_cases hb : b < w.heap.size
    · rw [if_pos hb, ← h.kind b hb]; exact r3
    · rw [if_neg hb, r3]; simp only; rw [if_pos s1]
  | .ms k sz off n cap, _, s, ⟨b, r1, r2⟩ => ⟨b, h.objs k b s r1, r2⟩
  | .mp k, _, s, ⟨b, r1, r2⟩ => ⟨b, h.objs k b s r1, r2⟩
  | .fn f a c, _, ⟨s1, s2⟩, ⟨va, vc, r1, r2, r3⟩ => ⟨va, vc, r1, Cut.relAll h a va.toList s1 r2, Cut.relAll h c vc.toList s2 r3⟩
  | .ifc t a, _, s, ⟨u, r1, r2⟩ => ⟨u, r1, Cut.rel h a u s r2⟩
  | .agg cs, _, s, ⟨vs, r1, r2, r3⟩ => ⟨vs, r1, Cut.relAll h cs vs.toList s r2, r3⟩
  | .tup cs, _, s, ⟨vs, r1, r2⟩ => ⟨vs, r1, Cut.relAll h cs vs.toList s r2⟩
  | .dead, _, _, _ => trivial
theorem Cut.relAll {g g' : Gh} {w w' : World} (h : Cut g g' w w') : ∀ (as : List AV) (vs : List Value), ScopedL g.objs.length g.tk.length as → RelAll g' w' as vs → RelAll (g.cut g' w.heap.size) w' as vs
  | [], _, _, r => r
  | a :: as, _, ⟨s1, s2⟩, ⟨v, vr, r1, r2, r3⟩ => ⟨v, vr, r1, Cut.rel h a v s1 r2, Cut.relAll h as vr s2 r3⟩
theorem Cut.relCells {g g' : Gh} {w w' : World} (h : Cut g g' w w') : ∀ (as : List AV) (b off : Nat), ScopedL g.objs.length g.tk.length as → RelCells g' w' as b off → RelCells (g.cut g' w.heap.size) w' as b off
  | [], _, _, _, _ => trivial
  | a :: as, b, off, ⟨s1, s2⟩, ⟨⟨u, r1, r2, r5, r3⟩, r4⟩ => ⟨⟨u, r1, h.prot r2, r5, Cut.rel h a u s1 r3⟩, Cut.relCells h as b (off + 1) s2 r4⟩
theorem Cut.relRows {g g' : Gh} {w w' : World} (h : Cut g g' w w') (sz : Nat) : ∀ (l : List (List AV)) (b off : Nat), ScopedR g.objs.length g.tk.length l → RelRows g' w' sz l b off → RelRows (g.cut g' w.heap.size) w' sz l b off
  | [], _, _, _, _ => trivial
  | x :: l, b, off, ⟨s1, s2⟩, ⟨r1, r2, r3⟩ => ⟨r1, Cut.relCells h x b off s1 r2, Cut.relRows h sz l b (off + sz) s2 r3⟩
end

/-! What is related lies within the picture. -/
mutual
theorem Rel.inside {g : Gh} {w : World} : ∀ (a : AV) (v : Value), Rel g w a v → Scoped g.objs.length g.tk.length a
  | .bool _, _, _ => trivial
  | .int _ _, _, _ => trivial
  | .str _, _, _ => trivial
  | .nilptr, _, _ => trivial
  | .nilsl, _, _ => trivial
  | .nilmap, _, _ => trivial
  | .nilfn, _, _ => trivial
  | .nilif, _, _ => trivial
  | .ptr k off, _, ⟨b, r1, r2⟩ => getElem?_lt r1
  | .eptr cs, _, ⟨b, off, r1, r2⟩ => RelCells.inside cs b off r2
  | .sl sz full l, _, ⟨b, off, sp, cap, r1, r2, r3, rs, r4⟩ => RelRows.inside sz l b off r4
  | .lg t sz l, _, ⟨b, cap, C, E, fz, r1, r2, r3, r4, r5, r9, ⟨n, r6, r7⟩, r8⟩ => ⟨getElem?_lt r6, RelRows.inside sz l b 0 r8⟩
  | .ms k sz off n cap, _, ⟨b, r1, r2⟩ => getElem?_lt r1
  | .mp k, _, ⟨b, r1, r2⟩ => getElem?_lt r1
  | .fn f a c, _, ⟨va, vc, r1, r2, r3⟩ => ⟨RelAll.inside a va.toList r2, RelAll.inside c vc.toList r3⟩
  | .ifc t a, _, ⟨u, r1, r2⟩ => Rel.inside a u r2
  | .agg cs, _, ⟨vs, r1, r2, r3⟩ => RelAll.inside cs vs.toList r2
  | .tup cs, _, ⟨vs, r1, r2⟩ => RelAll.inside cs vs.toList r2
  | .dead, _, _ => trivial
theorem RelAll.inside {g : Gh} {w : World} : ∀ (as : List AV) (vs : List Value), RelAll g w as vs → ScopedL g.objs.length g.tk.length as
  | [], _, _ => trivial
  | a :: as, _, ⟨v, vr, r1, r2, r3⟩ => ⟨Rel.inside a v r2, RelAll.inside as vr r3⟩
theorem RelCells.inside {g : Gh} {w : World} : ∀ (as : List AV) (b off : Nat), RelCells g w as b off → ScopedL g.objs.length g.tk.length as
  | [], _, _, _ => trivial
  | a :: as, b, off, ⟨⟨u, r1, r2, r5, r3⟩, r4⟩ => ⟨Rel.inside a u r3, RelCells.inside as b (off + 1) r4⟩
theorem RelRows.inside {g : Gh} {w : World} (sz : Nat) : ∀ (l : List (List AV)) (b off : Nat), RelRows g w sz l b off → ScopedR g.objs.length g.tk.length l
  | [], _, _, _ => trivial
  | x :: l, b, off, ⟨r1, r2, r3⟩ => ⟨RelCells.inside x b off r2, RelRows.inside sz l b (off + sz) r3⟩
end

def ScopedOb (n m : Nat) : Ob → Prop
  | .cells cs => ScopedL n m cs
  | .map es => ScopedL n m (es.map (·.1)) ∧ ScopedL n m (es.map (·.2))
  | .gone => True

/-- Objects and tokens that were made are forgotten, where nothing leads to them. -/
theorem forget {id : FuncId} {args : List AV} {st : St} {r : AV} {os xo : List Ob} {xt : List (Nat × Nat)} (h : CallsTo P id args st (.ret r, ⟨os ++ xo, st.tk ++ xt⟩)) (hlen : os.length = st.objs.length)
    (hos : os = st.objs ∨ ((∀ o ∈ os, ScopedOb st.objs.length st.tk.length o) ∧ ∀ (k : Nat) (o o' : Ob), st.objs[k]? = some o → os[k]? = some o' → (match o with | .gone => False | _ => True) → (match o' with | .gone => False | _ => True)))
    (hr' : ScopedL st.objs.length st.tk.length args → Scoped st.objs.length st.tk.length (frz r)) : CallsTo P id args st (.ret (frz r), ⟨os, st.tk⟩) := by
  intro g w vals hv hs
  have hr := hr' (by have := RelAll.inside args vals.toList hv; rw [hs.len, hs.tk] at this; exact this)
  refine (h g w vals hv hs).mono fun e w' ⟨g', h1, h2, h3⟩ => ?_
  obtain ⟨v, rfl, hv'⟩ := h1
  have hgone : ∀ (k : Nat) (o o' : Ob), st.objs[k]? = some o → os[k]? = some o' → (match o with | .gone => False | _ => True) → (match o' with | .gone => False | _ => True) := by
    rcases hos with rfl | hos
    · intro k o o' h1 h2 h3; rw [h1] at h2; cases h2; exact h3
    · exact hos.2
  have hobs : ∀ (k b : Nat) (o : Ob), g.objs[k]? = some b → os[k]? = some o → ScopedOb g.objs.length g.tk.length o := by
    intro k b o hk ho
    rcases hos with rfl | hos
    · obtain ⟨_, hr⟩ := hs.obj k b o hk ho
      cases o with
      | cells cs => obtain ⟨_, C, E, _, hr, _⟩ := hr; exact RelAll.inside _ _ hr
      | map es => obtain ⟨_, M, c, _, hr, hr'⟩ := hr; exact ⟨RelAll.inside _ _ hr, RelAll.inside _ _ hr'⟩
      | gone => trivial
    · rw [hs.len, hs.tk]; exact hos.1 o (List.mem_of_getElem? ho)
  have hcut : Cut g g' w w' := by
    refine ⟨fun b hb => ?_, fun k b hk hb => ?_, fun t ht => ?_, fun b t hb hk => by rw [hs.tk]; exact hs.rowlt b t hb hk⟩
    · cases hk : g.kind b with
      | solid => exact (h3.solid b hb hk).1
      | row t => exact (h3.row b t hb hk).1
      | obj k =>
        obtain ⟨o, o1, o2, o3⟩ := hs.back b k hb hk
        have hkl : k < os.length := by rw [hlen]; exact getElem?_lt o1
        have ho' : os[k]? = some os[k] := List.getElem?_eq_getElem hkl
        have := hgone k o _ o1 ho' o3
        have hob := (h2.obj k b os[k] (h3.objs k b o2) (by rw [List.getElem?_append_left hkl]; exact ho')).2
        generalize os[k] = o' at this hob
        cases o' with
        | cells cs => exact hob.1
        | map es => exact hob.1
        | gone => exact this.elim
    · have : g.objs[k]? = some g.objs[k] := List.getElem?_eq_getElem hk
      have h4 := h3.objs k _ this
      rw [hb] at h4
      rw [this]
      exact h4.symm
    · rw [h2.tk, hs.tk, List.getElem?_append_left (by rw [← hs.tk]; exact ht)]
  have hE : Ev g w (g.cut g' w.heap.size) w' := by
    refine ⟨h3.os, h3.tape, h3.output, h3.size, fun b hb hk => ⟨by simp only [Gh.cut]; rw [if_pos hb]; exact hk, (h3.solid b hb hk).2⟩, fun b t hb hk => ⟨by simp only [Gh.cut]; rw [if_pos hb]; exact hk, (h3.row b t hb hk).2⟩, fun b k hb hk => .inl (by simp only [Gh.cut]; rw [if_pos hb]; exact hk), fun _ _ h => h, tk_refl _⟩
  refine ⟨g.cut g' w.heap.size, ⟨v, rfl, hcut.rel _ _ (by rw [hs.len, hs.tk]; exact hr) (frz_rel hv')⟩, ⟨hs.tk, by rw [hlen]; exact hs.len, fun k b o hk ho => ?_, fun b k hb hk => ?_, fun b t hb hk => ?_⟩, hE⟩
  · have hkl : k < os.length := getElem?_lt ho
    obtain ⟨p1, p2⟩ := h2.obj k b o (h3.objs k b hk) (by rw [List.getElem?_append_left hkl]; exact ho)
    have hblt : b < w.heap.size := (hs.obj k b _ hk (List.getElem?_eq_getElem (by omega))).1
    refine ⟨p1, ?_⟩
    have hsc := hobs k b o hk ho
    cases o with
    | cells cs =>
      obtain ⟨q1, C, E, q2, q3, q4⟩ := p2
      exact ⟨by simp only [Gh.cut]; rw [if_pos hblt, ← hcut.kind b hblt]; exact q1, C, E, q2, hcut.relAll _ _ hsc q3, q4⟩
    | map es =>
      obtain ⟨q1, M, c, q2, q3, q4⟩ := p2
      exact ⟨by simp only [Gh.cut]; rw [if_pos hblt, ← hcut.kind b hblt]; exact q1, M, c, q2, hcut.relAll _ _ hsc.1 q3, hcut.relAll _ _ hsc.2 q4⟩
    | gone => trivial
  · simp only [Gh.cut] at hk
    by_cases hb' : b < w.heap.size
    · rw [if_pos hb'] at hk
      obtain ⟨o, o1, o2, o3⟩ := hs.back b k hb' hk
      have hkl : k < os.length := by rw [hlen]; exact getElem?_lt o1
      exact ⟨os[k], List.getElem?_eq_getElem hkl, o2, hgone k o _ o1 (List.getElem?_eq_getElem hkl) o3⟩
    · rw [if_neg hb'] at hk
      split at hk
      · split at hk <;> cases hk
      · cases hk
  · simp only [Gh.cut] at hk
    by_cases hb' : b < w.heap.size
    · rw [if_pos hb'] at hk; exact hs.rowlt b t hb' hk
    · rw [if_neg hb'] at hk
      split at hk
      · split at hk
        · rename_i ht
          cases hk
          show t < st.tk.length
          rw [← hs.tk]; exact ht
        · cases hk
      · cases hk

/-- A function whose answer hangs on its arguments alone, and that leaves all objects: as a callee. -/
def Fun.pure (f : Fun P) (G : List AV → Option AV) (hG : ∀ args r, G args = some r → (∀ n m, ScopedL n m args → Scoped n m r) ∧ ∃ F, ∀ st, ∃ r' xo xt, frz r' = r ∧ f.run F args st = some (.ret r', ⟨st.objs ++ xo, st.tk ++ xt⟩)) : POrc P where
  id := f.id
  fn := f.fn
  hf := f.hf
  hname := f.hname
  hb := by rw [f.hbody]; rfl
  F args k := match G args with
    | some r => k r
    | none => none
  sound k args fin h := by
    split at h
    · rename_i r hr
      obtain ⟨h2, F, h3⟩ := hG args r hr
      refine ⟨r, h, fun st => ?_⟩
      obtain ⟨r', xo, xt, h1, h4⟩ := h3 st
      have := forget (f.sound h4) rfl (.inl rfl) (by rw [h1]; exact h2 _ _)
      rwa [h1] at this
    · cases h

end
end Go.V
