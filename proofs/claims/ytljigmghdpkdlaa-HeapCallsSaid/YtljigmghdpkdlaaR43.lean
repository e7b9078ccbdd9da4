/- Merged out of 30 texts: what the claim's code comes to, and why. -/
import Derived.Lib.SlBytesConst
import Derived.ChangeArms
import Derived.DataReads
import Derived.SizedLaws
import Derived.WideShapes
import Derived.ChangeShapes
import Derived.MapKept
import Derived.Test.YtljigmghdpkdlaaRows
import Derived.Test.YtljigmghdpkdlaaR42
set_option linter.unusedVariables false
set_option linter.unusedSimpArgs false
set_option maxRecDepth 100000
namespace Go.V
section
variable {P : Program}
theorem frozen_obj {g : Gh} {st : St} {w w' : World} (hs : StRel g st w) {j b : Nat} (hg : g.objs[j]? = some b) {cs : List AV} (hcs : st.objs[j]? = some (.cells cs)) {C : Array Value} {E : TypeId} {fz : Nat × Nat} (hC0 : w.heap[b]? = some (.cells C E (0, 0)))
  (h1 : w'.os = w.os) (h2 : w'.tape = w.tape) (h3 : w'.output = w.output) (h4 : w'.heap.size = w.heap.size) (h5 : ∀ x, x ≠ b → w'.heap[x]? = w.heap[x]?) (h6 : w'.heap[b]? = some (.cells C E fz)) :
  ∃ g', StRel g' ⟨st.objs.set j .gone, st.tk⟩ w' ∧ Ev g w g' w' ∧ ∀ sz o n cap l, n ≤ cap → rowsOf sz n (cs.drop o) = some l → Rel g' w' (.sl sz (Nat.beq n cap) l) (.slice (some ⟨b, o, none⟩) n cap) := by
 obtain ⟨hkind, C', E', hC', hr, hrc⟩ := ob_of hs hg hcs
 rw [hC0] at hC'
 cases hC'
 let g' : Gh := ⟨fun x => if x = b then .solid else g.kind x, g.objs, g.tk, g.ver⟩
 have hk : ∀ x, x ≠ b → g'.kind x = g.kind x := fun x hx => by simp only [g']; rw [if_neg hx]
 have hne : ∀ x, g.kind x ≠ .obj j → x ≠ b := fun x hx e => hx (by rw [e]; exact hkind)
 have hE : Ev g w g' w' := by
  refine ⟨h1, h2, h3, Nat.le_of_eq h4.symm, fun x hx hf => ?_, fun x t hx hf => ?_, fun x k hx hf => ?_, fun _ _ h => h, tk_refl _, fun _ _ => Nat.le_refl _, fun x k hx _ hf _ => ?_, fun x C1 E1 f1 hC1 => ?_⟩
  ·have := hne x (by intro e; rw [e] at hf; cases hf)
   exact ⟨hk x this, h5 x this⟩
  ·have := hne x (by intro e; rw [e] at hf; cases hf)
   exact ⟨(hk x this).trans hf, fun C1 E1 f1 hC1 => ⟨C1, (h5 x this).trans hC1, rfl, fun _ _ => rfl⟩⟩
  ·by_cases hxb : x = b
   ·exact .inr (by simp only [g']; rw [if_pos hxb])
   ·exact .inl ((hk x hxb).trans hf)
  ·have := hne x (by intro e; rw [e] at hf; cases hf)
   exact ⟨(hk x this).trans hf, fun C1 E1 f1 hC1 => ⟨C1, (h5 x this).trans hC1, rfl⟩⟩
  ·by_cases hxb : x = b
   ·subst hxb
    rw [hC0] at hC1
    cases hC1
    exact ⟨_, _, h6, rfl⟩
   ·exact ⟨C1, f1, (h5 x hxb).trans hC1, rfl⟩
 have hback : ∀ x y, g'.kind x = y → y ≠ .solid → x ≠ b ∧ g.kind x = y := by
  intro x y hx hy
  by_cases hxb : x = b
  ·simp only [g'] at hx; rw [if_pos hxb] at hx; exact absurd hx.symm hy
  ·exact ⟨hxb, (hk x hxb).symm.trans hx⟩
 refine ⟨g', ⟨hs.tk, by simp [hs.len]; exact hs.len, fun k b' o hk' ho => ?_, fun x k hx hf => ?_, fun x t hx hf => ?_, fun x k hx hf => ?_, hs.glob.mono hE⟩, hE, fun sz o n cap l hle hl => ?_⟩
 ·by_cases hkj : k = j
  ·subst hkj
   rw [List.getElem?_set_self (getElem?_lt hcs)] at ho
   cases ho
   exact ⟨by rw [h4]; exact (hs.obj k b' _ hk' hcs).1, trivial⟩
  ·rw [List.getElem?_set_ne (fun e => hkj e.symm)] at ho
   obtain ⟨p1, p2⟩ := hs.obj k b' o hk' ho
   refine ⟨by rw [h4]; exact p1, ?_⟩
   have hv : ∀ b'', b'' < w.heap.size → g.kind b'' = .vec k → w'.heap[b'']? = w.heap[b'']? ∧ g'.kind b'' = .vec k := fun b'' _ hh => by
    have := hne b'' (by rw [hh]; intro e; cases e)
    exact ⟨h5 b'' this, (hk b'' this).trans hh⟩
   cases o with
   | gone => trivial
   | nov v => exact p2
   | cells cs' =>
    have := hne b' (by rw [p2.1]; intro e; cases e; exact hkj rfl)
    exact p2.keep hE (h5 b' this) (hk b' this) hv rfl
   | map es =>
    have := hne b' (by rw [p2.1]; intro e; cases e; exact hkj rfl)
    exact p2.keep hE (h5 b' this) (hk b' this) hv rfl
   | lp _ _ _ _ =>
    have := hne b' (by rw [p2.1]; intro e; cases e; exact hkj rfl)
    exact p2.keep hE (h5 b' this) (hk b' this) hv rfl
   | vec v cs' =>
    obtain ⟨e1, b'', e2, e3, C1, E1, e4, e5, e6⟩ := p2
    obtain ⟨f1, f2⟩ := hv b'' e2 e3
    exact ⟨e1, b'', by rw [h4]; exact e2, f2, C1, E1, f1.trans e4, RelAll.mono hE _ _ e5, e6⟩
 ·obtain ⟨k1, k2⟩ := hback x _ hf (by intro e; cases e)
  obtain ⟨o, k3, k4, k5⟩ := hs.back x k (by rw [h4] at hx; exact hx) k2
  have hkj : k ≠ j := by intro e; subst e; rw [hg] at k4; cases k4; exact k1 rfl
  exact ⟨o, by rw [List.getElem?_set_ne (fun e => hkj e.symm)]; exact k3, k4, k5⟩
 ·obtain ⟨k1, k2⟩ := hback x _ hf (by intro e; cases e)
  exact hs.rowlt x t (by rw [h4] at hx; exact hx) k2
 ·obtain ⟨k1, k2⟩ := hback x _ hf (by intro e; cases e)
  obtain ⟨⟨v, cs', k3⟩, k4⟩ := hs.vec x k (by rw [h4] at hx; exact hx) k2
  have hkj : k ≠ j := by intro e; subst e; rw [hcs] at k3; cases k3
  refine ⟨⟨v, cs', by rw [List.getElem?_set_ne (fun e => hkj e.symm)]; exact k3⟩, fun x' hx' hf' => ?_⟩
  obtain ⟨k5, k6⟩ := hback x' _ hf' (by intro e; cases e)
  exact k4 x' (by rw [h4] at hx'; exact hx') k6
 ·obtain ⟨e1, e2, e3⟩ := rowsOf_list sz n _ l hl
  refine ⟨b, o, none, cap, by rw [e1], by rw [e1]; exact hle, fun e => by rw [e1]; exact (Nat.eq_of_beq_eq_true e).symm, .inl rfl, ?_⟩
  refine RelRows.of sz l (((C.toList.take cs.length).drop o).take (n * sz)) b o e2 (by rw [e3]; exact RelAll.mono hE _ _ (RelAll.take _ _ _ (RelAll.drop o _ _ hr))) fun i u hi => ?_
  rw [List.getElem?_take] at hi
  split at hi
  ·rw [List.getElem?_drop] at hi
   refine ⟨?_, ?_, hrc u (List.mem_of_getElem? hi)⟩
   ·rw [cell_of h6]
    rw [List.getElem?_take] at hi
    split at hi
    ·simpa using hi
    ·cases hi
   ·simp [Gh.prot, g']
  ·cases hi
def abuildO (sz len : Nat) (parts : List (Nat × Nat × AV)) (st : St) (k : AV → St → Ans) : Ans :=
 aparts parts (List.replicate (len * sz) .dead) fun cs => k (.ms st.objs.length sz 0 len len) ⟨st.objs ++ [.cells cs], st.tk⟩
def opBuildSliceO (dst : Option Tmp) (T : TypeId) (len : Nat) (parts : List (Nat × Operand)) (e sz bytes : Nat) (z : Value) (hT : ElemOf P T e sz bytes z) (h1 : z.cells.toList.all Value.oneCell' = true) (hl : len * sz ≤ 16777216) (ty : TypeId) (pos : String) (after : Array Edge) : MSim P :=
 MSim.makes (mkOp dst (.buildSlice T len parts.toArray) ty pos after) rfl (parts.map (·.2)) (fun ev st k => abuildO sz len (parts.map fun p => (p.1 * sz, sz, frz (ev p.2))) st k)
  (fun ev ev' st k h => by rw [parts_evZ h]) fun ev st k fin h g w a he hs => by
  have hbig : ¬ (len * sz > 2 ^ 24) := by omega
  generalize hZ : (if len * sz = 0 then #[] else (Array.range (len * sz)).map (fun j => z.cells[j % z.cells.size]!)) = Z
  have hZ1 : ∀ u ∈ Z.toList, u.oneCell' = true := by
   subst hZ
   split
   ·simp
   ·exact zeroArr_cells h1 hT.cells len
  have hZs : Z.size = len * sz := by
   subst hZ
   split
   ·rename_i h; simp [h]
   ·simp
  have hr0 : RelAll g w (List.replicate (len * sz) .dead) Z.toList := by
   have := deads_rel (g := g) (w := w) Z.toList
   rw [Array.length_toList, hZs] at this; exact this
  have hfill : ∃ ds us, k (.ms st.objs.length sz 0 len len) ⟨st.objs ++ [.cells ds], st.tk⟩ = some fin ∧ Instr.fill (fun i => some (i * sz, sz)) Z (parts.map fun p => (p.1, a.eval p.2)) = some us ∧ RelAll g w ds us.toList ∧ ∀ u ∈ us.toList, u.oneCell' = true := by
   have := aparts_run (ev := fun x => frz (ev x)) (xs := parts.map (·.2)) (fun x hx => frz_rel (he x hx)) (fun i => some (i * sz, sz)) (parts.map fun p => (p.1, p.1 * sz, sz, p.2)) (fun p hp => by
    simp only [List.mem_map] at hp
    obtain ⟨q, hq, rfl⟩ := hp
    exact List.mem_map.mpr ⟨q, hq, rfl⟩) (fun p hp => by
    simp only [List.mem_map] at hp
    obtain ⟨q, hq, rfl⟩ := hp
    rfl) _ Z hr0 hZ1 (by rw [List.map_map]; exact h)
   obtain ⟨ds, us, a1, a2, a3, a4⟩ := this
   exact ⟨ds, us, a1, by rw [List.map_map] at a2; exact a2, a3, a4⟩
  obtain ⟨ds, us, f1, f2, f3, f4⟩ := hfill
  have hp := Push.alloc w (.cells us e)
  have hrel := hs.pushObj hp (.cells ds) trivial (fun hE => ⟨by simp [Gh.use], us, e, hp.new, by rw [List.take_of_length_le (by rw [RelAll.length _ _ f3]; exact Nat.le_refl _)]; exact RelAll.mono hE _ _ f3, fun u hu => f4 u (List.mem_of_mem_take hu)⟩)
  refine ⟨_, .slice (some ⟨w.heap.size, 0, none⟩) len len, _, _, w.alloc (.cells us e), f1, ?_, ⟨w.heap.size, ?_, rfl, Nat.le_refl _⟩, hrel, Ev.push hp _ _ _ (tk_refl _)⟩
  ·simp only [execOp, mkOp, Instr.buildSlice, Sem.run_bind, run_underlying hT.ty, Result.andThen_ok, run_sizeOf' hT.size, if_neg hbig]
   by_cases h0 : len * sz = 0
   ·rw [if_pos h0] at hZ
    simp only [if_pos h0, Sem.run_bind, Sem.run_pure, Result.andThen_ok, List.map_toArray]
    rw [show Array.range (len * sz) = #[] by rw [h0]; rfl, Array.map_empty, hZ]
    rw [show (Instr.fill (fun i => some (i * sz, sz)) Z (List.map (fun x => (x.fst, a.eval x.snd)) parts)) = some us from f2]
    rfl
   ·rw [if_neg h0] at hZ
    simp only [if_neg h0, Sem.run_bind, Sem.run_pure, run_zeroValue' hT.zero, Result.andThen_ok, List.map_toArray]
    rw [hZ]
    rw [show (Instr.fill (fun i => some (i * sz, sz)) Z (List.map (fun x => (x.fst, a.eval x.snd)) parts)) = some us from f2]
    rfl
  ·show (g.objs ++ [w.heap.size])[st.objs.length]? = some w.heap.size
   rw [List.getElem?_append_right (by rw [hs.len]; exact Nat.le_refl _)]; simp [hs.len]
def aconvSl (x : AV) (st : St) (k : AV → St → Ans) : Ans :=
 match x with
 | .ms j s o n cap => match Nat.beq s 1 with
  | true => match st.objs[j]? with
   | some (.cells cs) => match rowsOf 1 n (cs.drop o) with
    | some l => k (.sl 1 (Nat.beq n cap) l) ⟨st.objs.set j .gone, st.tk⟩
    | none => none
   | _ => none
  | false => none
 | _ => none
def opConvSl (dst : Option Tmp) (T : TypeId) (x : Operand) (e : TypeId) (hT : P.underlying T = some (.slice e)) (he : P.underlying e = some (.int .u8)) (ty : TypeId) (pos : String) (after : Array Edge) : MSim P :=
 MSim.makes (mkOp dst (.convert T T x) ty pos after) rfl [x] (fun ev st k => aconvSl (ev x) st k) (fun ev ev' st k h => by simp only [h x (by simp)]) fun ev st k fin h g w a hev hs => by
  have hv := hev x (by simp)
  unfold aconvSl at h
  split at h
  ·rename_i j s o n cap hb
   rw [hb] at hv
   split at h
   ·rename_i hsz
    obtain rfl := Nat.eq_of_beq_eq_true hsz
    obtain ⟨b, hg, hv, hle⟩ := hv
    split at h
    ·rename_i cs hcs
     split at h
     ·rename_i l hl
      obtain ⟨hkind, C, E, hC, hr, hrc⟩ := ob_of hs hg hcs
      have hsh : w.shape? b = some (E, C.size) := by unfold World.shape?; rw [hC]
      have hlt := lt_of_block hC
      obtain ⟨g', k1, k2, k3⟩ := frozen_obj (w' := w.freeze ⟨b, C.size, none⟩ 1) (fz := (C.size, C.size + 1)) hs hg hcs hC (by unfold World.freeze; rw [if_neg (by decide)]) (by unfold World.freeze; rw [if_neg (by decide)]) (by unfold World.freeze; rw [if_neg (by decide)])
       (by unfold World.freeze; rw [if_neg (by decide)]; simp) (fun y hy => by
        unfold World.freeze; rw [if_neg (by decide)]
        simp only [Array.getElem?_modify]
        rw [if_neg (by omega)]) (by
        unfold World.freeze; rw [if_neg (by decide)]
        simp only [Array.getElem?_modify, if_true, hC]
        rfl)
      refine ⟨_, _, _, g', _, h, ?_, k3 1 o n cap l hle hl, k1, k2⟩
      simp [execOp, mkOp, hv, convert, run_underlying hT, run_underlying he, markStringish, hsh]
     ·cases h
    ·cases h
   ·cases h
  ·cases h
end
end Go.V
namespace Go.V
open Go.WideShapes
inductive Ty where
 | bool
 | int (k : IntKind)
 | str
 | sl (e : Ty) (bytes : Nat)
 | st (fs : List Ty)
mutual
def Ty.size : Ty → Nat
 | .bool => 1
 | .int _ => 1
 | .str => 1
 | .sl _ _ => 1
 | .st fs => Ty.sizes fs
def Ty.sizes : List Ty → Nat
 | [] => 0
 | y :: r => y.size + Ty.sizes r
end
mutual
def Ty.ok (P : Program) : Ty → TypeId → Bool
 | .bool, t => match P.underlying t with
  | some .bool => true
  | _ => false
 | .int k, t => match P.underlying t with
  | some (.int k') => decide (k' = k)
  | _ => false
 | .str, t => match P.underlying t with
  | some .string => true
  | _ => false
 | .sl e b, t => match P.underlying t with
  | some (.slice u) => Nat.beq (P.cellsOf u) e.size && (Nat.blt 0 e.size && (Nat.beq (P.bytesOf u) b && e.ok P u))
  | _ => false
 | .st fs, t => match P.underlying t with
  | some (.struct F) => Nat.beq (P.cellsOf t) (Ty.sizes fs) && Ty.oks P fs F.toList 0
  | _ => false
def Ty.oks (P : Program) : List Ty → List Field → Nat → Bool
 | [], [], _ => true
 | y :: r, f :: F, o => Nat.beq f.offset o && (Nat.beq (P.cellsOf f.type) y.size && (y.ok P f.type && Ty.oks P r F (o + y.size)))
 | _, _, _ => false
end
mutual
def Ty.Shape : Ty → List AV → Prop
 | .bool, ays => ∃ b, ays = [.bool b]
 | .int k, ays => ∃ n, ays = [.int k n] ∧ (Lit.int k n).wf = true
 | .str, ays => ∃ s : ByteArray, ays = [.str s] ∧ s.size ≤ reachBytes
 | .sl e b, ays => ∃ z l, ays = [.ns z e.size l] ∧ (z = true → l = []) ∧ l.length * b ≤ reachBytes ∧ l.length ≤ maxLen ∧ ∀ r ∈ l, e.Shape r
 | .st fs, ays => Ty.Shapes fs ays
def Ty.Shapes : List Ty → List AV → Prop
 | [], ays => ays = []
 | y :: r, ays => ∃ a b, ays = a ++ b ∧ y.Shape a ∧ Ty.Shapes r b
end
section
variable {P : Program} {H : Type} {enc : TypeId × Value → H} {W : World} {base : Nat} {spare : Nat → Bool} {held : Bool}
theorem RelCells.ofCells : ∀ (ays : List AV) (cs : List Value) (b off : Nat), RelAll g0 W ays cs → (∀ u ∈ cs, u.oneCell' = true) → (∀ i u, cs[i]? = some u → W.cell? ⟨b, off + i, none⟩ = some u) → RelCells g0 W ays b off
 | [], _, _, _, _, _, _ => trivial
 | a :: ays, _, b, off, ⟨v, vr, rfl, h1, h2⟩, h3, h4 => by
  refine ⟨⟨v, by simpa using h4 0 v rfl, trivial, h3 v (by simp), h1⟩, RelCells.ofCells ays vr b (off + 1) h2 (fun u hu => h3 u (by simp [hu])) fun i u hu => ?_⟩
  have := h4 (i + 1) u (by simpa using hu)
  rwa [show off + (i + 1) = off + 1 + i by omega] at this
theorem cell_spot {a : Addr} {u : Value} (h : W.cell? a = some u) : a.spot = none := by
 unfold World.cell? at h
 split at h
 ·split at h
  ·cases h
  ·rename_i hs; cases hsp : a.spot with
   | none => rfl
   | some s => rw [hsp] at hs; simp at hs
 ·cases h
theorem rows_of_reads {sz : Nat} (hsz : 0 < sz) {Q : List AV → Prop} {b off : Nat} : ∀ (n k : Nat), (∀ i, i < n → ∃ ays cs, RelAll g0 W ays cs ∧ ays.length = sz ∧ Q ays ∧ (∀ u ∈ cs, u.oneCell' = true) ∧ ∀ j u, cs[j]? = some u → W.cell? ⟨b, off + (k + i) * sz + j, none⟩ = some u) →
  ∃ l, l.length = n ∧ (∀ r ∈ l, Q r) ∧ RelRows g0 W sz l b (off + k * sz)
 | 0, k, _ => ⟨[], rfl, by simp, trivial⟩
 | n + 1, k, h => by
  obtain ⟨l, h1, h2, h3⟩ := rows_of_reads hsz (b := b) (off := off) (Q := Q) n (k + 1) fun i hi => by
   have := h (i + 1) (by omega)
   rwa [show k + (i + 1) = k + 1 + i by omega] at this
  obtain ⟨ays, cs, k1, k2, k3, k4, k5⟩ := h 0 (by omega)
  refine ⟨ays :: l, by simp [h1], fun r hr => ?_, k2, RelCells.ofCells ays cs b _ k1 k4 (by simpa using k5), ?_⟩
  ·rcases List.mem_cons.mp hr with rfl | hr
   ·exact k3
   ·exact h2 r hr
  ·rw [show off + k * sz + sz = off + (k + 1) * sz by rw [Nat.add_mul]; omega]; exact h3
mutual
theorem Ty.read : ∀ (y : Ty) (t : TypeId) (cs : List Value) (x : DataW H × List MemPlace) (fuel : Nat), y.ok P t = true → DataW.trod enc P W base spare held fuel t cs = some x → (∀ n ∈ x.1.weights P t, n ≤ reachBytes) →
  ∃ ays, RelAll g0 W ays cs ∧ y.Shape ays ∧ ays.length = y.size ∧ ∀ u ∈ cs, u.oneCell' = true
 | .bool, t, cs, x, fuel, hk, h, hw => by
  unfold Ty.ok at hk
  split at hk
  ·rename_i ht
   obtain ⟨b, rfl, _⟩ := DataW.trod_bool ht h
   exact ⟨[.bool b], ⟨_, _, rfl, rfl, rfl⟩, ⟨b, rfl⟩, rfl, by simp [Value.oneCell']⟩
  ·cases hk
 | .int k, t, cs, x, fuel, hk, h, hw => by
  unfold Ty.ok at hk
  split at hk
  ·rename_i k' ht
   obtain rfl : k' = k := by simpa using hk
   obtain ⟨n, rfl, _, hwf⟩ := DataW.trod_int ht h
   exact ⟨[.int k' n], ⟨_, _, rfl, rfl, rfl⟩, ⟨n, rfl, hwf⟩, rfl, by simp [Value.oneCell']⟩
  ·cases hk
 | .str, t, cs, x, fuel, hk, h, hw => by
  unfold Ty.ok at hk
  split at hk
  ·rename_i ht
   obtain ⟨s, rfl, rfl, _⟩ := DataW.trod_string ht h
   refine ⟨[.str s], ⟨_, _, rfl, rfl, rfl⟩, ⟨s, rfl, ?_⟩, rfl, by simp [Value.oneCell']⟩
   have := hw s.data.toList.length (by simp [DataW.weights])
   simpa using this
  ·cases hk
 | .sl e b, t, cs, x, fuel, hk, h, hw => by
  unfold Ty.ok at hk
  split at hk
  ·rename_i u ht
   simp only [Bool.and_eq_true] at hk
   obtain ⟨hc, h0, hb, he⟩ := hk
   have hc : P.cellsOf u = e.size := by simpa using hc
   have h0 : 0 < e.size := by simpa using h0
   have hb : P.bytesOf u = b := by simpa using hb
   rcases DataW.trod_slice ht h with ⟨rfl, _⟩ | ⟨a, len, cap, elems, rest, n, _, rfl, rfl, _, hl, hm, hlen, hel, hsp, hns⟩
   ·exact ⟨[.ns true e.size []], ⟨_, _, rfl, .inl ⟨rfl, rfl, rfl⟩, rfl⟩, ⟨true, [], rfl, fun _ => rfl, by simp, by simp, by simp⟩, rfl, by simp [Value.oneCell']⟩
   ·have hws : ∀ (i : Nat) (y : DataW H × List MemPlace), elems[i]? = some y → ∀ m ∈ y.1.weights P u, m ≤ reachBytes := by
     intro i y hy m hm'
     refine hw m ?_
     simp only [DataW.weights, ht]
     refine List.mem_cons_of_mem _ (List.mem_append_left _ ?_)
     have : y.1 ∈ elems.map (·.1) := List.mem_map.mpr ⟨y, List.mem_of_getElem? hy, rfl⟩
     clear hw hel hsp hns
     generalize elems.map (·.1) = ds at this
     induction ds with
     | nil => simp at this
     | cons d ds ih =>
      simp only [DataW.weightsAll]
      rcases List.mem_cons.mp this with rfl | h'
      ·exact List.mem_append_left _ hm'
      ·exact List.mem_append_right _ (ih h')
    have hsize : len * b ≤ reachBytes := by
     have := hw ((elems.map (·.1)).length * P.bytesOf u + (rest.map (·.1)).length * P.bytesOf u) (by
      simp only [DataW.weights, ht]
      rw [← Nat.add_mul]
      exact List.mem_cons_self)
     rw [hb, List.length_map, hlen] at this
     omega
    obtain ⟨bl, off, sp⟩ := a
    have hspot : sp = none ∨ len = 0 := by
     rcases Nat.eq_zero_or_pos len with h1 | h1
     ·exact .inr h1
     ·have h2 := hel 0 h1
      rw [List.getElem?_eq_getElem (by omega)] at h2
      obtain ⟨ci, k1, k2⟩ := Option.bind_eq_some_iff.mp h2
      obtain ⟨_, k4, k5⟩ := World.cells?_some k1
      have k6 := k5 0 (by omega)
      rw [List.getElem?_eq_getElem (by omega)] at k6
      have := cell_spot k6
      simp [Addr.add] at this
      exact .inl this
    have hrow : ∀ i, i < len → ∃ ays cs, RelAll g0 W ays cs ∧ ays.length = e.size ∧ e.Shape ays ∧ (∀ u ∈ cs, u.oneCell' = true) ∧ ∀ j u, cs[j]? = some u → W.cell? ⟨bl, off + (0 + i) * e.size + j, none⟩ = some u := by
     intro i hi
     have h2 := hel i hi
     rw [List.getElem?_eq_getElem (by omega)] at h2
     obtain ⟨ci, k1, k2⟩ := Option.bind_eq_some_iff.mp h2
     obtain ⟨ays, r1, r2, r3, r4⟩ := Ty.read e u ci _ n he k2 (hws i _ (List.getElem?_eq_getElem (by omega)))
     obtain ⟨_, k4, k5⟩ := World.cells?_some k1
     obtain rfl : sp = none := hspot.resolve_right (by omega)
     refine ⟨ays, ci, r1, r3, r2, r4, fun j v hj => ?_⟩
     have := k5 j (by rw [← k4]; exact getElem?_lt hj)
     rw [hj, hc, add_none, add_none] at this
     rw [Nat.zero_add]; exact this
    obtain ⟨l, l1, l2, l3⟩ := rows_of_reads h0 len 0 hrow
    refine ⟨[.ns false e.size l], ⟨_, _, rfl, .inr ⟨rfl, bl, off, sp, cap, by rw [l1], by omega, ?_, by simpa using l3⟩, rfl⟩, ⟨false, l, rfl, (fun h => by cases h), by rw [l1]; exact hsize, by omega, l2⟩, rfl, by simp [Value.oneCell']⟩
    rcases hspot with h1 | h1
    ·exact .inl h1
    ·exact .inr (List.eq_nil_of_length_eq_zero (by omega))
  ·cases hk
 | .st fs, t, cs, x, fuel, hk, h, hw => by
  unfold Ty.ok at hk
  split at hk
  ·rename_i F ht
   simp only [Bool.and_eq_true] at hk
   obtain ⟨hc, hos⟩ := hk
   have hc : P.cellsOf t = Ty.sizes fs := by simpa using hc
   obtain ⟨xs, n, _, rfl, hl, hxl, hel⟩ := DataW.trod_struct ht h
   obtain ⟨ays, r1, r2, r3, r4⟩ := Ty.reads fs F.toList 0 cs n xs hos (fun i f hf => hel i f (by simpa using hf)) (by simpa using hxl) (by omega) (fun m hm => hw m (by simpa [DataW.weights, ht] using hm))
   exact ⟨ays, by simpa using r1, r2, r3, by simpa using r4⟩
  ·cases hk
theorem Ty.reads : ∀ (ys : List Ty) (F : List Field) (o : Nat) (cs : List Value) (n : Nat) (xs : List (DataW H × List MemPlace)), Ty.oks P ys F o = true →
  (∀ (i : Nat) f, F[i]? = some f → DataW.trod enc P W base spare held n f.type ((cs.drop f.offset).take (P.cellsOf f.type)) = xs[i]?) → xs.length = F.length → cs.length = o + Ty.sizes ys →
  (∀ m ∈ DataW.weightsEach P (F.map (·.type)) (xs.map (·.1)), m ≤ reachBytes) →
  ∃ ays, RelAll g0 W ays (cs.drop o) ∧ Ty.Shapes ys ays ∧ ays.length = Ty.sizes ys ∧ ∀ u ∈ cs.drop o, u.oneCell' = true
 | [], [], o, cs, n, xs, hk, hel, hxl, hl, hw => by
  have : cs.drop o = [] := List.drop_eq_nil_of_le (by simp [Ty.sizes] at hl; omega)
  exact ⟨[], this, rfl, rfl, by simp [this]⟩
 | [], _ :: _, o, cs, n, xs, hk, hel, hxl, hl, hw => by simp [Ty.oks] at hk
 | _ :: _, [], o, cs, n, xs, hk, hel, hxl, hl, hw => by simp [Ty.oks] at hk
 | y :: ys, f :: F, o, cs, n, [], hk, hel, hxl, hl, hw => by simp at hxl
 | y :: ys, f :: F, o, cs, n, x :: xs, hk, hel, hxl, hl, hw => by
  simp only [Ty.oks, Bool.and_eq_true] at hk
  obtain ⟨h1, h2, h3, h4⟩ := hk
  have h1 : f.offset = o := by simpa using h1
  have h2 : P.cellsOf f.type = y.size := by simpa using h2
  have hx := hel 0 f rfl
  rw [h1, h2] at hx
  obtain ⟨ays, r1, r2, r3, r4⟩ := Ty.read y f.type _ x n h3 hx (fun m hm => hw m (by simp only [List.map_cons, DataW.weightsEach]; exact List.mem_append_left _ hm))
  obtain ⟨bs, s1, s2, s3, s4⟩ := Ty.reads ys F (o + y.size) cs n xs h4 (fun i g hg => by have := hel (i + 1) g (by simpa using hg); simpa using this) (by simpa using hxl) (by rw [hl, Ty.sizes]; omega) (fun m hm => hw m (by simp only [List.map_cons, DataW.weightsEach]; exact List.mem_append_right _ hm))
  have hsplit : cs.drop o = (cs.drop o).take y.size ++ cs.drop (o + y.size) := by
   rw [← List.drop_drop, List.take_append_drop]
  refine ⟨ays ++ bs, by rw [hsplit]; exact RelAll.append _ _ _ _ r1 s1, ⟨ays, bs, rfl, r2, s2⟩, by rw [List.length_append, r3, s3, Ty.sizes], fun u hu => ?_⟩
  rw [hsplit] at hu
  rcases List.mem_append.mp hu with hu | hu
  ·exact r4 u hu
  ·exact s4 u hu
end
def Ty.AV' : Ty → List AV → AV
 | .st _, ays => .agg ays
 | _, ays => ays.headD .dead
theorem Ty.arg {y : Ty} {t : TypeId} {v : Value} {d : DataW H} {ps : List MemPlace} {r : Reach} {b0 : Nat} (hk : y.ok P t = true) (hval : Value.okWide P W r b0 t v) (h : DataW.Trod enc P W base spare held t v d ps) (hw : ∀ n ∈ d.weights P t, n ≤ reachBytes) :
  ∃ ays, y.Shape ays ∧ Rel g0 W (y.AV' ays) v := by
 obtain ⟨fuel, hf⟩ := h
 obtain ⟨ays, r1, r2, r3, r4⟩ := Ty.read y t _ _ fuel hk hf hw
 refine ⟨ays, r2, ?_⟩
 cases y with
 | st fs =>
  unfold Ty.ok at hk
  split at hk
  ·rename_i F ht
   obtain ⟨cs, rfl, hcs⟩ := okWide_struct ht hval
   exact ⟨cs, rfl, by simpa [Value.cells] using r1, by simpa [Value.cells] using r4⟩
  ·cases hk
 | bool =>
  obtain ⟨b, rfl⟩ := r2
  unfold Ty.ok at hk
  split at hk
  ·rename_i ht
   obtain ⟨u, rfl⟩ := okWide_bool ht hval
   obtain ⟨w, wr, e, k1, _⟩ := r1
   simp [Value.cells] at e
   rw [← e.1] at k1; exact k1
  ·cases hk
 | int k =>
  obtain ⟨b, rfl, _⟩ := r2
  unfold Ty.ok at hk
  split at hk
  ·rename_i ht
   obtain ⟨u, rfl⟩ := okWide_int ht hval
   obtain ⟨w, wr, e, k1, _⟩ := r1
   simp [Value.cells] at e
   rw [← e.1] at k1; exact k1
  ·cases hk
 | str =>
  obtain ⟨b, rfl, _⟩ := r2
  unfold Ty.ok at hk
  split at hk
  ·rename_i ht
   obtain ⟨u, rfl⟩ := okWide_string ht hval
   obtain ⟨w, wr, e, k1, _⟩ := r1
   simp [Value.cells] at e
   rw [← e.1] at k1; exact k1
  ·cases hk
 | sl e b =>
  unfold Ty.ok at hk
  split at hk
  ·rename_i u ht
   obtain ⟨a, n, c, rfl⟩ := okWide_slice ht hval
   obtain ⟨z, l, rfl, _⟩ := r2
   obtain ⟨w, wr, e', k1, _⟩ := r1
   simp [Value.cells] at e'
   rw [← e'.1] at k1; exact k1
  ·cases hk
end
end Go.V
namespace Go.V
open Go.WideShapes
theorem wf_u8 {n : Int} (h : (Lit.int .u8 n).wf = true) : 0 ≤ n ∧ n < 256 := by
 have h2 : (decide (IntKind.u8.min ≤ n) && decide (n ≤ IntKind.u8.max)) = true := h
 rw [Bool.and_eq_true, decide_eq_true_eq, decide_eq_true_eq] at h2
 have h3 : 0 ≤ n ∧ n ≤ 255 := h2
 omega
theorem bytes_shape {xs : List AV} (h : Ty.Shape (.sl (.int .u8) 1) xs) : ∃ z d, xs = [.ns z 1 d] ∧ okR d = true ∧ (z = true → d = []) ∧ d.length < 4611686018427387904 := by
 obtain ⟨z, l, rfl, hz, h1, h2, h3⟩ := h
 refine ⟨z, l, rfl, List.all_eq_true.mpr fun r hr => ?_, hz, ?_⟩
 ·obtain ⟨n, rfl, hn⟩ := h3 r hr
  have := wf_u8 hn
  show (decide (0 ≤ n) && decide (n < 256)) = true
  simp [this]
 ·rw [Nat.mul_one] at h1
  have : reachBytes < 4611686018427387904 := by decide
  omega
end Go.V
namespace Go.V
inductive LK where
 | one (t : LT)
 | agg (sz : Nat)
 | sl (sz : Nat)
def isAgg (n : Nat) (v : AV) : Bool :=
 match v with
 | .agg cs => Nat.beq cs.length n
 | _ => false
def aggL (v : AV) : List AV :=
 match v with
 | .agg cs => cs
 | _ => []
def LK.is (l : LK) (v : AV) : Bool :=
 match l with
 | .one t => flatT t && isLT t [v]
 | .agg n => isAgg n v
 | .sl n => isLT (.ns n) [v]
def LK.val (l : LK) (v : AV) : AV :=
 match l with
 | .one t => valLT t [v]
 | .agg _ => .agg (aggL v)
 | .sl n => valLT (.ns n) [v]
section
variable {P : Program}
theorem RelAll.set {g : Gh} {w : World} : ∀ {cs : List AV} {vs : List Value} (j : Nat) {c : AV} {v : Value}, RelAll g w cs vs → Rel g w c v → RelAll g w (cs.set j c) (vs.set j v)
 | [], _, _, _, _, h, _ => by obtain rfl := h; exact rfl
 | x :: cs, _, 0, _, _, ⟨u, r, e, h1, h2⟩, hc => by subst e; exact ⟨_, _, rfl, hc, h2⟩
 | x :: cs, _, j + 1, _, _, ⟨u, r, e, h1, h2⟩, hc => by subst e; exact ⟨_, _, rfl, h1, RelAll.set j h2 hc⟩
end
end Go.V
namespace Go.V
section
variable {P : Program}
mutual
def ren (ρ : Nat → Nat) : AV → AV
 | .ptr k off => .ptr (ρ k) off
 | .tp k E m' => .tp (ρ k) E m'
 | .ms k sz off n cap => .ms (ρ k) sz off n cap
 | .mp k => .mp (ρ k)
 | .vs k v sz n => .vs (ρ k) v sz n
 | .vp k v off => .vp (ρ k) v off
 | .fn f a c => .fn f (renL ρ a) (renL ρ c)
 | .ifc t v => .ifc t (ren ρ v)
 | .agg cs => .agg (renL ρ cs)
 | .tup cs => .tup (renL ρ cs)
 | x => x
def renL (ρ : Nat → Nat) : List AV → List AV
 | [] => []
 | x :: l => ren ρ x :: renL ρ l
end
def renO (ρ : Nat → Nat) : Ob → Ob
 | .cells cs => .cells (renL ρ cs)
 | .map es => .map (es.map fun e => (ren ρ e.1, ren ρ e.2))
 | .vec v cs => .vec v (renL ρ cs)
 | o => o
theorem renL_eq (ρ : Nat → Nat) : ∀ l, renL ρ l = l.map (ren ρ)
 | [] => rfl
 | x :: l => by rw [renL, renL_eq ρ l]; rfl
theorem renL_length (ρ : Nat → Nat) (l : List AV) : (renL ρ l).length = l.length := by rw [renL_eq, List.length_map]
mutual
def Near (n : Nat) : AV → Prop
 | .ptr k _ => k < n
 | .tp k _ _ => k < n
 | .ms k _ _ _ _ => k < n
 | .mp k => k < n
 | .vs k _ _ _ => k < n
 | .vp k _ _ => k < n
 | .fn f a c => noY f ∧ NearL n a ∧ NearL n c
 | .ifc _ v => Near n v
 | .agg cs => NearL n cs
 | .tup cs => NearL n cs
 | .eptr cs => ScopedL 0 0 cs
 | .sl _ _ l => ScopedR 0 0 l
 | .ns _ _ l => ScopedR 0 0 l
 | .lg _ _ _ => False
 | _ => True
def NearL (n : Nat) : List AV → Prop
 | [] => True
 | x :: l => Near n x ∧ NearL n l
end
def NearO (n : Nat) : Ob → Prop
 | .cells cs => NearL n cs
 | .map es => NearL n (es.map (·.1)) ∧ NearL n (es.map (·.2))
 | .lp _ _ _ _ => False
 | .vec _ cs => NearL n cs
 | _ => True
structure Inv (ρ : Nat → Nat) (n : Nat) (inv : Nat → Option Nat) : Prop where
 to : ∀ i, i < n → inv (ρ i) = some i
 of : ∀ k i, inv k = some i → i < n ∧ ρ i = k
theorem Inv.none {ρ : Nat → Nat} {n : Nat} {inv : Nat → Option Nat} (h : Inv ρ n inv) {i k : Nat} (hi : i < n) (hk : inv k = .none) : ρ i ≠ k := fun e => by rw [← e, h.to i hi] at hk; cases hk
theorem Inv.inj {ρ : Nat → Nat} {n : Nat} {inv : Nat → Option Nat} (h : Inv ρ n inv) {i j : Nat} (hi : i < n) (hj : j < n) (e : ρ i = ρ j) : i = j := by
 have h1 := h.to i hi
 rw [e, h.to j hj] at h1
 cases h1; rfl
def nearK (g : Gh) (inv : Nat → Option Nat) (b : Nat) : BK :=
 match g.kind b with
 | .obj k => match inv k with
  | some i => .obj i
  | none => .part fun _ => False
 | .vec k => match inv k with
  | some i => .vec i
  | none => .part fun _ => False
 | _ => .part fun off => g.prot b off
def Gh.near (g : Gh) (size n : Nat) (ρ : Nat → Nat) (inv : Nat → Option Nat) : Gh :=
 ⟨fun b => if b < size then nearK g inv b else .solid, (List.range n).map fun i => g.objs.getD (ρ i) 0, [], fun i => g.ver (ρ i)⟩
theorem near_objs {g : Gh} {size n : Nat} {ρ : Nat → Nat} {inv : Nat → Option Nat} {i : Nat} (hi : i < n) (hl : ρ i < g.objs.length) : (g.near size n ρ inv).objs[i]? = g.objs[ρ i]? := by
 simp only [Gh.near, List.getElem?_map, List.getElem?_range hi, Option.map_some, List.getD_eq_getElem?_getD, List.getElem?_eq_getElem hl, Option.getD_some]
theorem near_len {g : Gh} {size n : Nat} {ρ : Nat → Nat} {inv : Nat → Option Nat} : (g.near size n ρ inv).objs.length = n := by simp [Gh.near]
theorem near_kind {g : Gh} {size n : Nat} {ρ : Nat → Nat} {inv : Nat → Option Nat} {b : Nat} (hb : b < size) : (g.near size n ρ inv).kind b = nearK g inv b := by
 simp only [Gh.near]; rw [if_pos hb]
theorem nearK_obj {g : Gh} {inv : Nat → Option Nat} {b k i : Nat} (h : g.kind b = .obj k) (hi : inv k = some i) : nearK g inv b = .obj i := by
 simp only [nearK, h, hi]
theorem nearK_vec {g : Gh} {inv : Nat → Option Nat} {b k i : Nat} (h : g.kind b = .vec k) (hi : inv k = some i) : nearK g inv b = .vec i := by
 simp only [nearK, h, hi]
theorem nearK_obj' {g : Gh} {inv : Nat → Option Nat} {b i : Nat} (h : nearK g inv b = .obj i) : ∃ k, g.kind b = .obj k ∧ inv k = some i := by
 unfold nearK at h
 split at h
 ·split at h
  ·rename_i hk _ _ hi; cases h; exact ⟨_, hk, hi⟩
  ·cases h
 ·split at h <;> cases h
 ·cases h
theorem nearK_vec' {g : Gh} {inv : Nat → Option Nat} {b i : Nat} (h : nearK g inv b = .vec i) : ∃ k, g.kind b = .vec k ∧ inv k = some i := by
 unfold nearK at h
 split at h
 ·split at h <;> cases h
 ·split at h
  ·rename_i hk _ _ hi; cases h; exact ⟨_, hk, hi⟩
  ·cases h
 ·cases h
theorem nearK_row {g : Gh} {inv : Nat → Option Nat} {b t : Nat} (h : nearK g inv b = .row t) : False := by
 unfold nearK at h
 split at h
 ·split at h <;> cases h
 ·split at h <;> cases h
 ·cases h
theorem near_prot {g : Gh} {size n : Nat} {ρ : Nat → Nat} {inv : Nat → Option Nat} {b off : Nat} (hb : b < size) (hp : g.prot b off) : (g.near size n ρ inv).prot b off := by
 have hp0 := hp
 unfold Gh.prot
 rw [near_kind hb, nearK]
 unfold Gh.prot at hp
 cases hk : g.kind b with
 | obj k => rw [hk] at hp; exact hp.elim
 | vec k => rw [hk] at hp; exact hp.elim
 | solid => exact hp0
 | part S => exact hp0
 | row t => exact hp0
theorem near_protC {g : Gh} {n : Nat} {ρ : Nat → Nat} {inv : Nat → Option Nat} {w : World} (b off : Nat) (u : Value) (hc : w.cell? ⟨b, off, none⟩ = some u) (hp : g.prot b off) : (g.near w.heap.size n ρ inv).prot b off := by
 obtain ⟨C, E, fz, hb, _⟩ := cell_some hc
 exact near_prot (lt_of_block hb) hp
mutual
theorem Rel.near {g : Gh} {w : World} {n : Nat} {ρ : Nat → Nat} {inv : Nat → Option Nat} (hI : Inv ρ n inv) (hl : ∀ i, i < n → ρ i < g.objs.length) : ∀ (a : AV) (v : Value), Near n a → Rel g w (ren ρ a) v → Rel (g.near w.heap.size n ρ inv) w a v
 | .bool _, _, _, r => r
 | .int _ _, _, _, r => r
 | .str _, _, _, r => r
 | .nilptr, _, _, r => r
 | .nilsl, _, _, r => r
 | .nilmap, _, _, r => r
 | .nilfn, _, _, r => r
 | .nilif, _, _, r => r
 | .ptr k off, _, s, ⟨b, r1, r2⟩ => ⟨b, (near_objs s (hl k s)).trans r1, r2⟩
 | .tp k E m', _, s, ⟨b, r1, r2⟩ => ⟨b, (near_objs s (hl k s)).trans r1, r2⟩
 | .eptr cs, _, s, ⟨b, off, r1, r2⟩ => ⟨b, off, r1, RelCells.toProt near_protC cs b off s r2⟩
 | .sl sz full l, _, s, ⟨b, off, sp, cap, r1, r2, r3, rs, r4⟩ => ⟨b, off, sp, cap, r1, r2, r3, rs, RelRows.toProt near_protC sz l b off s r4⟩
 | .lg t sz l, _, s, _ => s.elim
 | .ms k sz off n cap, _, s, ⟨b, r1, r2⟩ => ⟨b, (near_objs s (hl k s)).trans r1, r2⟩
 | .mp k, _, s, ⟨b, r1, r2⟩ => ⟨b, (near_objs s (hl k s)).trans r1, r2⟩
 | .fn f a c, _, ⟨s0, s1, s2⟩, ⟨va, vc, r1, r2, r3⟩ => ⟨va, vc, r1.move s0, RelAll.near hI hl a va.toList s1 r2, RelAll.near hI hl c vc.toList s2 r3⟩
 | .ifc t a, _, s, ⟨u, r1, r2⟩ => ⟨u, r1, Rel.near hI hl a u s r2⟩
 | .agg cs, _, s, ⟨vs, r1, r2, r3⟩ => ⟨vs, r1, RelAll.near hI hl cs vs.toList s r2, r3⟩
 | .tup cs, _, s, ⟨vs, r1, r2⟩ => ⟨vs, r1, RelAll.near hI hl cs vs.toList s r2⟩
 | .dead, _, _, _ => trivial
 | .ns z sz l, _, s, .inl r => .inl r
 | .ns z sz l, _, s, .inr ⟨r0, b, off, sp, cap, r1, r2, rs, r4⟩ => .inr ⟨r0, b, off, sp, cap, r1, r2, rs, RelRows.toProt near_protC sz l b off s r4⟩
 | .vs k v sz m, _, s, ⟨b, c, r1, r2, r3, r4, r5⟩ => ⟨b, c, r1, r2, by rw [near_len]; exact s, r4, fun e => by
  obtain ⟨k1, C, E, fz, k2, k3⟩ := r5 e
  exact ⟨by rw [near_kind (lt_of_block k2)]; exact nearK_vec k1 (hI.to k s), C, E, fz, k2, k3⟩⟩
 | .vp k v off, _, s, ⟨b, r1, r3, r4, r5⟩ => ⟨b, r1, by rw [near_len]; exact s, r4, fun e => by
  obtain ⟨k1, k2⟩ := r5 e
  exact ⟨by rw [near_kind k2]; exact nearK_vec k1 (hI.to k s), k2⟩⟩
theorem RelAll.near {g : Gh} {w : World} {n : Nat} {ρ : Nat → Nat} {inv : Nat → Option Nat} (hI : Inv ρ n inv) (hl : ∀ i, i < n → ρ i < g.objs.length) : ∀ (ays : List AV) (vs : List Value), NearL n ays → RelAll g w (renL ρ ays) vs → RelAll (g.near w.heap.size n ρ inv) w ays vs
 | [], _, _, r => r
 | a :: ays, _, ⟨s1, s2⟩, ⟨v, vr, r1, r2, r3⟩ => ⟨v, vr, r1, Rel.near hI hl a v s1 r2, RelAll.near hI hl ays vr s2 r3⟩
end
theorem renO_map1 (ρ : Nat → Nat) (es : List (AV × AV)) : (es.map fun e => (ren ρ e.1, ren ρ e.2)).map (·.1) = renL ρ (es.map (·.1)) := by
 rw [renL_eq, List.map_map, List.map_map]; rfl
theorem renO_map2 (ρ : Nat → Nat) (es : List (AV × AV)) : (es.map fun e => (ren ρ e.1, ren ρ e.2)).map (·.2) = renL ρ (es.map (·.2)) := by
 rw [renL_eq, List.map_map, List.map_map]; rfl
theorem ObRel.near {g : Gh} {w : World} {n : Nat} {ρ : Nat → Nat} {inv : Nat → Option Nat} (hI : Inv ρ n inv) (hl : ∀ i, i < n → ρ i < g.objs.length) {i b : Nat} (hi : i < n) (hb : b < w.heap.size) {o : Ob} (ho : NearO n o) (h : ObRel g w (ρ i) b (renO ρ o)) : ObRel (g.near w.heap.size n ρ inv) w i b o := by
 cases o with
 | cells cs =>
  obtain ⟨h1, C, E, h2, h3, h4⟩ := h
  rw [renL_length] at h3 h4
  exact ⟨by rw [near_kind hb]; exact nearK_obj h1 (hI.to i hi), C, E, h2, RelAll.near hI hl _ _ ho h3, h4⟩
 | map es =>
  obtain ⟨h1, M, c, h2, h3, h4⟩ := h
  rw [renO_map1] at h3
  rw [renO_map2] at h4
  exact ⟨by rw [near_kind hb]; exact nearK_obj h1 (hI.to i hi), M, c, h2, RelAll.near hI hl _ _ ho.1 h3, RelAll.near hI hl _ _ ho.2 h4⟩
 | gone => trivial
 | lp _ _ _ _ => exact ho.elim
 | nov v => exact h
 | vec v cs =>
  obtain ⟨h1, b', h2, h3, C, E, h4, h5, h6⟩ := h
  rw [renL_length] at h5 h6
  exact ⟨h1, b', h2, by rw [near_kind h2]; exact nearK_vec h3 (hI.to i hi), C, E, h4, RelAll.near hI hl _ _ ho h5, h6⟩
structure Lies (st : St) (objs0 : List Ob) (ρ : Nat → Nat) (n : Nat) (inv : Nat → Option Nat) : Prop where
 len : objs0.length = n
 inv : Inv ρ n inv
 at_ : ∀ i o, objs0[i]? = some o → st.objs[ρ i]? = some (renO ρ o)
 near : ∀ o ∈ objs0, NearO n o
theorem Lies.lt {st : St} {objs0 : List Ob} {ρ : Nat → Nat} {n : Nat} {inv : Nat → Option Nat} (h : Lies st objs0 ρ n inv) (i : Nat) (hi : i < n) : ρ i < st.objs.length :=
 getElem?_lt (h.at_ i _ (List.getElem?_eq_getElem (by rw [h.len]; exact hi)))
theorem StRel.near {g : Gh} {st : St} {w : World} (hs : StRel g st w) {objs0 : List Ob} {ρ : Nat → Nat} {n : Nat} {inv : Nat → Option Nat} (hL : Lies st objs0 ρ n inv) : StRel (g.near w.heap.size n ρ inv) ⟨objs0, []⟩ w := by
 have hl : ∀ i, i < n → ρ i < g.objs.length := fun i hi => by rw [hs.len]; exact hL.lt i hi
 refine ⟨rfl, by rw [near_len, hL.len], fun i b o hk ho => ?_, fun b i hb hk => ?_, fun b t hb hk => ?_, fun b i hb hk => ?_, hs.glob.toProt near_protC⟩
 ·have hi : i < n := by rw [← hL.len]; exact getElem?_lt ho
  rw [near_objs hi (hl i hi)] at hk
  obtain ⟨h1, h2⟩ := hs.obj (ρ i) b _ hk (hL.at_ i o ho)
  exact ⟨h1, h2.near hL.inv hl hi h1 (hL.near o (List.mem_of_getElem? ho))⟩
 ·rw [near_kind hb] at hk
  obtain ⟨k, h1, h2⟩ := nearK_obj' hk
  obtain ⟨hi, rfl⟩ := hL.inv.of k i h2
  obtain ⟨o, h3, h4, h5⟩ := hs.back b _ hb h1
  have ho : objs0[i]? = some (objs0[i]'(by rw [hL.len]; exact hi)) := List.getElem?_eq_getElem _
  have h6 := hL.at_ i _ ho
  rw [h3] at h6
  cases h6
  refine ⟨_, ho, by rw [near_objs hi (hl i hi)]; exact h4, ?_⟩
  generalize objs0[i]'(by rw [hL.len]; exact hi) = y at h5
  cases y <;> first | trivial | exact h5
 ·rw [near_kind hb] at hk; exact (nearK_row hk).elim
 ·rw [near_kind hb] at hk
  obtain ⟨k, h1, h2⟩ := nearK_vec' hk
  obtain ⟨hi, rfl⟩ := hL.inv.of k i h2
  obtain ⟨⟨v, cs, h3⟩, h4⟩ := hs.vec b _ hb h1
  have ho : objs0[i]? = some (objs0[i]'(by rw [hL.len]; exact hi)) := List.getElem?_eq_getElem _
  have h6 := hL.at_ i _ ho
  rw [h3] at h6
  refine ⟨?_, fun b' hb' hk' => ?_⟩
  ·generalize objs0[i]'(by rw [hL.len]; exact hi) = y at ho h6
   cases y <;> simp only [renO, Option.some.injEq, reduceCtorEq] at h6
   exact ⟨_, _, ho⟩
  ·rw [near_kind hb'] at hk'
   obtain ⟨k', h7, h8⟩ := nearK_vec' hk'
   obtain ⟨_, e⟩ := hL.inv.of k' i h8
   subst e
   exact h4 b' hb' h7
def nx (ρ : Nat → Nat) (n len i : Nat) : Nat := if i < n then ρ i else len + (i - n)
def backK (g2 : Gh) (τ : Nat → Nat) (p b : Nat) : BK :=
 match g2.kind b with
 | .obj i => if i < p then .obj (τ i) else .part fun _ => False
 | .vec i => if i < p then .vec (τ i) else .part fun _ => False
 | .row _ => .part fun off => g2.prot b off
 | x => x
def backG (g g2 : Gh) (τ : Nat → Nat) (p : Nat) (inv : Nat → Option Nat) (b : Nat) : BK :=
 match g.kind b with
 | .obj k => match inv k with
  | some _ => backK g2 τ p b
  | none => .obj k
 | .vec k => match inv k with
  | some _ => backK g2 τ p b
  | none => .vec k
 | x => x
def Gh.back (g g2 : Gh) (size n p : Nat) (τ : Nat → Nat) (inv : Nat → Option Nat) : Gh where
 kind b := if b < size then backG g g2 τ p inv b else backK g2 τ p b
 objs := g.objs ++ (g2.objs.take p).drop n
 tk := g.tk
 ver k := match inv k with
  | some i => g2.ver i
  | none => if k < g.objs.length then g.ver k else g2.ver (n + (k - g.objs.length))
structure Bk (G g2 : Gh) (w2 : World) (τ : Nat → Nat) (p : Nat) : Prop where
 objs : ∀ i, i < p → G.objs[τ i]? = g2.objs[i]?
 lt : ∀ i, i < p → τ i < G.objs.length
 ver : ∀ i, i < p → G.ver (τ i) = g2.ver i
 kobj : ∀ b i, b < w2.heap.size → i < p → g2.kind b = .obj i → G.kind b = .obj (τ i)
 kvec : ∀ b i, b < w2.heap.size → i < p → g2.kind b = .vec i → G.kind b = .vec (τ i)
 prot : ∀ b off u, w2.cell? ⟨b, off, none⟩ = some u → g2.prot b off → G.prot b off
mutual
theorem Bk.rel {G g2 : Gh} {w : World} {τ : Nat → Nat} {p : Nat} (h : Bk G g2 w τ p) : ∀ (a : AV) (v : Value), Near p a → Rel g2 w a v → Rel G w (ren τ a) v
 | .bool _, _, _, r => r
 | .int _ _, _, _, r => r
 | .str _, _, _, r => r
 | .nilptr, _, _, r => r
 | .nilsl, _, _, r => r
 | .nilmap, _, _, r => r
 | .nilfn, _, _, r => r
 | .nilif, _, _, r => r
 | .ptr k off, _, s, ⟨b, r1, r2⟩ => ⟨b, (h.objs k s).trans r1, r2⟩
 | .tp k E m', _, s, ⟨b, r1, r2⟩ => ⟨b, (h.objs k s).trans r1, r2⟩
 | .eptr cs, _, s, ⟨b, off, r1, r2⟩ => ⟨b, off, r1, RelCells.toProt h.prot cs b off s r2⟩
 | .sl sz full l, _, s, ⟨b, off, sp, cap, r1, r2, r3, rs, r4⟩ => ⟨b, off, sp, cap, r1, r2, r3, rs, RelRows.toProt h.prot sz l b off s r4⟩
 | .lg t sz l, _, s, _ => s.elim
 | .ms k sz off n cap, _, s, ⟨b, r1, r2⟩ => ⟨b, (h.objs k s).trans r1, r2⟩
 | .mp k, _, s, ⟨b, r1, r2⟩ => ⟨b, (h.objs k s).trans r1, r2⟩
 | .fn f a c, _, ⟨s0, s1, s2⟩, ⟨va, vc, r1, r2, r3⟩ => ⟨va, vc, r1.move s0, Bk.relAll h a va.toList s1 r2, Bk.relAll h c vc.toList s2 r3⟩
 | .ifc t a, _, s, ⟨u, r1, r2⟩ => ⟨u, r1, Bk.rel h a u s r2⟩
 | .agg cs, _, s, ⟨vs, r1, r2, r3⟩ => ⟨vs, r1, Bk.relAll h cs vs.toList s r2, r3⟩
 | .tup cs, _, s, ⟨vs, r1, r2⟩ => ⟨vs, r1, Bk.relAll h cs vs.toList s r2⟩
 | .dead, _, _, _ => trivial
 | .ns z sz l, _, s, .inl r => .inl r
 | .ns z sz l, _, s, .inr ⟨r0, b, off, sp, cap, r1, r2, rs, r4⟩ => .inr ⟨r0, b, off, sp, cap, r1, r2, rs, RelRows.toProt h.prot sz l b off s r4⟩
 | .vs k v sz m, _, s, ⟨b, c, r1, r2, r3, r4, r5⟩ => ⟨b, c, r1, r2, h.lt k s, by rw [h.ver k s]; exact r4, fun e => by
  rw [h.ver k s] at e
  obtain ⟨k1, C, E, fz, k2, k3⟩ := r5 e
  exact ⟨h.kvec b k (lt_of_block k2) s k1, C, E, fz, k2, k3⟩⟩
 | .vp k v off, _, s, ⟨b, r1, r3, r4, r5⟩ => ⟨b, r1, h.lt k s, by rw [h.ver k s]; exact r4, fun e => by
  rw [h.ver k s] at e
  obtain ⟨k1, k2⟩ := r5 e
  exact ⟨h.kvec b k k2 s k1, k2⟩⟩
theorem Bk.relAll {G g2 : Gh} {w : World} {τ : Nat → Nat} {p : Nat} (h : Bk G g2 w τ p) : ∀ (ays : List AV) (vs : List Value), NearL p ays → RelAll g2 w ays vs → RelAll G w (renL τ ays) vs
 | [], _, _, r => r
 | a :: ays, _, ⟨s1, s2⟩, ⟨v, vr, r1, r2, r3⟩ => ⟨v, vr, r1, Bk.rel h a v s1 r2, Bk.relAll h ays vr s2 r3⟩
end
theorem Bk.ob {G g2 : Gh} {w : World} {τ : Nat → Nat} {p : Nat} (h : Bk G g2 w τ p) {i b : Nat} (hi : i < p) (hb : b < w.heap.size) {o : Ob} (ho : NearO p o) (hr : ObRel g2 w i b o) : ObRel G w (τ i) b (renO τ o) := by
 cases o with
 | cells cs =>
  obtain ⟨h1, C, E, h2, h3, h4⟩ := hr
  exact ⟨h.kobj b i hb hi h1, C, E, h2, by rw [renL_length]; exact h.relAll _ _ ho h3, by rw [renL_length]; exact h4⟩
 | map es =>
  obtain ⟨h1, M, c, h2, h3, h4⟩ := hr
  exact ⟨h.kobj b i hb hi h1, M, c, h2, by rw [renO_map1]; exact h.relAll _ _ ho.1 h3, by rw [renO_map2]; exact h.relAll _ _ ho.2 h4⟩
 | gone => trivial
 | lp _ _ _ _ => exact ho.elim
 | nov v => exact (h.ver i hi).trans hr
 | vec v cs =>
  obtain ⟨h1, b', h2, h3, C, E, h4, h5, h6⟩ := hr
  exact ⟨(h.ver i hi).trans h1, b', h2, h.kvec b' i h2 hi h3, C, E, h4, by rw [renL_length]; exact h.relAll _ _ ho h5, by rw [renL_length]; exact h6⟩
theorem nx_inj {ρ : Nat → Nat} {n len : Nat} {inv : Nat → Option Nat} (hI : Inv ρ n inv) (hl : ∀ i, i < n → ρ i < len) {i j : Nat} (e : nx ρ n len i = nx ρ n len j) : i = j := by
 unfold nx at e
 split at e
 ·rename_i hi
  split at e
  ·rename_i hj; exact hI.inj hi hj e
  ·have := hl i hi; omega
 ·split at e
  ·rename_i hj; have := hl j hj; omega
  ·omega
theorem nx_lt {ρ : Nat → Nat} {n len : Nat} {inv : Nat → Option Nat} (hI : Inv ρ n inv) {i k : Nat} (hk : k < len) (e : nx ρ n len i = k) : inv k = some i := by
 unfold nx at e
 split at e
 ·rename_i hi; rw [← e]; exact hI.to i hi
 ·omega
theorem backK_prot {g2 G : Gh} {τ : Nat → Nat} {p b off : Nat} (hk : G.kind b = backK g2 τ p b) (hp : g2.prot b off) : G.prot b off := by
 have hp0 := hp
 unfold Gh.prot at hp ⊢
 rw [hk]
 unfold backK
 cases h : g2.kind b with
 | solid => trivial
 | part S => rw [h] at hp; exact hp
 | obj k => rw [h] at hp; exact hp.elim
 | vec k => rw [h] at hp; exact hp.elim
 | row t => exact hp0
theorem placed {id : FuncId} {args0 : List AV} {objs0 objs2 : List Ob} {r0 : AV} {xt : List (Nat × Nat)} (h : CallsTo P id args0 ⟨objs0, []⟩ (.ret r0, ⟨objs2, xt⟩)) {n p : Nat} (hnp : n ≤ p) (hp : p ≤ objs2.length)
  (ha : NearL n args0) (hr : Near p (frz r0)) (ho2 : ∀ (i : Nat) (o : Ob), i < p → objs2[i]? = some o → NearO p o)
  {ρ : Nat → Nat} {inv : Nat → Option Nat} {st st' : St} (hL : Lies st objs0 ρ n inv) (htk : st'.tk = st.tk) (hlen : st'.objs.length = st.objs.length + (p - n))
  (hnew : ∀ (i : Nat) (o : Ob), i < p → objs2[i]? = some o → st'.objs[nx ρ n st.objs.length i]? = some (renO (nx ρ n st.objs.length) o)) (hold : ∀ k, k < st.objs.length → inv k = none → st'.objs[k]? = st.objs[k]?) :
  CallsTo P id (renL ρ args0) st (.ret (ren (nx ρ n st.objs.length) (frz r0)), st') := by
 intro g w vals hv hs
 have hl : ∀ i, i < n → ρ i < g.objs.length := fun i hi => by rw [hs.len]; exact hL.lt i hi
 have hI := hL.inv
 refine (h (g.near w.heap.size n ρ inv) w vals (RelAll.near hI hl _ _ ha hv) (hs.near hL)).mono fun e w2 ⟨g2, h1, hs2, hE⟩ => ?_
 obtain ⟨v, rfl, hv2⟩ := h1
 have hlen2 : g2.objs.length = objs2.length := hs2.len
 have hgl : st.objs.length = g.objs.length := hs.len.symm
 rw [hgl] at hlen hnew ⊢
 have hinvN : ∀ k, g.objs.length ≤ k → inv k = none := fun k hk => by
  cases e : inv k with
  | none => rfl
  | some i =>
   obtain ⟨hi, rfl⟩ := hI.of k i e
   have := hl i hi
   omega
 let τ := nx ρ n g.objs.length
 let G := g.back g2 w.heap.size n p τ inv
 have hpart : ∀ b, b < w.heap.size → (∀ k i, g.kind b = .obj k → inv k = some i → False) → (∀ k i, g.kind b = .vec k → inv k = some i → False) → ∃ S, nearK g inv b = .part S ∧ g2.kind b = .part S ∧ w2.heap[b]? = w.heap[b]? := by
  intro b hb q1 q2
  have : ∃ S, nearK g inv b = .part S := by
   unfold nearK
   split
   ·rename_i k hk
    split
    ·rename_i i hi; exact (q1 k i hk hi).elim
    ·exact ⟨_, rfl⟩
   ·rename_i k hk
    split
    ·rename_i i hi; exact (q2 k i hk hi).elim
    ·exact ⟨_, rfl⟩
   ·exact ⟨_, rfl⟩
  obtain ⟨S, hS⟩ := this
  obtain ⟨k1, k2⟩ := hE.part b (S := S) hb (by rw [near_kind hb]; exact hS)
  exact ⟨S, hS, k1, k2⟩
 have hGlt : ∀ b, b < w.heap.size → G.kind b = backG g g2 τ p inv b := fun b hb => by
  show (if b < w.heap.size then _ else _) = _
  rw [if_pos hb]
 have hGge : ∀ b, ¬ b < w.heap.size → G.kind b = backK g2 τ p b := fun b hb => by
  show (if b < w.heap.size then _ else _) = _
  rw [if_neg hb]
 have hmine : ∀ b, b < w2.heap.size → (∃ i, g2.kind b = .obj i ∨ g2.kind b = .vec i) → G.kind b = backK g2 τ p b := by
  intro b hb ⟨i, hi⟩
  by_cases hb1 : b < w.heap.size
  ·rw [hGlt b hb1]
   by_cases q1 : ∃ k j, g.kind b = .obj k ∧ inv k = some j
   ·obtain ⟨k, j, e1, e2⟩ := q1
    simp only [backG, e1, e2]
   ·by_cases q2 : ∃ k j, g.kind b = .vec k ∧ inv k = some j
    ·obtain ⟨k, j, e1, e2⟩ := q2
     simp only [backG, e1, e2]
    ·obtain ⟨S, _, e3, _⟩ := hpart b hb1 (fun k i a b => q1 ⟨k, i, a, b⟩) (fun k i a b => q2 ⟨k, i, a, b⟩)
     rcases hi with hi | hi <;> (rw [hi] at e3; cases e3)
  ·exact hGge b hb1
 have hB : Bk G g2 w2 τ p := by
  refine ⟨fun i hi => ?_, fun i hi => ?_, fun i hi => ?_, fun b i hb hi hk => ?_, fun b i hb hi hk => ?_, fun b off u hc hpr => ?_⟩
  ·show (g.objs ++ (g2.objs.take p).drop n)[nx ρ n g.objs.length i]? = _
   unfold nx
   split
   ·rename_i h
    rw [List.getElem?_append_left (hl i h)]
    have e1 : g.objs[ρ i]? = some (g.objs[ρ i]'(hl i h)) := List.getElem?_eq_getElem (hl i h)
    have e2 := hE.objs i _ ((near_objs h (hl i h)).trans e1)
    rw [e1, e2]
   ·rw [List.getElem?_append_right (by omega), List.getElem?_drop, List.getElem?_take, if_pos (by omega)]
    congr 1; omega
  ·show nx ρ n g.objs.length i < (g.objs ++ (g2.objs.take p).drop n).length
   rw [List.length_append, List.length_drop, List.length_take]
   unfold nx
   split
   ·rename_i h; have := hl i h; omega
   ·omega
  ·show (match inv (nx ρ n g.objs.length i) with | some i => g2.ver i | none => if nx ρ n g.objs.length i < g.objs.length then g.ver (nx ρ n g.objs.length i) else g2.ver (n + (nx ρ n g.objs.length i - g.objs.length))) = _
   by_cases h : i < n
   ·rw [show nx ρ n g.objs.length i = ρ i by rw [nx, if_pos h], hI.to i h]
   ·rw [show nx ρ n g.objs.length i = g.objs.length + (i - n) by rw [nx, if_neg h], hinvN _ (by omega)]
    simp only
    rw [if_neg (by omega)]
    congr 1; omega
  ·rw [hmine b hb ⟨i, .inl hk⟩]
   simp only [backK, hk]
   rw [if_pos hi]
  ·rw [hmine b hb ⟨i, .inr hk⟩]
   simp only [backK, hk]
   rw [if_pos hi]
  ·obtain ⟨C, E, fz, hbk, _⟩ := cell_some hc
   have hb := lt_of_block hbk
   by_cases hb1 : b < w.heap.size
   ·by_cases q1 : ∃ k j, g.kind b = .obj k ∧ inv k = some j
    ·obtain ⟨k, j, e1, e2⟩ := q1
     exact backK_prot (τ := τ) (p := p) (by rw [hGlt b hb1]; simp only [backG, e1, e2]) hpr
    ·by_cases q2 : ∃ k j, g.kind b = .vec k ∧ inv k = some j
     ·obtain ⟨k, j, e1, e2⟩ := q2
      exact backK_prot (τ := τ) (p := p) (by rw [hGlt b hb1]; simp only [backG, e1, e2]) hpr
     ·obtain ⟨S, e2, e3, _⟩ := hpart b hb1 (fun k i a b => q1 ⟨k, i, a, b⟩) (fun k i a b => q2 ⟨k, i, a, b⟩)
      have hS : S off := by
       unfold Gh.prot at hpr; rw [e3] at hpr; exact hpr
      unfold Gh.prot
      rw [hGlt b hb1]
      unfold nearK at e2
      unfold backG
      cases hk : g.kind b with
      | obj k =>
       rw [hk] at e2
       simp only at e2
       split at e2
       ·cases e2
       ·cases e2; exact hS.elim
      | vec k =>
       rw [hk] at e2
       simp only at e2
       split at e2
       ·cases e2
       ·cases e2; exact hS.elim
      | solid => trivial
      | part T =>
       rw [hk] at e2
       simp only [BK.part.injEq] at e2
       subst e2
       unfold Gh.prot at hS; rw [hk] at hS; exact hS
      | row t =>
       rw [hk] at e2
       simp only [BK.part.injEq] at e2
       subst e2
       unfold Gh.prot at hS; rw [hk] at hS; exact hS
   ·exact backK_prot (τ := τ) (p := p) (hGge b hb1) hpr
 have hEG : Ev g w G w2 := by
  refine ⟨hE.os, hE.tape, hE.output, hE.size, fun b hb hk => ?_, fun b t hb hk => ?_, fun b k hb hk => ?_, fun k b hk => ?_, tk_refl _, fun k hk => ?_, fun b k hb hkl hk hvv => ?_, hE.ty⟩
  ·obtain ⟨S, _, _, e3⟩ := hpart b hb (fun k i a _ => by rw [a] at hk; cases hk) (fun k i a _ => by rw [a] at hk; cases hk)
   refine ⟨?_, e3⟩
   rw [hGlt b hb]
   unfold backG
   cases e : g.kind b with
   | obj k => rw [e] at hk; cases hk
   | vec k => rw [e] at hk; cases hk
   | _ => rfl
  ·obtain ⟨S, _, _, e3⟩ := hpart b hb (fun k i a _ => by rw [a] at hk; cases hk) (fun k i a _ => by rw [a] at hk; cases hk)
   refine ⟨by rw [hGlt b hb]; simp only [backG, hk], fun C E fz hC => ⟨C, e3.trans hC, rfl, fun _ _ => rfl⟩⟩
  ·rw [hGlt b hb]
   simp only [backG, hk]
   split
   ·rename_i i hi
    obtain ⟨hin, rfl⟩ := hI.of k i hi
    have := hE.obj b i hb (by rw [near_kind hb]; exact nearK_obj hk hi)
    unfold backK
    rcases this with e | e
    ·rw [e]; simp only; rw [if_pos (by omega)]
     left
     show BK.obj (nx ρ n g.objs.length i) = _
     rw [nx, if_pos hin]
    ·rw [e]; exact .inr rfl
   ·exact .inl rfl
  ·show (g.objs ++ _)[k]? = _
   rw [List.getElem?_append_left (getElem?_lt hk)]; exact hk
  ·show g.ver k ≤ (match inv k with | some i => g2.ver i | none => if k < g.objs.length then g.ver k else g2.ver (n + (k - g.objs.length)))
   split
   ·rename_i i hi
    obtain ⟨hin, rfl⟩ := hI.of k i hi
    exact hE.ver i (by rw [near_len]; exact hin)
   ·rw [if_pos hk]; exact Nat.le_refl _
  ·have hvv : (match inv k with | some i => g2.ver i | none => if k < g.objs.length then g.ver k else g2.ver (n + (k - g.objs.length))) = g.ver k := hvv
   rw [hGlt b hb]
   simp only [backG, hk]
   split at hvv
   ·rename_i i hi
    obtain ⟨hin, rfl⟩ := hI.of k i hi
    obtain ⟨k1, k2⟩ := hE.vec b i hb (by rw [near_len]; exact hin) (by rw [near_kind hb]; exact nearK_vec hk hi) hvv
    refine ⟨?_, k2⟩
    simp only [backK, k1]
    rw [if_pos (by omega)]
    show BK.vec (nx ρ n g.objs.length i) = _
    rw [nx, if_pos hin]
   ·rename_i hi
    obtain ⟨S, _, _, e3⟩ := hpart b hb (fun k i a _ => by rw [a] at hk; cases hk) (fun k' i a e => by rw [a] at hk; cases hk; rw [hi] at e; cases e)
    exact ⟨rfl, fun C E fz hC => ⟨C, e3.trans hC, rfl⟩⟩
 have hcase : ∀ b y, b < w2.heap.size → G.kind b = y → (∃ k, y = .obj k ∨ y = .vec k) → (b < w.heap.size ∧ g.kind b = y ∧ w2.heap[b]? = w.heap[b]? ∧ ∀ k, (y = .obj k ∨ y = .vec k) → inv k = none) ∨ (∃ i, i < p ∧ ((g2.kind b = .obj i ∧ y = .obj (τ i)) ∨ (g2.kind b = .vec i ∧ y = .vec (τ i)))) := by
  intro b y hb hk hy
  have hbk : backK g2 τ p b = y → ∃ i, i < p ∧ ((g2.kind b = .obj i ∧ y = .obj (τ i)) ∨ (g2.kind b = .vec i ∧ y = .vec (τ i))) := by
   intro e
   unfold backK at e
   split at e
   ·rename_i i hi
    split at e
    ·rename_i hip; exact ⟨i, hip, .inl ⟨hi, e.symm⟩⟩
    ·obtain ⟨k, hy | hy⟩ := hy <;> (rw [hy] at e; cases e)
   ·rename_i i hi
    split at e
    ·rename_i hip; exact ⟨i, hip, .inr ⟨hi, e.symm⟩⟩
    ·obtain ⟨k, hy | hy⟩ := hy <;> (rw [hy] at e; cases e)
   ·obtain ⟨k, hy | hy⟩ := hy <;> (rw [hy] at e; cases e)
   ·rename_i x h1 h2 h3
    obtain ⟨k, hy | hy⟩ := hy
    ·rw [hy] at e; exact (h1 k e).elim
    ·rw [hy] at e; exact (h2 k e).elim
  by_cases hb1 : b < w.heap.size
  ·rw [hGlt b hb1] at hk
   unfold backG at hk
   split at hk
   ·rename_i k hkk
    split at hk
    ·exact .inr (hbk hk)
    ·rename_i hi
     obtain ⟨S, _, _, e3⟩ := hpart b hb1 (fun k' i a e => by rw [a] at hkk; cases hkk; rw [hi] at e; cases e) (fun k' i a e => by rw [a] at hkk; cases hkk)
     refine .inl ⟨hb1, hkk.trans hk, e3, fun k' hk' => ?_⟩
     rcases hk' with hk' | hk' <;> (rw [hk'] at hk; cases hk)
     exact hi
   ·rename_i k hkk
    split at hk
    ·exact .inr (hbk hk)
    ·rename_i hi
     obtain ⟨S, _, _, e3⟩ := hpart b hb1 (fun k' i a e => by rw [a] at hkk; cases hkk) (fun k' i a e => by rw [a] at hkk; cases hkk; rw [hi] at e; cases e)
     refine .inl ⟨hb1, hkk.trans hk, e3, fun k' hk' => ?_⟩
     rcases hk' with hk' | hk' <;> (rw [hk'] at hk; cases hk)
     exact hi
   ·rename_i x h1 h2
    obtain ⟨k, hy | hy⟩ := hy
    ·rw [hy] at hk; exact (h1 k hk).elim
    ·rw [hy] at hk; exact (h2 k hk).elim
  ·rw [hGge b hb1] at hk
   exact .inr (hbk hk)
 refine ⟨G, ⟨v, rfl, hB.rel _ _ hr (frz_rel hv2)⟩, ⟨by show g.tk = _; rw [hs.tk, htk], ?_, fun k b o hk ho => ?_, fun b k hb hk => ?_, fun b t hb hk => ?_, fun b k hb hk => ?_, hs.glob.mono hEG⟩, hEG⟩
 ·show (g.objs ++ (g2.objs.take p).drop n).length = _
  rw [List.length_append, List.length_drop, List.length_take, hlen]
  omega
 ·
  have hkl : k < g.objs.length + (p - n) := by rw [← hlen]; exact getElem?_lt ho
  by_cases hki : k < g.objs.length ∧ inv k = none
  ·obtain ⟨q1, q2⟩ := hki
   have hk : (g.objs ++ (g2.objs.take p).drop n)[k]? = some b := hk
   rw [List.getElem?_append_left q1] at hk
   rw [hold k (by rw [hgl]; exact q1) q2] at ho
   obtain ⟨p1, p2⟩ := hs.obj k b o hk ho
   refine ⟨Nat.lt_of_lt_of_le p1 hE.size, ?_⟩
   have hver : G.ver k = g.ver k := by
    show (match inv k with | some i => g2.ver i | none => if k < g.objs.length then g.ver k else _) = _
    rw [q2]; simp only; rw [if_pos q1]
   have hkeep : ∀ b, b < w.heap.size → (g.kind b = .obj k ∨ g.kind b = .vec k) → G.kind b = g.kind b ∧ w2.heap[b]? = w.heap[b]? := by
    intro b hb hk
    obtain ⟨S, _, _, e3⟩ := hpart b hb (fun k' i a e => by
     rcases hk with hk | hk <;> (rw [a] at hk; cases hk)
     rw [q2] at e; cases e) (fun k' i a e => by
     rcases hk with hk | hk <;> (rw [a] at hk; cases hk)
     rw [q2] at e; cases e)
    refine ⟨?_, e3⟩
    rw [hGlt b hb]
    rcases hk with hk | hk <;> simp only [backG, hk, q2]
   cases o with
   | gone => trivial
   | nov v => exact hver.trans p2
   | cells cs =>
    obtain ⟨e1, C, E, e2, e3, e4⟩ := p2
    obtain ⟨f1, f2⟩ := hkeep b p1 (.inl e1)
    exact ⟨f1.trans e1, C, E, f2.trans e2, RelAll.mono hEG _ _ e3, e4⟩
   | lp s' j' f' tm' =>
    obtain ⟨e1, L, e2, e3, e4, e5⟩ := p2
    obtain ⟨f1, f2⟩ := hkeep b p1 (.inl e1)
    exact ⟨f1.trans e1, L, f2.trans e2, e3, e4, RelAll.mono hEG _ _ e5⟩
   | map es =>
    obtain ⟨e1, M, c, e2, e3, e4⟩ := p2
    obtain ⟨f1, f2⟩ := hkeep b p1 (.inl e1)
    exact ⟨f1.trans e1, M, c, f2.trans e2, RelAll.mono hEG _ _ e3, RelAll.mono hEG _ _ e4⟩
   | vec v cs =>
    obtain ⟨e0, b', e1, e2, C, E, e3, e4, e5⟩ := p2
    obtain ⟨f1, f2⟩ := hkeep b' e1 (.inr e2)
    exact ⟨hver.trans e0, b', Nat.lt_of_lt_of_le e1 hE.size, f1.trans e2, C, E, f2.trans e3, RelAll.mono hEG _ _ e4, e5⟩
  ·have : ∃ i, i < p ∧ τ i = k := by
    by_cases q1 : k < g.objs.length
    ·cases e : inv k with
     | none => exact absurd ⟨q1, e⟩ hki
     | some i =>
      obtain ⟨hi, rfl⟩ := hI.of k i e
      exact ⟨i, by omega, by show nx ρ n g.objs.length i = _; rw [nx, if_pos hi]⟩
    ·exact ⟨n + (k - g.objs.length), by omega, by show nx ρ n g.objs.length _ = _; rw [nx, if_neg (by omega)]; omega⟩
   obtain ⟨i, hi, rfl⟩ := this
   rw [hB.objs i hi] at hk
   have hoi : objs2[i]? = some (objs2[i]'(by omega)) := List.getElem?_eq_getElem _
   have := hnew i _ hi hoi
   rw [show st'.objs[τ i]? = _ from this] at ho
   cases ho
   obtain ⟨p1, p2⟩ := hs2.obj i b _ hk hoi
   exact ⟨p1, hB.ob hi p1 (ho2 i _ hi hoi) p2⟩
 ·rcases hcase b _ hb hk ⟨k, .inl rfl⟩ with ⟨h1, h2, _, h3⟩ | ⟨i, hi, ⟨h1, h2⟩ | ⟨h1, h2⟩⟩
  ·obtain ⟨o, k1, k2, k3⟩ := hs.back b k h1 h2
   have hkl := getElem?_lt k1
   refine ⟨o, by rw [hold k hkl (h3 k (.inl rfl))]; exact k1, ?_, k3⟩
   show (g.objs ++ _)[k]? = _
   rw [List.getElem?_append_left (getElem?_lt k2)]; exact k2
  ·simp only [BK.obj.injEq] at h2
   subst h2
   obtain ⟨o, k1, k2, k3⟩ := hs2.back b i hb h1
   refine ⟨renO τ o, hnew i o hi k1, (hB.objs i hi).trans k2, ?_⟩
   cases o <;> first | trivial | exact k3
  ·cases h2
 ·by_cases hb1 : b < w.heap.size
  ·have hk0 := hk
   rw [hGlt b hb1] at hk
   have : g.kind b = .row t := by
    unfold backG at hk
    split at hk
    ·split at hk
     ·unfold backK at hk
      split at hk
      ·split at hk <;> cases hk
      ·split at hk <;> cases hk
      ·cases hk
      ·rename_i h1 h2 h3; exact (h3 t hk).elim
     ·cases hk
    ·split at hk
     ·unfold backK at hk
      split at hk
      ·split at hk <;> cases hk
      ·split at hk <;> cases hk
      ·cases hk
      ·rename_i h1 h2 h3; exact (h3 t hk).elim
     ·cases hk
    ·exact hk
   rw [htk]
   exact hs.rowlt b t hb1 this
  ·rw [hGge b hb1] at hk
   unfold backK at hk
   split at hk
   ·split at hk <;> cases hk
   ·split at hk <;> cases hk
   ·cases hk
   ·rename_i h1 h2 h3; exact (h3 t hk).elim
 ·rcases hcase b _ hb hk ⟨k, .inr rfl⟩ with ⟨h1, h2, _, h3⟩ | ⟨i, hi, ⟨h1, h2⟩ | ⟨h1, h2⟩⟩
  ·obtain ⟨⟨v, cs, k1⟩, k2⟩ := hs.vec b k h1 h2
   have hkl := getElem?_lt k1
   have hin := h3 k (.inr rfl)
   refine ⟨⟨v, cs, by rw [hold k hkl hin]; exact k1⟩, fun b' hb' hk' => ?_⟩
   rcases hcase b' _ hb' hk' ⟨k, .inr rfl⟩ with ⟨q1, q2, _, _⟩ | ⟨i, hi, ⟨q1, q2⟩ | ⟨q1, q2⟩⟩
   ·exact k2 b' q1 q2
   ·cases q2
   ·simp only [BK.vec.injEq] at q2
    have := nx_lt hI (by rw [← hgl]; exact hkl) q2.symm
    rw [hin] at this; cases this
  ·cases h2
  ·simp only [BK.vec.injEq] at h2
   subst h2
   obtain ⟨⟨v, cs, k1⟩, k2⟩ := hs2.vec b i hb h1
   refine ⟨⟨v, renL τ cs, hnew i _ hi k1⟩, fun b' hb' hk' => ?_⟩
   rcases hcase b' _ hb' hk' ⟨_, .inr rfl⟩ with ⟨q1, q2, _, q3⟩ | ⟨j, hj, ⟨q1, q2⟩ | ⟨q1, q2⟩⟩
   ·have hin := q3 _ (.inr rfl)
    obtain ⟨⟨v', cs', k3⟩, _⟩ := hs.vec b' _ q1 q2
    have k4 : τ i < g.objs.length := by rw [← hgl]; exact getElem?_lt k3
    have := nx_lt hI k4 (i := i) rfl
    rw [hin] at this; cases this
   ·cases q2
   ·simp only [BK.vec.injEq] at q2
    have := nx_inj hI hl q2
    subst this
    exact k2 b' hb' q1
end
end Go.V
namespace Go.V
section
variable {P : Program}
def verO (o : Option Ob) : Option Nat :=
 match o with
 | some o => match o with
  | .vec v _ => some v
  | .nov v => some v
  | _ => none
 | none => none
def rgN (b : Option AV) (d : Nat) : Option Nat :=
 match b with
 | none => some d
 | some x => match x with
  | .ptr i _ => some (i + d)
  | _ => none
theorem verO_some {o : Option Ob} {v : Nat} (h : verO o = some v) : (∃ cs, o = some (.vec v cs)) ∨ o = some (.nov v) := by
 unfold verO at h
 split at h
 ·split at h
  ·cases h; exact .inl ⟨_, rfl⟩
  ·cases h; exact .inr rfl
  ·cases h
 ·cases h
theorem verO_lt {l : List Ob} {j v : Nat} (h : verO l[j]? = some v) : j < l.length := by
 rcases verO_some h with ⟨cs, h⟩ | h
 ·exact getElem?_lt h
 ·exact getElem?_lt h
theorem reg_moved {g : Gh} {st : St} {w w1 : World} {C : Array Value} {E : TypeId} (hs : StRel g st w) (hp : Push w w1 (.cells C E)) {j v : Nat} {cs : List AV} (hv : verO st.objs[j]? = some v) (hr : RelAll g w cs (C.toList.take cs.length)) (h1 : ∀ u ∈ C.toList.take cs.length, u.oneCell' = true) :
  ∃ g', StRel g' ⟨st.objs.set j (.vec (v + 1) cs), st.tk⟩ w1 ∧ Ev g w g' w1 ∧ (∀ c sz n, n ≤ c → c * sz ≤ C.size → okE sz E = true → Rel g' w1 (.vs j (v + 1) sz n) (.slice (some ⟨w.heap.size, 0, none⟩) n c)) ∧ ∀ off, Rel g' w1 (.vp j (v + 1) off) (.pointer (some ⟨w.heap.size, off, none⟩)) := by
 have hjl := verO_lt hv
 refine vec_moved (gos := g.objs) hs hp (fun o ho => ⟨v, ?_, Nat.lt_succ_self v⟩) (by rw [List.getElem?_eq_getElem (by rw [hs.len]; exact hjl)]; rfl) (fun _ _ h => h) (fun _ _ h => .inl h) (by simp [hs.len]) (List.getElem?_set_self hjl) (fun k hk => List.getElem?_set_ne (fun e => hk e.symm)) hr h1
 rcases verO_some hv with ⟨cs0, h⟩ | h
 ·rw [h] at ho; cases ho; exact .inl ⟨_, rfl⟩
 ·rw [h] at ho; cases ho; exact .inr rfl
def rgOps (b : Option Operand) : List Operand := b.toList
theorem rg_ev {ev ev' : Operand → AV} {xs : List Operand} {b : Option Operand} (h : ∀ x ∈ xs ++ rgOps b, ev x = ev' x) : b.map ev = b.map ev' := by
 cases b with
 | none => rfl
 | some x => simp only [Option.map_some, h x (by simp [rgOps])]
def aallocR (z : Value) (r : Option Nat) (st : St) (k : AV → St → Ans) : Ans :=
 match r with
 | some j => match verO st.objs[j]? with
  | some v => match cellsA (ofLit z) with
   | some cs => k (.vp j (v + 1) 0) ⟨st.objs.set j (.vec (v + 1) cs), st.tk⟩
   | none => none
  | none => none
 | none => none
def opAllocR (b : Option Operand) (d : Nat) (dst : Option Tmp) (T : TypeId) (z : Value) (hz : (P.info? T).bind (·.zero) = some z) (ty : TypeId) (pos : String) (after : Array Edge) : MSim P :=
 MSim.makes (mkOp dst (.alloc T) ty pos after) rfl ([] ++ rgOps b) (fun ev st k => aallocR z (rgN (b.map ev) d) st k) (fun ev ev' st k h => by rw [rg_ev h]) fun ev st k fin h g w a he hs => by
  unfold aallocR at h
  split at h
  ·rename_i j hj
   split at h
   ·rename_i v hv
    split at h
    ·rename_i cs hcs
     obtain ⟨h1, h1c⟩ := cellsA_rel hcs (ofLit_rel g w z)
     have e : z.cells.toList.take cs.length = z.cells.toList := List.take_of_length_le (by rw [RelAll.length _ _ h1]; exact Nat.le_refl _)
     obtain ⟨g', k1, k2, _, k4⟩ := reg_moved hs (Push.alloc w (.cells z.cells T)) hv (cs := cs) (by rw [e]; exact h1) (by rw [e]; exact h1c)
     exact ⟨_, _, _, g', _, h, by simp [execOp, mkOp, Instr.alloc, newVar, run_newRow, run_zeroValue' hz] <;> rfl, k4 0, k1, k2⟩
    ·cases h
   ·cases h
  ·cases h
noncomputable def amakeR (sz bytes : Nat) (zc : List AV) (r : Option Nat) (x : AV) (st : St) (k : AV → St → Ans) : Ans :=
 match x with
 | .int _ n => match mkOk bytes n with
  | true => match r with
   | some j => match verO st.objs[j]? with
    | some v => k (.vs j (v + 1) sz n.toNat) ⟨st.objs.set j (.vec (v + 1) (zerC n.toNat zc)), st.tk⟩
    | none => none
   | none => none
  | false => none
 | _ => none
noncomputable def opMakeR (b : Option Operand) (d : Nat) (dst : Option Tmp) (T : TypeId) (x : Operand) (e sz bytes : Nat) (z : Value) (hT : ElemOf P T e sz bytes z) (zc : List AV) (hz : cellsA (ofLit z) = some zc) (hsz : Nat.beq z.cells.size sz = true) (ty : TypeId) (pos : String) (after : Array Edge) (hok : okE sz e = true := by rfl) : MSim P :=
 MSim.makes (mkOp dst (.makeSlice T x x) ty pos after) rfl ([x] ++ rgOps b) (fun ev st k => amakeR sz bytes zc (rgN (b.map ev) d) (ev x) st k) (fun ev ev' st k h => by rw [rg_ev h, h x (by simp)]) fun ev st k fin h g w a he hs => by
  have hv := he x (by simp)
  unfold amakeR at h
  split at h
  ·rename_i kd n hx
   rw [hx] at hv
   have hv : a.eval x = .int kd n := hv
   split at h
   ·rename_i hc
    rw [mkOk_iff] at hc
    split at h
    ·rename_i j hj
     split at h
     ·rename_i v hvv
      obtain ⟨m, rfl⟩ : ∃ m : Nat, n = m := ⟨n.toNat, by omega⟩
      simp only [Int.toNat_natCast] at hc h
      have hsz := Nat.eq_of_beq_eq_true hsz
      have hpos := hT.pos
      have hm : m ≤ 281474976710656 := Nat.le_trans (Nat.le_mul_of_pos_left _ (Nat.pos_of_ne_zero hpos)) hc.2
      rw [zerC, opq_eq] at h
      obtain ⟨h1, h1c⟩ := cellsA_rel hz (ofLit_rel g w z)
      have hlist : (madeCells z.cells (m * sz)).toList = (List.replicate m z.cells.toList).flatten := by rw [← hsz]; exact madeCells_list _ _
      have hone : ∀ u ∈ (madeCells z.cells (m * sz)).toList, u.oneCell' = true := by
       intro u hm
       rw [hlist] at hm
       obtain ⟨l, hl1, hl2⟩ := List.mem_flatten.mp hm
       rw [List.eq_of_mem_replicate hl1] at hl2
       exact h1c u hl2
      have e1 : (madeCells z.cells (m * sz)).toList.take (List.replicate m zc).flatten.length = (madeCells z.cells (m * sz)).toList := List.take_of_length_le (by rw [RelAll.length _ _ (h1.rep m), ← hlist]; exact Nat.le_refl _)
      obtain ⟨g', k1, k2, k3, _⟩ := reg_moved hs (Push.alloc w (.cells (madeCells z.cells (m * sz)) e)) hvv (cs := (List.replicate m zc).flatten) (by rw [e1, hlist]; exact h1.rep m) (by rw [e1]; exact hone)
      refine ⟨_, .slice (some ⟨w.heap.size, 0, none⟩) m m, _, g', w.alloc (.cells (madeCells z.cells (m * sz)) e), h, ?_, k3 m sz m (Nat.le_refl _) ?_ hok, k1, k2⟩
      ·simp [execOp, mkOp, hv, runs_make hT w kd m (by simpa using hc.2) (by simp; omega)]
      ·have e2 : (madeCells z.cells (m * sz)).size = (madeCells z.cells (m * sz)).toList.length := by simp
       rw [e2, hlist]
       simp [List.length_flatten, hsz]
     ·cases h
    ·cases h
   ·cases h
  ·cases h
noncomputable def aappR (sz bytes : Nat) (r : Option Nat) (s x : AV) (st : St) (k : AV → St → Ans) : Ans :=
 match s with
 | .nilsl => match rowsT sz x st with
  | none => none
  | some rows => match apOk rows.length bytes with
   | true => match Nat.beq rows.length 0 with
    | true => k .nilsl st
    | false => match r with
     | some j => match verO st.objs[j]? with
      | some v => k (.vs j (v + 1) sz rows.length) ⟨st.objs.set j (.vec (v + 1) (catC [] 0 rows)), st.tk⟩
      | none => none
     | none => none
   | false => none
 | s => aappV sz bytes s x st k
theorem aappR_nat (sz bytes : Nat) (r : Option Nat) (s x : AV) (st : St) (k : AV → St → Ans) : aappR sz bytes r s x st k = thenM (aappR sz bytes r s x st retM) k := by
 unfold aappR
 split
 ·split
  ·rfl
  ·split
   ·split
    ·rfl
    ·split
     ·split <;> rfl
     ·rfl
   ·rfl
 ·exact aappV_nat _ _ _ _ _ _
theorem aappR_run {T X e sz bytes : Nat} {z : Value} (hok : okE sz e = true) (hT : ElemOf P T e sz bytes z) {dx : TypeDesc} (hX : P.underlying X = some dx) (hdx : isSeq dx = true) (ty : TypeId) {g : Gh} {st : St} {w : World} (hs : StRel g st w) {S Y : AV} {s x : Value} (hS : Rel g w S s) (hY : Rel g w Y x) {r : Option Nat} {k : AV → St → Ans} {fin : Fin × St} (h : aappR sz bytes r S Y st k = some fin) :
  ∃ r v st' g' w', k r st' = some fin ∧ (Builtin.append_ #[T, X] ty #[s, x]).run P w = .ok v w' ∧ Rel g' w' r v ∧ StRel g' st' w' ∧ Ev g w g' w' := by
 have hzc : ∀ n, (Builtin.zeroCells z.cells n).toList.length = n * sz := fun n => by rw [Array.length_toList (xs := Builtin.zeroCells z.cells n), size_zeroCells, hT.cells]
 unfold aappR at h
 split at h
 ·obtain rfl : s = .slice none 0 0 := hS
  split at h
  ·cases h
  ·rename_i rows hrows
   obtain ⟨news, h1, h2, h3, h4, h5, h6⟩ := rowsA_run (P := P) hs hY (rowsT_rowsA hrows)
   split at h
   ·rename_i hc
    rw [apOk_iff] at hc
    split at h
    ·rename_i h0
     have h0 := Nat.eq_of_beq_eq_true h0
     have hn : news = [] := List.eq_nil_of_length_eq_zero (by rw [h4, h0, Nat.zero_mul])
     have := run_append_fits (P := P) (p := none) (n := 0) (cap := 0) hT hX hdx ty h5 (h6 w rfl) (by omega)
     refine ⟨_, _, _, g, w, h, this, ?_, hs, Ev.refl g w⟩
     rw [h0]; rfl
    ·rename_i h0
     have h0 : rows.length ≠ 0 := by intro e; rw [e] at h0; cases h0
     split at h
     ·rename_i j
      split at h
      ·rename_i v hv
       rw [catC, opq_eq, List.take_nil, List.nil_append] at h
       have hrun := run_append_grows (P := P) (p := none) (n := 0) (cap := 0) (olds := []) hT hX hdx ty h5 (fun w' _ => by simp [Builtin.firstCells]) h6 (by omega) (by simpa using hc)
       rw [List.nil_append, Nat.zero_add] at hrun
       have hge := grownCap_ge w rows.length 0 e
       have hlen : rows.flatten.length = news.length := RelAll.length _ _ h1
       obtain ⟨g', k1, k2, k3, _⟩ := reg_moved hs (Push.drew w (.cells (news ++ (Builtin.zeroCells z.cells (grownCap w rows.length 0 e - rows.length)).toList).toArray e)) hv (cs := rows.flatten)
        (by rw [hlen, List.toList_toArray, List.take_left]; exact h1) (fun u hu => by
         rw [hlen, List.toList_toArray, List.take_left] at hu
         exact h3 u hu)
       refine ⟨_, _, _, g', _, h, hrun, k3 _ sz _ hge ?_ hok, k1, k2⟩
       rw [List.size_toArray, List.length_append, hzc, h4, ← Nat.add_mul]
       exact Nat.mul_le_mul_right _ (by omega)
      ·cases h
     ·cases h
   ·cases h
 ·exact aappV_run hok hT hX hdx ty hs hS hY h
noncomputable def opAppendR (b : Option Operand) (d : Nat) (dst : Option Tmp) (s x : Operand) (T X e sz bytes : Nat) (z : Value) (hT : ElemOf P T e sz bytes z) (dx : TypeDesc) (hX : P.underlying X = some dx) (hdx : isSeq dx = true) (ty : TypeId) (pos : String) (after : Array Edge) (hok : okE sz e = true := by rfl) : MSim P :=
 MSim.makes (mkOp dst (.call { callee := .builtin .append, args := #[s, x], argTypes := #[T, X] }) ty pos after) rfl ([s, x] ++ rgOps b) (fun ev st k => aappR sz bytes (rgN (b.map ev) d) (ev s) (ev x) st k) (fun ev ev' st k h => by rw [rg_ev h, h s (by simp), h x (by simp)]) fun ev st k fin h g w a he hs => by
  obtain ⟨r, v, st', g', w', h1, h2, h3⟩ := aappR_run (P := P) hok hT hX hdx ty hs (he s (by simp)) (he x (by simp)) h
  refine ⟨r, v, st', g', w', h1, ?_, h3⟩
  rw [callBuiltin]
  simp only [builtin, List.map_toArray, List.map_cons, List.map_nil, Sem.run_bind, h2]
  rfl
theorem opAppendR_nat {b : Option Operand} {d : Nat} {dst : Option Tmp} {s x : Operand} {T X e sz bytes : Nat} {z : Value} {hT : ElemOf P T e sz bytes z} {dx : TypeDesc} {hX : P.underlying X = some dx} {hdx : isSeq dx = true} {ty : TypeId} {pos : String} {after : Array Edge} {hok : okE sz e = true} : (opAppendR (P := P) b d dst s x T X e sz bytes z hT dx hX hdx ty pos after hok).NatM := fun ev st k => aappR_nat _ _ _ _ _ _ _
theorem reg_freed {g : Gh} {st : St} {w : World} (hs : StRel g st w) {j v : Nat} {cs : List AV} (hcs : st.objs[j]? = some (.vec v cs)) :
  ∃ g' b C E, StRel g' ⟨st.objs.set j (.nov (v + 1)), st.tk⟩ w ∧ Ev g w g' w ∧ g'.kind b = .solid ∧ w.heap[b]? = some (.cells C E (0, 0)) ∧ RelAll g w cs (C.toList.take cs.length) ∧ (∀ u ∈ C.toList.take cs.length, u.oneCell' = true) ∧ g.kind b = .vec j ∧ b < w.heap.size := by
 have hjl : j < g.objs.length := by rw [hs.len]; exact getElem?_lt hcs
 obtain ⟨hver, b, hb, hkb, C, E, hC, hr, hrc⟩ := vec_of hs hjl hcs
 have huniq := (hs.vec b j hb hkb).2
 let g' : Gh := ⟨fun x => if x = b then .solid else g.kind x, g.objs, g.tk, fun x => if x = j then v + 1 else g.ver x⟩
 have hk : ∀ x, g.kind x ≠ .vec j → g'.kind x = g.kind x := fun x hx => by simp only [g']; rw [if_neg (fun e => hx (by rw [e]; exact hkb))]
 have hback : ∀ x y, x < w.heap.size → g'.kind x = y → y ≠ .solid → g.kind x = y ∧ y ≠ .vec j := by
  intro x y hs' hx hy
  simp only [g'] at hx
  split at hx
  ·exact absurd hx.symm hy
  ·rename_i h; exact ⟨hx, fun e => h (huniq x hs' (hx.trans e))⟩
 have hE : Ev g w g' w := by
  refine ⟨rfl, rfl, rfl, Nat.le_refl _, fun x hx hf => ⟨?_, rfl⟩, fun x t hx hf => ⟨?_, fun C E fz h => ⟨C, h, rfl, fun _ _ => rfl⟩⟩, fun x k hx hf => .inl ?_, fun _ _ h => h, tk_refl _, fun k hk => ?_, fun x k hx hkl hf hv => ⟨?_, fun C E fz h => ⟨C, h, rfl⟩⟩, fun _ C _ fz h => ⟨C, fz, h, rfl⟩⟩
  ·exact hk x (by intro e; rw [e] at hf; cases hf)
  ·exact (hk x (by intro e; rw [e] at hf; cases hf)).trans hf
  ·exact (hk x (by intro e; rw [e] at hf; cases hf)).trans hf
  ·simp only [g']
   split
   ·rename_i e; subst e; omega
   ·exact Nat.le_refl _
  ·refine (hk x ?_).trans hf
   intro e
   rw [e] at hf
   cases hf
   simp only [g', if_true] at hv
   omega
 refine ⟨g', b, C, E, ⟨hs.tk, by simp [g', hs.len], fun k b' o hk' ho => ?_, fun x k hx hf => ?_, fun x t hx hf => ?_, fun x k hx hf => ?_, hs.glob.mono hE⟩, hE, by simp [g', hkb], hC, hr, hrc, hkb, hb⟩
 ·by_cases hkj : k = j
  ·subst hkj
   rw [List.getElem?_set_self (getElem?_lt hcs)] at ho
   cases ho
   exact ⟨(hs.obj k b' _ hk' hcs).1, by show (if k = k then v + 1 else _) = _; rw [if_pos rfl]⟩
  ·rw [List.getElem?_set_ne (fun e => hkj e.symm)] at ho
   obtain ⟨p1, p2⟩ := hs.obj k b' o hk' ho
   refine ⟨p1, ?_⟩
   have hver' : g'.ver k = g.ver k := by show (if k = j then v + 1 else _) = _; rw [if_neg hkj]
   have hv : ∀ b'', b'' < w.heap.size → g.kind b'' = .vec k → w.heap[b'']? = w.heap[b'']? ∧ g'.kind b'' = .vec k := fun b'' _ hh =>
    ⟨rfl, (hk b'' (by rw [hh]; intro e; cases e; exact hkj rfl)).trans hh⟩
   cases o with
   | gone => trivial
   | nov v => exact hver'.trans p2
   | cells cs' => exact p2.keep hE rfl (hk b' (by rw [p2.1]; intro e; cases e)) hv hver'
   | map es => exact p2.keep hE rfl (hk b' (by rw [p2.1]; intro e; cases e)) hv hver'
   | lp _ _ _ _ => exact p2.keep hE rfl (hk b' (by rw [p2.1]; intro e; cases e)) hv hver'
   | vec v cs' =>
    obtain ⟨e1, b'', e2, e3, C1, E1, e4, e5, e6⟩ := p2
    obtain ⟨_, f2⟩ := hv b'' e2 e3
    exact ⟨hver'.trans e1, b'', e2, f2, C1, E1, e4, RelAll.mono hE _ _ e5, e6⟩
 ·obtain ⟨k1, _⟩ := hback x _ hx hf (by intro e; cases e)
  obtain ⟨o, k3, k4, k5⟩ := hs.back x k hx k1
  have hkj : k ≠ j := by intro e; subst e; rw [hcs] at k3; cases k3; exact k5.elim
  exact ⟨o, by rw [List.getElem?_set_ne (fun e => hkj e.symm)]; exact k3, k4, k5⟩
 ·obtain ⟨k1, _⟩ := hback x _ hx hf (by intro e; cases e)
  exact hs.rowlt x t hx k1
 ·obtain ⟨k1, k2⟩ := hback x _ hx hf (by intro e; cases e)
  obtain ⟨⟨v', cs', k3⟩, k4⟩ := hs.vec x k hx k1
  have hkj : k ≠ j := by intro e; subst e; exact k2 rfl
  refine ⟨⟨v', cs', by rw [List.getElem?_set_ne (fun e => hkj e.symm)]; exact k3⟩, fun x' hx' hf' => ?_⟩
  obtain ⟨k5, _⟩ := hback x' _ hx' hf' (by intro e; cases e)
  exact k4 x' hx' k5
noncomputable def afree (x : AV) (st : St) (k : AV → St → Ans) : Ans :=
 match x with
 | .vs j v sz n => match st.objs[j]? with
  | some (.vec v' cs) => match Nat.beq v v' && inC cs 0 (mulN n sz) with
   | true => k (.ns false sz (rowsC sz n cs 0)) ⟨st.objs.set j (.nov (v' + 1)), st.tk⟩
   | false => none
  | _ => none
 | .ms j sz o n cap => match st.objs[j]? with
  | some (.cells cs) => match inC cs o (mulN n sz) with
   | true => k (.ns false sz (rowsC sz n cs o)) ⟨st.objs.set j .gone, st.tk⟩
   | false => none
  | _ => none
 | _ => none
theorem afree_rel {g : Gh} {st : St} {w : World} (hs : StRel g st w) {x : AV} {v : Value} (hv : Rel g w x v) {k : AV → St → Ans} {fin : Fin × St} (h : afree x st k = some fin) : ∃ r st' g', k r st' = some fin ∧ Rel g' w r v ∧ StRel g' st' w ∧ Ev g w g' w := by
 unfold afree at h
 split at h
 ·rename_i j ve sz n
  split at h
  ·rename_i v' cs hcs
   split at h
   ·rename_i hc
    rw [Bool.and_eq_true] at hc
    obtain rfl := Nat.eq_of_beq_eq_true hc.1
    have hin := hc.2
    have hrows := rowsC_some hin
    rw [List.drop_zero] at hrows
    obtain ⟨b, c, rfl, hle, hj, _, hb⟩ := hv
    obtain ⟨g', b', C, E, k1, k2, k3, k4, k5, k6, k7, k8⟩ := reg_freed hs hcs
    obtain ⟨hk, C', E', fz', hC', _⟩ := hb (by have := (vec_of hs hj hcs).1; omega)
    obtain rfl := (hs.vec b' j k8 k7).2 b (lt_of_block hC') hk
    obtain ⟨e1, e2, e3⟩ := rowsOf_list sz n _ _ hrows
    refine ⟨_, _, g', h, .inr ⟨rfl, b, 0, none, c, by rw [e1], by rw [e1]; exact hle, .inl rfl, ?_⟩, k1, k2⟩
    refine RelRows.of sz _ ((C.toList.take cs.length).take (n * sz)) b 0 e2 (by rw [e3]; exact RelAll.mono k2 _ _ (RelAll.take _ _ _ k5)) fun i u hi => ?_
    rw [List.getElem?_take] at hi
    split at hi
    ·refine ⟨?_, by simp [Gh.prot, k3], k6 u (List.mem_of_getElem? hi)⟩
     rw [cell_of k4, Nat.zero_add]
     rw [List.getElem?_take] at hi
     split at hi
     ·simpa using hi
     ·cases hi
    ·cases hi
   ·cases h
  ·cases h
 ·rename_i j sz o n cap
  split at h
  ·rename_i cs hcs
   split at h
   ·rename_i hc
    obtain ⟨b, hg, rfl, hle⟩ := hv
    obtain ⟨_, C, E, hC, _⟩ := ob_of hs hg hcs
    obtain ⟨g', k1, k2, k3⟩ := frozen_obj (w' := w) hs hg hcs hC rfl rfl rfl rfl (fun _ _ => rfl) hC
    obtain ⟨b', o', sp, cap', q1, q2, _, q3, q4⟩ := k3 sz o n cap _ hle (rowsC_some hc)
    exact ⟨_, _, g', h, .inr ⟨rfl, b', o', sp, cap', q1, q2, q3, q4⟩, k1, k2⟩
   ·cases h
  ·cases h
 ·cases h
noncomputable def opMoveZ (dst : Option Tmp) (x : Operand) (ty : TypeId) (pos : String) (after : Array Edge) : MSim P :=
 MSim.makes (mkOp dst (.move x) ty pos after) rfl [x] (fun ev st k => afree (ev x) st k) (fun ev ev' st k h => by simp only [h x (by simp)]) fun ev st k fin h g w a he hs => by
  obtain ⟨r, st', g', k1, k2, k3, k4⟩ := afree_rel hs (he x (by simp)) h
  exact ⟨r, _, st', g', w, k1, rfl, k2, k3, k4⟩
noncomputable def acopyV (sz : Nat) (d s : AV) (st : St) (k : AV → St → Ans) : Ans :=
 match d with
 | .vs j v s' n => match Nat.beq s' sz with
  | true => match rowsT sz s st with
   | some rows => match st.objs[j]? with
    | some (.vec v' cs) => match Nat.beq v v' && inC cs 0 (mulN (minN rows.length n) sz) with
     | true => k (.int .i64 (minN rows.length n : Nat)) ⟨st.objs.set j (.vec v (setC cs 0 (flC rows (minN rows.length n)))), st.tk⟩
     | false => none
    | _ => none
   | none => none
  | false => none
 | d => acopy sz d s st k
theorem acopyV_nat (sz : Nat) (d s : AV) (st : St) (k : AV → St → Ans) : acopyV sz d s st k = thenM (acopyV sz d s st retM) k := by
 unfold acopyV
 split
 ·split
  ·split
   ·split
    ·split <;> rfl
    ·rfl
   ·rfl
  ·rfl
 ·exact acopy_nat _ _ _ _ _
noncomputable def opCopyV (dst : Option Tmp) (d s : Operand) (T X e sz : Nat) (hT : P.underlying T = some (.slice e)) (hz : (P.info? e).map (·.size) = some sz) (ty : TypeId) (pos : String) (after : Array Edge) : MSim P :=
 ⟨mkOp dst (.call { callee := .builtin .copy, args := #[d, s], argTypes := #[T, X] }) ty pos after, rfl, [d, s], fun ev st k => acopyV sz (ev d) (ev s) st k, fun ev ev' st k h => by simp only [h d (by simp), h s (by simp)], fun ev st k fin h g w a he hs => by
  have hv := he d (by simp)
  have hx := he s (by simp)
  unfold acopyV at h
  split at h
  ·rename_i j v s' n hd
   split at h
   ·rename_i hsz
    obtain rfl : s' = sz := by simpa using hsz
    rw [hd] at hv
    split at h
    ·rename_i rows hrows
     split at h
     ·rename_i v' cs hcs
      split at h
      ·rename_i hin
       rw [Bool.and_eq_true] at hin
       obtain rfl := Nat.eq_of_beq_eq_true hin.1
       have hin := hin.2
       rw [inC_iff, mulN, opq_eq, minN, opq_eq, Nat.zero_add] at hin
       rw [minN, opq_eq, setC, opq_eq, flC, opq_eq] at h
       obtain ⟨vs, k1, k2, k3, k4, k5⟩ := rowsA_first (P := P) hs hx (rowsT_rowsA hrows) (min rows.length n) (by omega)
       have hl := RelAll.length _ _ k1
       obtain ⟨b, cap, hv, hle, hj, hve, hb⟩ := hv
       have hp : Rel g w (.vp j v 0) (.pointer (some ⟨b, 0, none⟩)) := ⟨b, rfl, hj, hve, fun e => by
        obtain ⟨q1, C, E, fz, q2, _⟩ := hb e
        exact ⟨q1, lt_of_block q2⟩⟩
       obtain ⟨b', g', w', s0, s1, s2, s3⟩ := store_vec (P := P) hs hp hcs k1 k2 (by rw [hl, k3, Nat.zero_add]; exact hin)
       cases s0
       refine ⟨_, _, h, told_value (g' := g') (w' := w') (v := .int .i64 (min rows.length n : Nat)) ?_ rfl s2 s3⟩
       rw [callBuiltin]
       have hrun : (Builtin.copy_ #[T, X] ty #[a.eval d, a.eval s]).run P w = .ok (.int .i64 (min rows.length n : Nat)) w' := by
        unfold Builtin.copy_
        simp only [List.getElem?_toArray, List.getElem?_cons_zero, List.getElem?_cons_succ, Sem.run_bind, run_underlying hT w, Result.andThen_ok, hv, k4, run_sizeOf' hz w]
        rw [show Nat.min rows.length n = min rows.length n from rfl, k5]
        simp only [Result.andThen_ok, s1, Sem.run_pure, goInt]
       simp [builtin, hrun]
      ·cases h
     ·cases h
    ·cases h
   ·cases h
  ·exact (opCopy dst d s T X e sz hT hz ty pos after).sound ev st k fin h g w a he hs⟩
theorem opCopyV_nat {dst : Option Tmp} {d s : Operand} {T X e sz : Nat} {hT : P.underlying T = some (.slice e)} {hz : (P.info? e).map (·.size) = some sz} {ty : TypeId} {pos : String} {after : Array Edge} : (opCopyV (P := P) dst d s T X e sz hT hz ty pos after).NatM := fun ev st k => acopyV_nat _ _ _ _ _
end
end Go.V
namespace Go.V
section
variable {P : Program}
theorem more_nov {g : Gh} {st : St} {w : World} (hs : StRel g st w) {b0 : Nat} (hb0 : b0 < w.heap.size) (m : Nat) : ∃ g', StRel g' ⟨st.objs ++ List.replicate m (.nov 0), st.tk⟩ w ∧ Ev g w g' w := by
 let g' : Gh := ⟨g.kind, g.objs ++ List.replicate m b0, g.tk, fun x => if x < g.objs.length then g.ver x else 0⟩
 have hE : Ev g w g' w := by
  refine ⟨rfl, rfl, rfl, Nat.le_refl _, fun _ _ _ => ⟨rfl, rfl⟩, fun _ _ _ h => ⟨h, fun C _ _ hb => ⟨C, hb, rfl, fun _ _ => rfl⟩⟩, fun _ _ _ h => .inl h, fun k b hk => ?_, tk_refl _, fun k hk => ?_, fun _ _ _ _ h _ => ⟨h, fun C _ _ hb => ⟨C, hb, rfl⟩⟩, fun _ C _ fz h => ⟨C, fz, h, rfl⟩⟩
  ·show (g.objs ++ _)[k]? = _
   rw [List.getElem?_append_left (getElem?_lt hk)]; exact hk
  ·show g.ver k ≤ if k < g.objs.length then g.ver k else 0
   rw [if_pos hk]; exact Nat.le_refl _
 refine ⟨g', ⟨hs.tk, by simp [g', hs.len], fun k b o hk ho => ?_, fun b k hb hk => ?_, fun b t hb hk => hs.rowlt b t hb hk, fun b k hb hk => ?_, hs.glob.mono hE⟩, hE⟩
 ·by_cases hkl : k < st.objs.length
  ·rw [List.getElem?_append_left hkl] at ho
   have hk : (g.objs ++ List.replicate m b0)[k]? = some b := hk
   rw [List.getElem?_append_left (by rw [hs.len]; exact hkl)] at hk
   obtain ⟨p1, p2⟩ := hs.obj k b o hk ho
   refine ⟨p1, ?_⟩
   have hver : g'.ver k = g.ver k := by show (if k < g.objs.length then _ else _) = _; rw [if_pos (by rw [hs.len]; exact hkl)]
   cases o with
   | gone => trivial
   | nov v => exact hver.trans p2
   | cells cs' => exact p2.keep hE rfl rfl (fun b' hb' hh => ⟨rfl, hh⟩) hver
   | map es => exact p2.keep hE rfl rfl (fun b' hb' hh => ⟨rfl, hh⟩) hver
   | lp _ _ _ _ => exact p2.keep hE rfl rfl (fun b' hb' hh => ⟨rfl, hh⟩) hver
   | vec v cs' =>
    obtain ⟨e1, b'', e2, e3, C1, E1, e4, e5, e6⟩ := p2
    exact ⟨hver.trans e1, b'', e2, e3, C1, E1, e4, RelAll.mono hE _ _ e5, e6⟩
  ·rw [List.getElem?_append_right (by omega)] at ho
   have hk : (g.objs ++ List.replicate m b0)[k]? = some b := hk
   rw [List.getElem?_append_right (by rw [hs.len]; omega)] at hk
   rw [List.getElem?_replicate] at ho hk
   split at ho
   ·cases ho
    split at hk
    ·cases hk
     refine ⟨hb0, ?_⟩
     show (if k < g.objs.length then _ else _) = _
     rw [if_neg (by rw [hs.len]; exact hkl)]
    ·cases hk
   ·cases ho
 ·obtain ⟨o, h1, h2, h3⟩ := hs.back b k hb hk
  refine ⟨o, by rw [List.getElem?_append_left (getElem?_lt h1)]; exact h1, ?_, h3⟩
  show (g.objs ++ _)[k]? = _
  rw [List.getElem?_append_left (getElem?_lt h2)]; exact h2
 ·obtain ⟨⟨v, cs, h1⟩, h2⟩ := hs.vec b k hb hk
  exact ⟨⟨v, cs, by rw [List.getElem?_append_left (getElem?_lt h1)]; exact h1⟩, h2⟩
def aph (m : Nat) (st : St) (k : St → Ans) : Ans :=
 match st.objs with
 | [] => none
 | _ :: _ => k ⟨st.objs ++ List.replicate m (.nov 0), st.tk⟩
def MSim.ph (x : MSim P) (m : Nat) : MSim P where
 oper := x.oper
 plain := x.plain
 xs := x.xs
 f ev st k := x.f ev st fun r st' => aph m st' fun st'' => k r st''
 congr ev ev' st k h := x.congr ev ev' st _ h
 sound ev st k fin h g w a he hs := by
  obtain ⟨r, st', h1, h2⟩ := x.sound ev st _ fin h g w a he hs
  unfold aph at h1
  split at h1
  ·cases h1
  ·rename_i o os ho
   refine ⟨r, _, h1, fun next Q hn => h2 next Q fun v g' w' k1 k2 k3 => ?_⟩
   have hl : 0 < g'.objs.length := by rw [k2.len, ho]; simp
   have hb := (k2.obj 0 _ o (List.getElem?_eq_getElem hl) (by rw [ho]; rfl)).1
   obtain ⟨g'', q1, q2⟩ := more_nov k2 hb m
   exact hn v g'' w' (Rel.mono q2 _ _ k1) q1 (k3.trans q2)
structure OpSim2 (P : Program) where
 o1 : Oper
 o2 : Oper
 plain1 : o1.guard = none
 plain2 : o2.guard = none
 run : Cont → Env → St → Ans
 sound : ∀ K env st fin, run K env st = some fin → ∀ g w a, EnvRel g w env a → StRel g st w → ∀ next Q, Post K fin g w a.defers (Exit.then next Q) →
  ∀ ρ, ∀ N : Act → World → Prop, (∀ a w, o2.wpIn (Rd ρ) 0 P a w next Q → N a w) → o1.wpIn (Rd ρ) 0 P a w N Q
structure OpSim3 (P : Program) where
 o1 : Oper
 o2 : Oper
 o3 : Oper
 plain1 : o1.guard = none
 plain2 : o2.guard = none
 plain3 : o3.guard = none
 run : Cont → Env → St → Ans
 sound : ∀ K env st fin, run K env st = some fin → ∀ g w a, EnvRel g w env a → StRel g st w → ∀ next Q, Post K fin g w a.defers (Exit.then next Q) →
  ∀ ρ, ∀ N M : Act → World → Prop, (∀ a w, o3.wpIn (Rd ρ) 0 P a w next Q → M a w) → (∀ a w, o2.wpIn (Rd ρ) 0 P a w M Q → N a w) → o1.wpIn (Rd ρ) 0 P a w N Q
inductive Item (P : Program) where
 | one (o : OpSim P)
 | two (o : OpSim2 P)
 | three (o : OpSim3 P)
def Item.opers : Item P → List Oper
 | .one o => [o.oper]
 | .two o => [o.o1, o.o2]
 | .three o => [o.o1, o.o2, o.o3]
def runItems : List (Item P) → Cont → Env → St → Ans
 | [], K, env, st => K .normal env st
 | .one o :: r, K, env, st => o.run (Cont.then (runItems r K) K) env st
 | .two o :: r, K, env, st => o.run (Cont.then (runItems r K) K) env st
 | .three o :: r, K, env, st => o.run (Cont.then (runItems r K) K) env st
theorem wanted_plain {o : Oper} (h : o.guard = none) (f : Nat → Option Bool) : Region.wanted o f = true := by simp [Region.wanted, h]
theorem wpList_cons {ops : Array Oper} {Q : Exit → Act → World → Prop} {o : Oper} (h : o.guard = none) {r : List Oper} {a : Act} {w : World} {ρ : Option Nat} (hw : o.wpIn (Rd ρ) 0 P a w (wpListIn (Rd ρ) 0 P ops Q r) Q) : wpListIn (Rd ρ) 0 P ops Q (o :: r) a w := by
 unfold wpListIn
 rw [if_pos (wanted_plain h _)]
 exact hw
theorem runItems_sound (ops : Array Oper) : ∀ (l : List (Item P)) (K : Cont) (env : Env) (st : St) (fin : Fin × St), runItems l K env st = some fin → ∀ g w a, EnvRel g w env a → StRel g st w → ∀ Q, Post K fin g w a.defers Q → ∀ ρ,
  wpListIn (Rd ρ) 0 P ops Q (l.flatMap Item.opers) a w
 | [], K, env, st, fin, h, g, w, a, he, hs, Q, hp, ρ => hp .normal env st g w a .normal h he hs (Ev.refl g w) (.refl ..) rfl
 | x :: l, K, env, st, fin, h, g, w, a, he, hs, Q, hp, ρ => by
  have ih := runItems_sound ops l K
  have step : Post (Cont.then (runItems l K) K) fin g w a.defers (Exit.then (wpListIn (Rd ρ) 0 P ops Q (l.flatMap Item.opers)) Q) := by
   intro ex env' st' g' w' a' e k1 k2 k3 k4 k5 k6
   cases ex with
   | normal =>
    obtain rfl := k6
    exact ih env' st' fin k1 g' w' a' k2 k3 Q (hp.later2 k4 k5) ρ
   | exit id => obtain rfl := k6; exact hp _ _ _ _ _ _ _ k1 k2 k3 k4 k5 rfl
   | goto id => obtain rfl := k6; exact hp _ _ _ _ _ _ _ k1 k2 k3 k4 k5 rfl
   | ret => obtain rfl := k6; exact hp _ _ _ _ _ _ _ k1 k2 k3 k4 k5 rfl
   | panic v => obtain ⟨u, rfl, k7⟩ := k6; exact hp _ _ _ _ _ _ _ k1 k2 k3 k4 k5 ⟨u, rfl, k7⟩
  cases x with
  | one o => exact wpList_cons o.plain (o.sound _ env st fin h g w a he hs _ _ step ρ)
  | two o => exact wpList_cons o.plain1 (o.sound _ env st fin h g w a he hs _ _ step ρ _ fun a w hw => wpList_cons o.plain2 hw)
  | three o => exact wpList_cons o.plain1 (o.sound _ env st fin h g w a he hs _ _ step ρ _ _ (fun a w hw => wpList_cons o.plain3 hw) fun a w hw => wpList_cons o.plain2 hw)
def Sim.items (id : Nat) (l : List (Item P)) : Sim P where
 code := .region id (l.flatMap Item.opers).toArray false
 run F K env st := runItems l K env st
 sound F K env st fin hr g w a he hs Q hp ρ _ := by
  refine wpIn_region_list ?_
  have := runItems_sound (l.flatMap Item.opers).toArray l K env st fin hr g w a he hs Q hp ρ
  simpa using this
theorem setV_all : ∀ (L vs : List Value), vs.length = L.length → setV L 0 vs = vs
 | [], [], _ => rfl
 | l :: L, v :: vs, h => by
  have ih := setV_all L vs (by simpa using h)
  simp [setV, ih]
theorem alloc_setRow (w : World) (C D : Array Value) (E : TypeId) : (w.alloc (.cells C E)).setRow w.heap.size D = w.alloc (.cells D E) := by
 unfold World.setRow World.alloc
 congr 1
 apply Array.ext'
 apply List.ext_getElem?
 intro i
 rw [Array.getElem?_toList, Array.getElem?_toList, Array.getElem?_modify, Array.getElem?_push, Array.getElem?_push]
 by_cases h : i = w.heap.size
 ·subst h; simp
 ·rw [if_neg (fun e => h e.symm), if_neg h, if_neg h]
def apartT (x : Operand) (t : Tmp) : Bool :=
 match x with
 | .tmp s => !Nat.beq s t
 | .global _ => false
 | _ => true
theorem eval_put {a : Act} {x : Operand} {t : Tmp} {v : Value} (h : apartT x t = true) : (a.put (some t) v).eval x = a.eval x := by
 cases x with
 | tmp s =>
  have hne : t ≠ s := by
   intro e
   subst e
   simp [apartT] at h
  show ((a.tmps.setIfInBounds t v).getD s undef) = a.tmps.getD s undef
  simp only [Array.getD_eq_getD_getElem?, Array.getElem?_setIfInBounds, if_neg hne]
 | const v => rfl
 | func f => rfl
 | global g => cases h
def op2Box (dst : Tmp) (T : TypeId) (z : Value) (hz : (P.info? T).bind (·.zero) = some z) (x : Operand) (hx : apartT x dst = true) (sz : Nat) (hsz : (P.info? T).map (·.size) = some sz) (hzs : Nat.beq z.cells.size sz = true) (n : Nat) (hn : Nat.blt dst n = true) (ty ty' : TypeId) (pos pos' : String) (after after' : Array Edge) : OpSim2 P where
 o1 := mkOp (some dst) (.alloc T) ty pos after
 o2 := mkOp none (.store T (.tmp dst) x) ty' pos' after'
 plain1 := rfl
 plain2 := rfl
 run K env st := match Nat.beq env.n n with
  | true => match cellsA (env.eval x) with
   | some cs => match Nat.beq cs.length sz with
    | true => K .normal (env.put dst (.eptr cs)) st
    | false => none
   | none => none
  | false => none
 sound K env st fin h g w a he hs next Q hp ρ N hN := by
  split at h
  ·rename_i hen
   have hen := Nat.eq_of_beq_eq_true hen
   split at h
   ·rename_i cs hcs
    split at h
    ·rename_i hlen
     have hlen := Nat.eq_of_beq_eq_true hlen
     have hzs := Nat.eq_of_beq_eq_true hzs
     obtain ⟨h1, h1c⟩ := cellsA_rel hcs (he.eval x)
     have hl := RelAll.length _ _ h1
     have hlt : dst < a.tmps.size := by rw [he.size, hen]; simpa using hn
     have r1 : (execOp a.eval (mkOp (some dst) (.alloc T) ty pos after)).run P w = .ok (.value (.pointer (some ⟨w.heap.size, 0, none⟩))) (w.alloc (.cells z.cells T)) := by
      simp [execOp, mkOp, Instr.alloc, newVar, run_newRow, run_zeroValue' hz] <;> rfl
     have hp0 := Push.alloc w (.cells (a.eval x).cells T)
     have hE : Ev g w ⟨g.use w.heap.size .solid, g.objs, g.tk, g.ver⟩ (w.alloc (.cells (a.eval x).cells T)) := by simpa using Ev.push hp0 .solid [] g.tk (tk_refl _)
     have hs' := hs.push hp0 .solid g.tk (tk_refl _) trivial
     have hrel : Rel ⟨g.use w.heap.size .solid, g.objs, g.tk, g.ver⟩ (w.alloc (.cells (a.eval x).cells T)) (.eptr cs) (.pointer (some ⟨w.heap.size, 0, none⟩)) :=
      ⟨_, _, rfl, RelCells.of cs _ _ _ (RelAll.mono hE _ _ h1) fun j v hj => ⟨(solid_cells (g := g) hp0 g.tk (tk_refl _) g.objs j v hj).1, (solid_cells (g := g) hp0 g.tk (tk_refl _) g.objs j v hj).2, h1c v (List.mem_of_getElem? hj)⟩⟩
     have e1 : (a.put (some dst) (.pointer (some ⟨w.heap.size, 0, none⟩))).eval (.tmp dst) = .pointer (some ⟨w.heap.size, 0, none⟩) := by
      show (a.tmps.setIfInBounds dst _).getD dst undef = _
      simp only [Array.getD_eq_getD_getElem?, Array.getElem?_setIfInBounds, if_true, if_pos hlt, Option.getD_some]
     have e2 := eval_put (a := a) (v := .pointer (some ⟨w.heap.size, 0, none⟩)) hx
     have hC : (w.alloc (.cells z.cells T)).heap[w.heap.size]? = some (.cells z.cells T (0, 0)) := (Push.alloc w _).new
     have hcsz : (a.eval x).cells.toList.length = z.cells.toList.length := by rw [← hl, hlen, ← hzs]; simp
     have r2 := run_storeCells_gen (P := P) w.heap.size 0 T (0, 0) (a.eval x).cells.toList 0 z.cells (w.alloc (.cells z.cells T)) hC (by rw [hcsz]; simp) (fun j _ _ => by simp) h1c
     rw [Nat.add_zero, setV_all _ _ hcsz, Array.toArray_toList, alloc_setRow] at r2
     have r3 : (execOp (a.put (some dst) (.pointer (some ⟨w.heap.size, 0, none⟩))).eval (mkOp none (.store T (.tmp dst) x) ty' pos' after')).run P (w.alloc (.cells z.cells T)) = .ok .skip (w.alloc (.cells (a.eval x).cells T)) := by
      have hsize : (a.eval x).cells.size = sz := by rw [← hlen]; simpa using hl.symm
      simp [execOp, mkOp, Instr.storeAt, e1, e2, Instr.sureAddr, storeVar, run_sizeOf' hsz, hsize, r2]
     refine wpIn_value r1 ?_
     refine hN _ _ ?_
     refine wpIn_skip' r3 ?_
     have hstr : StRel ⟨g.use w.heap.size .solid, g.objs, g.tk, g.ver⟩ st (w.alloc (.cells (a.eval x).cells T)) := by rw [hs.tk] at hs' ⊢; exact hs'
     exact hp .normal _ st _ _ _ .normal h ((he.mono hE).put dst hrel) hstr hE (.of_eq (put_defers ..)) rfl
    ·cases h
   ·cases h
  ·cases h
end
end Go.V
namespace Go.V
section
variable {P : Program}
theorem RelRows.cells {g : Gh} {w : World} {sz : Nat} : ∀ {l : List (List AV)} {b o : Nat}, RelRows g w sz l b o → RelCells g w l.flatten b o := by
 intro l b o h
 obtain ⟨vs, h1, _, h3⟩ := RelRows.values sz l b o h
 exact RelCells.of _ vs b o h1 h3
theorem bnd_nat {x : Option AV} {y d : Nat} {k k' : Nat → Ans} {K : AV → Ans} (h : ∀ n, k n = thenA (k' n) K) : bnd x y d k = thenA (bnd x y d k') K := by
 unfold bnd
 split
 ·exact h _
 ·split
  ·split
   ·exact h _
   ·rfl
  ·rfl
theorem abounds_nat {n : Nat} {lo hi mx : Option AV} {k k' : Nat → Nat → Option Nat → Ans} {K : AV → Ans} (h : ∀ i j m, k i j m = thenA (k' i j m) K) : abounds n lo hi mx k = thenA (abounds n lo hi mx k') K := by
 unfold abounds
 split
 ·exact bnd_nat fun _ => bnd_nat fun _ => h _ _ _
 ·split
  ·rfl
  ·exact bnd_nat fun _ => bnd_nat fun _ => bnd_nat fun _ => h _ _ _
theorem opSlice_nat {dst : Option Tmp} {T : TypeId} {x : Operand} {lo hi mx : Option Operand} {e sz : Nat} {hT : P.underlying T = some (.slice e)} {hz : (P.info? e).map (·.size) = some sz} {ty : TypeId} {pos : String} {after : Array Edge} : (opSlice (P := P) dst T x lo hi mx e sz hT hz ty pos after).Nat := by
 intro ev k
 show asl sz (ev x) (lo.map ev) (hi.map ev) (mx.map ev) k = thenA (asl sz (ev x) (lo.map ev) (hi.map ev) (mx.map ev) retA) k
 unfold asl
 split
 ·exact abounds_nat fun i j m => rfl
 ·split
  ·exact abounds_nat fun i j m => rfl
  ·rfl
 ·split
  ·exact abounds_nat fun i j m => rfl
  ·rfl
 ·split
  ·exact abounds_nat fun i j m => by split <;> rfl
  ·rfl
 ·split
  ·exact abounds_nat fun i j m => rfl
  ·rfl
 ·split
  ·exact abounds_nat fun i j m => by split <;> rfl
  ·rfl
 ·rfl
end
end Go.V
namespace Go.V
section
variable {P : Program}
mutual
theorem ren_ren (σ ρ τ : Nat → Nat) (h : ∀ k, σ (ρ k) = τ k) : ∀ a : AV, ren σ (ren ρ a) = ren τ a
 | .bool _ => rfl
 | .int _ _ => rfl
 | .str _ => rfl
 | .nilptr => rfl
 | .nilsl => rfl
 | .nilmap => rfl
 | .nilfn => rfl
 | .nilif => rfl
 | .ptr k off => by simp only [ren, h]
 | .tp k E m' => by simp only [ren, h]
 | .eptr cs => rfl
 | .sl _ _ _ => rfl
 | .lg _ _ _ => rfl
 | .ms k sz off n cap => by simp only [ren, h]
 | .mp k => by simp only [ren, h]
 | .fn f a c => by simp only [ren, renL_renL σ ρ τ h a, renL_renL σ ρ τ h c]
 | .ifc t v => by simp only [ren, ren_ren σ ρ τ h v]
 | .agg cs => by simp only [ren, renL_renL σ ρ τ h cs]
 | .tup cs => by simp only [ren, renL_renL σ ρ τ h cs]
 | .dead => rfl
 | .ns _ _ _ => rfl
 | .vs k v sz n => by simp only [ren, h]
 | .vp k v off => by simp only [ren, h]
theorem renL_renL (σ ρ τ : Nat → Nat) (h : ∀ k, σ (ρ k) = τ k) : ∀ l : List AV, renL σ (renL ρ l) = renL τ l
 | [] => rfl
 | x :: l => by simp only [renL, ren_ren σ ρ τ h x, renL_renL σ ρ τ h l]
end
mutual
theorem ren_id : ∀ a : AV, ren (fun k => k) a = a
 | .bool _ => rfl
 | .int _ _ => rfl
 | .str _ => rfl
 | .nilptr => rfl
 | .nilsl => rfl
 | .nilmap => rfl
 | .nilfn => rfl
 | .nilif => rfl
 | .ptr k off => rfl
 | .tp k E m' => rfl
 | .eptr cs => rfl
 | .sl _ _ _ => rfl
 | .lg _ _ _ => rfl
 | .ms k sz off n cap => rfl
 | .mp k => rfl
 | .fn f a c => by simp only [ren, renL_id a, renL_id c]
 | .ifc t v => by simp only [ren, ren_id v]
 | .agg cs => by simp only [ren, renL_id cs]
 | .tup cs => by simp only [ren, renL_id cs]
 | .dead => rfl
 | .ns _ _ _ => rfl
 | .vs k v sz n => rfl
 | .vp k v off => rfl
theorem renL_id : ∀ l : List AV, renL (fun k => k) l = l
 | [] => rfl
 | x :: l => by simp only [renL, ren_id x, renL_id l]
end
theorem renO_renO (σ ρ τ : Nat → Nat) (h : ∀ k, σ (ρ k) = τ k) (o : Ob) : renO σ (renO ρ o) = renO τ o := by
 cases o with
 | cells cs => simp only [renO, renL_renL σ ρ τ h]
 | map es => simp only [renO, List.map_map, Function.comp_def, ren_ren σ ρ τ h]
 | vec v cs => simp only [renO, renL_renL σ ρ τ h]
 | gone => rfl
 | nov v => rfl
 | lp _ _ _ _ => rfl
theorem renO_id (o : Ob) : renO (fun k => k) o = o := by
 cases o with
 | cells cs => simp only [renO, renL_id]
 | map es => simp only [renO, ren_id]; simp
 | vec v cs => simp only [renO, renL_id]
 | gone => rfl
 | nov v => rfl
 | lp _ _ _ _ => rfl
mutual
theorem ren_near {n : Nat} {ρ τ : Nat → Nat} (h : ∀ k, k < n → ρ k = τ k) : ∀ a : AV, Near n a → ren ρ a = ren τ a
 | .bool _, _ => rfl
 | .int _ _, _ => rfl
 | .str _, _ => rfl
 | .nilptr, _ => rfl
 | .nilsl, _ => rfl
 | .nilmap, _ => rfl
 | .nilfn, _ => rfl
 | .nilif, _ => rfl
 | .ptr k off, s => by simp only [ren, h k s]
 | .tp k E m', s => by simp only [ren, h k s]
 | .eptr cs, _ => rfl
 | .sl _ _ _, _ => rfl
 | .lg _ _ _, _ => rfl
 | .ms k sz off n cap, s => by simp only [ren, h k s]
 | .mp k, s => by simp only [ren, h k s]
 | .fn f a c, s => by simp only [ren, renL_near h a s.2.1, renL_near h c s.2.2]
 | .ifc t v, s => by simp only [ren, ren_near h v s]
 | .agg cs, s => by simp only [ren, renL_near h cs s]
 | .tup cs, s => by simp only [ren, renL_near h cs s]
 | .dead, _ => rfl
 | .ns _ _ _, _ => rfl
 | .vs k v sz n, s => by simp only [ren, h k s]
 | .vp k v off, s => by simp only [ren, h k s]
theorem renL_near {n : Nat} {ρ τ : Nat → Nat} (h : ∀ k, k < n → ρ k = τ k) : ∀ l : List AV, NearL n l → renL ρ l = renL τ l
 | [], _ => rfl
 | x :: l, s => by simp only [renL, ren_near h x s.1, renL_near h l s.2]
end
theorem renO_near {n : Nat} {ρ τ : Nat → Nat} (h : ∀ k, k < n → ρ k = τ k) (o : Ob) (s : NearO n o) : renO ρ o = renO τ o := by
 cases o with
 | cells cs => simp only [renO, renL_near h cs s]
 | map es =>
  simp only [renO]
  congr 1
  have : ∀ es : List (AV × AV), NearL n (es.map (·.1)) → NearL n (es.map (·.2)) → es.map (fun e => (ren ρ e.1, ren ρ e.2)) = es.map (fun e => (ren τ e.1, ren τ e.2)) := by
   intro es
   induction es with
   | nil => intro _ _; rfl
   | cons e es ih => intro s1 s2; simp only [List.map_cons, ren_near h _ s1.1, ren_near h _ s2.1, ih s1.2 s2.2]
  exact this es s.1 s.2
 | vec v cs => simp only [renO, renL_near h cs s]
 | gone => rfl
 | nov v => rfl
 | lp _ _ _ _ => rfl
structure ADT (X : Type) where
 m : Nat
 p : Nat
 hp : p < m
 obs : X → List Ob
 Ok : X → Prop
 len : ∀ x, (obs x).length = m
 near : ∀ x, Ok x → ∀ o ∈ obs x, NearO m o
 inj : ∀ x y, Ok x → Ok y → obs x = obs y → x = y
variable {X : Type}
def sh (i j : Nat) : Nat := i + j
def invS (m i k : Nat) : Option Nat := if i ≤ k ∧ k < i + m then some (k - i) else none
theorem inv_sh (m i : Nat) : Inv (sh i) m (invS m i) := by
 refine ⟨fun j hj => ?_, fun k j h => ?_⟩
 ·show (if i ≤ i + j ∧ i + j < i + m then some (i + j - i) else none) = some j
  rw [if_pos (by omega), Nat.add_sub_cancel_left]
 ·simp only [invS] at h
  split at h
  ·cases h; exact ⟨by omega, by show i + (k - i) = k; omega⟩
  ·cases h
def ADT.at_ (A : ADT X) (i : Nat) (x : X) : List Ob := (A.obs x).map (renO (sh i))
theorem ADT.at_len (A : ADT X) (i : Nat) (x : X) : (A.at_ i x).length = A.m := by rw [ADT.at_, List.length_map, A.len]
theorem ADT.at_inj (A : ADT X) {i : Nat} {x y : X} (hx : A.Ok x) (hy : A.Ok y) (h : A.at_ i x = A.at_ i y) : x = y := by
 refine A.inj x y hx hy ?_
 have h2 := congrArg (List.map (renO fun k => k - i)) h
 rw [ADT.at_, ADT.at_, List.map_map, List.map_map] at h2
 have e : (renO (fun k => k - i)) ∘ (renO (sh i)) = id := by
  funext o
  rw [Function.comp_apply, renO_renO _ _ (fun k => k) (fun k => by show i + k - i = k; omega), renO_id]; rfl
 rw [e, List.map_id, List.map_id] at h2
 exact h2
def ADT.is (A : ADT X) (i : Nat) (l : List Ob) (x : X) : Prop := A.Ok x ∧ A.at_ i x = l
open Classical in
noncomputable def ADT.G (A : ADT X) (i : Nat) (l : List Ob) : Option X := opq (if h : ∃ x, A.is i l x then some (Classical.choose h) else none)
theorem ADT.G_spec {A : ADT X} {i : Nat} {l : List Ob} {x : X} (h : A.G i l = some x) : A.is i l x := by
 rw [ADT.G, opq_eq] at h
 split at h
 ·rename_i hx; cases h; exact Classical.choose_spec hx
 ·cases h
theorem ADT.G_of {A : ADT X} {i : Nat} {l : List Ob} {x : X} (h : A.is i l x) : A.G i l = some x := by
 have hx : ∃ x, A.is i l x := ⟨x, h⟩
 rw [ADT.G, opq_eq, dif_pos hx]
 have h1 := Classical.choose_spec hx
 rw [A.at_inj h1.1 h.1 (h1.2.trans h.2.symm)]
noncomputable def ADT.ob (A : ADT X) (i : Nat) (x : X) (j : Nat) : Ob := opq ((A.at_ i x).getD j .gone)
noncomputable def obl (A : ADT X) (i : Nat) (x : X) : Nat → Nat → List Ob
 | 0, _ => []
 | k + 1, j => A.ob i x j :: obl A i x k (j + 1)
theorem obl_eq (A : ADT X) (i : Nat) (x : X) : ∀ k j, j + k ≤ A.m → obl A i x k j = ((A.at_ i x).drop j).take k
 | 0, j, _ => by rw [List.take_zero]; rfl
 | k + 1, j, h => by
  have hl : j < (A.at_ i x).length := by rw [ADT.at_len]; omega
  rw [obl, obl_eq A i x k (j + 1) (by omega), List.drop_eq_getElem_cons hl, List.take_succ_cons, ADT.ob, opq_eq, List.getD_eq_getElem?_getD, List.getElem?_eq_getElem hl]
  rfl
noncomputable def ADT.obl (A : ADT X) (i : Nat) (x : X) : List Ob := V.obl A i x A.m 0
theorem ADT.obl_eq (A : ADT X) (i : Nat) (x : X) : A.obl i x = A.at_ i x := by
 rw [ADT.obl, V.obl_eq A i x A.m 0 (by omega), List.drop_zero, List.take_of_length_le (by rw [ADT.at_len]; exact Nat.le_refl _)]
theorem ADT.G_obl (A : ADT X) {x : X} (h : A.Ok x) (i : Nat) : A.G i (A.obl i x) = some x := ADT.G_of ⟨h, (A.obl_eq i x).symm⟩
theorem ADT.obl_zero (A : ADT X) {x : X} (h : A.Ok x) : A.obl 0 x = A.obs x := by
 rw [ADT.obl_eq, ADT.at_]
 conv => rhs; rw [← List.map_id (A.obs x)]
 refine List.map_congr_left fun o ho => ?_
 rw [show sh 0 = fun k => k from funext fun k => Nat.zero_add k, renO_id]; rfl
def getN : Nat → List Ob → Option (List Ob)
 | 0, _ => some []
 | _ + 1, [] => none
 | k + 1, o :: l => match getN k l with
  | some r => some (o :: r)
  | none => none
theorem getN_some : ∀ {k : Nat} {l r : List Ob}, getN k l = some r → r = l.take k ∧ k ≤ l.length
 | 0, l, r, h => by cases h; exact ⟨by rw [List.take_zero], by omega⟩
 | k + 1, [], r, h => by cases h
 | k + 1, o :: l, r, h => by
  simp only [getN] at h
  split at h
  ·rename_i r' h'
   cases h
   obtain ⟨h1, h2⟩ := getN_some h'
   exact ⟨by rw [List.take_succ_cons, h1], by simp; omega⟩
  ·cases h
def plc : List Ob → Nat → List Ob → List Ob
 | l, 0, xs => xs ++ l.drop xs.length
 | [], _ + 1, _ => []
 | o :: l, i + 1, xs => o :: plc l i xs
theorem plc_eq : ∀ (l : List Ob) (i : Nat) (xs : List Ob), i + xs.length ≤ l.length → plc l i xs = l.take i ++ xs ++ l.drop (i + xs.length)
 | l, 0, xs, _ => by rw [plc.eq_def]; simp
 | [], i + 1, xs, h => by simp at h
 | o :: l, i + 1, xs, h => by
  rw [plc, plc_eq l i xs (by simp at h; omega), show i + 1 + xs.length = (i + xs.length) + 1 by omega]
  simp
noncomputable def ADT.pl (A : ADT X) (st : St) (i : Nat) (x : X) : St := ⟨plc st.objs i (A.obl i x), st.tk⟩
noncomputable def ADT.on (A : ADT X) (x : AV) (st : St) (k : Nat → X → Ans) : Ans :=
 match x with
 | .ptr j o => match Nat.beq o 0 && Nat.ble A.p j with
  | true => match getN A.m (st.objs.drop (j - A.p)) with
   | some l => onSome (A.G (j - A.p) l) none fun X => k (j - A.p) X
   | none => none
  | false => none
 | _ => none
structure ADT.Here (A : ADT X) (st : St) (i : Nat) (x : X) : Prop where
 ok : A.Ok x
 le : i + A.m ≤ st.objs.length
 eq : (st.objs.drop i).take A.m = A.at_ i x
theorem ADT.on_spec {A : ADT X} {x : AV} {st : St} {k : Nat → X → Ans} {fin : Fin × St} (h : A.on x st k = some fin) : ∃ i y, x = .ptr (i + A.p) 0 ∧ A.Here st i y ∧ k i y = some fin := by
 unfold ADT.on at h
 split at h
 ·rename_i j o
  split at h
  ·rename_i ho
   rw [Bool.and_eq_true] at ho
   obtain ⟨h1, h2⟩ := ho
   obtain rfl := Nat.eq_of_beq_eq_true h1
   have h2 := Nat.le_of_ble_eq_true h2
   split at h
   ·rename_i l hl
    unfold onSome at h
    split at h
    ·cases h
    ·rename_i y hy
     obtain ⟨g1, g2⟩ := getN_some hl
     obtain ⟨g3, g4⟩ := ADT.G_spec hy
     have hm := A.hp
     rw [List.length_drop] at g2
     exact ⟨j - A.p, y, by rw [Nat.sub_add_cancel h2], ⟨g3, by omega, by rw [← g1, g4]⟩, h⟩
   ·cases h
  ·cases h
 ·cases h
theorem ADT.Here.lies {A : ADT X} {st : St} {i : Nat} {x : X} (h : A.Here st i x) : Lies st (A.obs x) (sh i) A.m (invS A.m i) := by
 refine ⟨A.len x, inv_sh _ i, fun j o ho => ?_, A.near x h.ok⟩
 have hj : j < A.m := by rw [← A.len x]; exact getElem?_lt ho
 have e := congrArg (fun l => l[j]?) h.eq
 simp only [List.getElem?_take, if_pos hj, List.getElem?_drop, ADT.at_, List.getElem?_map, ho, Option.map_some] at e
 exact e
theorem ADT.pl_len {A : ADT X} {st : St} {i : Nat} {x : X} (h : i + A.m ≤ st.objs.length) : (A.pl st i x).objs.length = st.objs.length := by
 have hl : (A.obl i x).length = A.m := by rw [ADT.obl_eq, ADT.at_len]
 rw [ADT.pl, plc_eq _ _ _ (by omega)]
 simp only [List.length_append, List.length_take, List.length_drop, hl]
 omega
theorem ADT.pl_in {A : ADT X} {st : St} {i : Nat} {x : X} (h : i + A.m ≤ st.objs.length) {j : Nat} (hj : j < A.m) : (A.pl st i x).objs[i + j]? = (A.at_ i x)[j]? := by
 have hl : (A.obl i x).length = A.m := by rw [ADT.obl_eq, ADT.at_len]
 rw [ADT.pl, plc_eq _ _ _ (by omega)]
 simp only [List.append_assoc]
 rw [List.getElem?_append_right (by rw [List.length_take]; omega), List.length_take, Nat.min_eq_left (by omega), Nat.add_sub_cancel_left, List.getElem?_append_left (by omega), ADT.obl_eq]
theorem ADT.pl_out {A : ADT X} {st : St} {i : Nat} {x : X} (h : i + A.m ≤ st.objs.length) {k : Nat} (hk : ¬ (i ≤ k ∧ k < i + A.m)) : (A.pl st i x).objs[k]? = st.objs[k]? := by
 have hl : (A.obl i x).length = A.m := by rw [ADT.obl_eq, ADT.at_len]
 rw [ADT.pl, plc_eq _ _ _ (by omega)]
 simp only [List.append_assoc]
 by_cases h1 : k < i
 ·rw [List.getElem?_append_left (by rw [List.length_take]; omega), List.getElem?_take, if_pos h1]
 ·rw [List.getElem?_append_right (by rw [List.length_take]; omega), List.length_take, Nat.min_eq_left (by omega), List.getElem?_append_right (by omega), List.getElem?_drop]
  congr 1; omega
theorem ADT.Here.same {A : ADT X} {st : St} {i : Nat} {x : X} (h : A.Here st i x) : A.pl st i x = st := by
 have e : (A.pl st i x).objs = st.objs := by
  apply List.ext_getElem?
  intro k
  by_cases hk : i ≤ k ∧ k < i + A.m
  ·obtain ⟨j, rfl⟩ := Nat.exists_eq_add_of_le hk.1
   have hj : j < A.m := by omega
   rw [ADT.pl_in h.le hj]
   have e := congrArg (fun l => l[j]?) h.eq
   simp only [List.getElem?_take, if_pos hj, List.getElem?_drop] at e
   exact e.symm
  ·rw [ADT.pl_out h.le hk]
 cases st
 simp only [ADT.pl] at e ⊢
 rw [e]
theorem ADT.near_at {A : ADT X} {y : X} (hy : A.Ok y) {i j : Nat} {o : Ob} (ho : (A.obs y)[j]? = some o) {τ : Nat → Nat} (hτ : ∀ k, k < A.m → τ k = i + k) : (A.at_ i y)[j]? = some (renO τ o) := by
 rw [ADT.at_, List.getElem?_map, ho, Option.map_some, renO_near (n := A.m) (ρ := sh i) (τ := τ) (fun k hk => (hτ k hk).symm) o (A.near y hy o (List.mem_of_getElem? ho))]
theorem ADT.placed {A : ADT X} {f : Fun P} {F : Nat} {x y : X} {args0 : List AV} {r : AV} {xs : List Ob} (hrun : f.run F args0 ⟨A.obs x, []⟩ = some (.ret r, ⟨A.obs y ++ xs, []⟩)) (hy : A.Ok y) (ha : NearL A.m args0) (hr : Near A.m (frz r))
  {st : St} {i : Nat} (hd : A.Here st i x) : CallsTo P f.id (renL (sh i) args0) st (.ret (ren (sh i) (frz r)), A.pl st i y) := by
 have n4 : ∀ j, j < A.m → nx (sh i) A.m st.objs.length j = i + j := fun j hj => by rw [nx, if_pos hj]; rfl
 have e : ren (nx (sh i) A.m st.objs.length) (frz r) = ren (sh i) (frz r) := ren_near (fun k hk => n4 k hk) _ hr
 rw [← e]
 refine V.placed (f.sound hrun) (Nat.le_refl _) (by simp [A.len]) ha hr (fun j o hj ho => ?_) hd.lies rfl (by rw [ADT.pl_len hd.le]; omega) (fun j o hj ho => ?_) (fun k hk hi => ?_)
 ·rw [List.getElem?_append_left (by rw [A.len]; exact hj)] at ho
  exact A.near y hy o (List.mem_of_getElem? ho)
 ·rw [List.getElem?_append_left (by rw [A.len]; exact hj)] at ho
  rw [n4 j hj, ADT.pl_in hd.le hj]
  exact ADT.near_at hy ho n4
 ·refine ADT.pl_out hd.le fun e => ?_
  simp only [invS] at hi
  rw [if_pos e] at hi; cases hi
noncomputable def ADT.add (A : ADT X) (st : St) (x : X) : St := ⟨st.objs ++ A.obl st.objs.length x, st.tk⟩
theorem ADT.fresh {A : ADT X} {f : Fun P} {F : Nat} {x : X} {args0 : List AV} {r : AV} {xs : List Ob} (hrun : f.run F args0 ⟨[], []⟩ = some (.ret r, ⟨A.obs x ++ xs, []⟩)) (hx : A.Ok x) (ha : NearL 0 args0) (hr : Near A.m (frz r)) (st : St) :
  CallsTo P f.id args0 st (.ret (ren (sh st.objs.length) (frz r)), A.add st x) := by
 have n4 : ∀ j, nx (fun _ => 0) 0 st.objs.length j = st.objs.length + j := fun j => by rw [nx, if_neg (by omega)]; omega
 have e : ren (nx (fun _ => 0) 0 st.objs.length) (frz r) = ren (sh st.objs.length) (frz r) := ren_near (n := A.m) (fun k hk => n4 k) _ hr
 have e2 : renL (fun _ => 0) args0 = args0 := by
  have := renL_near (n := 0) (ρ := fun _ => 0) (τ := fun k => k) (fun k hk => by omega) args0 ha
  rw [this, renL_id]
 have hl : (A.obl st.objs.length x).length = A.m := by rw [ADT.obl_eq, ADT.at_len]
 rw [← e]
 have := V.placed (ρ := fun _ => 0) (f.sound hrun) (Nat.zero_le A.m) (by simp [A.len]) ha hr (fun j o hj ho => by
  rw [List.getElem?_append_left (by rw [A.len]; exact hj)] at ho
  exact A.near x hx o (List.mem_of_getElem? ho)) (inv := fun _ => none) (st := st) (st' := A.add st x) ⟨rfl, ⟨fun i hi => (by omega), fun k i h => (by cases h)⟩, fun i o h => (by simp at h), fun o h => (by simp at h)⟩ rfl (by simp [ADT.add, hl]) (fun j o hj ho => ?_) (fun k hk hi => ?_)
 ·rw [e2] at this; exact this
 ·rw [List.getElem?_append_left (by rw [A.len]; exact hj)] at ho
  rw [n4 j, ADT.add]
  simp only
  rw [List.getElem?_append_right (by omega), Nat.add_sub_cancel_left, ADT.obl_eq]
  exact ADT.near_at hx ho fun k _ => n4 k
 ·rw [ADT.add]
  simp only
  rw [List.getElem?_append_left hk]
theorem CallsTo.wk {id : FuncId} {args args' : List AV} {st : St} {fin : Fin × St} (h : CallsTo P id args' st fin) (hw : ∀ g w vs, RelAll g w args vs → RelAll g w args' vs) : CallsTo P id args st fin := fun g w vals hv hs => h g w vals (hw g w _ hv) hs
theorem CallsTo.wkR {id : FuncId} {args : List AV} {st st' : St} {r r' : AV} (h : CallsTo P id args st (.ret r, st')) (hw : ∀ g w v, Rel g w r v → Rel g w r' v) : CallsTo P id args st (.ret r', st') := by
 intro g w vals hv hs
 refine (h g w vals hv hs).mono fun e w' ⟨g', k1, k2, k3⟩ => ?_
 obtain ⟨v, rfl, hv'⟩ := k1
 exact ⟨g', ⟨v, rfl, hw _ _ _ hv'⟩, k2, k3⟩
def updE (ev : Operand → AV) (i : Nat) (r : AV) : Operand → AV
 | .tmp j => match Nat.beq j i with
  | true => r
  | false => ev (.tmp j)
 | o => ev o
noncomputable def MSim.fz (y : MSim P) (i : Nat) : MSim P where
 oper := y.oper
 plain := y.plain
 xs := .tmp i :: y.xs
 f ev st k := afree (ev (.tmp i)) st fun r st' => y.f (updE ev i r) st' k
 congr ev ev' st k h := by
  rw [h (.tmp i) (by simp)]
  congr 1
  funext r st'
  refine y.congr _ _ _ _ fun o ho => ?_
  have := h o (by simp [ho])
  unfold updE
  split
  ·split
   ·rfl
   ·exact this
  ·exact this
 sound ev st k fin h g w a he hs := by
  obtain ⟨r, st', g', k1, k2, k3, k4⟩ := afree_rel hs (he (.tmp i) (by simp)) h
  obtain ⟨r2, st2, q1, q2⟩ := y.sound (updE ev i r) st' k fin k1 g' w a (fun o ho => by
   unfold updE
   split
   ·rename_i j
    split
    ·rename_i hj
     obtain rfl := Nat.eq_of_beq_eq_true hj
     exact k2
    ·exact Rel.mono k4 _ _ (he _ (by simp [ho]))
   ·exact Rel.mono k4 _ _ (he _ (by simp [ho]))) k3
  exact ⟨r2, st2, q1, fun next Q hn => q2 next Q fun v g2 w2 a1 a2 a3 => hn v g2 w2 a1 a2 (k4.trans a3)⟩
def thS (a : Ans) (k : Fin → St → Ans) : Ans :=
 match a with
 | some (r, st') => k r st'
 | none => none
theorem onNs_th {sz : Nat} {x : AV} {s s' : Bool → List (List AV) → Ans} {k : Fin → St → Ans} (h : ∀ z l, s z l = thS (s' z l) k) : onNs sz x s = thS (onNs sz x s') k := by
 unfold onNs
 split
 ·exact h _ _
 all_goals first
  | rfl
  | (split
     ·exact h _ _
     ·rfl)
theorem ifT_th {b : Bool} {s s' : Ans} {k : Fin → St → Ans} (h : s = thS s' k) : ifT b s = thS (ifT b s') k := by
 cases b
 ·rfl
 ·exact h
theorem ADT.on_th {A : ADT X} {x : AV} {st : St} {s s' : Nat → X → Ans} {k : Fin → St → Ans} (h : ∀ i y, s i y = thS (s' i y) k) : A.on x st s = thS (A.on x st s') k := by
 unfold ADT.on
 split
 ·split
  ·split
   ·unfold onSome
    split
    ·rfl
    ·exact h _ _
   ·rfl
  ·rfl
 ·rfl
theorem ADT.on_nat {A : ADT X} {x : AV} {st : St} {s s' : Nat → X → Ans} {K : AV → Ans} (h : ∀ i y, s i y = thenA (s' i y) K) : A.on x st s = thenA (A.on x st s') K := by
 unfold ADT.on
 split
 ·split
  ·split
   ·unfold onSome
    split
    ·rfl
    ·exact h _ _
   ·rfl
  ·rfl
 ·rfl
def Fun.byQ (f : Fun P) (sem : List AV → St → (AV → Ans) → Ans)
  (hs : ∀ args st k fin, sem args st k = some fin → ∃ r, k r = some fin ∧ CallsTo P f.id args st (.ret r, st)) : OrcQ P where
 id := f.id
 fn := f.fn
 hf := f.hf
 hname := f.hname
 hb := by rw [f.hbody]; rfl
 F := sem
 sound k args st fin h := hs args st k fin h
noncomputable def fuel : Nat := opq 1000000
variable {Y : Type}
theorem opMakeF_nat {dst : Option Tmp} {T : TypeId} {x : Operand} {e sz bytes : Nat} {z : Value} {hT : ElemOf P T e sz bytes z} {zc : List AV} {hz : cellsA (ofLit z) = some zc} {hsz : Nat.beq z.cells.size sz = true} {hl : Nat.beq zc.length sz = true} {ty : TypeId} {pos : String} {after : Array Edge} : (opMakeF (P := P) dst T x e sz bytes z hT zc hz hsz hl ty pos after).Nat := fun ev k => by
 show amakeF sz bytes zc (ev x) k = thenA (amakeF sz bytes zc (ev x) retA) k
 unfold amakeF
 split
 ·split <;> rfl
 ·rfl
end
end Go.V
namespace Go.Proofs.Ytljigmghdpkdlaa.V
open Go Go.V Go.RowKit
theorem sz5 : (Try.prog.info? 5).map (·.size) = some 1 := by kernel_rfl
theorem ze5 : (Try.prog.info? 5).bind (·.zero) = some (.int .u8 0) := by kernel_rfl
theorem by5 : (Try.prog.info? 5).map (·.bytes) = some 1 := by kernel_rfl
theorem el34 : ElemOf Try.prog 34 5 1 1 (.int .u8 0) := ⟨Try.underlying34, sz5, by5, ze5, by kernel_rfl, by decide⟩
theorem sz34 : (Try.prog.info? 34).map (·.size) = some 1 := by kernel_rfl
theorem mixed : Try.prog.follows .mixedOrders = true := by kernel_rfl
noncomputable def f15_l0 : Sim Try.prog :=
 (.seq (.seq (.live [0, 1, 5, 14] (.region 4 [
 ⟨(opMove (some 11) (.tmp 5) 3 "ref.go:18" #[]).op, none⟩,
 ⟨(opMove (some 12) (.tmp 0) 34 "ref.go:18" #[]).op, none⟩,
 ⟨(opLen (some 13) (.tmp 12) 34 (.slice 5) Try.underlying34 3 "ref.go:18" #[eD 1]).op, none⟩,
 ⟨(opBin (some 14) .lss 3 (.tmp 11) (.tmp 13) 3 4 "ref.go:18" #[eD 0, eD 2]).op, none⟩
 ] (by kernel_rfl)))
 (.cond (.tmp 14)
 .skip
 (.live [] (.exit 0))))
 (.seq (.block 1 (.seq (.live [0, 1, 5, 25] (.draw 6 [
 ⟨.p (opMove (some 17) (.tmp 0) 34 "ref.go:19" #[]), none⟩,
 ⟨.p (opMove (some 18) (.tmp 5) 3 "ref.go:19" #[]), none⟩,
 ⟨.pn (opIndexAddrT (some 19) 34 (.tmp 17) (.tmp 18) 5 1 Try.underlying34 sz5 0 "ref.go:19" #[eD 0, eD 1]) opIndexAddrT_nat, none⟩,
 ⟨.qn (opLoadT (.one (.int .u8)) (some 20) 5 (.tmp 19) (.int .u8) Try.underlying5 1 sz5 (by kernel_rfl) 5 "ref.go:19" #[eD 2]) opLoadT_nat, none⟩,
 ⟨.p (opMove (some 21) (.tmp 1) 34 "ref.go:19" #[]), none⟩,
 ⟨.p (opMove (some 22) (.tmp 5) 3 "ref.go:19" #[]), none⟩,
 ⟨.pn (opIndexAddrT (some 23) 34 (.tmp 21) (.tmp 22) 5 1 Try.underlying34 sz5 0 "ref.go:19" #[eD 4, eD 5]) opIndexAddrT_nat, none⟩,
 ⟨.qn (opLoadT (.one (.int .u8)) (some 24) 5 (.tmp 23) (.int .u8) Try.underlying5 1 sz5 (by kernel_rfl) 5 "ref.go:19" #[eD 6]) opLoadT_nat, none⟩,
 ⟨.pn (opBin (some 25) .neq 5 (.tmp 20) (.tmp 24) 5 4 "ref.go:19" #[eD 3, eD 7]) opBin_nat, none⟩
 ] mixed (by kernel_rfl)))
 (.cond (.tmp 25)
 (.seq (.live [4] (.region 7 [
 ⟨(opAssign (some 4) (.const (Value.bool false)) 4 "ref.go:20" #[]).op, none⟩
 ] (by kernel_rfl)))
 (.live [4] .ret))
 .skip)))
 (.live [0, 1, 5] (.region 5 [
 ⟨(opMove (some 15) (.tmp 5) 3 "ref.go:18" #[]).op, none⟩,
 ⟨(opBin (some 16) .add 3 (.tmp 15) (.const (Value.int IntKind.i64 1)) 3 3 "ref.go:18" #[eD 0]).op, none⟩,
 ⟨(opAssign (some 5) (.tmp 16) 3 "ref.go:18" #[eD 1, eP 0, eP 1]).op, none⟩
 ] (by kernel_rfl)))))
noncomputable def f15_r0 : Sim Try.prog :=
 (.seq (.live [4] (.region 8 [
 ⟨(opAssign (some 4) (.const (Value.bool true)) 4 "ref.go:23" #[]).op, none⟩
 ] (by kernel_rfl)))
 (.live [4] .ret))
noncomputable def f15_b : Sim Try.prog :=
 (.seq (.live [0, 1] (.region 0 [
 ⟨(opAssign (some 4) (.const (Value.bool false)) 4 "ref.go:14" #[]).op, none⟩
 ] (by kernel_rfl)))
 (.seq (.seq (.live [0, 1, 10] (.region 1 [
 ⟨(opMove (some 6) (.tmp 0) 34 "ref.go:15" #[]).op, none⟩,
 ⟨(opLen (some 7) (.tmp 6) 34 (.slice 5) Try.underlying34 3 "ref.go:15" #[eD 0]).op, none⟩,
 ⟨(opMove (some 8) (.tmp 1) 34 "ref.go:15" #[]).op, none⟩,
 ⟨(opLen (some 9) (.tmp 8) 34 (.slice 5) Try.underlying34 3 "ref.go:15" #[eD 2]).op, none⟩,
 ⟨(opBin (some 10) .neq 3 (.tmp 7) (.tmp 9) 3 4 "ref.go:15" #[eD 1, eD 3]).op, none⟩
 ] (by kernel_rfl)))
 (.cond (.tmp 10)
 (.seq (.live [4] (.region 2 [
 ⟨(opAssign (some 4) (.const (Value.bool false)) 4 "ref.go:16" #[]).op, none⟩
 ] (by kernel_rfl)))
 (.live [4] .ret))
 .skip))
 (.seq (.seq (.live [0, 1, 5] (.region 3 [
 ⟨(opAssign (some 5) (.const (Value.int IntKind.i64 0)) 3 "ref.go:18" #[]).op, none⟩
 ] (by kernel_rfl)))
 (.block 0 (.loop [0, 1, 5] f15_l0)))
 f15_r0)))
noncomputable def f15 : Fun Try.prog where
 id := 15
 fn := Try.f15
 hf := Try.func15
 hname := by kernel_rfl
 body := f15_b
 hbody := by kernel_rfl
 res := [rTmp 4]
 hres := by kernel_rfl
 n := 26
 hn := by kernel_rfl
noncomputable def f51_b : Sim Try.prog :=
 (.seq (.live [0] (.region 0 [
 ⟨(opAssign (some 2) (.const (Value.slice none 0 0)) 34 "ref.go:7" #[]).op, none⟩
 ] (by kernel_rfl)))
 (.seq (.live [0, 3] (.region 1 [
 ⟨(opBuildSlice (some 4) 34 0 [] 5 1 1 (.int .u8 0) el34 (by kernel_rfl) (by decide) 34 "ref.go:8" #[]).op, none⟩,
 ⟨(opAssign (some 3) (.tmp 4) 34 "ref.go:8" #[eD 0, eP 0]).op, none⟩
 ] (by kernel_rfl)))
 (.seq (.live [3] (.region 2 [
 ⟨(opMove (some 5) (.tmp 3) 34 "ref.go:9" #[]).op, none⟩,
 ⟨(opMove (some 6) (.tmp 0) 34 "ref.go:9" #[]).op, none⟩,
 ⟨(opAppendF (some 7) (.tmp 5) (.tmp 6) 34 34 5 1 1 (.int .u8 0) el34 (.slice 5) Try.underlying34 rfl 34 "ref.go:9" #[eD 0, eD 1]).op, none⟩,
 ⟨(opAssign (some 3) (.tmp 7) 34 "ref.go:9" #[eD 2, eC 2, eP 0, eP 1, eP 2]).op, none⟩
 ] (by kernel_rfl)))
 (.seq (.live [2] (.region 3 [
 ⟨(opMove (some 8) (.tmp 3) 34 "ref.go:10" #[]).op, none⟩,
 ⟨(opAssign (some 2) (.tmp 8) 34 "ref.go:10" #[eD 0, eP 0]).op, none⟩
 ] (by kernel_rfl)))
 (.live [2] .ret)))))
noncomputable def f51 : Fun Try.prog where
 id := 51
 fn := Try.f51
 hf := Try.func51
 hname := by kernel_rfl
 body := f51_b
 hbody := by kernel_rfl
 res := [rTmp 2]
 hres := by kernel_rfl
 n := 9
 hn := by kernel_rfl
noncomputable def f70_b : Sim Try.prog :=
 (.seq (.live [] (.region 0 [
 ⟨(opAssign (some 0) (.const (Value.slice none 0 0)) 34 "page.go:82" #[]).op, none⟩
 ] (by kernel_rfl)))
 (.seq (.live [0] (.region 1 [
 ⟨(opMakeC (some 1) 34 (.const (Value.int IntKind.i64 256)) 5 1 1 (.int .u8 0) el34 [AV.int .u8 0] (by kernel_rfl) (by kernel_rfl) 34 "page.go:82" #[]).op, none⟩,
 ⟨(opAssign (some 0) (.tmp 1) 34 "page.go:82" #[eD 0, eP 0]).op, none⟩
 ] (by kernel_rfl)))
 (.live [0] .ret)))
noncomputable def f70 : Fun Try.prog where
 id := 70
 fn := Try.f70
 hf := Try.func70
 hname := by kernel_rfl
 body := f70_b
 hbody := by kernel_rfl
 res := [rTmp 0]
 hres := by kernel_rfl
 n := 2
 hn := by kernel_rfl
noncomputable def f77_l0 : Sim Try.prog :=
 (.seq (.seq (.live [0, 14] (.region 1 [
 ⟨(opMove (some 3) (.tmp 0) 82 "page.go:21" #[]).op, none⟩,
 ⟨(opLen (some 4) (.tmp 3) 82 (.slice 34) Try.underlying82 3 "page.go:21" #[eD 0]).op, none⟩,
 ⟨(opBin (some 5) .gtr 3 (.tmp 4) (.const (Value.int IntKind.i64 0)) 3 4 "page.go:21" #[eD 1]).op, none⟩,
 ⟨(opMove (some 6) (.tmp 5) 4 "page.go:21" #[eD 2]).op, none⟩,
 ⟨(opMove (some 7) (.tmp 0) 82 "page.go:21" #[eG 3]).op, (some (3, 6, true))⟩,
 ⟨(opMove (some 8) (.tmp 0) 82 "page.go:21" #[eG 3]).op, (some (3, 6, true))⟩,
 ⟨(opLen (some 9) (.tmp 8) 82 (.slice 34) Try.underlying82 3 "page.go:21" #[eD 5, eG 3]).op, (some (3, 6, true))⟩,
 ⟨(opBin (some 10) .sub 3 (.tmp 9) (.const (Value.int IntKind.i64 1)) 3 3 "page.go:21" #[eD 6, eG 3]).op, (some (3, 6, true))⟩,
 ⟨(opIndexAddrT (some 11) 82 (.tmp 7) (.tmp 10) 34 1 Try.underlying82 sz34 0 "page.go:21" #[eD 4, eD 7, eG 3]).op, (some (3, 6, true))⟩,
 ⟨(opLoadT (.one (.ns 1)) (some 12) 34 (.tmp 11) (.slice 5) Try.underlying34 1 sz34 (by kernel_rfl) 34 "page.go:21" #[eD 8, eG 3]).op, (some (3, 6, true))⟩,
 ⟨(opEq (some 13) 34 (.slice 5) Try.underlying34 (.tmp 12) (.const (Value.slice none 0 0)) (.inl rfl) 34 4 "page.go:21" #[eD 9, eG 3]).op, (some (3, 6, true))⟩,
 ⟨(opPick (some 14) (.tmp 6) (.tmp 13) (.const (Value.bool false)) 4 "page.go:21" #[eD 3, eD 10]).op, none⟩
 ] (by kernel_rfl)))
 (.cond (.tmp 14)
 .skip
 (.live [0] (.exit 0))))
 (.block 1 (.live [0] (.region 2 [
 ⟨(opMove (some 15) (.tmp 0) 82 "page.go:22" #[]).op, none⟩,
 ⟨(opMove (some 16) (.tmp 0) 82 "page.go:22" #[]).op, none⟩,
 ⟨(opLen (some 17) (.tmp 16) 82 (.slice 34) Try.underlying82 3 "page.go:22" #[eD 1]).op, none⟩,
 ⟨(opBin (some 18) .sub 3 (.tmp 17) (.const (Value.int IntKind.i64 1)) 3 3 "page.go:22" #[eD 2]).op, none⟩,
 ⟨(opSlice (some 19) 82 (.tmp 15) none (some (.tmp 18)) none 34 1 Try.underlying82 sz34 82 "page.go:22" #[eD 0, eD 3]).op, none⟩,
 ⟨(opAssign (some 0) (.tmp 19) 82 "page.go:22" #[eD 4, eP 0, eP 1, eP 2, eP 3, eP 4]).op, none⟩
 ] (by kernel_rfl)))))
noncomputable def f77_r0 : Sim Try.prog :=
 (.seq (.live [2] (.region 3 [
 ⟨(opMove (some 20) (.tmp 0) 82 "page.go:24" #[]).op, none⟩,
 ⟨(opAssign (some 2) (.tmp 20) 82 "page.go:24" #[eD 0, eP 0]).op, none⟩
 ] (by kernel_rfl)))
 (.live [2] .ret))
noncomputable def f77_b : Sim Try.prog :=
 (.seq (.live [0] (.region 0 [
 ⟨(opAssign (some 2) (.const (Value.slice none 0 0)) 82 "page.go:20" #[]).op, none⟩
 ] (by kernel_rfl)))
 (.seq (.block 0 (.loop [0] f77_l0))
 f77_r0))
noncomputable def f77 : Fun Try.prog where
 id := 77
 fn := Try.f77
 hf := Try.func77
 hname := by kernel_rfl
 body := f77_b
 hbody := by kernel_rfl
 res := [rTmp 2]
 hres := by kernel_rfl
 n := 21
 hn := by kernel_rfl
noncomputable def f83_b : Sim Try.prog :=
 (.seq (.live [0] (.region 0 [
 ⟨(opAssign (some 2) (.const (Value.bool false)) 4 "page.go:38" #[]).op, none⟩
 ] (by kernel_rfl)))
 (.seq (.live [2] (.region 1 [
 ⟨(opMove (some 3) (.tmp 0) 34 "page.go:38" #[]).op, none⟩,
 ⟨(opLen (some 4) (.tmp 3) 34 (.slice 5) Try.underlying34 3 "page.go:38" #[eD 0]).op, none⟩,
 ⟨(opBin (some 5) .gtr 3 (.tmp 4) (.const (Value.int IntKind.i64 200)) 3 4 "page.go:38" #[eD 1]).op, none⟩,
 ⟨(opAssign (some 2) (.tmp 5) 4 "page.go:38" #[eD 2, eP 0, eP 1, eP 2]).op, none⟩
 ] (by kernel_rfl)))
 (.live [2] .ret)))
noncomputable def f83 : Fun Try.prog where
 id := 83
 fn := Try.f83
 hf := Try.func83
 hname := by kernel_rfl
 body := f83_b
 hbody := by kernel_rfl
 res := [rTmp 2]
 hres := by kernel_rfl
 n := 6
 hn := by kernel_rfl
noncomputable def f47_l0 : Sim Try.prog :=
 (.seq (.live [3, 9, 10, 11, 12] (.region 3 [
 ⟨(opBin (some 12) .lss 3 (.tmp 11) (.tmp 10) 3 0 "page.go:30" #[]).op, none⟩
 ] (by kernel_rfl)))
 (.seq (.cond (.tmp 12)
 .skip
 (.live [3] (.exit 0)))
 (.seq (.block 1 (.seq (.live [3, 5, 9, 10, 11] (.region 4 [
 ⟨(opIndexAddrT (some 13) 82 (.tmp 9) (.tmp 11) 34 1 Try.underlying82 sz34 0 "page.go:30" #[]).op, none⟩,
 ⟨(opLoadT (.one (.ns 1)) (some 14) 34 (.tmp 13) (.slice 5) Try.underlying34 1 sz34 (by kernel_rfl) 34 "page.go:30" #[eD 0]).op, none⟩,
 ⟨(opAssign (some 5) (.tmp 14) 34 "page.go:30" #[eD 1, eP 0, eP 1]).op, none⟩
 ] (by kernel_rfl)))
 (.live [3, 9, 10, 11] (.region 5 [
 ⟨(opMove (some 15) (.tmp 3) 3 "page.go:31" #[]).op, none⟩,
 ⟨(opMove (some 16) (.tmp 5) 34 "page.go:31" #[]).op, none⟩,
 ⟨(opLen (some 17) (.tmp 16) 34 (.slice 5) Try.underlying34 3 "page.go:31" #[eD 1]).op, none⟩,
 ⟨(opBin (some 18) .add 3 (.tmp 15) (.tmp 17) 3 3 "page.go:31" #[eD 0, eD 2]).op, none⟩,
 ⟨(opAssign (some 3) (.tmp 18) 3 "page.go:31" #[eD 3, eP 0, eP 1, eP 2, eP 3]).op, none⟩
 ] (by kernel_rfl)))))
 (.live [3, 9, 10, 11] (.region 6 [
 ⟨(opBin (some 19) .add 3 (.tmp 11) (.const (Value.int IntKind.i64 1)) 3 3 "page.go:30" #[]).op, none⟩,
 ⟨(opMove (some 11) (.tmp 19) 3 "page.go:30" #[eD 0]).op, none⟩
 ] (by kernel_rfl))))))
noncomputable def f47_r0 : Sim Try.prog :=
 (.seq (.live [2] (.region 7 [
 ⟨(opMove (some 20) (.tmp 3) 3 "page.go:33" #[]).op, none⟩,
 ⟨(opAssign (some 2) (.tmp 20) 3 "page.go:33" #[eD 0, eP 0]).op, none⟩
 ] (by kernel_rfl)))
 (.live [2] .ret))
noncomputable def f47_b : Sim Try.prog :=
 (.seq (.live [0] (.region 0 [
 ⟨(opAssign (some 2) (.const (Value.int IntKind.i64 0)) 3 "page.go:28" #[]).op, none⟩
 ] (by kernel_rfl)))
 (.seq (.live [0, 3] (.region 1 [
 ⟨(opMove (some 6) (.tmp 0) 82 "page.go:29" #[]).op, none⟩,
 ⟨(opLen (some 7) (.tmp 6) 82 (.slice 34) Try.underlying82 3 "page.go:29" #[eD 0]).op, none⟩,
 ⟨(opBin (some 8) .add 3 (.const (Value.int IntKind.i64 1)) (.tmp 7) 3 3 "page.go:29" #[eD 1]).op, none⟩,
 ⟨(opAssign (some 3) (.tmp 8) 3 "page.go:29" #[eD 2, eP 0, eP 1, eP 2]).op, none⟩
 ] (by kernel_rfl)))
 (.seq (.seq (.live [3, 9, 10, 11] (.region 2 [
 ⟨(opMove (some 9) (.tmp 0) 82 "page.go:30" #[]).op, none⟩,
 ⟨(opLen (some 10) (.tmp 9) 82 (.slice 34) Try.underlying82 3 "page.go:30" #[eD 0]).op, none⟩,
 ⟨(opMove (some 11) (.const (Value.int IntKind.i64 0)) 3 "page.go:30" #[]).op, none⟩
 ] (by kernel_rfl)))
 (.block 0 (.loop [3, 9, 10, 11] f47_l0)))
 f47_r0)))
noncomputable def f47 : Fun Try.prog where
 id := 47
 fn := Try.f47
 hf := Try.func47
 hname := by kernel_rfl
 body := f47_b
 hbody := by kernel_rfl
 res := [rTmp 2]
 hres := by kernel_rfl
 n := 21
 hn := by kernel_rfl
noncomputable def f69_b : Sim Try.prog :=
 (.seq (.live [0] (.region 0 [
 ⟨(opAssign (some 2) (.const (Value.bool false)) 4 "page.go:123" #[]).op, none⟩
 ] (by kernel_rfl)))
 (.seq (.live [2] (.region 1 [
 ⟨(opMove (some 3) (.tmp 0) 34 "page.go:123" #[]).op, none⟩,
 ⟨(opEq (some 4) 34 (.slice 5) Try.underlying34 (.tmp 3) (.const (Value.slice none 0 0)) (.inl rfl) 34 4 "page.go:123" #[eD 0]).op, none⟩,
 ⟨(opAssign (some 2) (.tmp 4) 4 "page.go:123" #[eD 1, eP 0, eP 1]).op, none⟩
 ] (by kernel_rfl)))
 (.live [2] .ret)))
noncomputable def f69 : Fun Try.prog where
 id := 69
 fn := Try.f69
 hf := Try.func69
 hname := by kernel_rfl
 body := f69_b
 hbody := by kernel_rfl
 res := [rTmp 2]
 hres := by kernel_rfl
 n := 5
 hn := by kernel_rfl
noncomputable def f46_b : Sim Try.prog :=
 (.seq (.live [0] (.region 0 [
 ⟨(opAssign (some 2) (.const (Value.bool false)) 4 "page.go:162" #[]).op, none⟩
 ] (by kernel_rfl)))
 (.seq (.live [2] (.region 1 [
 ⟨(opMove (some 3) (.tmp 0) 34 "page.go:162" #[]).op, none⟩,
 ⟨(opEq (some 4) 34 (.slice 5) Try.underlying34 (.tmp 3) (.const (Value.slice none 0 0)) (.inl rfl) 34 4 "page.go:162" #[eD 0]).op, none⟩,
 ⟨(opAssign (some 2) (.tmp 4) 4 "page.go:162" #[eD 1, eP 0, eP 1]).op, none⟩
 ] (by kernel_rfl)))
 (.live [2] .ret)))
noncomputable def f46 : Fun Try.prog where
 id := 46
 fn := Try.f46
 hf := Try.func46
 hname := by kernel_rfl
 body := f46_b
 hbody := by kernel_rfl
 res := [rTmp 2]
 hres := by kernel_rfl
 n := 5
 hn := by kernel_rfl
theorem same_run (F : Nat) (z y : Bool) (l r : List (List AV)) (st : St) :
 (f15.run F [.ns z 1 l, .ns y 1 r] st : Ans) =
 branch (.bool ((↑l.length : Int) != (↑r.length : Int))) (some (Fin.ret (.bool false), st))
 (loopRun (f15_l0.run F) [0, 1, 5]
 (Cont.block 0 (Cont.then (f15_r0.run F (f15.leaveK Fun.done)) (f15.leaveK Fun.done))) F
 (Env.mk 26
 [(0, AV.ns z 1 l), (1, AV.ns y 1 r), (5, .int .i64 0)])
 st) := by kernel_rfl
theorem same_round (F n : Nat) (K : Cont) (z y : Bool) (i : Int) (l r : List (List AV)) (st : St) :
 (loopRun (f15_l0.run F) [0, 1, 5] K n.succ (Env.mk 26 [(0, .ns z 1 l), (1, .ns y 1 r), (5, .int .i64 i)]) st : Ans) =
 branch (.bool (decide (i < (↑l.length : Int))))
 (branch (.bool (inR l i))
 (branch (.bool ((LD.one (LT.int IntKind.u8)).is (V.rowAt l i)))
 (branch (.bool (inR r i))
 (branch (.bool ((LD.one (LT.int IntKind.u8)).is (V.rowAt r i)))
 (branch (.bool (hdI (V.rowAt l i) != hdI (V.rowAt r i)))
 (K AX.ret (Env.mk 26 [(4, AV.bool false)]) st)
 (loopRun (f15_l0.run F) [0, 1, 5] K n
 (Env.mk 26
 [(0, AV.ns z 1 l), (1, AV.ns y 1 r),
 (5, .int .i64 (IntKind.i64.wrap (i + 1)))])
 st))
 none)
 none)
 none)
 none)
 (K (AX.exit 0) (Env.mk 26 []) st) := by kernel_rfl
theorem same_out (F : Nat) (st : St) :
 ((Cont.block 0 (Cont.then (f15_r0.run F (f15.leaveK Fun.done)) (f15.leaveK Fun.done))) (.exit 0) (Env.mk 26 []) st : Ans) =
 some (Fin.ret (.bool true), st) := by kernel_rfl
theorem same_ret (F : Nat) (st : St) :
 ((Cont.block 0 (Cont.then (f15_r0.run F (f15.leaveK Fun.done)) (f15.leaveK Fun.done))) .ret (Env.mk 26 [(4, .bool false)]) st : Ans) =
 some (Fin.ret (.bool false), st) := by kernel_rfl
theorem copy_run (F : Nat) (z : Bool) (l : List (List AV)) (st : St) :
 (f51.run F [.ns z 1 l] st : Ans) =
 branch (.bool (true && apOk l.length 1)) (some (Fin.ret (AV.sl 1 false l), st)) none := by kernel_rfl
theorem new_run (F : Nat) (st : St) :
 (f70.run F [] st : Ans) =
 branch (.bool (mkOk 1 (256 : Int)))
 (some
 (Fin.ret (AV.ms st.objs.length 1 0 256 256),
 St.mk (st.objs ++ [Ob.cells (zerC 256 [AV.int IntKind.u8 (0 : Int)])]) st.tk))
 none := by kernel_rfl
theorem free_run (F : Nat) (z : Bool) (l : List (List AV)) (st : St) :
 (f69.run F [.ns z 1 l] st : Ans) =
 some (Fin.ret (.bool z), st) := by kernel_rfl
theorem free2_run (F : Nat) (z : Bool) (l : List (List AV)) (st : St) :
 (f46.run F [.ns z 1 l] st : Ans) =
 some (Fin.ret (.bool z), st) := by kernel_rfl
theorem big_run (F : Nat) (z : Bool) (l : List (List AV)) (st : St) :
 (f83.run F [.ns z 1 l] st : Ans) =
 some (Fin.ret (.bool (decide ((↑l.length : Int) > 200))), st) := by kernel_rfl
theorem trim_run (F : Nat) (z : Bool) (l : List (List AV)) (st : St) :
 (f77.run F [.ns z 1 l] st : Ans) =
 loopRun (f77_l0.run F) [0]
 (Cont.block 0 (Cont.then (f77_r0.run F (f77.leaveK Fun.done)) (f77.leaveK Fun.done))) F
 (Env.mk 21 [(0, AV.ns z 1 l)]) st := by kernel_rfl
theorem trim_round (F n : Nat) (K : Cont) (z : Bool) (l : List (List AV)) (st : St) :
 (loopRun (f77_l0.run F) [0] K n.succ (Env.mk 21 [(0, .ns z 1 l)]) st : Ans) =
 branch (.bool (decide ((↑l.length : Int) > 0)))
 (branch (.bool (inR l (IntKind.i64.wrap ((↑l.length : Int) - 1))))
 (branch (.bool ((LD.one (LT.ns 1)).is (V.rowAt l (IntKind.i64.wrap ((↑l.length : Int) - 1)))))
 (branch (.bool (nilA (V.rowAt l (IntKind.i64.wrap ((↑l.length : Int) - 1)))))
 (if
 (0 : Int) ≤ IntKind.i64.wrap ((↑l.length : Int) - 1) ∧
 IntKind.i64.wrap ((↑l.length : Int) - 1) ≤ (↑l.length : Int) then
 loopRun (f77_l0.run F) [0] K n
 (Env.mk 21
 [(0,
 AV.ns z 1
 (List.drop 0 (List.take (IntKind.i64.wrap ((↑l.length : Int) - 1)).toNat l)))])
 st
 else none)
 (K (AX.exit 0) (Env.mk 21 [(0, AV.ns z 1 l)]) st))
 none)
 none)
 (K (AX.exit 0) (Env.mk 21 [(0, AV.ns z 1 l)]) st) := by kernel_rfl
theorem trim_out (F : Nat) (z : Bool) (l : List (List AV)) (st : St) :
 ((Cont.block 0 (Cont.then (f77_r0.run F (f77.leaveK Fun.done)) (f77.leaveK Fun.done))) (.exit 0) (Env.mk 21 [(0, .ns z 1 l)]) st : Ans) =
 some (Fin.ret (AV.ns z 1 l), st) := by kernel_rfl
theorem size_run (F : Nat) (z : Bool) (l : List (List AV)) (st : St) :
 (f47.run F [.ns z 1 l] st : Ans) =
 loopRun (f47_l0.run F) [3, 9, 10, 11]
 (Cont.block 0 (Cont.then (f47_r0.run F (f47.leaveK Fun.done)) (f47.leaveK Fun.done))) F
 (Env.mk 21
 [(3, .int .i64 (IntKind.i64.wrap ((1 : Int) + (↑l.length : Int)))),
 (9, AV.ns z 1 l), (10, .int .i64 (↑l.length : Int)),
 (11, .int .i64 0)])
 st := by kernel_rfl
theorem size_round (F m : Nat) (K : Cont) (z : Bool) (l : List (List AV)) (n i e : Int) (st : St) :
 (loopRun (f47_l0.run F) [3, 9, 10, 11] K m.succ (Env.mk 21 [(3, .int .i64 n), (9, .ns z 1 l), (10, .int .i64 e), (11, .int .i64 i)]) st : Ans) =
 branch (.bool (decide (i < e)))
 (branch (.bool (inR l i))
 (branch (.bool ((LD.one (LT.ns 1)).is (V.rowAt l i)))
 (loopRun (f47_l0.run F) [3, 9, 10, 11] K m
 (Env.mk 21
 [(3, .int .i64 (IntKind.i64.wrap (n + (↑(rwA (V.rowAt l i)).length : Int)))),
 (9, AV.ns z 1 l), (10, .int .i64 e),
 (11, .int .i64 (IntKind.i64.wrap (i + 1)))])
 st)
 none)
 none)
 (K (AX.exit 0) (Env.mk 21 [(3, .int .i64 n)]) st) := by kernel_rfl
theorem size_out (F : Nat) (n : Int) (st : St) :
 ((Cont.block 0 (Cont.then (f47_r0.run F (f47.leaveK Fun.done)) (f47.leaveK Fun.done))) (.exit 0) (Env.mk 21 [(3, .int .i64 n)]) st : Ans) =
 some (Fin.ret (.int .i64 n), st) := by kernel_rfl
theorem same_loop (F : Nat) (z y : Bool) (l r : List (List AV)) (hl : byOk l = true) (hr : byOk r = true) (hlen : l.length = r.length) (st : St) : ∀ (k n i : Nat), l.length - i = k → i ≤ l.length → k < n →
  loopRun (f15_l0.run F) [0, 1, 5] (Cont.block 0 (Cont.then (f15_r0.run F (f15.leaveK Fun.done)) (f15.leaveK Fun.done))) n (Env.mk 26 [(0, .ns z 1 l), (1, .ns y 1 r), (5, .int .i64 (i : Int))]) st
   = some (.ret (.bool ((nR l).drop i == (nR r).drop i)), st)
 | k, 0, i, hk, hi, hn => by omega
 | 0, n + 1, i, hk, hi, hn => by
  rw [show n + 1 = n.succ from rfl, same_round, branch_not (by simp; omega), same_out]
  rw [List.drop_eq_nil_of_le (by rw [nR_length]; omega), List.drop_eq_nil_of_le (by rw [nR_length]; omega)]
  rfl
 | k + 1, n + 1, i, hk, hi, hn => by
  rw [byOk_iff] at hl hr
  have h1 : i < l.length := by omega
  have h2 : i < r.length := by omega
  obtain ⟨l1, l2⟩ := okR_at hl.1 h1
  obtain ⟨r1, r2⟩ := okR_at hr.1 h2
  rw [show n + 1 = n.succ from rfl, same_round, branch_of (by simp; omega), branch_of (inR_nat h1), branch_of l1, branch_of (inR_nat h2), branch_of r1, l2, r2]
  rw [beq_drop (by rw [nR_length]; exact h1) (by rw [nR_length]; exact h2)]
  by_cases hb : (nR l)[i]'(by rw [nR_length]; exact h1) = (nR r)[i]'(by rw [nR_length]; exact h2)
  ·rw [branch_not (by rw [hb]; simp), wrap_succ (by omega), same_loop F z y l r (byOk_iff.mpr hl) (byOk_iff.mpr hr) hlen st k n (i + 1) (by omega) (by omega) (by omega), hb]
   simp
  ·rw [branch_of (by simpa using fun e => hb (Int.ofNat.inj e)), same_ret]
   simp [hb]
theorem same_all (z y : Bool) (l r : List (List AV)) (hl : byOk l = true) (hr : byOk r = true) (st : St) : f15.run (l.length + 1) [.ns z 1 l, .ns y 1 r] st = some (.ret (.bool (nR l == nR r)), st) := by
 rw [same_run]
 by_cases h : l.length = r.length
 ·rw [branch_not (by simp [h])]
  exact same_loop _ z y l r hl hr h st l.length _ 0 (by omega) (by omega) (by omega)
 ·rw [branch_of (by simp; omega)]
  have : (nR l == nR r) = false := by
   simp only [beq_eq_false_iff_ne, ne_eq]
   intro e
   exact h (by rw [← nR_length l, ← nR_length r, e])
  rw [this]
noncomputable def p15 : POrc Try.prog := f15.farN
 (fun args k => match args with
  | [x, y] => onNs 1 x fun _ l => onNs 1 y fun _ r => ifT (byOk l && byOk r) (k (.bool (nR l == nR r)))
  | _ => none)
 fun args k fin h => by
  split at h
  ·rename_i x y
   obtain ⟨z, l, h, hx⟩ := onNs_spec h
   obtain ⟨z', r, h, hy⟩ := onNs_spec h
   obtain ⟨h1, h⟩ := ifT_spec h
   simp only [Bool.and_eq_true] at h1
   exact ⟨_, _, h, .cons hx (.cons hy .nil), ⟨okR_scoped (byOk_iff.mp h1.1).1, okR_scoped (byOk_iff.mp h1.2).1, trivial⟩, trivial, _, .bool _, ⟨[], []⟩, rfl, same_all z z' l r h1.1 h1.2 _⟩
  ·cases h
theorem p15_nat : p15.Nat := by
 intro args k
 show (match args with | [x, y] => _ | _ => _) = thenA (match args with | [x, y] => _ | _ => _) k
 split
 ·exact onNs_nat fun _ _ => onNs_nat fun _ _ => ifT_nat rfl
 ·rfl
noncomputable def p51 : POrc Try.prog := f51.farN
 (fun args k => match args with
  | [x] => onNs 1 x fun _ l => ifT (byOk l && apOk l.length 1) (k (.sl 1 false l))
  | _ => none)
 fun args k fin h => by
  split at h
  ·rename_i x
   obtain ⟨z, l, h, hx⟩ := onNs_spec h
   obtain ⟨h1, h⟩ := ifT_spec h
   simp only [Bool.and_eq_true] at h1
   have hs := okR_scoped (n := 0) (m := 0) (byOk_iff.mp h1.1).1
   exact ⟨_, _, h, .cons hx .nil, ⟨hs, trivial⟩, hs, 0, _, _, hard_id _ _ hs, (copy_run 0 z l _).trans (branch_of (by simpa using h1.2))⟩
  ·cases h
noncomputable def zeroP : List Nat := opq (List.replicate 256 0)
noncomputable def p70 : POrc Try.prog := f70.farW
 (fun args k => match args with
  | [] => k (.ns false 1 (bR zeroP))
  | _ => none)
 fun args k fin h => by
  split at h
  ·have hh : hard [Ob.cells (zerC 256 [.int .u8 0])] (.ms 0 1 0 256 256) = .sl 1 true (bR zeroP) := by
    simp only [hard, List.getElem?_cons_zero, List.drop_zero, zerC_byte]
    rw [rowsOf_bC 256 _ (by rw [List.length_replicate]; exact Nat.le_refl _), zeroP, opq_eq, List.take_of_length_le (by rw [List.length_replicate]; exact Nat.le_refl _)]
    rfl
   refine ⟨[], _, h, .nil, trivial, 0, .ms 0 1 0 256 256, ⟨[.cells (zerC 256 [.int .u8 0])], []⟩, (new_run 0 _).trans (branch_of (by rw [mkOk_iff]; exact ⟨by decide, by decide⟩)), ?_, ?_⟩
   ·rw [hh]; exact bR_scoped _
   ·rw [hh]; exact .sl
  ·cases h
noncomputable def p69 : POrc Try.prog := f69.farN
 (fun args k => match args with
  | [x] => onNs 1 x fun z l => ifT (byOk l) (k (.bool z))
  | _ => none)
 fun args k fin h => by
  split at h
  ·rename_i x
   obtain ⟨z, l, h, hx⟩ := onNs_spec h
   obtain ⟨h1, h⟩ := ifT_spec h
   exact ⟨_, _, h, .cons hx .nil, ⟨okR_scoped (byOk_iff.mp h1).1, trivial⟩, trivial, 0, _, _, rfl, free_run 0 z l _⟩
  ·cases h
noncomputable def p46 : POrc Try.prog := f46.farN
 (fun args k => match args with
  | [x] => onNs 1 x fun z l => ifT (byOk l) (k (.bool z))
  | _ => none)
 fun args k fin h => by
  split at h
  ·rename_i x
   obtain ⟨z, l, h, hx⟩ := onNs_spec h
   obtain ⟨h1, h⟩ := ifT_spec h
   exact ⟨_, _, h, .cons hx .nil, ⟨okR_scoped (byOk_iff.mp h1).1, trivial⟩, trivial, 0, _, _, rfl, free2_run 0 z l _⟩
  ·cases h
noncomputable def p83 : POrc Try.prog := f83.farN
 (fun args k => match args with
  | [x] => onNs 1 x fun z l => ifT (byOk l) (k (.bool (decide ((l.length : Int) > 200))))
  | _ => none)
 fun args k fin h => by
  split at h
  ·rename_i x
   obtain ⟨z, l, h, hx⟩ := onNs_spec h
   obtain ⟨h1, h⟩ := ifT_spec h
   exact ⟨_, _, h, .cons hx .nil, ⟨okR_scoped (byOk_iff.mp h1).1, trivial⟩, trivial, 0, _, _, rfl, big_run 0 z l _⟩
  ·cases h
noncomputable def trR (l : List (List AV)) : List (List AV) := opq (l.reverse.dropWhile nilA).reverse
theorem trR_nil : trR [] = [] := by rw [trR, opq_eq]; rfl
theorem trR_snoc (l : List (List AV)) (x : List AV) : trR (l ++ [x]) = bif nilA x then trR l else l ++ [x] := by
 rw [trR, trR, opq_eq, opq_eq, List.reverse_append, List.reverse_singleton, List.singleton_append, List.dropWhile_cons]
 cases nilA x <;> simp
theorem trR_take (l : List (List AV)) : ∃ k, k ≤ l.length ∧ trR l = l.take k := by
 rw [trR, opq_eq]
 have h1 : (l.reverse.dropWhile nilA) <:+ l.reverse := List.dropWhile_suffix _
 have h2 : (l.reverse.dropWhile nilA).reverse <+: l := by
  have := List.reverse_prefix.mpr h1
  simpa using this
 exact ⟨_, h2.length_le, (List.prefix_iff_eq_take.mp h2)⟩
theorem trR_len (l : List (List AV)) : (trR l).length ≤ l.length := by
 obtain ⟨k, h1, h2⟩ := trR_take l
 rw [h2, List.length_take]; omega
theorem okS_tr {l : List (List AV)} (h : okS l = true) : okS (trR l) = true := by
 obtain ⟨k, h1, h2⟩ := trR_take l
 exact okS_sub h (fun x hx => by rw [h2] at hx; exact List.mem_of_mem_take hx) (trR_len l)
theorem trim_loop (F : Nat) (z : Bool) (st : St) : ∀ (n : Nat) (l : List (List AV)), okS l = true → l.length < n →
  loopRun (f77_l0.run F) [0] (Cont.block 0 (Cont.then (f77_r0.run F (f77.leaveK Fun.done)) (f77.leaveK Fun.done))) n (Env.mk 21 [(0, .ns z 1 l)]) st = some (.ret (.ns z 1 (trR l)), st)
 | 0, l, h, hn => by omega
 | n + 1, l, h, hn => by
  rw [show n + 1 = n.succ from rfl, trim_round]
  rcases List.eq_nil_or_concat l with rfl | ⟨l', x, rfl⟩
  ·rw [branch_not (by simp), trim_out, trR_nil]
  ·rw [List.concat_eq_append] at *
   have hl : (l' ++ [x]).length = l'.length + 1 := by simp
   have hb : l'.length + 1 < 4611686018427387904 := by have := (okS_iff.mp h).2; rw [hl] at this; exact this
   have hw : IntKind.i64.wrap (((l' ++ [x]).length : Int) - 1) = ((l'.length : Nat) : Int) := by
    rw [hl, show ((l'.length + 1 : Nat) : Int) - 1 = ((l'.length : Nat) : Int) by omega, wrap_nat (by omega)]
   have hi : l'.length < (l' ++ [x]).length := by omega
   obtain ⟨h1, h2, h3, h4⟩ := okS_at h hi
   have hr : V.rowAt (l' ++ [x]) ((l'.length : Nat) : Int) = x := by rw [rowAt_nat hi]; simp
   rw [branch_of (by simp), hw, branch_of (inR_nat hi), branch_of h1, hr, trR_snoc]
   cases hx : nilA x with
   | false => exact trim_out F z (l' ++ [x]) st
   | true =>
    rw [branch_true, if_pos ⟨by omega, by omega⟩, Int.toNat_natCast, List.drop_zero, List.take_left]
    exact trim_loop F z st n l' (okS_sub h (fun y hy => by simp [hy]) (by omega)) (by omega)
noncomputable def p77 : POrc Try.prog := f77.farN
 (fun args k => match args with
  | [x] => onNs 1 x fun z l => ifT (okS l) (k (.ns z 1 (trR l)))
  | _ => none)
 fun args k fin h => by
  split at h
  ·rename_i x
   obtain ⟨z, l, h, hx⟩ := onNs_spec h
   obtain ⟨h1, h⟩ := ifT_spec h
   have hs := okS_scoped (n := 0) (m := 0) (okS_iff.mp (okS_tr h1)).1
   exact ⟨_, _, h, .cons hx .nil, ⟨okS_scoped (okS_iff.mp h1).1, trivial⟩, hs, l.length + 1, _, _, hard_id _ _ hs, (trim_run _ z l _).trans (trim_loop _ z _ _ l h1 (by omega))⟩
  ·cases h
def olen (o : Option (List Nat)) : Nat := (o.getD []).length
def sumN (s : List (Option (List Nat))) : Nat := (s.map olen).sum
def szN (s : List (Option (List Nat))) : Nat := 1 + s.length + sumN s
theorem sumN_cons (o : Option (List Nat)) (s : List (Option (List Nat))) : sumN (o :: s) = olen o + sumN s := rfl
theorem sumN_append (s t : List (Option (List Nat))) : sumN (s ++ t) = sumN s + sumN t := by simp [sumN]
theorem slot_len {r : List AV} (h : nilA r = true → rwA r = []) : olen (slot r) = (rwA r).length := by
 unfold slot
 cases hn : nilA r with
 | true => rw [h hn]; rfl
 | false => simp [olen, nR_length]
theorem drop_at {α : Type} {l : List α} {i : Nat} (h : i < l.length) : l.drop i = l[i] :: l.drop (i + 1) := List.drop_eq_getElem_cons h
theorem size_loop (F : Nat) (z : Bool) (st : St) (l : List (List AV)) (h : okS l = true) : ∀ (k n i m : Nat), l.length - i = k → i ≤ l.length → k < n → m + sumN ((sR l).drop i) < 4611686018427387904 →
  loopRun (f47_l0.run F) [3, 9, 10, 11] (Cont.block 0 (Cont.then (f47_r0.run F (f47.leaveK Fun.done)) (f47.leaveK Fun.done))) n
   (Env.mk 21 [(3, .int .i64 (m : Int)), (9, .ns z 1 l), (10, .int .i64 (l.length : Int)), (11, .int .i64 (i : Int))]) st = some (.ret (.int .i64 ((m + sumN ((sR l).drop i) : Nat) : Int)), st)
 | k, 0, i, m, hk, hi, hn, hm => by omega
 | 0, n + 1, i, m, hk, hi, hn, hm => by
  rw [show n + 1 = n.succ from rfl, size_round, branch_not (by simp; omega), size_out, List.drop_eq_nil_of_le (by rw [sR_length]; omega)]
  rfl
 | k + 1, n + 1, i, m, hk, hi, hn, hm => by
  have h1 : i < l.length := by omega
  obtain ⟨l1, l2, l3, l4⟩ := okS_at h h1
  have hb := (okS_iff.mp h).2
  rw [drop_at (by rw [sR_length]; exact h1), sumN_cons, ← l3, slot_len l4] at hm ⊢
  rw [show n + 1 = n.succ from rfl, size_round, branch_of (by simp; omega), branch_of (inR_nat h1), branch_of l1, wrap_succ (by omega), show (m : Int) + ((rwA (V.rowAt l (i : Int))).length : Int) = ((m + (rwA (V.rowAt l (i : Int))).length : Nat) : Int) by omega, wrap_nat (by omega),
   size_loop F z st l h k n (i + 1) (m + (rwA (V.rowAt l (i : Int))).length) (by omega) (by omega) (by omega) (by omega)]
  rw [Nat.add_assoc]
noncomputable def p47 : POrc Try.prog := f47.farN
 (fun args k => match args with
  | [x] => onNs 1 x fun z l => ifT (okS l && fit (szN (sR l))) (k (.int .i64 (szN (sR l) : Nat)))
  | _ => none)
 fun args k fin h => by
  split at h
  ·rename_i x
   obtain ⟨z, l, h, hx⟩ := onNs_spec h
   obtain ⟨h1, h⟩ := ifT_spec h
   simp only [Bool.and_eq_true, fit_iff] at h1
   refine ⟨_, _, h, .cons hx .nil, ⟨okS_scoped (okS_iff.mp h1.1).1, trivial⟩, trivial, l.length + 1, .int .i64 (szN (sR l) : Nat), ⟨[], []⟩, rfl, (size_run _ z l _).trans ?_⟩
   have h2 := h1.2
   rw [szN, sR_length] at h2
   have := size_loop (l.length + 1) z ⟨[], []⟩ l h1.1 l.length (l.length + 1) 0 (1 + l.length) (by omega) (by omega) (by omega) (by rw [List.drop_zero]; exact h2)
   rw [show (1 : Int) + (l.length : Int) = ((1 + l.length : Nat) : Int) by omega, wrap_nat (by omega)]
   rw [List.drop_zero] at this
   rw [szN, sR_length]
   exact this
  ·cases h
noncomputable def f68_l0 (Os : List (Orc Try.prog)) : Sim Try.prog :=
 (.seq (.live [0, 1, 7, 8, 9] (.region 2 [
 ⟨(opBin (some 9) .lss 3 (.tmp 8) (.tmp 7) 3 0 "slices.go:108" #[]).op, none⟩
 ] (by kernel_rfl)))
 (.seq (.cond (.tmp 9)
 .skip
 (.live [] (.exit 0)))
 (.seq (.block 1 (.seq (.live [0, 1, 5, 7, 8] (.region 3 [
 ⟨(opMove (some 10) (.tmp 8) 3 "slices.go:108" #[]).op, none⟩,
 ⟨(opAssign (some 5) (.tmp 10) 3 "slices.go:108" #[eD 0, eP 0]).op, none⟩
 ] (by kernel_rfl)))
 (.seq (.live [0, 1, 5, 7, 8, 16] (.region 4 [
 ⟨(opMove (some 11) (.tmp 1) 86 "slices.go:109" #[]).op, none⟩,
 ⟨(opMove (some 12) (.tmp 0) 82 "slices.go:109" #[]).op, none⟩,
 ⟨(opMove (some 13) (.tmp 5) 3 "slices.go:109" #[]).op, none⟩,
 ⟨(opIndexAddrT (some 14) 82 (.tmp 12) (.tmp 13) 34 1 Try.underlying82 sz34 0 "slices.go:109" #[eD 1, eD 2]).op, none⟩,
 ⟨(opLoadT (.one (.ns 1)) (some 15) 34 (.tmp 14) (.slice 5) Try.underlying34 1 sz34 (by kernel_rfl) 34 "slices.go:109" #[eD 3]).op, none⟩,
 ⟨opCallDyn Os (some 16) 11 [(.tmp 15)] #[34] 4 "slices.go:109" #[eD 0, eD 4], none⟩
 ] (by kernel_rfl)))
 (.cond (.tmp 16)
 (.seq (.live [4] (.region 5 [
 ⟨(opMove (some 17) (.tmp 5) 3 "slices.go:110" #[]).op, none⟩,
 ⟨(opAssign (some 4) (.tmp 17) 3 "slices.go:110" #[eD 0, eP 0]).op, none⟩
 ] (by kernel_rfl)))
 (.live [4] .ret))
 .skip))))
 (.live [0, 1, 7, 8] (.region 6 [
 ⟨(opBin (some 18) .add 3 (.tmp 8) (.const (Value.int IntKind.i64 1)) 3 3 "slices.go:108" #[]).op, none⟩,
 ⟨(opMove (some 8) (.tmp 18) 3 "slices.go:108" #[eD 0]).op, none⟩
 ] (by kernel_rfl))))))
noncomputable def f68_r0 (Os : List (Orc Try.prog)) : Sim Try.prog :=
 (.seq (.live [4] (.region 7 [
 ⟨(opAssign (some 4) (.const (Value.int IntKind.i64 (-1))) 3 "slices.go:113" #[]).op, none⟩
 ] (by kernel_rfl)))
 (.live [4] .ret))
noncomputable def f68_b (Os : List (Orc Try.prog)) : Sim Try.prog :=
 (.seq (.live [0, 1] (.region 0 [
 ⟨(opAssign (some 4) (.const (Value.int IntKind.i64 0)) 3 "slices.go:107" #[]).op, none⟩
 ] (by kernel_rfl)))
 (.seq (.seq (.live [0, 1, 7, 8] (.region 1 [
 ⟨(opMove (some 6) (.tmp 0) 82 "slices.go:108" #[]).op, none⟩,
 ⟨(opLen (some 7) (.tmp 6) 82 (.slice 34) Try.underlying82 3 "slices.go:108" #[eD 0]).op, none⟩,
 ⟨(opMove (some 8) (.const (Value.int IntKind.i64 0)) 3 "slices.go:108" #[]).op, none⟩
 ] (by kernel_rfl)))
 (.block 0 (.loop [0, 1, 7, 8] (f68_l0 Os))))
 (f68_r0 Os)))
noncomputable def f68 (Os : List (Orc Try.prog)) : Fun Try.prog where
 id := 68
 fn := Try.f68
 hf := Try.func68
 hname := by kernel_rfl
 body := f68_b Os
 hbody := by kernel_rfl
 res := [rTmp 4]
 hres := by kernel_rfl
 n := 19
 hn := by kernel_rfl
noncomputable def OsC : List (Orc Try.prog) := [p69.orcS.orc, p46.orcS.orc, p83.orcS.orc]
theorem idx_run (F f : Nat) (z : Bool) (l : List (List AV)) (st : St) :
 ((f68 OsC).run F [.ns z 1 l, .fn (.func f) [] []] st : Ans) =
 loopRun ((f68_l0 OsC).run F) [0, 1, 7, 8]
 (Cont.block 0 (Cont.then ((f68_r0 OsC).run F ((f68 OsC).leaveK Fun.done)) ((f68 OsC).leaveK Fun.done))) F
 (Env.mk 19
 [(0, AV.ns z 1 l), (1, AV.fn (Fn.func f) [] []),
 (7, .int .i64 (↑l.length : Int)), (8, .int .i64 0)])
 st := by kernel_rfl
theorem idx_round25 (F n : Nat) (K : Cont) (z : Bool) (l : List (List AV)) (i e : Int) (st : St) :
 (loopRun ((f68_l0 OsC).run F) [0, 1, 7, 8] K n.succ (Env.mk 19 [(0, .ns z 1 l), (1, .fn (.func 69) [] []), (7, .int .i64 e), (8, .int .i64 i)]) st : Ans) =
 branch (.bool (decide (i < e)))
 (branch (.bool (inR l i))
 (branch (.bool ((LD.one (LT.ns 1)).is (V.rowAt l i)))
 (branch (.bool (byOk (rwA (V.rowAt l i))))
 (branch (.bool (nilA (V.rowAt l i))) (K AX.ret (Env.mk 19 [(4, .int .i64 i)]) st)
 (loopRun ((f68_l0 OsC).run F) [0, 1, 7, 8] K n
 (Env.mk 19
 [(0, AV.ns z 1 l), (1, AV.fn (Fn.func (69 : FuncId)) [] []),
 (7, .int .i64 e), (8, .int .i64 (IntKind.i64.wrap (i + 1)))])
 st))
 none)
 none)
 none)
 (K (AX.exit 0) (Env.mk 19 []) st) := by kernel_rfl
theorem idx_round27 (F n : Nat) (K : Cont) (z : Bool) (l : List (List AV)) (i e : Int) (st : St) :
 (loopRun ((f68_l0 OsC).run F) [0, 1, 7, 8] K n.succ (Env.mk 19 [(0, .ns z 1 l), (1, .fn (.func 46) [] []), (7, .int .i64 e), (8, .int .i64 i)]) st : Ans) =
 branch (.bool (decide (i < e)))
 (branch (.bool (inR l i))
 (branch (.bool ((LD.one (LT.ns 1)).is (V.rowAt l i)))
 (branch (.bool (byOk (rwA (V.rowAt l i))))
 (branch (.bool (nilA (V.rowAt l i))) (K AX.ret (Env.mk 19 [(4, .int .i64 i)]) st)
 (loopRun ((f68_l0 OsC).run F) [0, 1, 7, 8] K n
 (Env.mk 19
 [(0, AV.ns z 1 l), (1, AV.fn (Fn.func (46 : FuncId)) [] []),
 (7, .int .i64 e), (8, .int .i64 (IntKind.i64.wrap (i + 1)))])
 st))
 none)
 none)
 none)
 (K (AX.exit 0) (Env.mk 19 []) st) := by kernel_rfl
theorem idx_round37 (F n : Nat) (K : Cont) (z : Bool) (l : List (List AV)) (i e : Int) (st : St) :
 (loopRun ((f68_l0 OsC).run F) [0, 1, 7, 8] K n.succ (Env.mk 19 [(0, .ns z 1 l), (1, .fn (.func 83) [] []), (7, .int .i64 e), (8, .int .i64 i)]) st : Ans) =
 branch (.bool (decide (i < e)))
 (branch (.bool (inR l i))
 (branch (.bool ((LD.one (LT.ns 1)).is (V.rowAt l i)))
 (branch (.bool (byOk (rwA (V.rowAt l i))))
 (branch (.bool (decide ((↑(rwA (V.rowAt l i)).length : Int) > 200)))
 (K AX.ret (Env.mk 19 [(4, .int .i64 i)]) st)
 (loopRun ((f68_l0 OsC).run F) [0, 1, 7, 8] K n
 (Env.mk 19
 [(0, AV.ns z 1 l), (1, AV.fn (Fn.func (83 : FuncId)) [] []),
 (7, .int .i64 e), (8, .int .i64 (IntKind.i64.wrap (i + 1)))])
 st))
 none)
 none)
 none)
 (K (AX.exit 0) (Env.mk 19 []) st) := by kernel_rfl
theorem idx_out (F : Nat) (st : St) :
 ((Cont.block 0 (Cont.then ((f68_r0 OsC).run F ((f68 OsC).leaveK Fun.done)) ((f68 OsC).leaveK Fun.done))) (.exit 0) (Env.mk 19 []) st : Ans) =
 some (Fin.ret (.int .i64 (-1 : Int)), st) := by kernel_rfl
theorem idx_ret (F : Nat) (i : Int) (st : St) :
 ((Cont.block 0 (Cont.then ((f68_r0 OsC).run F ((f68 OsC).leaveK Fun.done)) ((f68 OsC).leaveK Fun.done))) .ret (Env.mk 19 [(4, .int .i64 i)]) st : Ans) =
 some (Fin.ret (.int .i64 i), st) := by kernel_rfl
def prd (f : Nat) (r : List AV) : Bool := bif Nat.beq f 83 then decide (((rwA r).length : Int) > 200) else nilA r
def prdF (f : Nat) : Bool := Nat.beq f 69 || (Nat.beq f 46 || Nat.beq f 83)
theorem idx_round (F n f : Nat) (hf : prdF f = true) (K : Cont) (z : Bool) (l : List (List AV)) (h : okS l = true) (i : Nat) (hi : i < l.length) (st : St) :
  loopRun ((f68_l0 OsC).run F) [0, 1, 7, 8] K n.succ (Env.mk 19 [(0, .ns z 1 l), (1, .fn (.func f) [] []), (7, .int .i64 (l.length : Int)), (8, .int .i64 (i : Int))]) st =
   branch (.bool (prd f (V.rowAt l (i : Int)))) (K AX.ret (Env.mk 19 [(4, AV.int IntKind.i64 i)]) st)
    (loopRun ((f68_l0 OsC).run F) [0, 1, 7, 8] K n (Env.mk 19 [(0, .ns z 1 l), (1, .fn (.func f) [] []), (7, .int .i64 (l.length : Int)), (8, .int .i64 ((i + 1 : Nat) : Int))]) st) := by
 obtain ⟨h1, h2, h3, h4⟩ := okS_at h hi
 have hb := (okS_iff.mp h).2
 simp only [prdF, Bool.or_eq_true] at hf
 rcases hf with hf | hf | hf <;> obtain rfl := Nat.eq_of_beq_eq_true hf
 ·rw [idx_round25, branch_of (by simpa using hi), branch_of (inR_nat hi), branch_of h1, branch_of h2, wrap_succ (by omega)]; rfl
 ·rw [idx_round27, branch_of (by simpa using hi), branch_of (inR_nat hi), branch_of h1, branch_of h2, wrap_succ (by omega)]; rfl
 ·rw [idx_round37, branch_of (by simpa using hi), branch_of (inR_nat hi), branch_of h1, branch_of h2, wrap_succ (by omega)]; rfl
theorem idx_stop (F n f : Nat) (hf : prdF f = true) (K : Cont) (z : Bool) (l : List (List AV)) (st : St) :
  loopRun ((f68_l0 OsC).run F) [0, 1, 7, 8] K n.succ (Env.mk 19 [(0, .ns z 1 l), (1, .fn (.func f) [] []), (7, .int .i64 (l.length : Int)), (8, .int .i64 (l.length : Int))]) st = K (.exit 0) (Env.mk 19 []) st := by
 simp only [prdF, Bool.or_eq_true] at hf
 rcases hf with hf | hf | hf <;> obtain rfl := Nat.eq_of_beq_eq_true hf
 ·rw [idx_round25, branch_not (by simp)]
 ·rw [idx_round27, branch_not (by simp)]
 ·rw [idx_round37, branch_not (by simp)]
theorem idx_loop (F f : Nat) (hf : prdF f = true) (z : Bool) (l : List (List AV)) (h : okS l = true) (st : St) : ∀ (k n i : Nat), i + k = l.length → k < n →
  loopRun ((f68_l0 OsC).run F) [0, 1, 7, 8] (Cont.block 0 (Cont.then ((f68_r0 OsC).run F ((f68 OsC).leaveK Fun.done)) ((f68 OsC).leaveK Fun.done))) n (Env.mk 19 [(0, .ns z 1 l), (1, .fn (.func f) [] []), (7, .int .i64 (l.length : Int)), (8, .int .i64 (i : Int))]) st
   = some (.ret (.int .i64 (idxI (idxFrom (prd f) (l.drop i) i))), st)
 | k, 0, i, hi, hn => by omega
 | 0, n + 1, i, hi, hn => by
  obtain rfl : i = l.length := by omega
  rw [show n + 1 = n.succ from rfl, idx_stop F n f hf, idx_out, List.drop_length]
  rfl
 | k + 1, n + 1, i, hi, hn => by
  have h1 : i < l.length := by omega
  rw [show n + 1 = n.succ from rfl, idx_round F n f hf _ z l h i h1, drop_at h1, idxFrom, rowAt_nat h1]
  cases hp : prd f l[i] with
  | true => exact idx_ret F i st
  | false => exact idx_loop F f hf z l h st k n (i + 1) (by omega) (by omega)
noncomputable def p68 : POrc Try.prog := (f68 OsC).farN
 (fun args k => match args with
  | [x, .fn (.func f) [] []] => onNs 1 x fun _ l => ifT (prdF f && okS l) (k (.int .i64 (idxI (idxFrom (prd f) l 0))))
  | _ => none)
 fun args k fin h => by
  split at h
  ·rename_i x f
   obtain ⟨z, l, h, hx⟩ := onNs_spec h
   obtain ⟨h1, h⟩ := ifT_spec h
   simp only [Bool.and_eq_true] at h1
   refine ⟨_, _, h, .cons hx (.cons (.refl _) .nil), ⟨okS_scoped (okS_iff.mp h1.2).1, ⟨trivial, trivial, trivial⟩, trivial⟩, trivial, l.length + 1, .int .i64 _, ⟨[], []⟩, rfl, (idx_run _ f z l _).trans ?_⟩
   exact idx_loop _ f h1.1 z l h1.2 _ l.length _ 0 (by omega) (by omega)
  ·cases h
noncomputable def f45_b : Sim Try.prog :=
 (.seq (.live [0, 1] (.region 0 [
 ⟨(opAssign (some 4) (.const (Value.bool false)) 4 "slices.go:124" #[]).op, none⟩
 ] (by kernel_rfl)))
 (.seq (.live [4] (.region 1 [
 ⟨(opMove (some 5) (.tmp 0) 82 "slices.go:125" #[]).op, none⟩,
 ⟨(opMove (some 6) (.tmp 1) 86 "slices.go:125" #[]).op, none⟩,
 ⟨(opCallP p68 (some 7) [(.tmp 5), (.tmp 6)] #[82, 86] 3 "slices.go:125" #[eD 0, eD 1]).op, none⟩,
 ⟨(opBin (some 8) .geq 3 (.tmp 7) (.const (Value.int IntKind.i64 0)) 3 4 "slices.go:125" #[eD 2]).op, none⟩,
 ⟨(opAssign (some 4) (.tmp 8) 4 "slices.go:125" #[eD 3, eC 2, eP 0, eP 1, eP 2, eP 3]).op, none⟩
 ] (by kernel_rfl)))
 (.live [4] .ret)))
noncomputable def f45 : Fun Try.prog where
 id := 45
 fn := Try.f45
 hf := Try.func45
 hname := by kernel_rfl
 body := f45_b
 hbody := by kernel_rfl
 res := [rTmp 4]
 hres := by kernel_rfl
 n := 9
 hn := by kernel_rfl
theorem has_run (F f : Nat) (z : Bool) (l : List (List AV)) (st : St) :
 (f45.run F [.ns z 1 l, .fn (.func f) [] []] st : Ans) =
 branch (.bool (prdF f && okS l))
 (some (Fin.ret (.bool (decide (idxI (idxFrom (prd f) l 0) ≥ 0))), st)) none := by kernel_rfl
theorem idxI_ge (o : Option Nat) : decide (idxI o ≥ 0) = o.isSome := by
 cases o with
 | none => rfl
 | some j => simp [idxI]
noncomputable def p45 : POrc Try.prog := f45.farN
 (fun args k => match args with
  | [x, .fn (.func f) [] []] => onNs 1 x fun _ l => ifT (prdF f && okS l) (k (.bool (l.any (prd f))))
  | _ => none)
 fun args k fin h => by
  split at h
  ·rename_i x f
   obtain ⟨z, l, h, hx⟩ := onNs_spec h
   obtain ⟨h1, h⟩ := ifT_spec h
   have h2 := h1
   simp only [Bool.and_eq_true] at h1
   refine ⟨_, _, h, .cons hx (.cons (.refl _) .nil), ⟨okS_scoped (okS_iff.mp h1.2).1, ⟨trivial, trivial, trivial⟩, trivial⟩, trivial, 0, .bool _, ⟨[], []⟩, rfl, (has_run _ f z l _).trans ?_⟩
   rw [branch_of h2, idxI_ge, idxFrom_isSome]
  ·cases h
noncomputable def f72_l0 : Sim Try.prog :=
 (.seq (.live [4, 5, 23, 24, 25, 26] (.region 7 [
 ⟨(opBin (some 26) .lss 3 (.tmp 25) (.tmp 24) 3 0 "page.go:44" #[]).op, none⟩
 ] (by kernel_rfl)))
 (.seq (.cond (.tmp 26)
 .skip
 (.live [4] (.exit 0)))
 (.seq (.block 1 (.seq (.live [4, 5, 6, 7, 23, 24, 25] (.region 8 [
 ⟨(opMove (some 27) (.tmp 25) 3 "page.go:44" #[]).op, none⟩,
 ⟨(opIndexAddrT (some 28) 82 (.tmp 23) (.tmp 25) 34 1 Try.underlying82 sz34 0 "page.go:44" #[]).op, none⟩,
 ⟨(opLoadT (.one (.ns 1)) (some 29) 34 (.tmp 28) (.slice 5) Try.underlying34 1 sz34 (by kernel_rfl) 34 "page.go:44" #[eD 1]).op, none⟩,
 ⟨(opAssign (some 6) (.tmp 27) 3 "page.go:44" #[eD 0, eP 0, eP 1, eP 2]).op, none⟩,
 ⟨(opAssign (some 7) (.tmp 29) 34 "page.go:44" #[eD 2, eC 3, eP 0, eP 1, eP 2, eP 3]).op, none⟩
 ] (by kernel_rfl)))
 (.seq (.live [4, 5, 6, 7, 23, 24, 25, 31] (.region 9 [
 ⟨(opMove (some 30) (.tmp 7) 34 "page.go:45" #[]).op, none⟩,
 ⟨(opNe (some 31) 34 (.slice 5) Try.underlying34 (.tmp 30) (.const (Value.slice none 0 0)) (.inl rfl) 34 4 "page.go:45" #[eD 0]).op, none⟩
 ] (by kernel_rfl)))
 (.cond (.tmp 31)
 (.seq (.live [4, 5, 7, 23, 24, 25] (.region 10 [
 ⟨(opMove (some 32) (.tmp 4) 34 "page.go:46" #[]).op, none⟩,
 ⟨(opMove (some 33) (.tmp 6) 3 "page.go:46" #[]).op, none⟩,
 ⟨(opBin (some 34) .add 3 (.const (Value.int IntKind.i64 1)) (.tmp 33) 3 3 "page.go:46" #[eD 1]).op, none⟩,
 ⟨(opMove (some 35) (.tmp 7) 34 "page.go:46" #[]).op, none⟩,
 ⟨(opLen (some 36) (.tmp 35) 34 (.slice 5) Try.underlying34 3 "page.go:46" #[eD 3]).op, none⟩,
 ⟨(opBin (some 37) .add 3 (.tmp 36) (.const (Value.int IntKind.i64 1)) 3 3 "page.go:46" #[eD 4]).op, none⟩,
 ⟨(opConvInt (some 38) 3 5 (.tmp 37) (.int .i64) Try.underlying3 .u8 Try.underlying5 5 "page.go:46" #[eD 5]).op, none⟩,
 ⟨(opIndexAddrT (some 39) 34 (.tmp 32) (.tmp 34) 5 1 Try.underlying34 sz5 0 "page.go:46" #[eD 0, eD 2, eP 0, eP 1, eP 2, eP 3, eP 4, eP 5, eP 6]).op, none⟩,
 ⟨(opStoreC none 5 (.tmp 39) (.tmp 38) 1 sz5 0 "page.go:46" #[eD 7, eD 6, eP 0, eP 1, eP 2, eP 3, eP 4, eP 5, eP 6]).op, none⟩
 ] (by kernel_rfl)))
 (.seq (.live [4, 5, 7, 23, 24, 25] (.region 11 [
 ⟨(opMove (some 40) (.tmp 5) 3 "page.go:47" #[]).op, none⟩,
 ⟨(opMove (some 41) (.tmp 7) 34 "page.go:47" #[]).op, none⟩,
 ⟨(opLen (some 42) (.tmp 41) 34 (.slice 5) Try.underlying34 3 "page.go:47" #[eD 1]).op, none⟩,
 ⟨(opBin (some 43) .sub 3 (.tmp 40) (.tmp 42) 3 3 "page.go:47" #[eD 0, eD 2]).op, none⟩,
 ⟨(opAssign (some 5) (.tmp 43) 3 "page.go:47" #[eD 3, eP 0, eP 1, eP 2, eP 3]).op, none⟩
 ] (by kernel_rfl)))
 (.live [4, 5, 23, 24, 25] (.region 12 [
 ⟨(opMove (some 44) (.tmp 4) 34 "page.go:48" #[]).op, none⟩,
 ⟨(opMove (some 45) (.tmp 5) 3 "page.go:48" #[]).op, none⟩,
 ⟨(opSlice (some 46) 34 (.tmp 44) (some (.tmp 45)) none none 5 1 Try.underlying34 sz5 34 "page.go:48" #[eD 0, eD 1]).op, none⟩,
 ⟨(opMove (some 47) (.tmp 7) 34 "page.go:48" #[]).op, none⟩,
 ⟨(opCopyV (some 48) (.tmp 46) (.tmp 47) 34 34 5 1 Try.underlying34 sz5 3 "page.go:48" #[eD 2, eD 3]).op, none⟩
 ] (by kernel_rfl)))))
 .skip))))
 (.live [4, 5, 23, 24, 25] (.region 13 [
 ⟨(opBin (some 49) .add 3 (.tmp 25) (.const (Value.int IntKind.i64 1)) 3 3 "page.go:44" #[]).op, none⟩,
 ⟨(opMove (some 25) (.tmp 49) 3 "page.go:44" #[eD 0]).op, none⟩
 ] (by kernel_rfl))))))
noncomputable def f72_r0 : Sim Try.prog :=
 (.seq (.live [2, 3] (.region 14 [
 ⟨(opMove (some 50) (.tmp 4) 34 "page.go:51" #[]).op, none⟩,
 ⟨(opAssign (some 2) (.tmp 50) 34 "page.go:51" #[eD 0, eP 0]).op, none⟩,
 ⟨(opAssign (some 3) (.const (Value.bool true)) 4 "page.go:51" #[eC 1, eP 0, eP 1]).op, none⟩
 ] (by kernel_rfl)))
 (.live [2, 3] .ret))
noncomputable def f72_b : Sim Try.prog :=
 (.seq (.live [0] (.region 0 [
 ⟨(opAssign (some 2) (.const (Value.slice none 0 0)) 34 "page.go:37" #[]).op, none⟩,
 ⟨(opAssign (some 3) (.const (Value.bool false)) 4 "page.go:37" #[eC 0]).op, none⟩
 ] (by kernel_rfl)))
 (.seq (.seq (.live [0, 14] (.region 1 [
 ⟨(opMove (some 8) (.tmp 0) 82 "page.go:38" #[]).op, none⟩,
 ⟨(opCallP p47 (some 9) [(.tmp 8)] #[82] 3 "page.go:38" #[eD 0]).op, none⟩,
 ⟨(opBin (some 10) .gtr 3 (.tmp 9) (.const (Value.int IntKind.i64 256)) 3 4 "page.go:38" #[eD 1]).op, none⟩,
 ⟨(opMove (some 11) (.tmp 10) 4 "page.go:38" #[eD 2, eC 1]).op, none⟩,
 ⟨(opMove (some 12) (.tmp 0) 82 "page.go:38" #[eG 3]).op, (some (3, 11, false))⟩,
 ⟨(opCallP p45 (some 13) [(.tmp 12), (.func 83)] #[82, 86] 4 "page.go:38" #[eD 4, eC 3, eG 3]).op, (some (3, 11, false))⟩,
 ⟨(opPick (some 14) (.tmp 11) (.const (Value.bool true)) (.tmp 13) 4 "page.go:38" #[eD 3, eD 5]).op, none⟩
 ] (by kernel_rfl)))
 (.cond (.tmp 14)
 (.seq (.live [2, 3] (.region 2 [
 ⟨(opAssign (some 2) (.const (Value.slice none 0 0)) 34 "page.go:39" #[]).op, none⟩,
 ⟨(opAssign (some 3) (.const (Value.bool false)) 4 "page.go:39" #[eC 0, eP 0]).op, none⟩
 ] (by kernel_rfl)))
 (.live [2, 3] .ret))
 .skip))
 (.seq (.live [0, 4] (.region 3 [
 ⟨(opMakeC (some 15) 34 (.const (Value.int IntKind.i64 256)) 5 1 1 (.int .u8 0) el34 [AV.int .u8 0] (by kernel_rfl) (by kernel_rfl) 34 "page.go:41" #[]).op, none⟩,
 ⟨(opAssign (some 4) (.tmp 15) 34 "page.go:41" #[eD 0, eP 0]).op, none⟩
 ] (by kernel_rfl)))
 (.seq (.live [0, 4] (.region 4 [
 ⟨(opMove (some 16) (.tmp 4) 34 "page.go:42" #[]).op, none⟩,
 ⟨(opMove (some 17) (.tmp 0) 82 "page.go:42" #[]).op, none⟩,
 ⟨(opLen (some 18) (.tmp 17) 82 (.slice 34) Try.underlying82 3 "page.go:42" #[eD 1]).op, none⟩,
 ⟨(opConvInt (some 19) 3 5 (.tmp 18) (.int .i64) Try.underlying3 .u8 Try.underlying5 5 "page.go:42" #[eD 2]).op, none⟩,
 ⟨(opIndexAddrT (some 20) 34 (.tmp 16) (.const (Value.int IntKind.i64 0)) 5 1 Try.underlying34 sz5 0 "page.go:42" #[eD 0, eP 0, eP 1, eP 2, eP 3]).op, none⟩,
 ⟨(opStoreC none 5 (.tmp 20) (.tmp 19) 1 sz5 0 "page.go:42" #[eD 4, eD 3, eP 0, eP 1, eP 2, eP 3]).op, none⟩
 ] (by kernel_rfl)))
 (.seq (.live [0, 4, 5] (.region 5 [
 ⟨(opMove (some 21) (.tmp 4) 34 "page.go:43" #[]).op, none⟩,
 ⟨(opLen (some 22) (.tmp 21) 34 (.slice 5) Try.underlying34 3 "page.go:43" #[eD 0]).op, none⟩,
 ⟨(opAssign (some 5) (.tmp 22) 3 "page.go:43" #[eD 1, eP 0, eP 1]).op, none⟩
 ] (by kernel_rfl)))
 (.seq (.seq (.live [4, 5, 23, 24, 25] (.region 6 [
 ⟨(opMove (some 23) (.tmp 0) 82 "page.go:44" #[]).op, none⟩,
 ⟨(opLen (some 24) (.tmp 23) 82 (.slice 34) Try.underlying82 3 "page.go:44" #[eD 0]).op, none⟩,
 ⟨(opMove (some 25) (.const (Value.int IntKind.i64 0)) 3 "page.go:44" #[]).op, none⟩
 ] (by kernel_rfl)))
 (.block 0 (.loop [4, 5, 23, 24, 25] f72_l0)))
 f72_r0))))))
noncomputable def f72 : Fun Try.prog where
 id := 72
 fn := Try.f72
 hf := Try.func72
 hname := by kernel_rfl
 body := f72_b
 hbody := by kernel_rfl
 res := [rTmp 2, rTmp 3]
 hres := by kernel_rfl
 n := 51
 hn := by kernel_rfl
theorem pg_run (F : Nat) (z : Bool) (l : List (List AV)) :
 (f72.run F [.ns z 1 l] ⟨[], []⟩ : Ans) =
 branch (.bool (okS l && fit (szN (sR l))))
 (branch (.bool (decide ((↑(szN (sR l)) : Int) > 256)))
 (some (Fin.ret (AV.tup [AV.nilsl, AV.bool false]), St.mk [] []))
 (branch (.bool (true && okS l))
 (branch (.bool (l.any (prd (83 : FuncId)))) (some (Fin.ret (AV.tup [AV.nilsl, AV.bool false]), St.mk [] []))
 (branch (.bool (mkOk 1 (256 : Int)))
 (branch (.bool (true && inC (zerC 256 [AV.int IntKind.u8 (0 : Int)]) 0 1))
 (loopRun (f72_l0.run F) [4, 5, 23, 24, 25]
 (Cont.block 0 (Cont.then (f72_r0.run F (f72.leaveK Fun.done)) (f72.leaveK Fun.done))) F
 (Env.mk 51
 [(4, AV.ms 0 1 0 256 256),
 (5, .int .i64 256), (23, AV.ns z 1 l),
 (24, .int .i64 (↑l.length : Int)), (25, .int .i64 0)])
 (St.mk
 [Ob.cells
 (setC (zerC 256 [AV.int IntKind.u8 (0 : Int)]) 0
 [AV.int IntKind.u8 (IntKind.u8.wrap (↑l.length : Int))])]
 []))
 none)
 none))
 none))
 none := by kernel_rfl
theorem pg_round (F m : Nat) (K : Cont) (z : Bool) (l : List (List AV)) (cs : List AV) (n : Nat) (d i e : Int) (tk : List (Nat × Nat)) :
 (loopRun (f72_l0.run F) [4, 5, 23, 24, 25] K m.succ (Env.mk 51 [(4, .ms 0 1 0 n n), (5, .int .i64 d), (23, .ns z 1 l), (24, .int .i64 e), (25, .int .i64 i)]) ⟨[.cells cs], tk⟩ : Ans) =
 branch (.bool (decide (i < e)))
 (branch (.bool (inR l i))
 (branch (.bool ((LD.one (LT.ns 1)).is (V.rowAt l i)))
 (branch (.bool !nilA (V.rowAt l i))
 (if (0 : Int) ≤ IntKind.i64.wrap ((1 : Int) + i) ∧ IntKind.i64.wrap ((1 : Int) + i) < (↑n : Int) then
 branch (.bool (true && inC cs (0 + (IntKind.i64.wrap ((1 : Int) + i)).toNat * 1) 1))
 (if
 (0 : Int) ≤ IntKind.i64.wrap (d - (↑(rwA (V.rowAt l i)).length : Int)) ∧
 IntKind.i64.wrap (d - (↑(rwA (V.rowAt l i)).length : Int)) ≤ (↑n : Int) then
 if (IntKind.i64.wrap (d - (↑(rwA (V.rowAt l i)).length : Int))).toNat < n then
 branch
 (AV.bool
 (inC
 (setC cs (0 + (IntKind.i64.wrap ((1 : Int) + i)).toNat * 1)
 [AV.int IntKind.u8
 (IntKind.u8.wrap (IntKind.i64.wrap ((↑(rwA (V.rowAt l i)).length : Int) + 1)))])
 (0 + (IntKind.i64.wrap (d - (↑(rwA (V.rowAt l i)).length : Int))).toNat * 1)
 (mulN
 (minN (rwA (V.rowAt l i)).length
 (n - (IntKind.i64.wrap (d - (↑(rwA (V.rowAt l i)).length : Int))).toNat))
 1)))
 (loopRun (f72_l0.run F) [4, 5, 23, 24, 25] K m
 (Env.mk 51
 [(4, AV.ms 0 1 0 n n),
 (5, .int .i64 (IntKind.i64.wrap (d - (↑(rwA (V.rowAt l i)).length : Int)))),
 (23, AV.ns z 1 l), (24, .int .i64 e),
 (25, .int .i64 (IntKind.i64.wrap (i + 1)))])
 (St.mk
 [Ob.cells
 (setC
 (setC cs (0 + (IntKind.i64.wrap ((1 : Int) + i)).toNat * 1)
 [AV.int IntKind.u8
 (IntKind.u8.wrap
 (IntKind.i64.wrap ((↑(rwA (V.rowAt l i)).length : Int) + 1)))])
 (0 + (IntKind.i64.wrap (d - (↑(rwA (V.rowAt l i)).length : Int))).toNat * 1)
 (flC (rwA (V.rowAt l i))
 (minN (rwA (V.rowAt l i)).length
 (n - (IntKind.i64.wrap (d - (↑(rwA (V.rowAt l i)).length : Int))).toNat))))]
 tk))
 none
 else
 loopRun (f72_l0.run F) [4, 5, 23, 24, 25] K m
 (Env.mk 51
 [(4, AV.ms 0 1 0 n n),
 (5, .int .i64 (IntKind.i64.wrap (d - (↑(rwA (V.rowAt l i)).length : Int)))),
 (23, AV.ns z 1 l), (24, .int .i64 e),
 (25, .int .i64 (IntKind.i64.wrap (i + 1)))])
 (St.mk
 [Ob.cells
 (setC cs (0 + (IntKind.i64.wrap ((1 : Int) + i)).toNat * 1)
 [AV.int IntKind.u8
 (IntKind.u8.wrap (IntKind.i64.wrap ((↑(rwA (V.rowAt l i)).length : Int) + 1)))])]
 tk)
 else none)
 none
 else none)
 (loopRun (f72_l0.run F) [4, 5, 23, 24, 25] K m
 (Env.mk 51
 [(4, AV.ms 0 1 0 n n), (5, .int .i64 d),
 (23, AV.ns z 1 l), (24, .int .i64 e),
 (25, .int .i64 (IntKind.i64.wrap (i + 1)))])
 (St.mk [Ob.cells cs] tk)))
 none)
 none)
 (K (AX.exit 0) (Env.mk 51 [(4, AV.ms 0 1 0 n n)])
 (St.mk [Ob.cells cs] tk)) := by kernel_rfl
theorem pg_out (F n : Nat) (st : St) :
 ((Cont.block 0 (Cont.then (f72_r0.run F (f72.leaveK Fun.done)) (f72.leaveK Fun.done))) (.exit 0) (Env.mk 51 [(4, .ms 0 1 0 n n)]) st : Ans) =
 some (Fin.ret (AV.tup [AV.ms 0 1 0 n n, AV.bool true]), st) := by kernel_rfl
theorem tv_run (F v n : Nat) (cs : List AV) (os : List Ob) (tk : List (Nat × Nat)) :
 (f77.run F [.vs 0 v 1 n] ⟨.vec v cs :: os, tk⟩ : Ans) =
 loopRun (f77_l0.run F) [0]
 (Cont.block 0 (Cont.then (f77_r0.run F (f77.leaveK Fun.done)) (f77.leaveK Fun.done))) F
 (Env.mk 21 [(0, AV.vs 0 v 1 n)]) (St.mk (Ob.vec v cs :: os) tk) := by kernel_rfl
theorem tv_round (F m v n : Nat) (K : Cont) (cs : List AV) (os : List Ob) (tk : List (Nat × Nat)) :
 (loopRun (f77_l0.run F) [0] K m.succ (Env.mk 21 [(0, .vs 0 v 1 n)]) ⟨.vec v cs :: os, tk⟩ : Ans) =
 branch (.bool (decide ((↑n : Int) > 0)))
 (if
 (0 : Int) ≤ IntKind.i64.wrap ((↑n : Int) - 1) ∧
 IntKind.i64.wrap ((↑n : Int) - 1) < (↑n : Int) then
 branch (.bool (v.beq v))
 (branch
 (AV.bool
 ((LD.one (LT.ns 1)).is
 (List.drop ((IntKind.i64.wrap ((↑n : Int) - 1)).toNat * 1) cs)))
 (branch (.bool (nilA (List.drop ((IntKind.i64.wrap ((↑n : Int) - 1)).toNat * 1) cs)))
 (if
 (0 : Int) ≤ IntKind.i64.wrap ((↑n : Int) - 1) ∧
 IntKind.i64.wrap ((↑n : Int) - 1) ≤ (↑n : Int) then
 loopRun (f77_l0.run F) [0] K m
 (Env.mk 21
 [(0, AV.vs 0 v 1 (IntKind.i64.wrap ((↑n : Int) - 1)).toNat)])
 (St.mk (Ob.vec v cs :: os) tk)
 else none)
 (K (AX.exit 0) (Env.mk 21 [(0, AV.vs 0 v 1 n)])
 (St.mk (Ob.vec v cs :: os) tk)))
 none)
 none
 else none)
 (K (AX.exit 0) (Env.mk 21 [(0, AV.vs 0 v 1 n)])
 (St.mk (Ob.vec v cs :: os) tk)) := by kernel_rfl
theorem tv_out (F v n : Nat) (st : St) :
 ((Cont.block 0 (Cont.then (f77_r0.run F (f77.leaveK Fun.done)) (f77.leaveK Fun.done))) (.exit 0) (Env.mk 21 [(0, .vs 0 v 1 n)]) st : Ans) =
 some (Fin.ret (AV.vs 0 v 1 n), st) := by kernel_rfl
abbrev Sl := List (Option (List Nat))
def pgFold : Sl → Nat → List Nat → Nat → List Nat
 | [], _, p, _ => p
 | none :: s, i, p, e => pgFold s (i + 1) p e
 | some b :: s, i, p, e => pgFold s (i + 1) (putN (p.set (1 + i) (b.length + 1)) (e - b.length) b) (e - b.length)
def pgB (s : Sl) : List Nat := pgFold s 0 ((List.replicate 256 0).set 0 s.length) 256
def pgOk (s : Sl) : Bool := decide (szN s ≤ 256) && s.all (fun o => decide (olen o ≤ 200))
noncomputable def pgR (l : List (List AV)) : List (List AV) := opq (bif pgOk (sR l) then bR (pgB (sR l)) else [])
theorem pgOk_iff {s : Sl} : pgOk s = true ↔ szN s ≤ 256 ∧ ∀ o ∈ s, olen o ≤ 200 := by
 simp [pgOk]
theorem pgFold_len : ∀ (s : Sl) (i : Nat) (p : List Nat) (e : Nat), e ≤ p.length → sumN s ≤ e → (pgFold s i p e).length = p.length
 | [], _, _, _, _, _ => rfl
 | none :: s, i, p, e, h, hs => by rw [pgFold]; exact pgFold_len s _ _ _ h (by rw [sumN_cons] at hs; omega)
 | some b :: s, i, p, e, h, hs => by
  rw [sumN_cons] at hs
  have hb : olen (some b) = b.length := rfl
  have hl : (putN (p.set (1 + i) (b.length + 1)) (e - b.length) b).length = p.length := by rw [putN_length (by rw [List.length_set]; omega), List.length_set]
  rw [pgFold, pgFold_len s _ _ _ (by rw [hl]; omega) (by omega), hl]
theorem pgB_len {s : Sl} (h : pgOk s = true) : (pgB s).length = 256 := by
 have := (pgOk_iff.mp h).1
 rw [pgB, pgFold_len _ _ _ _ (by rw [List.length_set, List.length_replicate]; exact Nat.le_refl _) (by rw [szN] at this; omega), List.length_set, List.length_replicate]
theorem rows_slot {r : List AV} (h : okR (rwA r) = true) (hn : nilA r = false) : ∃ b, slot r = some b ∧ rwA r = bR b := by
 refine ⟨nR (rwA r), by rw [slot, hn]; rfl, okR_rows h⟩
theorem pg_loop (F : Nat) (z : Bool) (l : List (List AV)) (h : okS l = true) (tk : List (Nat × Nat)) : ∀ (k m i e : Nat) (p : List Nat), i + k = l.length → k < m → p.length = 256 → e ≤ 256 → 1 + l.length + sumN ((sR l).drop i) ≤ e → (∀ o ∈ sR l, olen o ≤ 200) →
  loopRun (f72_l0.run F) [4, 5, 23, 24, 25] (Cont.block 0 (Cont.then (f72_r0.run F (f72.leaveK Fun.done)) (f72.leaveK Fun.done))) m
   (Env.mk 51 [(4, .ms 0 1 0 256 256), (5, .int .i64 (e : Int)), (23, .ns z 1 l), (24, .int .i64 (l.length : Int)), (25, .int .i64 (i : Int))]) ⟨[.cells (bC p)], tk⟩
   = some (.ret (.tup [.ms 0 1 0 256 256, .bool true]), ⟨[.cells (bC (pgFold ((sR l).drop i) i p e))], tk⟩)
 | k, 0, i, e, p, hi, hm, hp, he, hs, ho => by omega
 | 0, m + 1, i, e, p, hi, hm, hp, he, hs, ho => by
  rw [show m + 1 = m.succ from rfl, pg_round, branch_not (by simp; omega), pg_out, List.drop_eq_nil_of_le (by rw [sR_length]; omega)]
  rfl
 | k + 1, m + 1, i, e, p, hi, hm, hp, he, hs, ho => by
  have h1 : i < l.length := by omega
  obtain ⟨l1, l2, l3, l4⟩ := okS_at h h1
  have hd : (sR l).drop i = slot (V.rowAt l (i : Int)) :: (sR l).drop (i + 1) := by rw [drop_at (by rw [sR_length]; exact h1), l3]
  have hmem : slot (V.rowAt l (i : Int)) ∈ sR l := by rw [l3]; exact List.getElem_mem _
  rw [hd, sumN_cons] at hs
  rw [hd]
  have h200 := ho _ hmem
  rw [show m + 1 = m.succ from rfl, pg_round, branch_of (by simp; omega), branch_of (inR_nat h1), branch_of l1, wrap_succ (i := i) (by omega)]
  cases hn : nilA (V.rowAt l (i : Int)) with
  | true =>
   have hsl : slot (V.rowAt l (i : Int)) = none := by rw [slot, hn]; rfl
   rw [hsl] at hs ⊢
   rw [branch_not (b := !true) rfl, pg_loop F z l h tk k m (i + 1) e p (by omega) (by omega) hp he (by have : olen none = 0 := rfl; omega) ho]
   rfl
  | false =>
   obtain ⟨b, hb, hr⟩ := rows_slot (byOk_iff.mp l2).1 hn
   rw [hb] at hs h200 ⊢
   have hob : olen (some b) = b.length := rfl
   rw [hob] at hs h200
   rw [hr, bR_length]
   have w1 : IntKind.i64.wrap (1 + (i : Int)) = ((1 + i : Nat) : Int) := by rw [show 1 + (i : Int) = ((1 + i : Nat) : Int) by omega, wrap_nat (by omega)]
   have w2 : IntKind.i64.wrap ((e : Int) - (b.length : Int)) = ((e - b.length : Nat) : Int) := by rw [show (e : Int) - (b.length : Int) = ((e - b.length : Nat) : Int) by omega, wrap_nat (by omega)]
   have w3 : IntKind.u8.wrap (IntKind.i64.wrap ((b.length : Int) + 1)) = ((b.length + 1 : Nat) : Int) := by
    rw [wrap_succ (by omega)]
    exact wrapU rfl (by omega) (by simp only [IntKind.bits]; omega)
   have hpl : 1 + i < p.length := by omega
   have hsl : (p.set (1 + i) (b.length + 1)).length = 256 := by rw [List.length_set]; exact hp
   rw [branch_of (b := !false) rfl, w1, w2, w3, if_pos ⟨by omega, by omega⟩, Int.toNat_natCast, Int.toNat_natCast, Nat.zero_add, Nat.mul_one, Nat.zero_add, Nat.mul_one, branch_of (by rw [Bool.true_and, inC_iff, bC_length]; omega), if_pos ⟨by omega, by omega⟩, setC_byte hpl]
   by_cases hlt : e - b.length < 256
   ·have hmin : minN b.length (256 - (e - b.length)) = b.length := by rw [minN, opq_eq]; omega
    rw [if_pos hlt, hmin, mulN, opq_eq, Nat.mul_one, branch_of (by rw [inC_iff, bC_length]; omega), flC_bR, List.take_of_length_le (Nat.le_refl _), setC_bC (by omega),
     pg_loop F z l h tk k m (i + 1) (e - b.length) _ (by omega) (by omega) (by rw [putN_length (by omega)]; exact hsl) (by omega) (by omega) ho]
    rfl
   ·have hb0 : b = [] := List.eq_nil_of_length_eq_zero (by omega)
    subst hb0
    rw [if_neg hlt, pg_loop F z l h tk k m (i + 1) _ _ (by omega) (by omega) hsl (by omega) (by simp at hs ⊢; omega) ho, pgFold, putN_nil]
theorem big_any {l : List (List AV)} (h : okS l = true) : l.any (prd 83) = !(sR l).all (fun o => decide (olen o ≤ 200)) := by
 have hr : ∀ r ∈ l, olen (slot r) = (rwA r).length := fun r hr => slot_len (okSlot_spec ((okS_iff.mp h).1 r hr).1).2.2.1
 rw [sR, List.all_map]
 induction l with
 | nil => rfl
 | cons r l ih =>
  have h2 : okS l = true := okS_sub h (fun x hx => by simp [hx]) (by simp)
  rw [List.any_cons, List.all_cons, ih h2 (fun x hx => hr x (by simp [hx])), Bool.not_and]
  congr 1
  simp only [Function.comp, hr r (by simp), prd, Nat.beq_refl, cond_true]
  by_cases hh : (rwA r).length ≤ 200
  ·simp [hh]; omega
  ·simp [hh]; omega
theorem pgR_ok {l : List (List AV)} (h : pgOk (sR l) = true) : pgR l = bR (pgB (sR l)) := by rw [pgR, opq_eq, h]; rfl
theorem pgR_no {l : List (List AV)} (h : pgOk (sR l) = false) : pgR l = [] := by rw [pgR, opq_eq, h]; rfl
theorem bC_flat (l : List Nat) : ∀ c ∈ bC l, Flat c := by
 intro c hc
 obtain ⟨b, _, rfl⟩ := List.mem_map.mp hc
 trivial
noncomputable def q72 : OrcQ Try.prog := f72.farR
 (fun args st k => match args with
  | [x] => onNsQ 1 x st fun _ l => ifT (okS l && fit (szN (sR l))) (k (.tup [.ns (!pgOk (sR l)) 1 (pgR l), .bool (pgOk (sR l))]))
  | _ => none)
 fun args st k fin h => by
  split at h
  ·rename_i x
   obtain ⟨z, l, h, hx⟩ := onNsQ_spec h
   obtain ⟨h1, h⟩ := ifT_spec h
   have h2 := h1
   simp only [Bool.and_eq_true, fit_iff] at h1
   refine ⟨_, _, h, .cons (hx (okS_scoped (okS_iff.mp h1.1).1)) .nil, l.length + 1, ?_⟩
   have no : pgOk (sR l) = false → Wk (AV.tup [AV.nilsl, AV.bool false]) (.tup [.ns (!pgOk (sR l)) 1 (pgR l), .bool (pgOk (sR l))]) := by
    intro e
    rw [pgR_no e, e]
    exact .tup (.cons .nil (.cons (.refl _) .nil))
   have own0 : Own [] (.tup [.nilsl, .bool false]) := by
    intro y hy
    simp only [List.mem_cons, List.not_mem_nil, or_false] at hy
    rcases hy with rfl | rfl <;> trivial
   rw [pg_run, branch_of h2]
   by_cases hb : szN (sR l) > 256
   ·have e : pgOk (sR l) = false := by simp [pgOk]; omega
    exact ⟨.tup [.nilsl, .bool false], ⟨[], []⟩, branch_of (by simp only [decide_eq_true_eq]; omega), own0, ⟨trivial, trivial, trivial⟩, no e⟩
   ·rw [branch_not (by simp only [decide_eq_false_iff_not]; omega), branch_of (by simpa using h1.1), big_any h1.1]
    cases ha : (sR l).all (fun o => decide (olen o ≤ 200)) with
    | false =>
     have e : pgOk (sR l) = false := by simp only [pgOk, ha, Bool.and_false]
     exact ⟨.tup [.nilsl, .bool false], ⟨[], []⟩, branch_of (b := !false) rfl, own0, ⟨trivial, trivial, trivial⟩, no e⟩
    | true =>
     have e : pgOk (sR l) = true := by simp only [pgOk, ha, Bool.and_true, decide_eq_true_eq]; omega
     have hsz : 1 + l.length + sumN (sR l) ≤ 256 := by rw [szN, sR_length] at hb; omega
     have w1 : IntKind.u8.wrap (l.length : Int) = ((l.length : Nat) : Int) := wrapU rfl (by omega) (by simp only [IntKind.bits]; omega)
     have hz : (List.replicate 256 0).length = 256 := List.length_replicate
     have hl := pg_loop (l.length + 1) z l h1.1 [] l.length (l.length + 1) 0 256 ((List.replicate 256 0).set 0 l.length) (by omega) (by omega) (by rw [List.length_set]; exact hz) (by omega) (by rw [List.drop_zero]; exact hsz) (fun o ho => by simpa using List.all_eq_true.mp ha o ho)
     rw [List.drop_zero, show pgFold (sR l) 0 ((List.replicate 256 0).set 0 l.length) 256 = pgB (sR l) by rw [pgB, sR_length]] at hl
     have hh : hard [Ob.cells (bC (pgB (sR l)))] (.tup [.ms 0 1 0 256 256, .bool true]) = .tup [.sl 1 true (bR (pgB (sR l))), .bool true] := by
      simp only [hard, hardL, List.getElem?_cons_zero, List.drop_zero]
      rw [rowsOf_bC 256 _ (by rw [pgB_len e]; exact Nat.le_refl _), List.take_of_length_le (by rw [pgB_len e]; exact Nat.le_refl _)]
      rfl
     refine ⟨.tup [.ms 0 1 0 256 256, .bool true], ⟨[.cells (bC (pgB (sR l)))], []⟩, ?_, ?_, ?_, ?_⟩
     ·rw [branch_not (b := !true) rfl, branch_of (by rw [mkOk_iff]; exact ⟨by decide, by decide⟩), zerC_byte, w1, branch_of (by rw [Bool.true_and, inC_iff, bC_length, hz]; omega), setC_byte (by rw [hz]; omega)]
      exact hl
     ·intro y hy
      simp only [List.mem_cons, List.not_mem_nil, or_false] at hy
      rcases hy with rfl | rfl
      ·exact ⟨_, rfl, bC_flat _⟩
      ·trivial
     ·rw [hh]; exact ⟨bR_scoped _, trivial, trivial⟩
     ·rw [hh, pgR_ok e, e]
      exact .tup (.cons .sl (.cons (.refl _) .nil))
  ·cases h
noncomputable def f76_b : Sim Try.prog :=
 (.seq (.live [0, 1] (.region 0 [
 ⟨(opAssign (some 4) (.const (Value.bool false)) 4 "bytes.go:20" #[]).op, none⟩
 ] (by kernel_rfl)))
 (.seq (.live [4] (.region 1 [
 ⟨(opMove (some 5) (.tmp 0) 34 "bytes.go:22" #[]).op, none⟩,
 ⟨(opBytesStr (some 6) 34 9 (.tmp 5) 5 Try.underlying34 Try.underlying5 Try.underlying9 9 "bytes.go:22" #[eD 0]).op, none⟩,
 ⟨(opMove (some 7) (.tmp 1) 34 "bytes.go:22" #[]).op, none⟩,
 ⟨(opBytesStr (some 8) 34 9 (.tmp 7) 5 Try.underlying34 Try.underlying5 Try.underlying9 9 "bytes.go:22" #[eD 2]).op, none⟩,
 ⟨(opBinS (some 9) .eql 9 (.tmp 6) (.tmp 8) 9 4 "bytes.go:22" #[eD 1, eD 3]).op, none⟩,
 ⟨(opAssign (some 4) (.tmp 9) 4 "bytes.go:22" #[eD 4, eP 0, eP 1, eP 2, eP 3, eP 4]).op, none⟩
 ] (by kernel_rfl)))
 (.live [4] .ret)))
noncomputable def f76 : Fun Try.prog where
 id := 76
 fn := Try.f76
 hf := Try.func76
 hname := by kernel_rfl
 body := f76_b
 hbody := by kernel_rfl
 res := [rTmp 4]
 hres := by kernel_rfl
 n := 10
 hn := by kernel_rfl
theorem eq_run (F : Nat) (z y : Bool) (l r : List (List AV)) (st : St) :
 (f76.run F [.ns z 1 l, .ns y 1 r] st : Ans) =
 onSome (numsOf l) none fun (o : List Int) =>
 onSome (numsOf r) none fun (o_1 : List Int) => some (Fin.ret (.bool ((textOf o).toList == (textOf o_1).toList)), st) := by kernel_rfl
noncomputable def p76 : POrc Try.prog := f76.farN
 (fun args k => match args with
  | [x, y] => onNs 1 x fun _ l => onNs 1 y fun _ r => ifT (byOk l && byOk r) (k (.bool (nR l == nR r)))
  | _ => none)
 fun args k fin h => by
  split at h
  ·rename_i x y
   obtain ⟨z, l, h, hx⟩ := onNs_spec h
   obtain ⟨z', r, h, hy⟩ := onNs_spec h
   obtain ⟨h1, h⟩ := ifT_spec h
   simp only [Bool.and_eq_true] at h1
   have hl := (byOk_iff.mp h1.1).1
   have hr := (byOk_iff.mp h1.2).1
   refine ⟨_, _, h, .cons hx (.cons hy .nil), ⟨okR_scoped hl, okR_scoped hr, trivial⟩, trivial, 0, .bool _, ⟨[], []⟩, rfl, (eq_run 0 z z' l r _).trans ?_⟩
   rw [numsOf_nR hl, numsOf_nR hr, onSome_some, onSome_some, text_beq]
   rw [show textOf ((nR l).map fun (b : Nat) => (b : Int)) = txt (nR l) from rfl, show textOf ((nR r).map fun (b : Nat) => (b : Int)) = txt (nR r) from rfl, own_txt (fun b hb => okR_lt hl hb), own_txt (fun b hb => okR_lt hr hb)]
  ·cases h
noncomputable def okV (n : Nat) (cs : List AV) : Bool := cdec (n ≤ cs.length) && okS (cR (cs.take n))
theorem okV_iff {n : Nat} {cs : List AV} : okV n cs = true ↔ n ≤ cs.length ∧ okS (cR (cs.take n)) = true := by rw [okV, Bool.and_eq_true, cdec_iff]
noncomputable def trN (n : Nat) (cs : List AV) : Nat := opq (trR (cR (cs.take n))).length
theorem cR_snoc {n : Nat} {cs : List AV} (h : n < cs.length) : cR (cs.take (n + 1)) = cR (cs.take n) ++ [[cs[n]]] := by
 rw [List.take_succ_eq_append_getElem h, cR_append]; rfl
theorem tv_loop (F v : Nat) (cs : List AV) (os : List Ob) (tk : List (Nat × Nat)) : ∀ (m n : Nat), okV n cs = true → n < m →
  loopRun (f77_l0.run F) [0] (Cont.block 0 (Cont.then (f77_r0.run F (f77.leaveK Fun.done)) (f77.leaveK Fun.done))) m (Env.mk 21 [(0, .vs 0 v 1 n)]) ⟨.vec v cs :: os, tk⟩ = some (.ret (.vs 0 v 1 (trR (cR (cs.take n))).length), ⟨.vec v cs :: os, tk⟩)
 | 0, n, h, hn => by omega
 | m + 1, 0, h, hn => by
  rw [show m + 1 = m.succ from rfl, tv_round, branch_not (by simp), tv_out, List.take_zero, show cR [] = [] from rfl, trR_nil]; rfl
 | m + 1, n + 1, h, hn => by
  obtain ⟨h1, h2⟩ := okV_iff.mp h
  have h0 : n < cs.length := by omega
  have hlen : (cR (cs.take (n + 1))).length = n + 1 := by rw [cR_length, List.length_take]; omega
  have hb := (okS_iff.mp h2).2
  rw [hlen] at hb
  have hw : IntKind.i64.wrap (((n + 1 : Nat) : Int) - 1) = ((n : Nat) : Int) := by
   rw [show ((n + 1 : Nat) : Int) - 1 = ((n : Nat) : Int) by omega, wrap_nat (by omega)]
  have hi : n < (cR (cs.take (n + 1))).length := by omega
  obtain ⟨k1, k2, k3, k4⟩ := okS_at h2 hi
  have hr : V.rowAt (cR (cs.take (n + 1))) ((n : Nat) : Int) = [cs[n]] := by rw [rowAt_nat hi]; simp [cR]
  rw [hr] at k1
  rw [show m + 1 = m.succ from rfl, tv_round, branch_of (by simp), hw, if_pos ⟨by omega, by omega⟩, branch_of (Nat.beq_refl v), Int.toNat_natCast, Nat.mul_one, is_at h0, branch_of k1, nilA_at h0, cR_snoc h0, trR_snoc]
  cases hx : nilA [cs[n]] with
  | false =>
   rw [branch_not rfl, tv_out, cond_false, List.length_append, cR_length, List.length_take, Nat.min_eq_left (by omega)]; rfl
  | true =>
   rw [branch_true, if_pos ⟨by omega, by omega⟩, cond_true]
   refine tv_loop F v cs os tk m n (okV_iff.mpr ⟨by omega, okS_sub h2 (fun y hy => ?_) ?_⟩) (by omega)
   ·rw [cR_snoc h0]; exact List.mem_append_left _ hy
   ·rw [hlen, cR_length, List.length_take]; omega
noncomputable def q77v : OrcQ Try.prog := f77.ask
 (fun args st k => match args with
  | [x] => onVs0 x st fun v n cs _ => ifT (okV n cs) (k (.vs 0 v 1 (trN n cs)))
  | _ => none)
 fun args st k fin h => by
  split at h
  ·obtain ⟨v, n, cs, os, rfl, e, h⟩ := onVs0_spec h
   obtain ⟨h1, h⟩ := ifT_spec h
   refine ⟨_, h, n + 1, ?_⟩
   rw [e, tv_run, tv_loop _ v cs os _ _ n h1 (by omega), trN, opq_eq]
  ·cases h
noncomputable def q77 : OrcQ Try.prog := q77v.alt p77.q rfl isVs1
theorem ze34 : (Try.prog.info? 34).bind (·.zero) = some (.slice none 0 0) := by kernel_rfl
theorem by34 : (Try.prog.info? 34).map (·.bytes) = some 24 := by kernel_rfl
theorem el82 : ElemOf Try.prog 82 34 1 24 (.slice none 0 0) := ⟨Try.underlying82, sz34, by34, ze34, by kernel_rfl, by decide⟩
noncomputable def f44_l0 : Sim Try.prog :=
 (.seq (.live [0, 5, 6, 25, 26, 27, 28] (.region 7 [
 ⟨(opBin (some 28) .lss 3 (.tmp 27) (.tmp 26) 3 0 "page.go:62" #[]).op, none⟩
 ] (by kernel_rfl)))
 (.seq (.cond (.tmp 28)
 .skip
 (.live [0, 5] (.exit 0)))
 (.seq (.block 1 (.seq (.live [0, 5, 6, 8, 25, 26, 27] (.region 8 [
 ⟨(opIndexAddrT (some 29) 34 (.tmp 25) (.tmp 27) 5 1 Try.underlying34 sz5 0 "page.go:62" #[]).op, none⟩,
 ⟨(opLoadT (.one (.int .u8)) (some 30) 5 (.tmp 29) (.int .u8) Try.underlying5 1 sz5 (by kernel_rfl) 5 "page.go:62" #[eD 0]).op, none⟩,
 ⟨(opAssign (some 8) (.tmp 30) 5 "page.go:62" #[eD 1, eP 0, eP 1]).op, none⟩
 ] (by kernel_rfl)))
 (.seq (.live [0, 5, 6, 8, 9, 25, 26, 27] (.region 9 [
 ⟨(opAssign (some 9) (.const (Value.slice none 0 0)) 34 "page.go:63" #[]).op, none⟩
 ] (by kernel_rfl)))
 (.seq (.seq (.live [0, 5, 6, 8, 9, 25, 26, 27, 32] (.region 10 [
 ⟨(opMove (some 31) (.tmp 8) 5 "page.go:64" #[]).op, none⟩,
 ⟨(opBin (some 32) .gtr 5 (.tmp 31) (.const (Value.int IntKind.u8 0)) 5 4 "page.go:64" #[eD 0]).op, none⟩
 ] (by kernel_rfl)))
 (.cond (.tmp 32)
 (.seq (.live [0, 5, 6, 10, 25, 26, 27] (.region 11 [
 ⟨(opMove (some 33) (.tmp 8) 5 "page.go:65" #[]).op, none⟩,
 ⟨(opConvInt (some 34) 5 3 (.tmp 33) (.int .u8) Try.underlying5 .i64 Try.underlying3 3 "page.go:65" #[eD 0]).op, none⟩,
 ⟨(opBin (some 35) .sub 3 (.tmp 34) (.const (Value.int IntKind.i64 1)) 3 3 "page.go:65" #[eD 1]).op, none⟩,
 ⟨(opAssign (some 10) (.tmp 35) 3 "page.go:65" #[eD 2, eP 0, eP 1, eP 2]).op, none⟩
 ] (by kernel_rfl)))
 (.seq (.seq (.live [0, 5, 6, 10, 25, 26, 27, 38] (.region 12 [
 ⟨(opMove (some 36) (.tmp 10) 3 "page.go:66" #[]).op, none⟩,
 ⟨(opMove (some 37) (.tmp 6) 3 "page.go:66" #[]).op, none⟩,
 ⟨(opBin (some 38) .gtr 3 (.tmp 36) (.tmp 37) 3 4 "page.go:66" #[eD 0, eD 1]).op, none⟩
 ] (by kernel_rfl)))
 (.cond (.tmp 38)
 (.seq (.live [2, 3] (.region 13 [
 ⟨(opAssign (some 2) (.const (Value.slice none 0 0)) 82 "page.go:67" #[]).op, none⟩,
 ⟨(opAssign (some 3) (.const (Value.bool false)) 4 "page.go:67" #[eC 0, eP 0]).op, none⟩
 ] (by kernel_rfl)))
 (.live [2, 3] .ret))
 .skip))
 (.seq (.live [0, 5, 6, 10, 25, 26, 27] (.region 14 [
 ⟨(opMove (some 39) (.tmp 6) 3 "page.go:69" #[]).op, none⟩,
 ⟨(opMove (some 40) (.tmp 10) 3 "page.go:69" #[]).op, none⟩,
 ⟨(opBin (some 41) .sub 3 (.tmp 39) (.tmp 40) 3 3 "page.go:69" #[eD 0, eD 1]).op, none⟩,
 ⟨(opAssign (some 6) (.tmp 41) 3 "page.go:69" #[eD 2, eP 0, eP 1, eP 2]).op, none⟩
 ] (by kernel_rfl)))
 (.live [0, 5, 6, 9, 25, 26, 27] (.region 15 [
 ⟨(opBuildSlice (some 42) 34 0 [] 5 1 1 (.int .u8 0) el34 (by kernel_rfl) (by decide) 34 "page.go:70" #[]).op, none⟩,
 ⟨(opMove (some 43) (.tmp 0) 34 "page.go:70" #[]).op, none⟩,
 ⟨(opMove (some 44) (.tmp 6) 3 "page.go:70" #[]).op, none⟩,
 ⟨(opMove (some 45) (.tmp 6) 3 "page.go:70" #[]).op, none⟩,
 ⟨(opMove (some 46) (.tmp 10) 3 "page.go:70" #[]).op, none⟩,
 ⟨(opBin (some 47) .add 3 (.tmp 45) (.tmp 46) 3 3 "page.go:70" #[eD 3, eD 4]).op, none⟩,
 ⟨(opSlice (some 48) 34 (.tmp 43) (some (.tmp 44)) (some (.tmp 47)) none 5 1 Try.underlying34 sz5 34 "page.go:70" #[eD 1, eD 2, eD 5]).op, none⟩,
 ⟨(opAppendF (some 49) (.tmp 42) (.tmp 48) 34 34 5 1 1 (.int .u8 0) el34 (.slice 5) Try.underlying34 rfl 34 "page.go:70" #[eD 0, eD 6]).op, none⟩,
 ⟨(opAssign (some 9) (.tmp 49) 34 "page.go:70" #[eD 7, eC 7, eP 0, eP 1, eP 2, eP 3, eP 4, eP 5, eP 6, eP 7]).op, none⟩
 ] (by kernel_rfl))))))
 .skip))
 (.live [0, 5, 6, 25, 26, 27] (.region 16 [
 ⟨(opMove (some 50) (.tmp 5) 82 "page.go:72" #[]).op, none⟩,
 ⟨(opMove (some 51) (.tmp 9) 34 "page.go:72" #[]).op, none⟩,
 ⟨(opBuildSlice (some 52) 82 1 [(0, (.tmp 51))] 34 1 24 (.slice none 0 0) el82 (by kernel_rfl) (by decide) 82 "page.go:72" #[eD 1]).op, none⟩,
 ⟨(opAppendV (some 53) (.tmp 50) (.tmp 52) 82 82 34 1 24 (.slice none 0 0) el82 (.slice 34) Try.underlying82 rfl 82 "page.go:72" #[eD 0, eD 2]).op, none⟩,
 ⟨(opAssign (some 5) (.tmp 53) 82 "page.go:72" #[eD 3, eC 3, eP 0, eP 1, eP 2, eP 3]).op, none⟩
 ] (by kernel_rfl)))))))
 (.live [0, 5, 6, 25, 26, 27] (.region 17 [
 ⟨(opBin (some 54) .add 3 (.tmp 27) (.const (Value.int IntKind.i64 1)) 3 3 "page.go:62" #[]).op, none⟩,
 ⟨(opMove (some 27) (.tmp 54) 3 "page.go:62" #[eD 0]).op, none⟩
 ] (by kernel_rfl))))))
noncomputable def f44_r0 : Sim Try.prog :=
 (.seq (.live [0, 5, 11, 12] (.region 18 [
 ⟨(opMove (some 56) (.tmp 5) 82 "page.go:74" #[]).op, none⟩,
 ⟨(opCallQ q72 (some 57) [(.tmp 56)] #[82] 37 "page.go:74" #[eD 0]).op, none⟩,
 ⟨(opMove (some 55) (.tmp 57) 37 "page.go:74" #[eD 1]).op, none⟩,
 ⟨(opExtract (some 58) (.tmp 55) 0 34 "page.go:74" #[eD 2]).op, none⟩,
 ⟨(opExtract (some 59) (.tmp 55) 1 4 "page.go:74" #[eD 2, eX 5]).op, none⟩,
 ⟨(opAssign (some 11) (.tmp 58) 34 "page.go:74" #[eD 3, eC 1, eP 0, eP 1, eP 2, eP 3, eT 4]).op, none⟩,
 ⟨(opAssign (some 12) (.tmp 59) 4 "page.go:74" #[eD 4, eC 5, eP 0, eP 1, eP 2, eP 3, eP 4, eP 5]).op, none⟩
 ] (by kernel_rfl)))
 (.seq (.seq (.live [5, 75] (.region 19 [
 ⟨(opMove (some 60) (.tmp 12) 4 "page.go:75" #[]).op, none⟩,
 ⟨(opNot (some 61) 4 (.tmp 60) 4 "page.go:75" #[eD 0]).op, none⟩,
 ⟨(opMove (some 62) (.tmp 61) 4 "page.go:75" #[eD 1]).op, none⟩,
 ⟨(opMove (some 63) (.tmp 11) 34 "page.go:75" #[eG 2]).op, (some (2, 62, false))⟩,
 ⟨(opMove (some 64) (.tmp 0) 34 "page.go:75" #[eG 2]).op, (some (2, 62, false))⟩,
 ⟨(opCallP p76 (some 65) [(.tmp 63), (.tmp 64)] #[34, 34] 4 "page.go:75" #[eD 3, eD 4, eC 2, eG 2]).op, (some (2, 62, false))⟩,
 ⟨(opNot (some 66) 4 (.tmp 65) 4 "page.go:75" #[eD 5, eG 2]).op, (some (2, 62, false))⟩,
 ⟨(opPick (some 67) (.tmp 62) (.const (Value.bool true)) (.tmp 66) 4 "page.go:75" #[eD 2, eD 6]).op, none⟩,
 ⟨(opMove (some 68) (.tmp 67) 4 "page.go:75" #[eD 7, eC 5]).op, none⟩,
 ⟨(opMove (some 69) (.tmp 5) 82 "page.go:75" #[eG 8]).op, (some (8, 68, false))⟩,
 ⟨(opCallQ q77 (some 70) [(.tmp 69)] #[82] 82 "page.go:75" #[eD 9, eC 8, eG 8]).op, (some (8, 68, false))⟩,
 ⟨(opLen (some 71) (.tmp 70) 82 (.slice 34) Try.underlying82 3 "page.go:75" #[eD 10, eG 8]).op, (some (8, 68, false))⟩,
 ⟨(opMove (some 72) (.tmp 5) 82 "page.go:75" #[eG 8]).op, (some (8, 68, false))⟩,
 ⟨(opLen (some 73) (.tmp 72) 82 (.slice 34) Try.underlying82 3 "page.go:75" #[eD 12, eG 8]).op, (some (8, 68, false))⟩,
 ⟨(opBin (some 74) .neq 3 (.tmp 71) (.tmp 73) 3 4 "page.go:75" #[eD 11, eD 13, eG 8]).op, (some (8, 68, false))⟩,
 ⟨(opPick (some 75) (.tmp 68) (.const (Value.bool true)) (.tmp 74) 4 "page.go:75" #[eD 8, eD 14]).op, none⟩
 ] (by kernel_rfl)))
 (.cond (.tmp 75)
 (.seq (.live [2, 3] (.region 20 [
 ⟨(opAssign (some 2) (.const (Value.slice none 0 0)) 82 "page.go:76" #[]).op, none⟩,
 ⟨(opAssign (some 3) (.const (Value.bool false)) 4 "page.go:76" #[eC 0, eP 0]).op, none⟩
 ] (by kernel_rfl)))
 (.live [2, 3] .ret))
 .skip))
 (.seq (.live [2, 3] (.region 21 [
 ⟨(opMove (some 76) (.tmp 5) 82 "page.go:78" #[]).op, none⟩,
 ⟨(opAssign (some 2) (.tmp 76) 82 "page.go:78" #[eD 0, eP 0]).op, none⟩,
 ⟨(opAssign (some 3) (.const (Value.bool true)) 4 "page.go:78" #[eC 1, eP 0, eP 1]).op, none⟩
 ] (by kernel_rfl)))
 (.live [2, 3] .ret))))
noncomputable def f44_b : Sim Try.prog :=
 (.seq (.live [0] (.region 0 [
 ⟨(opAssign (some 2) (.const (Value.slice none 0 0)) 82 "page.go:55" #[]).op, none⟩,
 ⟨(opAssign (some 3) (.const (Value.bool false)) 4 "page.go:55" #[eC 0]).op, none⟩
 ] (by kernel_rfl)))
 (.seq (.seq (.live [0, 15] (.region 1 [
 ⟨(opMove (some 13) (.tmp 0) 34 "page.go:56" #[]).op, none⟩,
 ⟨(opLen (some 14) (.tmp 13) 34 (.slice 5) Try.underlying34 3 "page.go:56" #[eD 0]).op, none⟩,
 ⟨(opBin (some 15) .neq 3 (.tmp 14) (.const (Value.int IntKind.i64 256)) 3 4 "page.go:56" #[eD 1]).op, none⟩
 ] (by kernel_rfl)))
 (.cond (.tmp 15)
 (.seq (.live [2, 3] (.region 2 [
 ⟨(opAssign (some 2) (.const (Value.slice none 0 0)) 82 "page.go:57" #[]).op, none⟩,
 ⟨(opAssign (some 3) (.const (Value.bool false)) 4 "page.go:57" #[eC 0, eP 0]).op, none⟩
 ] (by kernel_rfl)))
 (.live [2, 3] .ret))
 .skip))
 (.seq (.live [0, 4] (.region 3 [
 ⟨(opMove (some 16) (.tmp 0) 34 "page.go:59" #[]).op, none⟩,
 ⟨(opIndexAddrT (some 17) 34 (.tmp 16) (.const (Value.int IntKind.i64 0)) 5 1 Try.underlying34 sz5 0 "page.go:59" #[eD 0]).op, none⟩,
 ⟨(opLoadT (.one (.int .u8)) (some 18) 5 (.tmp 17) (.int .u8) Try.underlying5 1 sz5 (by kernel_rfl) 5 "page.go:59" #[eD 1]).op, none⟩,
 ⟨(opConvInt (some 19) 5 3 (.tmp 18) (.int .u8) Try.underlying5 .i64 Try.underlying3 3 "page.go:59" #[eD 2]).op, none⟩,
 ⟨(opAssign (some 4) (.tmp 19) 3 "page.go:59" #[eD 3, eP 0, eP 1, eP 2, eP 3]).op, none⟩
 ] (by kernel_rfl)))
 (.seq (.live [0, 4, 5] (.region 4 [
 ⟨(opAssign (some 5) (.const (Value.slice none 0 0)) 82 "page.go:60" #[]).op, none⟩
 ] (by kernel_rfl)))
 (.seq (.live [0, 4, 5, 6] (.region 5 [
 ⟨(opMove (some 20) (.tmp 0) 34 "page.go:61" #[]).op, none⟩,
 ⟨(opLen (some 21) (.tmp 20) 34 (.slice 5) Try.underlying34 3 "page.go:61" #[eD 0]).op, none⟩,
 ⟨(opAssign (some 6) (.tmp 21) 3 "page.go:61" #[eD 1, eP 0, eP 1]).op, none⟩
 ] (by kernel_rfl)))
 (.seq (.seq (.live [0, 5, 6, 25, 26, 27] (.region 6 [
 ⟨(opMove (some 22) (.tmp 0) 34 "page.go:62" #[]).op, none⟩,
 ⟨(opMove (some 23) (.tmp 4) 3 "page.go:62" #[]).op, none⟩,
 ⟨(opBin (some 24) .add 3 (.const (Value.int IntKind.i64 1)) (.tmp 23) 3 3 "page.go:62" #[eD 1]).op, none⟩,
 ⟨(opSlice (some 25) 34 (.tmp 22) (some (.const (Value.int IntKind.i64 1))) (some (.tmp 24)) none 5 1 Try.underlying34 sz5 34 "page.go:62" #[eD 0, eD 2]).op, none⟩,
 ⟨(opLen (some 26) (.tmp 25) 34 (.slice 5) Try.underlying34 3 "page.go:62" #[eD 3]).op, none⟩,
 ⟨(opMove (some 27) (.const (Value.int IntKind.i64 0)) 3 "page.go:62" #[]).op, none⟩
 ] (by kernel_rfl)))
 (.block 0 (.loop [0, 5, 6, 25, 26, 27] f44_l0)))
 f44_r0))))))
noncomputable def f44 : Fun Try.prog where
 id := 44
 fn := Try.f44
 hf := Try.func44
 hname := by kernel_rfl
 body := f44_b
 hbody := by kernel_rfl
 res := [rTmp 2, rTmp 3]
 hres := by kernel_rfl
 n := 77
 hn := by kernel_rfl
theorem of_run (F : Nat) (z : Bool) (l : List (List AV)) :
 (f44.run F [.ns z 1 l] ⟨[], []⟩ : Ans) =
 branch (.bool ((↑l.length : Int) != 256)) (some (Fin.ret (AV.tup [AV.nilsl, AV.bool false]), St.mk [] []))
 (branch (.bool (inR l (0 : Int)))
 (branch (.bool ((LD.one (LT.int IntKind.u8)).is (V.rowAt l (0 : Int))))
 (if
 (0 : Int) ≤ IntKind.i64.wrap ((1 : Int) + IntKind.i64.wrap (hdI (V.rowAt l (0 : Int)))) ∧
 IntKind.i64.wrap ((1 : Int) + IntKind.i64.wrap (hdI (V.rowAt l (0 : Int)))) ≤ (↑l.length : Int) then
 if
 (0 : Int) ≤ 1 ∧
 (1 : Int) ≤
 (↑(IntKind.i64.wrap ((1 : Int) + IntKind.i64.wrap (hdI (V.rowAt l (0 : Int))))).toNat : Int) then
 loopRun (f44_l0.run F) [0, 5, 6, 25, 26, 27]
 (Cont.block 0 (Cont.then (f44_r0.run F (f44.leaveK Fun.done)) (f44.leaveK Fun.done))) F
 (Env.mk 77
 [(0, AV.ns z 1 l), (5, AV.nilsl),
 (6, .int .i64 (↑l.length : Int)),
 (25,
 AV.ns z 1
 (List.drop 1
 (List.take (IntKind.i64.wrap ((1 : Int) + IntKind.i64.wrap (hdI (V.rowAt l (0 : Int))))).toNat
 l))),
 (26,
 AV.int IntKind.i64
 (↑(List.drop 1
 (List.take
 (IntKind.i64.wrap ((1 : Int) + IntKind.i64.wrap (hdI (V.rowAt l (0 : Int))))).toNat
 l)).length :
 Int)),
 (27, .int .i64 0)])
 (St.mk [] [])
 else none
 else none)
 none)
 none) := by kernel_rfl
theorem of_round0 (F m : Nat) (K : Cont) (z : Bool) (l r : List (List AV)) (d i e : Int) :
 (loopRun (f44_l0.run F) [0, 5, 6, 25, 26, 27] K m.succ (Env.mk 77 [(0, .ns z 1 l), (5, .nilsl), (6, .int .i64 d), (25, .ns z 1 r), (26, .int .i64 e), (27, .int .i64 i)]) ⟨[], []⟩ : Ans) =
 branch (.bool (decide (i < e)))
 (branch (.bool (inR r i))
 (branch (.bool ((LD.one (LT.int IntKind.u8)).is (V.rowAt r i)))
 (branch (.bool (decide (hdI (V.rowAt r i) > 0)))
 (branch (.bool (decide (IntKind.i64.wrap (IntKind.i64.wrap (hdI (V.rowAt r i)) - 1) > d)))
 (K AX.ret (Env.mk 77 [(2, AV.nilsl), (3, AV.bool false)]) (St.mk [] []))
 (if
 (0 : Int) ≤
 IntKind.i64.wrap
 (IntKind.i64.wrap (d - IntKind.i64.wrap (IntKind.i64.wrap (hdI (V.rowAt r i)) - 1)) +
 IntKind.i64.wrap (IntKind.i64.wrap (hdI (V.rowAt r i)) - 1)) ∧
 IntKind.i64.wrap
 (IntKind.i64.wrap (d - IntKind.i64.wrap (IntKind.i64.wrap (hdI (V.rowAt r i)) - 1)) +
 IntKind.i64.wrap (IntKind.i64.wrap (hdI (V.rowAt r i)) - 1)) ≤
 (↑l.length : Int) then
 if
 (0 : Int) ≤ IntKind.i64.wrap (d - IntKind.i64.wrap (IntKind.i64.wrap (hdI (V.rowAt r i)) - 1)) ∧
 IntKind.i64.wrap (d - IntKind.i64.wrap (IntKind.i64.wrap (hdI (V.rowAt r i)) - 1)) ≤
 (↑(IntKind.i64.wrap
 (IntKind.i64.wrap
 (d - IntKind.i64.wrap (IntKind.i64.wrap (hdI (V.rowAt r i)) - 1)) +
 IntKind.i64.wrap (IntKind.i64.wrap (hdI (V.rowAt r i)) - 1))).toNat :
 Int) then
 branch
 (AV.bool
 (true &&
 apOk
 ([] ++
 List.drop
 (IntKind.i64.wrap
 (d - IntKind.i64.wrap (IntKind.i64.wrap (hdI (V.rowAt r i)) - 1))).toNat
 (List.take
 (IntKind.i64.wrap
 (IntKind.i64.wrap
 (d - IntKind.i64.wrap (IntKind.i64.wrap (hdI (V.rowAt r i)) - 1)) +
 IntKind.i64.wrap (IntKind.i64.wrap (hdI (V.rowAt r i)) - 1))).toNat
 l)).length
 1))
 (branch (.bool (apOk 1 24))
 (loopRun (f44_l0.run F) [0, 5, 6, 25, 26, 27] K m
 (Env.mk 77
 [(0, AV.ns z 1 l), (5, AV.vs 0 0 1 1),
 (6,
 AV.int IntKind.i64
 (IntKind.i64.wrap
 (d - IntKind.i64.wrap (IntKind.i64.wrap (hdI (V.rowAt r i)) - 1)))),
 (25, AV.ns z 1 r), (26, .int .i64 e),
 (27, .int .i64 (IntKind.i64.wrap (i + 1)))])
 (St.mk
 [Ob.vec 0
 (catC [] 0
 [[AV.sl 1 false
 ([] ++
 List.drop
 (IntKind.i64.wrap
 (d -
 IntKind.i64.wrap (IntKind.i64.wrap (hdI (V.rowAt r i)) - 1))).toNat
 (List.take
 (IntKind.i64.wrap
 (IntKind.i64.wrap
 (d -
 IntKind.i64.wrap (IntKind.i64.wrap (hdI (V.rowAt r i)) - 1)) +
 IntKind.i64.wrap
 (IntKind.i64.wrap (hdI (V.rowAt r i)) - 1))).toNat
 l))]])]
 []))
 none)
 none
 else none
 else none))
 (branch (.bool (apOk 1 24))
 (loopRun (f44_l0.run F) [0, 5, 6, 25, 26, 27] K m
 (Env.mk 77
 [(0, AV.ns z 1 l), (5, AV.vs 0 0 1 1),
 (6, .int .i64 d), (25, AV.ns z 1 r),
 (26, .int .i64 e),
 (27, .int .i64 (IntKind.i64.wrap (i + 1)))])
 (St.mk [Ob.vec 0 (catC [] 0 [[AV.nilsl]])] []))
 none))
 none)
 none)
 (K (AX.exit 0) (Env.mk 77 [(0, AV.ns z 1 l), (5, AV.nilsl)]) (St.mk [] [])) := by kernel_rfl
theorem of_round (F m : Nat) (K : Cont) (z : Bool) (l r : List (List AV)) (v n : Nat) (cs : List AV) (d i e : Int) :
 (loopRun (f44_l0.run F) [0, 5, 6, 25, 26, 27] K m.succ (Env.mk 77 [(0, .ns z 1 l), (5, .vs 0 v 1 n), (6, .int .i64 d), (25, .ns z 1 r), (26, .int .i64 e), (27, .int .i64 i)]) ⟨[.vec v cs], []⟩ : Ans) =
 branch (.bool (decide (i < e)))
 (branch (.bool (inR r i))
 (branch (.bool ((LD.one (LT.int IntKind.u8)).is (V.rowAt r i)))
 (branch (.bool (decide (hdI (V.rowAt r i) > 0)))
 (branch (.bool (decide (IntKind.i64.wrap (IntKind.i64.wrap (hdI (V.rowAt r i)) - 1) > d)))
 (K AX.ret (Env.mk 77 [(2, AV.nilsl), (3, AV.bool false)]) (St.mk [Ob.vec v cs] []))
 (if
 (0 : Int) ≤
 IntKind.i64.wrap
 (IntKind.i64.wrap (d - IntKind.i64.wrap (IntKind.i64.wrap (hdI (V.rowAt r i)) - 1)) +
 IntKind.i64.wrap (IntKind.i64.wrap (hdI (V.rowAt r i)) - 1)) ∧
 IntKind.i64.wrap
 (IntKind.i64.wrap (d - IntKind.i64.wrap (IntKind.i64.wrap (hdI (V.rowAt r i)) - 1)) +
 IntKind.i64.wrap (IntKind.i64.wrap (hdI (V.rowAt r i)) - 1)) ≤
 (↑l.length : Int) then
 if
 (0 : Int) ≤ IntKind.i64.wrap (d - IntKind.i64.wrap (IntKind.i64.wrap (hdI (V.rowAt r i)) - 1)) ∧
 IntKind.i64.wrap (d - IntKind.i64.wrap (IntKind.i64.wrap (hdI (V.rowAt r i)) - 1)) ≤
 (↑(IntKind.i64.wrap
 (IntKind.i64.wrap
 (d - IntKind.i64.wrap (IntKind.i64.wrap (hdI (V.rowAt r i)) - 1)) +
 IntKind.i64.wrap (IntKind.i64.wrap (hdI (V.rowAt r i)) - 1))).toNat :
 Int) then
 branch
 (AV.bool
 (true &&
 apOk
 ([] ++
 List.drop
 (IntKind.i64.wrap
 (d - IntKind.i64.wrap (IntKind.i64.wrap (hdI (V.rowAt r i)) - 1))).toNat
 (List.take
 (IntKind.i64.wrap
 (IntKind.i64.wrap
 (d - IntKind.i64.wrap (IntKind.i64.wrap (hdI (V.rowAt r i)) - 1)) +
 IntKind.i64.wrap (IntKind.i64.wrap (hdI (V.rowAt r i)) - 1))).toNat
 l)).length
 1))
 (branch (.bool (v.beq v && (inC cs 0 (mulN n 1) && apOk (n + 1) 24)))
 (loopRun (f44_l0.run F) [0, 5, 6, 25, 26, 27] K m
 (Env.mk 77
 [(0, AV.ns z 1 l),
 (5, AV.vs 0 (v + 1) 1 (n + 1)),
 (6,
 AV.int IntKind.i64
 (IntKind.i64.wrap
 (d - IntKind.i64.wrap (IntKind.i64.wrap (hdI (V.rowAt r i)) - 1)))),
 (25, AV.ns z 1 r), (26, .int .i64 e),
 (27, .int .i64 (IntKind.i64.wrap (i + 1)))])
 (St.mk
 [Ob.vec (v + 1)
 (catC cs (mulN n 1)
 [[AV.sl 1 false
 ([] ++
 List.drop
 (IntKind.i64.wrap
 (d -
 IntKind.i64.wrap (IntKind.i64.wrap (hdI (V.rowAt r i)) - 1))).toNat
 (List.take
 (IntKind.i64.wrap
 (IntKind.i64.wrap
 (d -
 IntKind.i64.wrap (IntKind.i64.wrap (hdI (V.rowAt r i)) - 1)) +
 IntKind.i64.wrap
 (IntKind.i64.wrap (hdI (V.rowAt r i)) - 1))).toNat
 l))]])]
 []))
 none)
 none
 else none
 else none))
 (branch (.bool (v.beq v && (inC cs 0 (mulN n 1) && apOk (n + 1) 24)))
 (loopRun (f44_l0.run F) [0, 5, 6, 25, 26, 27] K m
 (Env.mk 77
 [(0, AV.ns z 1 l), (5, AV.vs 0 (v + 1) 1 (n + 1)),
 (6, .int .i64 d), (25, AV.ns z 1 r),
 (26, .int .i64 e),
 (27, .int .i64 (IntKind.i64.wrap (i + 1)))])
 (St.mk [Ob.vec (v + 1) (catC cs (mulN n 1) [[AV.nilsl]])] []))
 none))
 none)
 none)
 (K (AX.exit 0)
 (Env.mk 77 [(0, AV.ns z 1 l), (5, AV.vs 0 v 1 n)])
 (St.mk [Ob.vec v cs] [])) := by kernel_rfl
theorem of_out0 (F : Nat) (z : Bool) (l : List (List AV)) (st : St) :
 ((Cont.block 0 (Cont.then (f44_r0.run F (f44.leaveK Fun.done)) (f44.leaveK Fun.done))) (.exit 0) (Env.mk 77 [(0, .ns z 1 l), (5, .nilsl)]) st : Ans) =
 branch (.bool (okS [] && fit 1))
 (branch (.bool (byOk (pgR []) && byOk l))
 (branch (.bool !nR (pgR []) == nR l) (some (Fin.ret (AV.tup [AV.nilsl, AV.bool false]), st))
 (branch (.bool (okS []))
 (branch (.bool ((↑(trR []).length : Int) != 0))
 (some (Fin.ret (AV.tup [AV.nilsl, AV.bool false]), st))
 (some (Fin.ret (AV.tup [AV.nilsl, AV.bool true]), st)))
 none))
 none)
 none := by kernel_rfl
theorem of_out (F v n : Nat) (z : Bool) (l : List (List AV)) (cs : List AV) :
 ((Cont.block 0 (Cont.then (f44_r0.run F (f44.leaveK Fun.done)) (f44.leaveK Fun.done))) (.exit 0) (Env.mk 77 [(0, .ns z 1 l), (5, .vs 0 v 1 n)]) ⟨[.vec v cs], []⟩ : Ans) =
 branch (.bool (v.beq v && inC cs 0 (mulN n 1)))
 (branch (.bool (okS (rowsC 1 n cs 0) && fit (szN (sR (rowsC 1 n cs 0)))))
 (branch (.bool !pgOk (sR (rowsC 1 n cs 0)))
 (some (Fin.ret (AV.tup [AV.nilsl, AV.bool false]), St.mk [Ob.vec v cs] []))
 (branch (.bool (byOk (pgR (rowsC 1 n cs 0)) && byOk l))
 (branch (.bool !nR (pgR (rowsC 1 n cs 0)) == nR l)
 (some (Fin.ret (AV.tup [AV.nilsl, AV.bool false]), St.mk [Ob.vec v cs] []))
 (branch (.bool (v.beq v))
 (branch (.bool (okV n cs))
 (branch (.bool ((↑(trN n cs) : Int) != (↑n : Int)))
 (some (Fin.ret (AV.tup [AV.nilsl, AV.bool false]), St.mk [Ob.vec v cs] []))
 (some (Fin.ret (AV.tup [AV.vs 0 v 1 n, AV.bool true]), St.mk [Ob.vec v cs] [])))
 none)
 none))
 none))
 none)
 none := by kernel_rfl
theorem of_ret (F : Nat) (st : St) :
 ((Cont.block 0 (Cont.then (f44_r0.run F (f44.leaveK Fun.done)) (f44.leaveK Fun.done))) .ret (Env.mk 77 [(2, .nilsl), (3, .bool false)]) st : Ans) =
 some (Fin.ret (AV.tup [AV.nilsl, AV.bool false]), st) := by kernel_rfl
def decL : List Nat → Nat → List Nat → Option Sl
 | [], _, _ => some []
 | c :: r, e, p => if c = 0 then (decL r e p).map (none :: ·) else if c - 1 > e then none else (decL r (e - (c - 1)) p).map (some ((p.take e).drop (e - (c - 1))) :: ·)
def trm (s : Sl) : Bool := match s.getLast? with
 | some none => false
 | _ => true
def fine (s : Sl) (p : List Nat) : Bool := pgOk s && (pgB s == p && trm s)
def ofP (p : List Nat) : Option Sl :=
 bif p.length == 256 then match decL ((p.take (1 + p.headD 0)).drop 1) 256 p with
  | some s => bif fine s p then some s else none
  | none => none
 else none
def ofS (p : List Nat) : Sl := (ofP p).getD []
def ofB (p : List Nat) : Bool := (ofP p).isSome
def rowS (o : Option (List Nat)) : List AV := match o with
 | none => [.nilsl]
 | some b => [.sl 1 false (bR b)]
def sA (s : Sl) : List (List AV) := s.map rowS
noncomputable def ofA (p : List Nat) : List (List AV) := opq (sA (ofS p))
theorem sA_length (s : Sl) : (sA s).length = s.length := by simp [sA]
theorem sA_append (s t : Sl) : sA (s ++ t) = sA s ++ sA t := by simp [sA]
theorem slot_row (o : Option (List Nat)) : slot (rowS o) = o := by
 cases o with
 | none => rfl
 | some b => simp [rowS, slot, nilA, rwA, nR_bR]
theorem sR_sA (s : Sl) : sR (sA s) = s := by
 simp only [sR, sA, List.map_map]
 conv => rhs; rw [← List.map_id s]
 exact List.map_congr_left fun o _ => slot_row o
def okSl (s : Sl) : Prop := (∀ b, some b ∈ s → (∀ x ∈ b, x < 256) ∧ b.length < 4611686018427387904) ∧ s.length < 4611686018427387904
theorem okS_sA {s : Sl} (h : okSl s) : okS (sA s) = true := by
 rw [okS_iff, sA_length]
 refine ⟨fun r hr => ?_, h.2⟩
 obtain ⟨o, ho, rfl⟩ := List.mem_map.mp hr
 cases o with
 | none => exact ⟨rfl, by simp [rowS, rwA]⟩
 | some b =>
  obtain ⟨h1, h2⟩ := h.1 b ho
  exact ⟨okR_bR h1, by simpa [rowS, rwA, bR_length] using h2⟩
theorem scoped_sA {n m : Nat} (s : Sl) : ScopedR n m (sA s) := by
 induction s with
 | nil => trivial
 | cons o s ih =>
  refine ⟨?_, ih⟩
  cases o with
  | none => exact ⟨trivial, trivial⟩
  | some b => exact ⟨bR_scoped b, trivial⟩
theorem trR_trm (s : Sl) : ((((trR (sA s)).length : Int)) != ((sA s).length : Int)) = !trm s := by
 rcases List.eq_nil_or_concat s with rfl | ⟨t, o, rfl⟩
 ·rw [show sA [] = [] from rfl, trR_nil]; rfl
 ·rw [List.concat_eq_append, sA_append, show sA [o] = [rowS o] from rfl, trR_snoc]
  cases o with
  | none =>
   have := trR_len (sA t)
   simp only [rowS, nilA, cond_true, trm, List.getLast?_append, List.getLast?_singleton]
   simp only [Option.or, Bool.not_false, bne_iff_ne, ne_eq, List.length_append, List.length_singleton]
   omega
  | some b => simp [rowS, nilA, trm]
theorem mem_decL : ∀ {c : List Nat} {e : Nat} {p : List Nat} {s : Sl}, decL c e p = some s → s.length = c.length ∧ sumN s ≤ e ∧ ∀ b, some b ∈ s → ∀ x ∈ b, x ∈ p
 | [], e, p, s, h => by
  simp only [decL, Option.some.injEq] at h
  subst h
  exact ⟨rfl, Nat.zero_le _, fun b hb => by cases hb⟩
 | c :: r, e, p, s, h => by
  rw [decL] at h
  split at h
  ·obtain ⟨t, ht, rfl⟩ := Option.map_eq_some_iff.mp h
   obtain ⟨h1, h2, h3⟩ := mem_decL ht
   exact ⟨by simp [h1], by rw [sumN_cons]; exact (by simpa [olen] using h2), fun b hb => h3 b (by simpa using hb)⟩
  ·split at h
   ·cases h
   ·rename_i h0 hc
    obtain ⟨t, ht, rfl⟩ := Option.map_eq_some_iff.mp h
    obtain ⟨h1, h2, h3⟩ := mem_decL ht
    refine ⟨by simp [h1], ?_, fun b hb => ?_⟩
    ·rw [sumN_cons]
     have : olen (some ((p.take e).drop (e - (c - 1)))) ≤ c - 1 := by
      show ((p.take e).drop (e - (c - 1))).length ≤ c - 1
      simp; omega
     omega
    ·rcases List.mem_cons.mp hb with hb | hb
     ·cases hb
      exact fun x hx => List.mem_of_mem_take (List.mem_of_mem_drop hx)
     ·exact h3 b hb
theorem bR_at {c : List Nat} (h : ∀ b ∈ c, b < 256) {i : Nat} (hi : i < c.length) : inR (bR c) (i : Int) = true ∧ (LD.one (.int .u8)).is (V.rowAt (bR c) (i : Int)) = true ∧ hdI (V.rowAt (bR c) (i : Int)) = (c[i] : Nat) := by
 have hl : i < (bR c).length := by rw [bR_length]; exact hi
 obtain ⟨h1, h2⟩ := okR_at (okR_bR h) hl
 exact ⟨inR_nat hl, h1, by rw [h2]; simp [nR_bR]⟩
def cellS (o : Option (List Nat)) : AV := match o with
 | none => .nilsl
 | some b => .sl 1 false (bR b)
def sC (s : Sl) : List AV := s.map cellS
theorem sC_length (s : Sl) : (sC s).length = s.length := by simp [sC]
theorem sC_append (s t : Sl) : sC (s ++ t) = sC s ++ sC t := by simp [sC]
theorem cR_sC (s : Sl) : cR (sC s) = sA s := by
 simp only [cR, sC, sA, List.map_map]
 exact List.map_congr_left fun o _ => by cases o <;> rfl
theorem cR_sC_take (s : Sl) (n : Nat) : cR ((sC s).take n) = sA (s.take n) := by
 rw [show (sC s).take n = sC (s.take n) by simp [sC], cR_sC]
def sV (t : Sl) : AV := match t with
 | [] => .nilsl
 | _ :: r => .vs 0 r.length 1 (r.length + 1)
def obV (t : Sl) : List Ob := match t with
 | [] => []
 | o :: r => [.vec r.length (sC (o :: r))]
theorem sV_snoc (t : Sl) (o : Option (List Nat)) : sV (t ++ [o]) = .vs 0 t.length 1 (t.length + 1) ∧ obV (t ++ [o]) = [.vec t.length (sC t ++ [cellS o])] := by
 cases t <;> simp [sV, obV, sC]
theorem ap_one : apOk 1 24 = true := by rw [apOk_iff]; decide
theorem vs_guard {v n : Nat} {cs : List AV} (h : n = cs.length) (h2 : n ≤ 1000000) : (v.beq v && (inC cs 0 (mulN n 1) && apOk (n + 1) 24)) = true := by
 rw [Nat.beq_refl, inC_one (by omega), Bool.true_and, Bool.true_and, apOk_iff]; omega
theorem of_step (F m : Nat) (K : Cont) (z : Bool) (p c : List Nat) (hp : p.length = 256) (hpb : ∀ b ∈ p, b < 256) (hcb : ∀ b ∈ c, b < 256) (t : Sl) (ht : t.length ≤ 256) (e i : Nat) (he : e ≤ 256) (hi : i < c.length) (hc : c.length ≤ 256) :
  loopRun (f44_l0.run F) [0, 5, 6, 25, 26, 27] K m.succ (Env.mk 77 [(0, .ns z 1 (bR p)), (5, sV t), (6, .int .i64 (e : Int)), (25, .ns z 1 (bR c)), (26, .int .i64 (c.length : Int)), (27, .int .i64 (i : Int))]) ⟨obV t, []⟩ =
   (if c[i] = 0 then loopRun (f44_l0.run F) [0, 5, 6, 25, 26, 27] K m (Env.mk 77 [(0, .ns z 1 (bR p)), (5, sV (t ++ [none])), (6, .int .i64 (e : Int)), (25, .ns z 1 (bR c)), (26, .int .i64 (c.length : Int)), (27, .int .i64 ((i + 1 : Nat) : Int))]) ⟨obV (t ++ [none]), []⟩
   else if c[i] - 1 > e then K .ret (Env.mk 77 [(2, .nilsl), (3, .bool false)]) ⟨obV t, []⟩
   else loopRun (f44_l0.run F) [0, 5, 6, 25, 26, 27] K m (Env.mk 77 [(0, .ns z 1 (bR p)), (5, sV (t ++ [some ((p.take e).drop (e - (c[i] - 1)))])), (6, .int .i64 ((e - (c[i] - 1) : Nat) : Int)), (25, .ns z 1 (bR c)), (26, .int .i64 (c.length : Int)), (27, .int .i64 ((i + 1 : Nat) : Int))]) ⟨obV (t ++ [some ((p.take e).drop (e - (c[i] - 1)))]), []⟩) := by
 obtain ⟨c1, c2, c3⟩ := bR_at hcb hi
 have hlt : c[i] < 256 := hcb _ (List.getElem_mem hi)
 obtain ⟨n1, n2⟩ := sV_snoc t none
 obtain ⟨n3, n4⟩ := sV_snoc t (some ((p.take e).drop (e - (c[i] - 1))))
 rw [n1, n2, n3, n4]
 have hb : (sC t).length ≤ 256 := by rw [sC_length]; exact ht
 have w0 : IntKind.i64.wrap ((i : Int) + 1) = ((i + 1 : Nat) : Int) := wrap_succ (by omega)
 by_cases h0 : c[i] = 0
 ·rw [if_pos h0]
  cases t with
  | nil =>
   simp only [sV, obV]
   rw [of_round0, branch_of (by simpa using hi), branch_of c1, branch_of c2, c3, h0, branch_not (by simp), w0, branch_of ap_one, catC_nil]
   rfl
  | cons o t =>
   simp only [sV, obV]
   rw [of_round, branch_of (by simpa using hi), branch_of c1, branch_of c2, c3, h0, branch_not (by simp), w0, branch_of (vs_guard (by simp [sC]) (by rw [sC_length, List.length_cons] at hb; omega)), catC_one (by simp [sC])]
   rfl
 ·rw [if_neg h0]
  have w1 : IntKind.i64.wrap ((c[i] : Nat) : Int) = (c[i] : Nat) := wrap_nat (by omega)
  have w2 : IntKind.i64.wrap (((c[i] : Nat) : Int) - 1) = ((c[i] - 1 : Nat) : Int) := by rw [show ((c[i] : Nat) : Int) - 1 = ((c[i] - 1 : Nat) : Int) by omega]; exact wrap_nat (by omega)
  by_cases h1 : c[i] - 1 > e
  ·rw [if_pos h1]
   cases t with
   | nil =>
    simp only [sV, obV]
    rw [of_round0, branch_of (by simpa using hi), branch_of c1, branch_of c2, c3, w1, w2, branch_of (by simp only [decide_eq_true_eq]; omega), branch_of (by simp only [decide_eq_true_eq]; omega)]
   | cons o t =>
    simp only [sV, obV]
    rw [of_round, branch_of (by simpa using hi), branch_of c1, branch_of c2, c3, w1, w2, branch_of (by simp only [decide_eq_true_eq]; omega), branch_of (by simp only [decide_eq_true_eq]; omega)]
  ·rw [if_neg h1]
   have w3 : IntKind.i64.wrap ((e : Int) - ((c[i] - 1 : Nat) : Int)) = ((e - (c[i] - 1) : Nat) : Int) := by rw [show (e : Int) - ((c[i] - 1 : Nat) : Int) = ((e - (c[i] - 1) : Nat) : Int) by omega]; exact wrap_nat (by omega)
   have w4 : IntKind.i64.wrap (((e - (c[i] - 1) : Nat) : Int) + ((c[i] - 1 : Nat) : Int)) = (e : Int) := by rw [show ((e - (c[i] - 1) : Nat) : Int) + ((c[i] - 1 : Nat) : Int) = (e : Int) by omega]; exact wrap_nat (by omega)
   have hr : List.drop (e - (c[i] - 1)) (List.take e (bR p)) = bR ((p.take e).drop (e - (c[i] - 1))) := by rw [bR_take, bR_drop]
   have hap : apOk ([] ++ bR ((p.take e).drop (e - (c[i] - 1)))).length 1 = true := by
    rw [apOk_iff, List.nil_append, bR_length, List.length_drop, List.length_take]; omega
   cases t with
   | nil =>
    simp only [sV, obV]
    rw [of_round0, branch_of (by simpa using hi), branch_of c1, branch_of c2, c3, w1, w2, branch_of (by simp only [decide_eq_true_eq]; omega), branch_not (by simp only [decide_eq_false_iff_not]; omega), w3, w4, w0, Int.toNat_natCast, Int.toNat_natCast, hr,
     if_pos ⟨by omega, by rw [bR_length]; omega⟩, if_pos ⟨by omega, by omega⟩, branch_of (by rw [hap]; rfl), List.nil_append, branch_of ap_one, catC_nil]
    rfl
   | cons o t =>
    simp only [sV, obV]
    rw [of_round, branch_of (by simpa using hi), branch_of c1, branch_of c2, c3, w1, w2, branch_of (by simp only [decide_eq_true_eq]; omega), branch_not (by simp only [decide_eq_false_iff_not]; omega), w3, w4, w0, Int.toNat_natCast, Int.toNat_natCast, hr,
     if_pos ⟨by omega, by rw [bR_length]; omega⟩, if_pos ⟨by omega, by omega⟩, branch_of (by rw [hap]; rfl), branch_of (vs_guard (by simp [sC]) (by rw [sC_length, List.length_cons] at hb; omega)), List.nil_append, catC_one (by simp [sC])]
    rfl
def ofAns (o : Option Sl) : AV := match o with
 | some s => .tup [sV s, .bool true]
 | none => .tup [.nilsl, .bool false]
theorem pgFold_lt : ∀ (s : Sl) (i : Nat) (p : List Nat) (e : Nat), (∀ b ∈ p, b < 256) → (∀ o ∈ s, olen o ≤ 200) → (∀ b, some b ∈ s → ∀ x ∈ b, x < 256) → ∀ b ∈ pgFold s i p e, b < 256
 | [], _, _, _, h, _, _ => h
 | none :: s, i, p, e, h, h1, h2 => by
  rw [pgFold]
  exact pgFold_lt s _ _ _ h (fun o ho => h1 o (by simp [ho])) (fun b hb => h2 b (by simp [hb]))
 | some b :: s, i, p, e, h, h1, h2 => by
  rw [pgFold]
  refine pgFold_lt s _ _ _ (fun x hx => ?_) (fun o ho => h1 o (by simp [ho])) (fun b hb => h2 b (by simp [hb]))
  rcases mem_putN hx with hx | hx
  ·rcases List.mem_or_eq_of_mem_set hx with hx | hx
   ·exact h x hx
   ·have : olen (some b) ≤ 200 := h1 _ (by simp)
    have hob : olen (some b) = b.length := rfl
    omega
  ·exact h2 b (by simp) x hx
theorem pgB_lt {s : Sl} (h : okSl s) (hk : pgOk s = true) : ∀ b ∈ pgB s, b < 256 := by
 obtain ⟨h1, h2⟩ := pgOk_iff.mp hk
 refine pgFold_lt s _ _ _ (fun x hx => ?_) h2 (fun b hb => (h.1 b hb).1)
 rcases List.mem_or_eq_of_mem_set hx with hx | hx
 ·rw [List.eq_of_mem_replicate hx]; omega
 ·rw [szN] at h1; omega
theorem byOk_pg {s : Sl} (h : okSl s) : byOk (pgR (sA s)) = true := by
 cases hk : pgOk s with
 | true =>
  rw [pgR_ok (by rw [sR_sA]; exact hk), sR_sA]
  exact byOk_bR (pgB_lt h hk) (by rw [pgB_len hk]; omega)
 | false =>
  rw [pgR_no (by rw [sR_sA]; exact hk)]
  exact byOk_bR (l := []) (by simp) (by simp)
theorem of_end (F : Nat) (z : Bool) (p : List Nat) (hpb : ∀ b ∈ p, b < 256) (hp : p.length = 256) (t : Sl) (ht : okSl t) (hs : fit (szN t) = true) :
  (Cont.block 0 (Cont.then (f44_r0.run F (f44.leaveK Fun.done)) (f44.leaveK Fun.done))) (.exit 0) (Env.mk 77 [(0, .ns z 1 (bR p)), (5, sV t)]) ⟨obV t, []⟩ = some (.ret (ofAns (bif fine t p then some t else none)), ⟨obV t, []⟩) := by
 have hby : byOk (bR p) = true := byOk_bR hpb (by omega)
 have hok := okS_sA ht
 have hpg := byOk_pg ht
 cases t with
 | nil =>
  have e0 : pgOk [] = true := by decide
  have e1 : nR (pgR []) = pgB [] := by rw [show ([] : List (List AV)) = sA [] from rfl, pgR_ok (by rw [sR_sA]; exact e0), sR_sA, nR_bR]
  simp only [sV, obV]
  rw [of_out0, branch_of (by rw [show okS [] = true from hok]; exact (fit_iff.mpr (by omega))), branch_of (by rw [show byOk (pgR []) = true from hpg, hby]; rfl), e1, nR_bR]
  cases hb : pgB [] == p with
  | false => rw [branch_of (by simp), show fine [] p = false by rw [fine, hb]; simp]; rfl
  | true =>
   rw [branch_not (by simp), branch_of (show okS [] = true from hok), trR_nil, show fine [] p = true by rw [fine, hb]; rfl]
   rfl
 | cons o t =>
  have hl : t.length + 1 ≤ (sC (o :: t)).length := by simp [sC]
  have hrow : rowsC 1 (t.length + 1) (sC (o :: t)) 0 = sA (o :: t) := by
   rw [rowsC_one hl, List.take_of_length_le (by simp [sC]), cR_sC]
  have htr : (trN (t.length + 1) (sC (o :: t)) : Int) = ((trR (sA (o :: t))).length : Nat) := by
   rw [trN, opq_eq, List.take_of_length_le (by simp [sC]), cR_sC]
  have hlen : ((t.length + 1 : Nat) : Int) = ((sA (o :: t)).length : Nat) := by rw [sA_length]; rfl
  have hv : okV (t.length + 1) (sC (o :: t)) = true := by
   rw [okV_iff]
   refine ⟨hl, ?_⟩
   rw [List.take_of_length_le (by simp [sC]), cR_sC]
   exact hok
  simp only [sV, obV]
  rw [of_out, branch_of (by rw [Nat.beq_refl, inC_one hl]; rfl), hrow, sR_sA, branch_of (by rw [hok, hs]; rfl)]
  cases hk : pgOk (o :: t) with
  | false => rw [branch_of (by simp), show fine (o :: t) p = false by rw [fine, hk]; rfl]; rfl
  | true =>
   have e1 : nR (pgR (sA (o :: t))) = pgB (o :: t) := by rw [pgR_ok (by rw [sR_sA]; exact hk), sR_sA, nR_bR]
   rw [branch_not (by simp), branch_of (by rw [hpg, hby]; rfl), e1, nR_bR]
   cases hb : pgB (o :: t) == p with
   | false => rw [branch_of (by simp), show fine (o :: t) p = false by rw [fine, hb]; simp]; rfl
   | true =>
    rw [branch_not (by simp), branch_of (Nat.beq_refl _), branch_of hv, htr, hlen, trR_trm]
    cases hm : trm (o :: t) with
    | false => rw [branch_of (by simp), show fine (o :: t) p = false by rw [fine, hm]; simp]; rfl
    | true => rw [branch_not (by simp), show fine (o :: t) p = true by rw [fine, hk, hb, hm]; rfl]; rfl
def ofD (t : Sl) (c : List Nat) (e : Nat) (p : List Nat) : Option Sl :=
 match decL c e p with
 | some s => bif fine (t ++ s) p then some (t ++ s) else none
 | none => none
theorem ofD_nil (t : Sl) (e : Nat) (p : List Nat) : ofD t [] e p = bif fine t p then some t else none := by simp [ofD, decL]
theorem ofD_free (t : Sl) (r : List Nat) (e : Nat) (p : List Nat) : ofD t (0 :: r) e p = ofD (t ++ [none]) r e p := by
 simp only [ofD, decL, if_true]
 cases decL r e p <;> simp
theorem ofD_bad (t : Sl) {c : Nat} (r : List Nat) {e : Nat} (p : List Nat) (h0 : c ≠ 0) (h : c - 1 > e) : ofD t (c :: r) e p = none := by
 simp only [ofD, decL, if_neg h0, if_pos h]
theorem ofD_some (t : Sl) {c : Nat} (r : List Nat) {e : Nat} (p : List Nat) (h0 : c ≠ 0) (h : ¬ c - 1 > e) : ofD t (c :: r) e p = ofD (t ++ [some ((p.take e).drop (e - (c - 1)))]) r (e - (c - 1)) p := by
 simp only [ofD, decL, if_neg h0, if_neg h]
 cases decL r (e - (c - 1)) p <;> simp
theorem of_loop (F : Nat) (z : Bool) (p c : List Nat) (hp : p.length = 256) (hpb : ∀ b ∈ p, b < 256) (hcb : ∀ b ∈ c, b < 256) (hc : c.length ≤ 256) : ∀ (k m i e : Nat) (t : Sl), i + k = c.length → k < m → e ≤ 256 → t.length = i → sumN t + e ≤ 256 → (∀ b, some b ∈ t → ∀ x ∈ b, x ∈ p) →
  ∃ s' : Sl, loopRun (f44_l0.run F) [0, 5, 6, 25, 26, 27] (Cont.block 0 (Cont.then (f44_r0.run F (f44.leaveK Fun.done)) (f44.leaveK Fun.done))) m (Env.mk 77 [(0, .ns z 1 (bR p)), (5, sV t), (6, .int .i64 (e : Int)), (25, .ns z 1 (bR c)), (26, .int .i64 (c.length : Int)), (27, .int .i64 (i : Int))]) ⟨obV t, []⟩
   = some (.ret (ofAns (ofD t (c.drop i) e p)), ⟨obV s', []⟩) ∧ ∀ s, ofD t (c.drop i) e p = some s → s' = s
 | k, 0, i, e, t, hi, hm, he, htl, hs, ht => by omega
 | 0, m + 1, i, e, t, hi, hm, he, htl, hs, ht => by
  have hlen : ∀ b, some b ∈ t → b.length ≤ 256 := by
   intro b hb
   have : olen (some b) ≤ sumN t := by
    clear hs ht htl hi
    induction t with
    | nil => cases hb
    | cons o t ih =>
     rw [sumN_cons]
     rcases List.mem_cons.mp hb with rfl | hb
     ·omega
     ·have := ih hb; omega
   have hob : olen (some b) = b.length := rfl
   omega
  have hok : okSl t := ⟨fun b hb => ⟨fun x hx => hpb x (ht b hb x hx), by have := hlen b hb; omega⟩, by omega⟩
  have hend := of_end F z p hpb hp t hok (by rw [fit_iff, szN]; omega)
  rw [List.drop_eq_nil_of_le (by omega), ofD_nil]
  refine ⟨t, ?_, fun s hs' => ?_⟩
  ·rw [← hend]
   cases t with
   | nil =>
    simp only [sV, obV]
    rw [show m + 1 = m.succ from rfl, of_round0, branch_not (by simp; omega)]
   | cons o t =>
    simp only [sV, obV]
    rw [show m + 1 = m.succ from rfl, of_round, branch_not (by simp; omega)]
  ·cases hf : fine t p with
   | true => rw [hf] at hs'; exact Option.some.inj hs'
   | false => rw [hf] at hs'; cases hs'
 | k + 1, m + 1, i, e, t, hi, hm, he, htl, hs, ht => by
  have h1 : i < c.length := by omega
  rw [show m + 1 = m.succ from rfl, of_step F m _ z p c hp hpb hcb t (by omega) e i he h1 hc, drop_at h1]
  by_cases h0 : c[i] = 0
  ·rw [if_pos h0, h0, ofD_free]
   exact of_loop F z p c hp hpb hcb hc k m (i + 1) e (t ++ [none]) (by omega) (by omega) he (by simp [htl]) (by rw [sumN_append]; exact (by simpa [sumN, olen] using hs)) (fun b hb => ht b (by simpa using hb))
  ·rw [if_neg h0]
   by_cases h2 : c[i] - 1 > e
   ·rw [if_pos h2, ofD_bad _ _ _ h0 h2]
    exact ⟨t, of_ret F _, fun s hs => by cases hs⟩
   ·rw [if_neg h2, ofD_some _ _ _ h0 h2]
    have hol : olen (some ((p.take e).drop (e - (c[i] - 1)))) = c[i] - 1 := by
     show ((p.take e).drop (e - (c[i] - 1))).length = c[i] - 1
     simp; omega
    exact of_loop F z p c hp hpb hcb hc k m (i + 1) (e - (c[i] - 1)) (t ++ [some ((p.take e).drop (e - (c[i] - 1)))]) (by omega) (by omega) (by omega) (by simp [htl]) (by
     rw [sumN_append, show sumN [some ((p.take e).drop (e - (c[i] - 1)))] = olen (some ((p.take e).drop (e - (c[i] - 1)))) from by simp [sumN], hol]; omega) (fun b hb x hx => by
     rcases List.mem_append.mp hb with hb | hb
     ·exact ht b hb x hx
     ·simp only [List.mem_singleton, Option.some.injEq] at hb
      subst hb
      exact List.mem_of_mem_take (List.mem_of_mem_drop hx))
end Go.Proofs.Ytljigmghdpkdlaa.V
