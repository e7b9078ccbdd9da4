/- Merged out of 17 texts: what the claim's code comes to, and why. -/
import Derived.ChangeArms
import Derived.DataReads
import Derived.SizedLaws
import Derived.WideShapes
import Derived.ChangeShapes
import Derived.MapKept
import Derived.Lib.Builder
import Derived.Lib.UnsafeStr
import Derived.Laws.Externs
import Derived.Test.YtnhdjhcpbjggmaaRows
import Derived.Test.YtnhdjhcpbjggmaaR42
set_option linter.unusedVariables false
set_option linter.unusedSimpArgs false
set_option maxRecDepth 100000
namespace Go.V
open Go.WideShapes
inductive Ty where
 | bool
 | int (k : IntKind)
 | str
 | sl (e : Ty) (bytes : Nat)
 | st (fs : List Ty)
mutual
def Ty.size : Ty → Nat
 | .bool => 1
 | .int _ => 1
 | .str => 1
 | .sl _ _ => 1
 | .st fs => Ty.sizes fs
def Ty.sizes : List Ty → Nat
 | [] => 0
 | y :: r => y.size + Ty.sizes r
end
mutual
def Ty.ok (P : Program) : Ty → TypeId → Bool
 | .bool, t => match P.underlying t with
  | some .bool => true
  | _ => false
 | .int k, t => match P.underlying t with
  | some (.int k') => decide (k' = k)
  | _ => false
 | .str, t => match P.underlying t with
  | some .string => true
  | _ => false
 | .sl e b, t => match P.underlying t with
  | some (.slice u) => Nat.beq (P.cellsOf u) e.size && (Nat.blt 0 e.size && (Nat.beq (P.bytesOf u) b && e.ok P u))
  | _ => false
 | .st fs, t => match P.underlying t with
  | some (.struct F) => Nat.beq (P.cellsOf t) (Ty.sizes fs) && Ty.oks P fs F.toList 0
  | _ => false
def Ty.oks (P : Program) : List Ty → List Field → Nat → Bool
 | [], [], _ => true
 | y :: r, f :: F, o => Nat.beq f.offset o && (Nat.beq (P.cellsOf f.type) y.size && (y.ok P f.type && Ty.oks P r F (o + y.size)))
 | _, _, _ => false
end
mutual
def Ty.Shape : Ty → List AV → Prop
 | .bool, ays => ∃ b, ays = [.bool b]
 | .int k, ays => ∃ n, ays = [.int k n] ∧ (Lit.int k n).wf = true
 | .str, ays => ∃ s : ByteArray, ays = [.str s] ∧ s.size ≤ reachBytes
 | .sl e b, ays => ∃ z l, ays = [.ns z e.size l] ∧ (z = true → l = []) ∧ l.length * b ≤ reachBytes ∧ l.length ≤ maxLen ∧ ∀ r ∈ l, e.Shape r
 | .st fs, ays => Ty.Shapes fs ays
def Ty.Shapes : List Ty → List AV → Prop
 | [], ays => ays = []
 | y :: r, ays => ∃ a b, ays = a ++ b ∧ y.Shape a ∧ Ty.Shapes r b
end
section
variable {P : Program} {H : Type} {enc : TypeId × Value → H} {W : World} {base : Nat} {spare : Nat → Bool} {held : Bool}
theorem RelCells.ofCells : ∀ (ays : List AV) (cs : List Value) (b off : Nat), RelAll g0 W ays cs → (∀ u ∈ cs, u.oneCell' = true) → (∀ i u, cs[i]? = some u → W.cell? ⟨b, off + i, none⟩ = some u) → RelCells g0 W ays b off
 | [], _, _, _, _, _, _ => trivial
 | a :: ays, _, b, off, ⟨v, vr, rfl, h1, h2⟩, h3, h4 => by
  refine ⟨⟨v, by simpa using h4 0 v rfl, trivial, h3 v (by simp), h1⟩, RelCells.ofCells ays vr b (off + 1) h2 (fun u hu => h3 u (by simp [hu])) fun i u hu => ?_⟩
  have := h4 (i + 1) u (by simpa using hu)
  rwa [show off + (i + 1) = off + 1 + i by omega] at this
theorem cell_spot {a : Addr} {u : Value} (h : W.cell? a = some u) : a.spot = none := by
 unfold World.cell? at h
 split at h
 ·split at h
  ·cases h
  ·rename_i hs; cases hsp : a.spot with
   | none => rfl
   | some s => rw [hsp] at hs; simp at hs
 ·cases h
theorem rows_of_reads {sz : Nat} (hsz : 0 < sz) {Q : List AV → Prop} {b off : Nat} : ∀ (n k : Nat), (∀ i, i < n → ∃ ays cs, RelAll g0 W ays cs ∧ ays.length = sz ∧ Q ays ∧ (∀ u ∈ cs, u.oneCell' = true) ∧ ∀ j u, cs[j]? = some u → W.cell? ⟨b, off + (k + i) * sz + j, none⟩ = some u) →
  ∃ l, l.length = n ∧ (∀ r ∈ l, Q r) ∧ RelRows g0 W sz l b (off + k * sz)
 | 0, k, _ => ⟨[], rfl, by simp, trivial⟩
 | n + 1, k, h => by
  obtain ⟨l, h1, h2, h3⟩ := rows_of_reads hsz (b := b) (off := off) (Q := Q) n (k + 1) fun i hi => by
   have := h (i + 1) (by omega)
   rwa [show k + (i + 1) = k + 1 + i by omega] at this
  obtain ⟨ays, cs, k1, k2, k3, k4, k5⟩ := h 0 (by omega)
  refine ⟨ays :: l, by simp [h1], fun r hr => ?_, k2, RelCells.ofCells ays cs b _ k1 k4 (by simpa using k5), ?_⟩
  ·rcases List.mem_cons.mp hr with rfl | hr
   ·exact k3
   ·exact h2 r hr
  ·rw [show off + k * sz + sz = off + (k + 1) * sz by rw [Nat.add_mul]; omega]; exact h3
mutual
theorem Ty.read : ∀ (y : Ty) (t : TypeId) (cs : List Value) (x : DataW H × List MemPlace) (fuel : Nat), y.ok P t = true → DataW.trod enc P W base spare held fuel t cs = some x → (∀ n ∈ x.1.weights P t, n ≤ reachBytes) →
  ∃ ays, RelAll g0 W ays cs ∧ y.Shape ays ∧ ays.length = y.size ∧ ∀ u ∈ cs, u.oneCell' = true
 | .bool, t, cs, x, fuel, hk, h, hw => by
  unfold Ty.ok at hk
  split at hk
  ·rename_i ht
   obtain ⟨b, rfl, _⟩ := DataW.trod_bool ht h
   exact ⟨[.bool b], ⟨_, _, rfl, rfl, rfl⟩, ⟨b, rfl⟩, rfl, by simp [Value.oneCell']⟩
  ·cases hk
 | .int k, t, cs, x, fuel, hk, h, hw => by
  unfold Ty.ok at hk
  split at hk
  ·rename_i k' ht
   obtain rfl : k' = k := by simpa using hk
   obtain ⟨n, rfl, _, hwf⟩ := DataW.trod_int ht h
   exact ⟨[.int k' n], ⟨_, _, rfl, rfl, rfl⟩, ⟨n, rfl, hwf⟩, rfl, by simp [Value.oneCell']⟩
  ·cases hk
 | .str, t, cs, x, fuel, hk, h, hw => by
  unfold Ty.ok at hk
  split at hk
  ·rename_i ht
   obtain ⟨s, rfl, rfl, _⟩ := DataW.trod_string ht h
   refine ⟨[.str s], ⟨_, _, rfl, rfl, rfl⟩, ⟨s, rfl, ?_⟩, rfl, by simp [Value.oneCell']⟩
   have := hw s.data.toList.length (by simp [DataW.weights])
   simpa using this
  ·cases hk
 | .sl e b, t, cs, x, fuel, hk, h, hw => by
  unfold Ty.ok at hk
  split at hk
  ·rename_i u ht
   simp only [Bool.and_eq_true] at hk
   obtain ⟨hc, h0, hb, he⟩ := hk
   have hc : P.cellsOf u = e.size := by simpa using hc
   have h0 : 0 < e.size := by simpa using h0
   have hb : P.bytesOf u = b := by simpa using hb
   rcases DataW.trod_slice ht h with ⟨rfl, _⟩ | ⟨a, len, cap, elems, rest, n, _, rfl, rfl, _, hl, hm, hlen, hel, hsp, hns⟩
   ·exact ⟨[.ns true e.size []], ⟨_, _, rfl, .inl ⟨rfl, rfl, rfl⟩, rfl⟩, ⟨true, [], rfl, fun _ => rfl, by simp, by simp, by simp⟩, rfl, by simp [Value.oneCell']⟩
   ·have hws : ∀ (i : Nat) (y : DataW H × List MemPlace), elems[i]? = some y → ∀ m ∈ y.1.weights P u, m ≤ reachBytes := by
     intro i y hy m hm'
     refine hw m ?_
     simp only [DataW.weights, ht]
     refine List.mem_cons_of_mem _ (List.mem_append_left _ ?_)
     have : y.1 ∈ elems.map (·.1) := List.mem_map.mpr ⟨y, List.mem_of_getElem? hy, rfl⟩
     clear hw hel hsp hns
     generalize elems.map (·.1) = ds at this
     induction ds with
     | nil => simp at this
     | cons d ds ih =>
      simp only [DataW.weightsAll]
      rcases List.mem_cons.mp this with rfl | h'
      ·exact List.mem_append_left _ hm'
      ·exact List.mem_append_right _ (ih h')
    have hsize : len * b ≤ reachBytes := by
     have := hw ((elems.map (·.1)).length * P.bytesOf u + (rest.map (·.1)).length * P.bytesOf u) (by
      simp only [DataW.weights, ht]
      rw [← Nat.add_mul]
      exact List.mem_cons_self)
     rw [hb, List.length_map, hlen] at this
     omega
    obtain ⟨bl, off, sp⟩ := a
    have hspot : sp = none ∨ len = 0 := by
     rcases Nat.eq_zero_or_pos len with h1 | h1
     ·exact .inr h1
     ·have h2 := hel 0 h1
      rw [List.getElem?_eq_getElem (by omega)] at h2
      obtain ⟨ci, k1, k2⟩ := Option.bind_eq_some_iff.mp h2
      obtain ⟨_, k4, k5⟩ := World.cells?_some k1
      have k6 := k5 0 (by omega)
      rw [List.getElem?_eq_getElem (by omega)] at k6
      have := cell_spot k6
      simp [Addr.add] at this
      exact .inl this
    have hrow : ∀ i, i < len → ∃ ays cs, RelAll g0 W ays cs ∧ ays.length = e.size ∧ e.Shape ays ∧ (∀ u ∈ cs, u.oneCell' = true) ∧ ∀ j u, cs[j]? = some u → W.cell? ⟨bl, off + (0 + i) * e.size + j, none⟩ = some u := by
     intro i hi
     have h2 := hel i hi
     rw [List.getElem?_eq_getElem (by omega)] at h2
     obtain ⟨ci, k1, k2⟩ := Option.bind_eq_some_iff.mp h2
     obtain ⟨ays, r1, r2, r3, r4⟩ := Ty.read e u ci _ n he k2 (hws i _ (List.getElem?_eq_getElem (by omega)))
     obtain ⟨_, k4, k5⟩ := World.cells?_some k1
     obtain rfl : sp = none := hspot.resolve_right (by omega)
     refine ⟨ays, ci, r1, r3, r2, r4, fun j v hj => ?_⟩
     have := k5 j (by rw [← k4]; exact getElem?_lt hj)
     rw [hj, hc, add_none, add_none] at this
     rw [Nat.zero_add]; exact this
    obtain ⟨l, l1, l2, l3⟩ := rows_of_reads h0 len 0 hrow
    refine ⟨[.ns false e.size l], ⟨_, _, rfl, .inr ⟨rfl, bl, off, sp, cap, by rw [l1], by omega, ?_, by simpa using l3⟩, rfl⟩, ⟨false, l, rfl, (fun h => by cases h), by rw [l1]; exact hsize, by omega, l2⟩, rfl, by simp [Value.oneCell']⟩
    rcases hspot with h1 | h1
    ·exact .inl h1
    ·exact .inr (List.eq_nil_of_length_eq_zero (by omega))
  ·cases hk
 | .st fs, t, cs, x, fuel, hk, h, hw => by
  unfold Ty.ok at hk
  split at hk
  ·rename_i F ht
   simp only [Bool.and_eq_true] at hk
   obtain ⟨hc, hos⟩ := hk
   have hc : P.cellsOf t = Ty.sizes fs := by simpa using hc
   obtain ⟨xs, n, _, rfl, hl, hxl, hel⟩ := DataW.trod_struct ht h
   obtain ⟨ays, r1, r2, r3, r4⟩ := Ty.reads fs F.toList 0 cs n xs hos (fun i f hf => hel i f (by simpa using hf)) (by simpa using hxl) (by omega) (fun m hm => hw m (by simpa [DataW.weights, ht] using hm))
   exact ⟨ays, by simpa using r1, r2, r3, by simpa using r4⟩
  ·cases hk
theorem Ty.reads : ∀ (ys : List Ty) (F : List Field) (o : Nat) (cs : List Value) (n : Nat) (xs : List (DataW H × List MemPlace)), Ty.oks P ys F o = true →
  (∀ (i : Nat) f, F[i]? = some f → DataW.trod enc P W base spare held n f.type ((cs.drop f.offset).take (P.cellsOf f.type)) = xs[i]?) → xs.length = F.length → cs.length = o + Ty.sizes ys →
  (∀ m ∈ DataW.weightsEach P (F.map (·.type)) (xs.map (·.1)), m ≤ reachBytes) →
  ∃ ays, RelAll g0 W ays (cs.drop o) ∧ Ty.Shapes ys ays ∧ ays.length = Ty.sizes ys ∧ ∀ u ∈ cs.drop o, u.oneCell' = true
 | [], [], o, cs, n, xs, hk, hel, hxl, hl, hw => by
  have : cs.drop o = [] := List.drop_eq_nil_of_le (by simp [Ty.sizes] at hl; omega)
  exact ⟨[], this, rfl, rfl, by simp [this]⟩
 | [], _ :: _, o, cs, n, xs, hk, hel, hxl, hl, hw => by simp [Ty.oks] at hk
 | _ :: _, [], o, cs, n, xs, hk, hel, hxl, hl, hw => by simp [Ty.oks] at hk
 | y :: ys, f :: F, o, cs, n, [], hk, hel, hxl, hl, hw => by simp at hxl
 | y :: ys, f :: F, o, cs, n, x :: xs, hk, hel, hxl, hl, hw => by
  simp only [Ty.oks, Bool.and_eq_true] at hk
  obtain ⟨h1, h2, h3, h4⟩ := hk
  have h1 : f.offset = o := by simpa using h1
  have h2 : P.cellsOf f.type = y.size := by simpa using h2
  have hx := hel 0 f rfl
  rw [h1, h2] at hx
  obtain ⟨ays, r1, r2, r3, r4⟩ := Ty.read y f.type _ x n h3 hx (fun m hm => hw m (by simp only [List.map_cons, DataW.weightsEach]; exact List.mem_append_left _ hm))
  obtain ⟨bs, s1, s2, s3, s4⟩ := Ty.reads ys F (o + y.size) cs n xs h4 (fun i g hg => by have := hel (i + 1) g (by simpa using hg); simpa using this) (by simpa using hxl) (by rw [hl, Ty.sizes]; omega) (fun m hm => hw m (by simp only [List.map_cons, DataW.weightsEach]; exact List.mem_append_right _ hm))
  have hsplit : cs.drop o = (cs.drop o).take y.size ++ cs.drop (o + y.size) := by
   rw [← List.drop_drop, List.take_append_drop]
  refine ⟨ays ++ bs, by rw [hsplit]; exact RelAll.append _ _ _ _ r1 s1, ⟨ays, bs, rfl, r2, s2⟩, by rw [List.length_append, r3, s3, Ty.sizes], fun u hu => ?_⟩
  rw [hsplit] at hu
  rcases List.mem_append.mp hu with hu | hu
  ·exact r4 u hu
  ·exact s4 u hu
end
def Ty.AV' : Ty → List AV → AV
 | .st _, ays => .agg ays
 | _, ays => ays.headD .dead
theorem Ty.arg {y : Ty} {t : TypeId} {v : Value} {d : DataW H} {ps : List MemPlace} {r : Reach} {b0 : Nat} (hk : y.ok P t = true) (hval : Value.okWide P W r b0 t v) (h : DataW.Trod enc P W base spare held t v d ps) (hw : ∀ n ∈ d.weights P t, n ≤ reachBytes) :
  ∃ ays, y.Shape ays ∧ Rel g0 W (y.AV' ays) v := by
 obtain ⟨fuel, hf⟩ := h
 obtain ⟨ays, r1, r2, r3, r4⟩ := Ty.read y t _ _ fuel hk hf hw
 refine ⟨ays, r2, ?_⟩
 cases y with
 | st fs =>
  unfold Ty.ok at hk
  split at hk
  ·rename_i F ht
   obtain ⟨cs, rfl, hcs⟩ := okWide_struct ht hval
   exact ⟨cs, rfl, by simpa [Value.cells] using r1, by simpa [Value.cells] using r4⟩
  ·cases hk
 | bool =>
  obtain ⟨b, rfl⟩ := r2
  unfold Ty.ok at hk
  split at hk
  ·rename_i ht
   obtain ⟨u, rfl⟩ := okWide_bool ht hval
   obtain ⟨w, wr, e, k1, _⟩ := r1
   simp [Value.cells] at e
   rw [← e.1] at k1; exact k1
  ·cases hk
 | int k =>
  obtain ⟨b, rfl, _⟩ := r2
  unfold Ty.ok at hk
  split at hk
  ·rename_i ht
   obtain ⟨u, rfl⟩ := okWide_int ht hval
   obtain ⟨w, wr, e, k1, _⟩ := r1
   simp [Value.cells] at e
   rw [← e.1] at k1; exact k1
  ·cases hk
 | str =>
  obtain ⟨b, rfl, _⟩ := r2
  unfold Ty.ok at hk
  split at hk
  ·rename_i ht
   obtain ⟨u, rfl⟩ := okWide_string ht hval
   obtain ⟨w, wr, e, k1, _⟩ := r1
   simp [Value.cells] at e
   rw [← e.1] at k1; exact k1
  ·cases hk
 | sl e b =>
  unfold Ty.ok at hk
  split at hk
  ·rename_i u ht
   obtain ⟨a, n, c, rfl⟩ := okWide_slice ht hval
   obtain ⟨z, l, rfl, _⟩ := r2
   obtain ⟨w, wr, e', k1, _⟩ := r1
   simp [Value.cells] at e'
   rw [← e'.1] at k1; exact k1
  ·cases hk
end
end Go.V
namespace Go.V
open Go.WideShapes
theorem wf_u8 {n : Int} (h : (Lit.int .u8 n).wf = true) : 0 ≤ n ∧ n < 256 := by
 have h2 : (decide (IntKind.u8.min ≤ n) && decide (n ≤ IntKind.u8.max)) = true := h
 rw [Bool.and_eq_true, decide_eq_true_eq, decide_eq_true_eq] at h2
 have h3 : 0 ≤ n ∧ n ≤ 255 := h2
 omega
theorem bytes_shape {xs : List AV} (h : Ty.Shape (.sl (.int .u8) 1) xs) : ∃ z d, xs = [.ns z 1 d] ∧ okR d = true ∧ (z = true → d = []) ∧ d.length < 4611686018427387904 := by
 obtain ⟨z, l, rfl, hz, h1, h2, h3⟩ := h
 refine ⟨z, l, rfl, List.all_eq_true.mpr fun r hr => ?_, hz, ?_⟩
 ·obtain ⟨n, rfl, hn⟩ := h3 r hr
  have := wf_u8 hn
  show (decide (0 ≤ n) && decide (n < 256)) = true
  simp [this]
 ·rw [Nat.mul_one] at h1
  have : reachBytes < 4611686018427387904 := by decide
  omega
end Go.V
namespace Go.V
def eqK : AV → AV → Bool
 | .int _ a, .int _ b => a == b
 | .str a, .str b => a == b
 | .bool a, .bool b => a == b
 | _, _ => false
def findK : List (AV × AV) → AV → Option AV
 | [], _ => none
 | e :: es, k => match eqK k e.1 with
  | true => some e.2
  | false => findK es k
def putK : List (AV × AV) → AV → AV → List (AV × AV)
 | [], k, v => [(k, v)]
 | e :: es, k, v => match eqK k e.1 with
  | true => (k, v) :: es
  | false => e :: putK es k v
def hasK (es : List (AV × AV)) (k : AV) : Bool := (findK es k).isSome
def valK (es : List (AV × AV)) (k : AV) : AV := (findK es k).getD .dead
def keyIs (t : LT) (k : AV) : Bool :=
 match t with
 | .int K => match k with
  | .int k _ => decide (k = K)
  | _ => false
 | .str => match k with
  | .str _ => true
  | _ => false
 | _ => false
def keysOk (t : LT) (es : List (AV × AV)) : Bool := es.all fun e => keyIs t e.1
def keyD (t : LT) (d : TypeDesc) : Bool :=
 match t with
 | .int K => match d with
  | .int k => decide (k = K)
  | _ => false
 | .str => match d with
  | .string => true
  | _ => false
 | _ => false
theorem key_rel {t : LT} {d : TypeDesc} (ht : keyD t d = true) {g : Gh} {w : World} {k : AV} {v : Value} (hk : keyIs t k = true) (h : Rel g w k v) : MapKept.IsKey d v := by
 cases t with
 | int K =>
  simp only [keyD] at ht
  simp only [keyIs] at hk
  split at ht
  ·simp only [decide_eq_true_eq] at ht
   split at hk
   ·simp only [decide_eq_true_eq] at hk
    obtain rfl : v = _ := h
    subst ht; subst hk; rfl
   ·cases hk
  ·cases ht
 | str =>
  simp only [keyD] at ht
  simp only [keyIs] at hk
  split at ht
  ·split at hk
   ·obtain rfl : v = _ := h; trivial
   ·cases hk
  ·cases ht
 | _ => cases ht
theorem key_eq {t : LT} {g : Gh} {w : World} {k k' : AV} {v v' : Value} (hk : keyIs t k = true) (hk' : keyIs t k' = true) (h : Rel g w k v) (h' : Rel g w k' v') : (eqK k k' = true ↔ v = v') := by
 cases t with
 | int K =>
  simp only [keyIs] at hk hk'
  split at hk
  ·split at hk'
   ·simp only [decide_eq_true_eq] at hk hk'
    obtain rfl : v = _ := h
    obtain rfl : v' = _ := h'
    subst hk; subst hk'
    simp only [eqK, Value.int.injEq, true_and, beq_iff_eq]
   ·cases hk'
  ·cases hk
 | str =>
  simp only [keyIs] at hk hk'
  split at hk
  ·split at hk'
   ·obtain rfl : v = _ := h
    obtain rfl : v' = _ := h'
    simp only [eqK, Value.string.injEq, MapKept.bytes_beq]
   ·cases hk'
  ·cases hk
 | _ => cases hk
theorem find_rel {t : LT} {d : TypeDesc} (ht : keyD t d = true) {g : Gh} {w : World} {k : AV} {kv : Value} (hk : keyIs t k = true) (hr : Rel g w k kv) : ∀ (es : List (AV × AV)) (L : List MapEntry) (i : Nat), keysOk t es = true → RelAll g w (es.map (·.1)) (L.map (·.key)) → RelAll g w (es.map (·.2)) (L.map (·.val)) →
  (findK es k = none ∧ Instr.findNow d kv L i = some none ∧ ∀ x, putK es k x = es ++ [(k, x)]) ∨
  (∃ a v j e, findK es k = some a ∧ Instr.findNow d kv L i = some (some (i + j, v)) ∧ Rel g w a v ∧ L[j]? = some e ∧ e.key = kv ∧ j < es.length ∧ ∀ x, putK es k x = es.set j (k, x))
 | [], [], i, _, _, _ => .inl ⟨rfl, rfl, fun _ => rfl⟩
 | [], e :: L, i, _, h, _ => by cases h
 | e :: es, [], i, _, h, _ => by obtain ⟨_, _, h, _⟩ := h; cases h
 | e :: es, m :: L, i, hok, h1, h2 => by
  obtain ⟨v1, r1, e1, k1, k2⟩ := h1
  obtain ⟨v2, r2, e2, k3, k4⟩ := h2
  cases e1; cases e2
  simp only [keysOk, List.all_cons, Bool.and_eq_true] at hok
  have hkey := key_rel ht hk hr
  have hkey' := key_rel ht hok.1 k1
  have heq := key_eq hk hok.1 hr k1
  obtain ⟨r, hs, hiff⟩ := MapKept.sameNow_of_keys hkey hkey'
  simp only [findK, Instr.findNow]
  rw [hs]
  by_cases hv : kv = m.key
  ·rw [hiff.mpr hv, heq.mpr hv]
   exact .inr ⟨e.2, m.val, 0, m, rfl, rfl, k3, rfl, hv.symm, by simp, fun x => by simp only [putK, heq.mpr hv]; rfl⟩
  ·have hno : eqK k e.1 = false := by
    cases he : eqK k e.1 with
    | false => rfl
    | true => exact absurd (heq.mp he) hv
   rw [show r = false by cases r with | false => rfl | true => exact absurd (hiff.mp rfl) hv, hno]
   simp only
   rcases find_rel ht hk hr es L (i + 1) hok.2 k2 k4 with ⟨a1, a2, a3⟩ | ⟨a, v, j, e', a1, a2, a3, a4, a5, a6, a7⟩
   ·exact .inl ⟨a1, a2, fun x => by simp only [putK, hno, a3]; rfl⟩
   ·exact .inr ⟨a, v, j + 1, e', a1, by simp only [a2]; rw [Nat.add_right_comm, Nat.add_assoc], a3, a4, a5, by simp; omega, fun x => by simp only [putK, hno, a7]; rfl⟩
inductive LK where
 | one (t : LT)
 | agg (sz : Nat)
 | sl (sz : Nat)
def isAgg (n : Nat) (v : AV) : Bool :=
 match v with
 | .agg cs => Nat.beq cs.length n
 | _ => false
def aggL (v : AV) : List AV :=
 match v with
 | .agg cs => cs
 | _ => []
def LK.is (l : LK) (v : AV) : Bool :=
 match l with
 | .one t => flatT t && isLT t [v]
 | .agg n => isAgg n v
 | .sl n => isLT (.ns n) [v]
def LK.val (l : LK) (v : AV) : AV :=
 match l with
 | .one t => valLT t [v]
 | .agg _ => .agg (aggL v)
 | .sl n => valLT (.ns n) [v]
theorem LK.val_rel {l : LK} {v : AV} (h : l.is v = true) {g : Gh} {w : World} {u : Value} (hr : Rel g w v u) : Rel g w (l.val v) u := by
 cases l with
 | one t =>
  simp only [LK.is, Bool.and_eq_true] at h
  obtain ⟨r, hr'⟩ := isLT_eq h.1 h.2
  simp only [List.cons.injEq] at hr'
  show Rel g w (valLT t [v]) u
  rw [← hr'.1]; exact hr
 | agg n =>
  simp only [LK.is, isAgg] at h
  split at h
  ·exact hr
  ·cases h
 | sl n =>
  obtain ⟨x, r, h1, h2⟩ := isLT_spec (t := .ns n) h
  simp only [List.cons.injEq] at h1
  show Rel g w (valLT (.ns n) [v]) u
  rw [h2, ← h1.1]; exact wk_rel hr
def okRes (b : Bool) (ok : Bool) (v : AV) : AV :=
 match b with
 | true => .tup [v, .bool ok]
 | false => v
def alookup (t : LT) (l : LK) (z : AV) (co : Bool) (m key : AV) (st : St) (k : AV → Ans) : Ans :=
 match m with
 | .mp j => match st.objs[j]? with
  | some (.map es) => match keyIs t key && keysOk t es with
   | true => match hasK es key with
    | true => match l.is (valK es key) with
     | true => k (okRes co true (l.val (valK es key)))
     | false => none
    | false => k (okRes co false z)
   | false => none
  | _ => none
 | _ => none
def aupd (t : LT) (m key x : AV) (st : St) (k : AV → St → Ans) : Ans :=
 match m with
 | .mp j => match st.objs[j]? with
  | some (.map es) => match keyIs t key && keysOk t es with
   | true => k .dead ⟨st.objs.set j (.map (putK es key x)), st.tk⟩
   | false => none
  | _ => none
 | _ => none
def aclear (m : AV) (st : St) (k : AV → St → Ans) : Ans :=
 match m with
 | .mp j => match st.objs[j]? with
  | some (.map es) => k (.tup []) ⟨st.objs.set j (.map []), st.tk⟩
  | _ => none
 | _ => none
section
variable {P : Program}
def opMakeMap (dst : Option Tmp) (T : TypeId) (ty : TypeId) (pos : String) (after : Array Edge) : MSim P :=
 MSim.makes (mkOp dst (.makeMap T none) ty pos after) rfl [] (fun ev st k => k (.mp st.objs.length) ⟨st.objs ++ [.map []], st.tk⟩) (fun ev ev' st k h => rfl) fun ev st k fin h g w a he hs => by
  have hp := Push.alloc w (.map #[] 0)
  refine ⟨_, .map (some w.heap.size), _, _, w.alloc (.map #[] 0), h, ?_, ?_, hs.pushObj hp (.map []) trivial (fun hE => ⟨by simp [Gh.use], #[], 0, hp.new, rfl, rfl⟩), Ev.push hp _ _ _ (tk_refl _)⟩
  ·rfl
  ·refine ⟨w.heap.size, ?_, rfl⟩
   show (g.objs ++ [w.heap.size])[st.objs.length]? = some w.heap.size
   rw [List.getElem?_append_right (by rw [hs.len]; exact Nat.le_refl _)]; simp [hs.len]
def opLookup (t : LT) (l : LK) (dst : Option Tmp) (T : TypeId) (x i : Operand) (co : Bool) (K E : TypeId) (dk : TypeDesc) (hT : P.underlying T = some (.map K E)) (hK : P.underlying K = some dk) (ht : keyD t dk = true) (z : Value) (hz : (P.info? E).bind (·.zero) = some z) (ty : TypeId) (pos : String) (after : Array Edge) : QSim P :=
 QSim.quiet (mkOp dst (.lookup T x i co) ty pos after) rfl [x, i] (fun ev st k => alookup t l (ofLit z) co (ev x) (ev i) st k) (fun ev ev' st k h => by simp only [h x (by simp), h i (by simp)]) fun ev st k fin h g w a he hs => by
  have hv := he x (by simp)
  have hi := he i (by simp)
  unfold alookup at h
  split at h
  ·rename_i j hb
   rw [hb] at hv
   obtain ⟨b, hg, hv⟩ := hv
   split at h
   ·rename_i es hes
    split at h
    ·rename_i hk
     rw [Bool.and_eq_true] at hk
     obtain ⟨_, M, clock, hM, h1, h2⟩ := ob_of hs hg hes
     have hkey := key_rel ht hk.1 hi
     have hrun : ∀ r, Instr.findNow dk (a.eval i) M.toList 0 = some r → (execOp a.eval (mkOp dst (.lookup T x i co) ty pos after)).run P w = .ok (.value (if co then .tuple #[match r with | some (_, v) => v | none => z, .bool r.isSome] else match r with | some (_, v) => v | none => z)) w := by
      intro r hr
      have hc := MapKept.run_checkKey (w := w) hK hkey M.isEmpty 9999
      cases r with
      | none => simp [execOp, mkOp, hv, Instr.lookup, run_underlying hT, MapKept.run_getObj_map hM, hc, MapKept.run_findKey hK hr, run_zeroValue' hz, Result.andThen]
      | some r => simp [execOp, mkOp, hv, Instr.lookup, run_underlying hT, MapKept.run_getObj_map hM, hc, MapKept.run_findKey hK hr, Result.andThen]
     rcases find_rel ht hk.1 hi es M.toList 0 hk.2 h1 h2 with ⟨a1, a2, a3⟩ | ⟨u, v, jj, e, a1, a2, a3, a4, a5, a6, a7⟩
     ·have : hasK es (ev i) = false := by rw [hasK, a1]; rfl
      rw [this] at h
      refine ⟨_, _, h, hrun _ a2, ?_⟩
      cases co with
      | true => exact ⟨#[z, .bool false], rfl, z, _, rfl, ofLit_rel g w z, .bool false, [], rfl, rfl, rfl⟩
      | false => exact ofLit_rel g w z
     ·have : hasK es (ev i) = true := by rw [hasK, a1]; rfl
      rw [this] at h
      have hval : valK es (ev i) = u := by rw [valK, a1]; rfl
      rw [hval] at h
      simp only at h
      split at h
      ·rename_i hl
       refine ⟨_, _, h, hrun _ a2, ?_⟩
       cases co with
       | true => exact ⟨#[v, .bool true], rfl, v, _, rfl, LK.val_rel hl a3, .bool true, [], rfl, rfl, rfl⟩
       | false => exact LK.val_rel hl a3
      ·cases h
    ·cases h
   ·cases h
  ·cases h
theorem write_map {g : Gh} {st : St} {w : World} (hs : StRel g st w) {j b : Nat} (hg : g.objs[j]? = some b) {es es' : List (AV × AV)} (hes : st.objs[j]? = some (.map es)) {M M' : Array MapEntry} {c c' : Nat} (hM : w.heap[b]? = some (.map M c))
  (h1 : RelAll g w (es'.map (·.1)) (M'.toList.map (·.key))) (h2 : RelAll g w (es'.map (·.2)) (M'.toList.map (·.val))) :
  ∃ w', (setObj b (.map M' c')).run P w = .ok () w' ∧ StRel g ⟨st.objs.set j (.map es'), st.tk⟩ w' ∧ Ev g w g w' := by
 obtain ⟨hkind, _⟩ := ob_of hs hg hes
 have hlt := lt_of_block hM
 have hrun := MapKept.run_setObj_map (P := P) (.map M' c') hM
 obtain ⟨hnew, hold⟩ := MapKept.heap_set (o' := .map M' c') hM
 have hne : ∀ x, g.kind x ≠ .obj j → x ≠ b := fun x hx e => hx (by rw [e]; exact hkind)
 have hE : Ev g w g { w with heap := w.heap.setIfInBounds b (.map M' c') } := by
  refine ⟨rfl, rfl, rfl, by simp, fun x hx hk => ⟨rfl, ?_⟩, fun x t hx hk => ⟨hk, fun C' E' fz hC' => ⟨C', ?_, rfl, fun _ _ => rfl⟩⟩, fun x k hx hk => .inl hk, fun _ _ h => h, tk_refl _, fun _ _ => Nat.le_refl _, fun x k hx _ hk _ => ⟨hk, fun C' E' fz hC' => ⟨C', ?_, rfl⟩⟩, fun x C' E' fz hC' => ⟨C', fz, ?_, rfl⟩⟩
  ·refine hold x (hne x ?_)
   intro e; rw [e] at hk; cases hk
  ·rw [← hC']; exact hold x (hne x (by rw [hk]; intro e; cases e))
  ·rw [← hC']; exact hold x (hne x (by rw [hk]; intro e; cases e))
  ·rw [← hC']; exact hold x (fun e => by rw [e, hM] at hC'; cases hC')
 refine ⟨_, hrun, ⟨hs.tk, by simp [hs.len], fun k b' y hk hy => ?_, fun b' k hb' hk => ?_, fun b' t hb' hk => hs.rowlt b' t (by simpa using hb') hk, fun b' k hb' hk => ?_, hs.glob.mono hE⟩, hE⟩
 ·by_cases hkj : k = j
  ·subst hkj
   rw [hg] at hk
   cases hk
   rw [List.getElem?_set_self (getElem?_lt hes)] at hy
   cases hy
   exact ⟨by simpa using hlt, hkind, M', c', hnew, RelAll.mono hE _ _ h1, RelAll.mono hE _ _ h2⟩
  ·rw [List.getElem?_set_ne (fun e => hkj e.symm)] at hy
   obtain ⟨h2, h3⟩ := hs.obj k b' y hk hy
   refine ⟨by simpa using h2, ?_⟩
   have hvk : ∀ b'', b'' < w.heap.size → g.kind b'' = .vec k → (w.heap.setIfInBounds b (.map M' c'))[b'']? = w.heap[b'']? ∧ g.kind b'' = .vec k := fun b'' _ h5 =>
    ⟨hold b'' (hne b'' (by rw [h5]; intro e; cases e)), h5⟩
   by_cases hbb : b' = b
   ·subst hbb
    cases y with
    | gone => trivial
    | nov v => exact h3
    | cells cs' => have := h3.1; rw [hkind] at this; cases this; exact absurd rfl hkj
    | map es => have := h3.1; rw [hkind] at this; cases this; exact absurd rfl hkj
    | lp _ _ _ _ => have := h3.1; rw [hkind] at this; cases this; exact absurd rfl hkj
    | vec v cs' =>
     obtain ⟨e1, b'', e2, e3, C', E', e4, e5, e6⟩ := h3
     exact ⟨e1, b'', by simpa using e2, e3, C', E', (hvk b'' e2 e3).1.trans e4, RelAll.mono hE _ _ e5, e6⟩
   ·exact h3.keep hE (hold _ hbb) rfl hvk rfl
 ·obtain ⟨y, h2, h3, h4⟩ := hs.back b' k (by simpa using hb') hk
  by_cases hkj : k = j
  ·subst hkj
   exact ⟨_, List.getElem?_set_self (getElem?_lt hes), h3, trivial⟩
  ·exact ⟨y, by rw [List.getElem?_set_ne (fun e => hkj e.symm)]; exact h2, h3, h4⟩
 ·obtain ⟨⟨v, cs', h2⟩, h3⟩ := hs.vec b' k (by simpa using hb') hk
  refine ⟨⟨v, cs', ?_⟩, fun b'' hb'' h5 => h3 b'' (by simpa using hb'') h5⟩
  have hkj : k ≠ j := by intro e; subst e; rw [hes] at h2; cases h2
  rw [List.getElem?_set_ne (fun e => hkj e.symm)]; exact h2
theorem RelAll.set {g : Gh} {w : World} : ∀ {cs : List AV} {vs : List Value} (j : Nat) {c : AV} {v : Value}, RelAll g w cs vs → Rel g w c v → RelAll g w (cs.set j c) (vs.set j v)
 | [], _, _, _, _, h, _ => by obtain rfl := h; exact rfl
 | x :: cs, _, 0, _, _, ⟨u, r, e, h1, h2⟩, hc => by subst e; exact ⟨_, _, rfl, hc, h2⟩
 | x :: cs, _, j + 1, _, _, ⟨u, r, e, h1, h2⟩, hc => by subst e; exact ⟨_, _, rfl, h1, RelAll.set j h2 hc⟩
def opMapUpdate (t : LT) (dst : Option Tmp) (T : TypeId) (x i y : Operand) (K E : TypeId) (dk : TypeDesc) (hT : P.underlying T = some (.map K E)) (hK : P.underlying K = some dk) (ht : keyD t dk = true) (ty : TypeId) (pos : String) (after : Array Edge) : MSim P :=
 MSim.does (mkOp dst (.mapUpdate T x i y) ty pos after) rfl [x, i, y] (fun ev st k => aupd t (ev x) (ev i) (ev y) st k) (fun ev ev' st k h => by simp only [h x (by simp), h i (by simp), h y (by simp)]) fun ev st k fin h g w a he hs => by
  have hv := he x (by simp)
  have hi := he i (by simp)
  have hy := he y (by simp)
  unfold aupd at h
  split at h
  ·rename_i j hb
   rw [hb] at hv
   obtain ⟨b, hg, hv⟩ := hv
   split at h
   ·rename_i es hes
    split at h
    ·rename_i hk
     rw [Bool.and_eq_true] at hk
     obtain ⟨_, M, clock, hM, h1, h2⟩ := ob_of hs hg hes
     have hkey := key_rel ht hk.1 hi
     have hc := MapKept.run_checkKey (w := w) hK hkey false 9999
     rcases find_rel ht hk.1 hi es M.toList 0 hk.2 h1 h2 with ⟨a1, a2, a3⟩ | ⟨u, v, jj, e, a1, a2, a3, a4, a5, a6, a7⟩
     ·rw [a3] at h
      obtain ⟨w', k1, k2, k3⟩ := write_map (P := P) (es' := es ++ [(ev i, ev y)]) (M' := M.push { key := a.eval i, val := a.eval y, born := clock }) (c' := clock + 1) hs hg hes hM (by simp only [List.map_append, Array.toList_push]; exact RelAll.append _ _ _ _ h1 ⟨_, _, rfl, hi, rfl⟩) (by simp only [List.map_append, Array.toList_push]; exact RelAll.append _ _ _ _ h2 ⟨_, _, rfl, hy, rfl⟩)
      refine ⟨_, g, w', h, ?_, k2, k3⟩
      simp [execOp, mkOp, hv, Instr.mapUpdate, run_underlying hT, MapKept.run_getObj_map hM, hc, MapKept.run_findKey hK a2, Result.andThen, k1]
     ·rw [a7] at h
      rw [Nat.zero_add] at a2
      have hj : M[jj]? = some e := by rw [← Array.getElem?_toList]; exact a4
      have hm : (M.modify jj fun e => { e with key := a.eval i, val := a.eval y }).toList = M.toList.set jj { e with key := a.eval i, val := a.eval y } := by
       rw [Array.toList_modify]
       apply List.ext_getElem?
       intro n
       rw [List.getElem?_modify, List.getElem?_set]
       by_cases hn : jj = n
       ·subst hn
        have := getElem?_lt a4
        simp only [if_true, a4, if_pos this]
        rfl
       ·simp only [if_neg hn]
        cases M.toList[n]? <;> rfl
      obtain ⟨w', k1, k2, k3⟩ := write_map (P := P) (es' := es.set jj (ev i, ev y)) (M' := M.modify jj fun e => { e with key := a.eval i, val := a.eval y }) (c' := clock) hs hg hes hM (by rw [hm, List.map_set, List.map_set]; exact RelAll.set jj h1 hi) (by rw [hm, List.map_set, List.map_set]; exact RelAll.set jj h2 hy)
      refine ⟨_, g, w', h, ?_, k2, k3⟩
      simp [execOp, mkOp, hv, Instr.mapUpdate, run_underlying hT, MapKept.run_getObj_map hM, hc, MapKept.run_findKey hK a2, Result.andThen, hj, a5, MapKept.run_keyThatStays hkey, k1]
    ·cases h
   ·cases h
  ·cases h
theorem aupd_nat (t : LT) (m key x : AV) (st : St) (k : AV → St → Ans) : aupd t m key x st k = thenM (aupd t m key x st retM) k := by
 unfold aupd
 split
 ·split
  ·split <;> rfl
  ·rfl
 ·rfl
theorem opMapUpdate_nat {t : LT} {dst : Option Tmp} {T : TypeId} {x i y : Operand} {K E : TypeId} {dk : TypeDesc} {hT : P.underlying T = some (.map K E)} {hK : P.underlying K = some dk} {ht : keyD t dk = true} {ty : TypeId} {pos : String} {after : Array Edge} : (opMapUpdate (P := P) t dst T x i y K E dk hT hK ht ty pos after).NatM := fun ev st k => aupd_nat _ _ _ _ _ _
def opClearMap (dst : Option Tmp) (x : Operand) (T K E : TypeId) (hT : P.underlying T = some (.map K E)) (ty : TypeId) (pos : String) (after : Array Edge) : MSim P :=
 MSim.makes (mkOp dst (.call { callee := .builtin .clear, args := #[x], argTypes := #[T] }) ty pos after) rfl [x] (fun ev st k => aclear (ev x) st k) (fun ev ev' st k h => by simp only [h x (by simp)]) fun ev st k fin h g w a he hs => by
  have hv := he x (by simp)
  rw [callBuiltin]
  unfold aclear at h
  split at h
  ·rename_i j hb
   rw [hb] at hv
   obtain ⟨b, hg, hv⟩ := hv
   split at h
   ·rename_i es hes
    obtain ⟨_, M, clock, hM, h1, h2⟩ := ob_of hs hg hes
    obtain ⟨w', k1, k2, k3⟩ := write_map (P := P) (es' := []) (M' := #[]) (c' := clock) hs hg hes hM rfl rfl
    refine ⟨_, .tuple #[], _, g, w', h, ?_, ⟨#[], rfl, rfl⟩, k2, k3⟩
    simp [builtin, Builtin.clear_, hv, run_underlying hT, MapKept.run_getObj_map hM, k1]
   ·cases h
  ·cases h
end
end Go.V
namespace Go.V
section
variable {P : Program}
mutual
def ren (ρ : Nat → Nat) : AV → AV
 | .ptr k off => .ptr (ρ k) off
 | .tp k E m' => .tp (ρ k) E m'
 | .ms k sz off n cap => .ms (ρ k) sz off n cap
 | .mp k => .mp (ρ k)
 | .vs k v sz n => .vs (ρ k) v sz n
 | .vp k v off => .vp (ρ k) v off
 | .fn f a c => .fn f (renL ρ a) (renL ρ c)
 | .ifc t v => .ifc t (ren ρ v)
 | .agg cs => .agg (renL ρ cs)
 | .tup cs => .tup (renL ρ cs)
 | x => x
def renL (ρ : Nat → Nat) : List AV → List AV
 | [] => []
 | x :: l => ren ρ x :: renL ρ l
end
def renO (ρ : Nat → Nat) : Ob → Ob
 | .cells cs => .cells (renL ρ cs)
 | .map es => .map (es.map fun e => (ren ρ e.1, ren ρ e.2))
 | .vec v cs => .vec v (renL ρ cs)
 | .lp s j f tm => .lp s j f (renL ρ tm)
 | o => o
theorem renL_eq (ρ : Nat → Nat) : ∀ l, renL ρ l = l.map (ren ρ)
 | [] => rfl
 | x :: l => by rw [renL, renL_eq ρ l]; rfl
theorem renL_length (ρ : Nat → Nat) (l : List AV) : (renL ρ l).length = l.length := by rw [renL_eq, List.length_map]
mutual
def Near (n : Nat) : AV → Prop
 | .ptr k _ => k < n
 | .tp k _ _ => k < n
 | .ms k _ _ _ _ => k < n
 | .mp k => k < n
 | .vs k _ _ _ => k < n
 | .vp k _ _ => k < n
 | .fn f a c => noY f ∧ NearL n a ∧ NearL n c
 | .ifc _ v => Near n v
 | .agg cs => NearL n cs
 | .tup cs => NearL n cs
 | .eptr cs => ScopedL 0 0 cs
 | .sl _ _ l => ScopedR 0 0 l
 | .ns _ _ l => ScopedR 0 0 l
 | .lg _ _ _ => False
 | _ => True
def NearL (n : Nat) : List AV → Prop
 | [] => True
 | x :: l => Near n x ∧ NearL n l
end
def NearO (n : Nat) : Ob → Prop
 | .cells cs => NearL n cs
 | .map es => NearL n (es.map (·.1)) ∧ NearL n (es.map (·.2))
 | .lp _ _ _ tm => NearL n tm
 | .vec _ cs => NearL n cs
 | _ => True
structure Inv (ρ : Nat → Nat) (n : Nat) (inv : Nat → Option Nat) : Prop where
 to : ∀ i, i < n → inv (ρ i) = some i
 of : ∀ k i, inv k = some i → i < n ∧ ρ i = k
theorem Inv.none {ρ : Nat → Nat} {n : Nat} {inv : Nat → Option Nat} (h : Inv ρ n inv) {i k : Nat} (hi : i < n) (hk : inv k = .none) : ρ i ≠ k := fun e => by rw [← e, h.to i hi] at hk; cases hk
theorem Inv.inj {ρ : Nat → Nat} {n : Nat} {inv : Nat → Option Nat} (h : Inv ρ n inv) {i j : Nat} (hi : i < n) (hj : j < n) (e : ρ i = ρ j) : i = j := by
 have h1 := h.to i hi
 rw [e, h.to j hj] at h1
 cases h1; rfl
def nearK (g : Gh) (inv : Nat → Option Nat) (b : Nat) : BK :=
 match g.kind b with
 | .obj k => match inv k with
  | some i => .obj i
  | none => .part fun _ => False
 | .vec k => match inv k with
  | some i => .vec i
  | none => .part fun _ => False
 | _ => .part fun off => g.prot b off
def Gh.near (g : Gh) (size n : Nat) (ρ : Nat → Nat) (inv : Nat → Option Nat) : Gh :=
 ⟨fun b => if b < size then nearK g inv b else .solid, (List.range n).map fun i => g.objs.getD (ρ i) 0, [], fun i => g.ver (ρ i)⟩
theorem near_objs {g : Gh} {size n : Nat} {ρ : Nat → Nat} {inv : Nat → Option Nat} {i : Nat} (hi : i < n) (hl : ρ i < g.objs.length) : (g.near size n ρ inv).objs[i]? = g.objs[ρ i]? := by
 simp only [Gh.near, List.getElem?_map, List.getElem?_range hi, Option.map_some, List.getD_eq_getElem?_getD, List.getElem?_eq_getElem hl, Option.getD_some]
theorem near_len {g : Gh} {size n : Nat} {ρ : Nat → Nat} {inv : Nat → Option Nat} : (g.near size n ρ inv).objs.length = n := by simp [Gh.near]
theorem near_kind {g : Gh} {size n : Nat} {ρ : Nat → Nat} {inv : Nat → Option Nat} {b : Nat} (hb : b < size) : (g.near size n ρ inv).kind b = nearK g inv b := by
 simp only [Gh.near]; rw [if_pos hb]
theorem nearK_obj {g : Gh} {inv : Nat → Option Nat} {b k i : Nat} (h : g.kind b = .obj k) (hi : inv k = some i) : nearK g inv b = .obj i := by
 simp only [nearK, h, hi]
theorem nearK_vec {g : Gh} {inv : Nat → Option Nat} {b k i : Nat} (h : g.kind b = .vec k) (hi : inv k = some i) : nearK g inv b = .vec i := by
 simp only [nearK, h, hi]
theorem nearK_obj' {g : Gh} {inv : Nat → Option Nat} {b i : Nat} (h : nearK g inv b = .obj i) : ∃ k, g.kind b = .obj k ∧ inv k = some i := by
 unfold nearK at h
 split at h
 ·split at h
  ·rename_i hk _ _ hi; cases h; exact ⟨_, hk, hi⟩
  ·cases h
 ·split at h <;> cases h
 ·cases h
theorem nearK_vec' {g : Gh} {inv : Nat → Option Nat} {b i : Nat} (h : nearK g inv b = .vec i) : ∃ k, g.kind b = .vec k ∧ inv k = some i := by
 unfold nearK at h
 split at h
 ·split at h <;> cases h
 ·split at h
  ·rename_i hk _ _ hi; cases h; exact ⟨_, hk, hi⟩
  ·cases h
 ·cases h
theorem nearK_row {g : Gh} {inv : Nat → Option Nat} {b t : Nat} (h : nearK g inv b = .row t) : False := by
 unfold nearK at h
 split at h
 ·split at h <;> cases h
 ·split at h <;> cases h
 ·cases h
theorem near_prot {g : Gh} {size n : Nat} {ρ : Nat → Nat} {inv : Nat → Option Nat} {b off : Nat} (hb : b < size) (hp : g.prot b off) : (g.near size n ρ inv).prot b off := by
 have hp0 := hp
 unfold Gh.prot
 rw [near_kind hb, nearK]
 unfold Gh.prot at hp
 cases hk : g.kind b with
 | obj k => rw [hk] at hp; exact hp.elim
 | vec k => rw [hk] at hp; exact hp.elim
 | solid => exact hp0
 | part S => exact hp0
 | row t => exact hp0
theorem near_protC {g : Gh} {n : Nat} {ρ : Nat → Nat} {inv : Nat → Option Nat} {w : World} (b off : Nat) (u : Value) (hc : w.cell? ⟨b, off, none⟩ = some u) (hp : g.prot b off) : (g.near w.heap.size n ρ inv).prot b off := by
 obtain ⟨C, E, fz, hb, _⟩ := cell_some hc
 exact near_prot (lt_of_block hb) hp
mutual
theorem Rel.near {g : Gh} {w : World} {n : Nat} {ρ : Nat → Nat} {inv : Nat → Option Nat} (hI : Inv ρ n inv) (hl : ∀ i, i < n → ρ i < g.objs.length) : ∀ (a : AV) (v : Value), Near n a → Rel g w (ren ρ a) v → Rel (g.near w.heap.size n ρ inv) w a v
 | .bool _, _, _, r => r
 | .int _ _, _, _, r => r
 | .str _, _, _, r => r
 | .nilptr, _, _, r => r
 | .nilsl, _, _, r => r
 | .nilmap, _, _, r => r
 | .nilfn, _, _, r => r
 | .nilif, _, _, r => r
 | .ptr k off, _, s, ⟨b, r1, r2⟩ => ⟨b, (near_objs s (hl k s)).trans r1, r2⟩
 | .tp k E m', _, s, ⟨b, r1, r2⟩ => ⟨b, (near_objs s (hl k s)).trans r1, r2⟩
 | .eptr cs, _, s, ⟨b, off, r1, r2⟩ => ⟨b, off, r1, RelCells.toProt near_protC cs b off s r2⟩
 | .sl sz full l, _, s, ⟨b, off, sp, cap, r1, r2, r3, rs, r4⟩ => ⟨b, off, sp, cap, r1, r2, r3, rs, RelRows.toProt near_protC sz l b off s r4⟩
 | .lg t sz l, _, s, _ => s.elim
 | .ms k sz off n cap, _, s, ⟨b, r1, r2⟩ => ⟨b, (near_objs s (hl k s)).trans r1, r2⟩
 | .mp k, _, s, ⟨b, r1, r2⟩ => ⟨b, (near_objs s (hl k s)).trans r1, r2⟩
 | .fn f a c, _, ⟨s0, s1, s2⟩, ⟨va, vc, r1, r2, r3⟩ => ⟨va, vc, r1.move s0, RelAll.near hI hl a va.toList s1 r2, RelAll.near hI hl c vc.toList s2 r3⟩
 | .ifc t a, _, s, ⟨u, r1, r2⟩ => ⟨u, r1, Rel.near hI hl a u s r2⟩
 | .agg cs, _, s, ⟨vs, r1, r2, r3⟩ => ⟨vs, r1, RelAll.near hI hl cs vs.toList s r2, r3⟩
 | .tup cs, _, s, ⟨vs, r1, r2⟩ => ⟨vs, r1, RelAll.near hI hl cs vs.toList s r2⟩
 | .dead, _, _, _ => trivial
 | .ns z sz l, _, s, .inl r => .inl r
 | .ns z sz l, _, s, .inr ⟨r0, b, off, sp, cap, r1, r2, rs, r4⟩ => .inr ⟨r0, b, off, sp, cap, r1, r2, rs, RelRows.toProt near_protC sz l b off s r4⟩
 | .vs k v sz m, _, s, ⟨b, c, r1, r2, r3, r4, r5⟩ => ⟨b, c, r1, r2, by rw [near_len]; exact s, r4, fun e => by
  obtain ⟨k1, C, E, fz, k2, k3⟩ := r5 e
  exact ⟨by rw [near_kind (lt_of_block k2)]; exact nearK_vec k1 (hI.to k s), C, E, fz, k2, k3⟩⟩
 | .vp k v off, _, s, ⟨b, r1, r3, r4, r5⟩ => ⟨b, r1, by rw [near_len]; exact s, r4, fun e => by
  obtain ⟨k1, k2⟩ := r5 e
  exact ⟨by rw [near_kind k2]; exact nearK_vec k1 (hI.to k s), k2⟩⟩
theorem RelAll.near {g : Gh} {w : World} {n : Nat} {ρ : Nat → Nat} {inv : Nat → Option Nat} (hI : Inv ρ n inv) (hl : ∀ i, i < n → ρ i < g.objs.length) : ∀ (ays : List AV) (vs : List Value), NearL n ays → RelAll g w (renL ρ ays) vs → RelAll (g.near w.heap.size n ρ inv) w ays vs
 | [], _, _, r => r
 | a :: ays, _, ⟨s1, s2⟩, ⟨v, vr, r1, r2, r3⟩ => ⟨v, vr, r1, Rel.near hI hl a v s1 r2, RelAll.near hI hl ays vr s2 r3⟩
end
theorem renO_map1 (ρ : Nat → Nat) (es : List (AV × AV)) : (es.map fun e => (ren ρ e.1, ren ρ e.2)).map (·.1) = renL ρ (es.map (·.1)) := by
 rw [renL_eq, List.map_map, List.map_map]; rfl
theorem renO_map2 (ρ : Nat → Nat) (es : List (AV × AV)) : (es.map fun e => (ren ρ e.1, ren ρ e.2)).map (·.2) = renL ρ (es.map (·.2)) := by
 rw [renL_eq, List.map_map, List.map_map]; rfl
theorem ObRel.near {g : Gh} {w : World} {n : Nat} {ρ : Nat → Nat} {inv : Nat → Option Nat} (hI : Inv ρ n inv) (hl : ∀ i, i < n → ρ i < g.objs.length) {i b : Nat} (hi : i < n) (hb : b < w.heap.size) {o : Ob} (ho : NearO n o) (h : ObRel g w (ρ i) b (renO ρ o)) : ObRel (g.near w.heap.size n ρ inv) w i b o := by
 cases o with
 | cells cs =>
  obtain ⟨h1, C, E, h2, h3, h4⟩ := h
  rw [renL_length] at h3 h4
  exact ⟨by rw [near_kind hb]; exact nearK_obj h1 (hI.to i hi), C, E, h2, RelAll.near hI hl _ _ ho h3, h4⟩
 | map es =>
  obtain ⟨h1, M, c, h2, h3, h4⟩ := h
  rw [renO_map1] at h3
  rw [renO_map2] at h4
  exact ⟨by rw [near_kind hb]; exact nearK_obj h1 (hI.to i hi), M, c, h2, RelAll.near hI hl _ _ ho.1 h3, RelAll.near hI hl _ _ ho.2 h4⟩
 | gone => trivial
 | lp s' j' f' tm =>
  obtain ⟨h1, L, h2, h3, h4, h5⟩ := h
  exact ⟨by rw [near_kind hb]; exact nearK_obj h1 (hI.to i hi), L, h2, h3, h4, RelAll.near hI hl _ _ ho h5⟩
 | nov v => exact h
 | vec v cs =>
  obtain ⟨h1, b', h2, h3, C, E, h4, h5, h6⟩ := h
  rw [renL_length] at h5 h6
  exact ⟨h1, b', h2, by rw [near_kind h2]; exact nearK_vec h3 (hI.to i hi), C, E, h4, RelAll.near hI hl _ _ ho h5, h6⟩
structure Lies (st : St) (objs0 : List Ob) (ρ : Nat → Nat) (n : Nat) (inv : Nat → Option Nat) : Prop where
 len : objs0.length = n
 inv : Inv ρ n inv
 at_ : ∀ i o, objs0[i]? = some o → st.objs[ρ i]? = some (renO ρ o)
 near : ∀ o ∈ objs0, NearO n o
theorem Lies.lt {st : St} {objs0 : List Ob} {ρ : Nat → Nat} {n : Nat} {inv : Nat → Option Nat} (h : Lies st objs0 ρ n inv) (i : Nat) (hi : i < n) : ρ i < st.objs.length :=
 getElem?_lt (h.at_ i _ (List.getElem?_eq_getElem (by rw [h.len]; exact hi)))
theorem StRel.near {g : Gh} {st : St} {w : World} (hs : StRel g st w) {objs0 : List Ob} {ρ : Nat → Nat} {n : Nat} {inv : Nat → Option Nat} (hL : Lies st objs0 ρ n inv) : StRel (g.near w.heap.size n ρ inv) ⟨objs0, []⟩ w := by
 have hl : ∀ i, i < n → ρ i < g.objs.length := fun i hi => by rw [hs.len]; exact hL.lt i hi
 refine ⟨rfl, by rw [near_len, hL.len], fun i b o hk ho => ?_, fun b i hb hk => ?_, fun b t hb hk => ?_, fun b i hb hk => ?_, hs.glob.toProt near_protC⟩
 ·have hi : i < n := by rw [← hL.len]; exact getElem?_lt ho
  rw [near_objs hi (hl i hi)] at hk
  obtain ⟨h1, h2⟩ := hs.obj (ρ i) b _ hk (hL.at_ i o ho)
  exact ⟨h1, h2.near hL.inv hl hi h1 (hL.near o (List.mem_of_getElem? ho))⟩
 ·rw [near_kind hb] at hk
  obtain ⟨k, h1, h2⟩ := nearK_obj' hk
  obtain ⟨hi, rfl⟩ := hL.inv.of k i h2
  obtain ⟨o, h3, h4, h5⟩ := hs.back b _ hb h1
  have ho : objs0[i]? = some (objs0[i]'(by rw [hL.len]; exact hi)) := List.getElem?_eq_getElem _
  have h6 := hL.at_ i _ ho
  rw [h3] at h6
  cases h6
  refine ⟨_, ho, by rw [near_objs hi (hl i hi)]; exact h4, ?_⟩
  generalize objs0[i]'(by rw [hL.len]; exact hi) = y at h5
  cases y <;> first | trivial | exact h5
 ·rw [near_kind hb] at hk; exact (nearK_row hk).elim
 ·rw [near_kind hb] at hk
  obtain ⟨k, h1, h2⟩ := nearK_vec' hk
  obtain ⟨hi, rfl⟩ := hL.inv.of k i h2
  obtain ⟨⟨v, cs, h3⟩, h4⟩ := hs.vec b _ hb h1
  have ho : objs0[i]? = some (objs0[i]'(by rw [hL.len]; exact hi)) := List.getElem?_eq_getElem _
  have h6 := hL.at_ i _ ho
  rw [h3] at h6
  refine ⟨?_, fun b' hb' hk' => ?_⟩
  ·generalize objs0[i]'(by rw [hL.len]; exact hi) = y at ho h6
   cases y <;> simp only [renO, Option.some.injEq, reduceCtorEq] at h6
   exact ⟨_, _, ho⟩
  ·rw [near_kind hb'] at hk'
   obtain ⟨k', h7, h8⟩ := nearK_vec' hk'
   obtain ⟨_, e⟩ := hL.inv.of k' i h8
   subst e
   exact h4 b' hb' h7
def nx (ρ : Nat → Nat) (n len i : Nat) : Nat := if i < n then ρ i else len + (i - n)
def backK (g2 : Gh) (τ : Nat → Nat) (p b : Nat) : BK :=
 match g2.kind b with
 | .obj i => if i < p then .obj (τ i) else .part fun _ => False
 | .vec i => if i < p then .vec (τ i) else .part fun _ => False
 | .row _ => .part fun off => g2.prot b off
 | x => x
def backG (g g2 : Gh) (τ : Nat → Nat) (p : Nat) (inv : Nat → Option Nat) (b : Nat) : BK :=
 match g.kind b with
 | .obj k => match inv k with
  | some _ => backK g2 τ p b
  | none => .obj k
 | .vec k => match inv k with
  | some _ => backK g2 τ p b
  | none => .vec k
 | x => x
def Gh.back (g g2 : Gh) (size n p : Nat) (τ : Nat → Nat) (inv : Nat → Option Nat) : Gh where
 kind b := if b < size then backG g g2 τ p inv b else backK g2 τ p b
 objs := g.objs ++ (g2.objs.take p).drop n
 tk := g.tk
 ver k := match inv k with
  | some i => g2.ver i
  | none => if k < g.objs.length then g.ver k else g2.ver (n + (k - g.objs.length))
structure Bk (G g2 : Gh) (w2 : World) (τ : Nat → Nat) (p : Nat) : Prop where
 objs : ∀ i, i < p → G.objs[τ i]? = g2.objs[i]?
 lt : ∀ i, i < p → τ i < G.objs.length
 ver : ∀ i, i < p → G.ver (τ i) = g2.ver i
 kobj : ∀ b i, b < w2.heap.size → i < p → g2.kind b = .obj i → G.kind b = .obj (τ i)
 kvec : ∀ b i, b < w2.heap.size → i < p → g2.kind b = .vec i → G.kind b = .vec (τ i)
 prot : ∀ b off u, w2.cell? ⟨b, off, none⟩ = some u → g2.prot b off → G.prot b off
mutual
theorem Bk.rel {G g2 : Gh} {w : World} {τ : Nat → Nat} {p : Nat} (h : Bk G g2 w τ p) : ∀ (a : AV) (v : Value), Near p a → Rel g2 w a v → Rel G w (ren τ a) v
 | .bool _, _, _, r => r
 | .int _ _, _, _, r => r
 | .str _, _, _, r => r
 | .nilptr, _, _, r => r
 | .nilsl, _, _, r => r
 | .nilmap, _, _, r => r
 | .nilfn, _, _, r => r
 | .nilif, _, _, r => r
 | .ptr k off, _, s, ⟨b, r1, r2⟩ => ⟨b, (h.objs k s).trans r1, r2⟩
 | .tp k E m', _, s, ⟨b, r1, r2⟩ => ⟨b, (h.objs k s).trans r1, r2⟩
 | .eptr cs, _, s, ⟨b, off, r1, r2⟩ => ⟨b, off, r1, RelCells.toProt h.prot cs b off s r2⟩
 | .sl sz full l, _, s, ⟨b, off, sp, cap, r1, r2, r3, rs, r4⟩ => ⟨b, off, sp, cap, r1, r2, r3, rs, RelRows.toProt h.prot sz l b off s r4⟩
 | .lg t sz l, _, s, _ => s.elim
 | .ms k sz off n cap, _, s, ⟨b, r1, r2⟩ => ⟨b, (h.objs k s).trans r1, r2⟩
 | .mp k, _, s, ⟨b, r1, r2⟩ => ⟨b, (h.objs k s).trans r1, r2⟩
 | .fn f a c, _, ⟨s0, s1, s2⟩, ⟨va, vc, r1, r2, r3⟩ => ⟨va, vc, r1.move s0, Bk.relAll h a va.toList s1 r2, Bk.relAll h c vc.toList s2 r3⟩
 | .ifc t a, _, s, ⟨u, r1, r2⟩ => ⟨u, r1, Bk.rel h a u s r2⟩
 | .agg cs, _, s, ⟨vs, r1, r2, r3⟩ => ⟨vs, r1, Bk.relAll h cs vs.toList s r2, r3⟩
 | .tup cs, _, s, ⟨vs, r1, r2⟩ => ⟨vs, r1, Bk.relAll h cs vs.toList s r2⟩
 | .dead, _, _, _ => trivial
 | .ns z sz l, _, s, .inl r => .inl r
 | .ns z sz l, _, s, .inr ⟨r0, b, off, sp, cap, r1, r2, rs, r4⟩ => .inr ⟨r0, b, off, sp, cap, r1, r2, rs, RelRows.toProt h.prot sz l b off s r4⟩
 | .vs k v sz m, _, s, ⟨b, c, r1, r2, r3, r4, r5⟩ => ⟨b, c, r1, r2, h.lt k s, by rw [h.ver k s]; exact r4, fun e => by
  rw [h.ver k s] at e
  obtain ⟨k1, C, E, fz, k2, k3⟩ := r5 e
  exact ⟨h.kvec b k (lt_of_block k2) s k1, C, E, fz, k2, k3⟩⟩
 | .vp k v off, _, s, ⟨b, r1, r3, r4, r5⟩ => ⟨b, r1, h.lt k s, by rw [h.ver k s]; exact r4, fun e => by
  rw [h.ver k s] at e
  obtain ⟨k1, k2⟩ := r5 e
  exact ⟨h.kvec b k k2 s k1, k2⟩⟩
theorem Bk.relAll {G g2 : Gh} {w : World} {τ : Nat → Nat} {p : Nat} (h : Bk G g2 w τ p) : ∀ (ays : List AV) (vs : List Value), NearL p ays → RelAll g2 w ays vs → RelAll G w (renL τ ays) vs
 | [], _, _, r => r
 | a :: ays, _, ⟨s1, s2⟩, ⟨v, vr, r1, r2, r3⟩ => ⟨v, vr, r1, Bk.rel h a v s1 r2, Bk.relAll h ays vr s2 r3⟩
end
theorem Bk.ob {G g2 : Gh} {w : World} {τ : Nat → Nat} {p : Nat} (h : Bk G g2 w τ p) {i b : Nat} (hi : i < p) (hb : b < w.heap.size) {o : Ob} (ho : NearO p o) (hr : ObRel g2 w i b o) : ObRel G w (τ i) b (renO τ o) := by
 cases o with
 | cells cs =>
  obtain ⟨h1, C, E, h2, h3, h4⟩ := hr
  exact ⟨h.kobj b i hb hi h1, C, E, h2, by rw [renL_length]; exact h.relAll _ _ ho h3, by rw [renL_length]; exact h4⟩
 | map es =>
  obtain ⟨h1, M, c, h2, h3, h4⟩ := hr
  exact ⟨h.kobj b i hb hi h1, M, c, h2, by rw [renO_map1]; exact h.relAll _ _ ho.1 h3, by rw [renO_map2]; exact h.relAll _ _ ho.2 h4⟩
 | gone => trivial
 | lp s' j' f' tm =>
  obtain ⟨h1, L, h2, h3, h4, h5⟩ := hr
  exact ⟨h.kobj b i hb hi h1, L, h2, h3, h4, h.relAll _ _ ho h5⟩
 | nov v => exact (h.ver i hi).trans hr
 | vec v cs =>
  obtain ⟨h1, b', h2, h3, C, E, h4, h5, h6⟩ := hr
  exact ⟨(h.ver i hi).trans h1, b', h2, h.kvec b' i h2 hi h3, C, E, h4, by rw [renL_length]; exact h.relAll _ _ ho h5, by rw [renL_length]; exact h6⟩
theorem nx_inj {ρ : Nat → Nat} {n len : Nat} {inv : Nat → Option Nat} (hI : Inv ρ n inv) (hl : ∀ i, i < n → ρ i < len) {i j : Nat} (e : nx ρ n len i = nx ρ n len j) : i = j := by
 unfold nx at e
 split at e
 ·rename_i hi
  split at e
  ·rename_i hj; exact hI.inj hi hj e
  ·have := hl i hi; omega
 ·split at e
  ·rename_i hj; have := hl j hj; omega
  ·omega
theorem nx_lt {ρ : Nat → Nat} {n len : Nat} {inv : Nat → Option Nat} (hI : Inv ρ n inv) {i k : Nat} (hk : k < len) (e : nx ρ n len i = k) : inv k = some i := by
 unfold nx at e
 split at e
 ·rename_i hi; rw [← e]; exact hI.to i hi
 ·omega
theorem backK_prot {g2 G : Gh} {τ : Nat → Nat} {p b off : Nat} (hk : G.kind b = backK g2 τ p b) (hp : g2.prot b off) : G.prot b off := by
 have hp0 := hp
 unfold Gh.prot at hp ⊢
 rw [hk]
 unfold backK
 cases h : g2.kind b with
 | solid => trivial
 | part S => rw [h] at hp; exact hp
 | obj k => rw [h] at hp; exact hp.elim
 | vec k => rw [h] at hp; exact hp.elim
 | row t => exact hp0
theorem placed_core {objs0 objs2 : List Ob} {r0 : AV} {xt : List (Nat × Nat)} {n p : Nat} (hnp : n ≤ p) (hp : p ≤ objs2.length)
  (hr : Near p (frz r0)) (ho2 : ∀ (i : Nat) (o : Ob), i < p → objs2[i]? = some o → NearO p o)
  {ρ : Nat → Nat} {inv : Nat → Option Nat} {st st' : St} (hL : Lies st objs0 ρ n inv) (htk : st'.tk = st.tk) (hlen : st'.objs.length = st.objs.length + (p - n))
  (hnew : ∀ (i : Nat) (o : Ob), i < p → objs2[i]? = some o → st'.objs[nx ρ n st.objs.length i]? = some (renO (nx ρ n st.objs.length) o)) (hold : ∀ k, k < st.objs.length → inv k = none → st'.objs[k]? = st.objs[k]?)
  {g g2 : Gh} {w w2 : World} {v : Value} (hs : StRel g st w) (hv2 : Rel g2 w2 r0 v) (hs2 : StRel g2 ⟨objs2, xt⟩ w2) (hE : Ev (g.near w.heap.size n ρ inv) w g2 w2) :
  ∃ g', Rel g' w2 (ren (nx ρ n st.objs.length) (frz r0)) v ∧ StRel g' st' w2 ∧ Ev g w g' w2 := by
 have hl : ∀ i, i < n → ρ i < g.objs.length := fun i hi => by rw [hs.len]; exact hL.lt i hi
 have hI := hL.inv
 have hlen2 : g2.objs.length = objs2.length := hs2.len
 have hgl : st.objs.length = g.objs.length := hs.len.symm
 rw [hgl] at hlen hnew ⊢
 have hinvN : ∀ k, g.objs.length ≤ k → inv k = none := fun k hk => by
  cases e : inv k with
  | none => rfl
  | some i =>
   obtain ⟨hi, rfl⟩ := hI.of k i e
   have := hl i hi
   omega
 let τ := nx ρ n g.objs.length
 let G := g.back g2 w.heap.size n p τ inv
 have hpart : ∀ b, b < w.heap.size → (∀ k i, g.kind b = .obj k → inv k = some i → False) → (∀ k i, g.kind b = .vec k → inv k = some i → False) → ∃ S, nearK g inv b = .part S ∧ g2.kind b = .part S ∧ w2.heap[b]? = w.heap[b]? := by
  intro b hb q1 q2
  have : ∃ S, nearK g inv b = .part S := by
   unfold nearK
   split
   ·rename_i k hk
    split
    ·rename_i i hi; exact (q1 k i hk hi).elim
    ·exact ⟨_, rfl⟩
   ·rename_i k hk
    split
    ·rename_i i hi; exact (q2 k i hk hi).elim
    ·exact ⟨_, rfl⟩
   ·exact ⟨_, rfl⟩
  obtain ⟨S, hS⟩ := this
  obtain ⟨k1, k2⟩ := hE.part b (S := S) hb (by rw [near_kind hb]; exact hS)
  exact ⟨S, hS, k1, k2⟩
 have hGlt : ∀ b, b < w.heap.size → G.kind b = backG g g2 τ p inv b := fun b hb => by
  show (if b < w.heap.size then _ else _) = _
  rw [if_pos hb]
 have hGge : ∀ b, ¬ b < w.heap.size → G.kind b = backK g2 τ p b := fun b hb => by
  show (if b < w.heap.size then _ else _) = _
  rw [if_neg hb]
 have hmine : ∀ b, b < w2.heap.size → (∃ i, g2.kind b = .obj i ∨ g2.kind b = .vec i) → G.kind b = backK g2 τ p b := by
  intro b hb ⟨i, hi⟩
  by_cases hb1 : b < w.heap.size
  ·rw [hGlt b hb1]
   by_cases q1 : ∃ k j, g.kind b = .obj k ∧ inv k = some j
   ·obtain ⟨k, j, e1, e2⟩ := q1
    simp only [backG, e1, e2]
   ·by_cases q2 : ∃ k j, g.kind b = .vec k ∧ inv k = some j
    ·obtain ⟨k, j, e1, e2⟩ := q2
     simp only [backG, e1, e2]
    ·obtain ⟨S, _, e3, _⟩ := hpart b hb1 (fun k i a b => q1 ⟨k, i, a, b⟩) (fun k i a b => q2 ⟨k, i, a, b⟩)
     rcases hi with hi | hi <;> (rw [hi] at e3; cases e3)
  ·exact hGge b hb1
 have hB : Bk G g2 w2 τ p := by
  refine ⟨fun i hi => ?_, fun i hi => ?_, fun i hi => ?_, fun b i hb hi hk => ?_, fun b i hb hi hk => ?_, fun b off u hc hpr => ?_⟩
  ·show (g.objs ++ (g2.objs.take p).drop n)[nx ρ n g.objs.length i]? = _
   unfold nx
   split
   ·rename_i h
    rw [List.getElem?_append_left (hl i h)]
    have e1 : g.objs[ρ i]? = some (g.objs[ρ i]'(hl i h)) := List.getElem?_eq_getElem (hl i h)
    have e2 := hE.objs i _ ((near_objs h (hl i h)).trans e1)
    rw [e1, e2]
   ·rw [List.getElem?_append_right (by omega), List.getElem?_drop, List.getElem?_take, if_pos (by omega)]
    congr 1; omega
  ·show nx ρ n g.objs.length i < (g.objs ++ (g2.objs.take p).drop n).length
   rw [List.length_append, List.length_drop, List.length_take]
   unfold nx
   split
   ·rename_i h; have := hl i h; omega
   ·omega
  ·show (match inv (nx ρ n g.objs.length i) with | some i => g2.ver i | none => if nx ρ n g.objs.length i < g.objs.length then g.ver (nx ρ n g.objs.length i) else g2.ver (n + (nx ρ n g.objs.length i - g.objs.length))) = _
   by_cases h : i < n
   ·rw [show nx ρ n g.objs.length i = ρ i by rw [nx, if_pos h], hI.to i h]
   ·rw [show nx ρ n g.objs.length i = g.objs.length + (i - n) by rw [nx, if_neg h], hinvN _ (by omega)]
    simp only
    rw [if_neg (by omega)]
    congr 1; omega
  ·rw [hmine b hb ⟨i, .inl hk⟩]
   simp only [backK, hk]
   rw [if_pos hi]
  ·rw [hmine b hb ⟨i, .inr hk⟩]
   simp only [backK, hk]
   rw [if_pos hi]
  ·obtain ⟨C, E, fz, hbk, _⟩ := cell_some hc
   have hb := lt_of_block hbk
   by_cases hb1 : b < w.heap.size
   ·by_cases q1 : ∃ k j, g.kind b = .obj k ∧ inv k = some j
    ·obtain ⟨k, j, e1, e2⟩ := q1
     exact backK_prot (τ := τ) (p := p) (by rw [hGlt b hb1]; simp only [backG, e1, e2]) hpr
    ·by_cases q2 : ∃ k j, g.kind b = .vec k ∧ inv k = some j
     ·obtain ⟨k, j, e1, e2⟩ := q2
      exact backK_prot (τ := τ) (p := p) (by rw [hGlt b hb1]; simp only [backG, e1, e2]) hpr
     ·obtain ⟨S, e2, e3, _⟩ := hpart b hb1 (fun k i a b => q1 ⟨k, i, a, b⟩) (fun k i a b => q2 ⟨k, i, a, b⟩)
      have hS : S off := by
       unfold Gh.prot at hpr; rw [e3] at hpr; exact hpr
      unfold Gh.prot
      rw [hGlt b hb1]
      unfold nearK at e2
      unfold backG
      cases hk : g.kind b with
      | obj k =>
       rw [hk] at e2
       simp only at e2
       split at e2
       ·cases e2
       ·cases e2; exact hS.elim
      | vec k =>
       rw [hk] at e2
       simp only at e2
       split at e2
       ·cases e2
       ·cases e2; exact hS.elim
      | solid => trivial
      | part T =>
       rw [hk] at e2
       simp only [BK.part.injEq] at e2
       subst e2
       unfold Gh.prot at hS; rw [hk] at hS; exact hS
      | row t =>
       rw [hk] at e2
       simp only [BK.part.injEq] at e2
       subst e2
       unfold Gh.prot at hS; rw [hk] at hS; exact hS
   ·exact backK_prot (τ := τ) (p := p) (hGge b hb1) hpr
 have hEG : Ev g w G w2 := by
  refine ⟨hE.os, hE.tape, hE.output, hE.size, fun b hb hk => ?_, fun b t hb hk => ?_, fun b k hb hk => ?_, fun k b hk => ?_, tk_refl _, fun k hk => ?_, fun b k hb hkl hk hvv => ?_, hE.ty⟩
  ·obtain ⟨S, _, _, e3⟩ := hpart b hb (fun k i a _ => by rw [a] at hk; cases hk) (fun k i a _ => by rw [a] at hk; cases hk)
   refine ⟨?_, e3⟩
   rw [hGlt b hb]
   unfold backG
   cases e : g.kind b with
   | obj k => rw [e] at hk; cases hk
   | vec k => rw [e] at hk; cases hk
   | _ => rfl
  ·obtain ⟨S, _, _, e3⟩ := hpart b hb (fun k i a _ => by rw [a] at hk; cases hk) (fun k i a _ => by rw [a] at hk; cases hk)
   refine ⟨by rw [hGlt b hb]; simp only [backG, hk], fun C E fz hC => ⟨C, e3.trans hC, rfl, fun _ _ => rfl⟩⟩
  ·rw [hGlt b hb]
   simp only [backG, hk]
   split
   ·rename_i i hi
    obtain ⟨hin, rfl⟩ := hI.of k i hi
    have := hE.obj b i hb (by rw [near_kind hb]; exact nearK_obj hk hi)
    unfold backK
    rcases this with e | e
    ·rw [e]; simp only; rw [if_pos (by omega)]
     left
     show BK.obj (nx ρ n g.objs.length i) = _
     rw [nx, if_pos hin]
    ·rw [e]; exact .inr rfl
   ·exact .inl rfl
  ·show (g.objs ++ _)[k]? = _
   rw [List.getElem?_append_left (getElem?_lt hk)]; exact hk
  ·show g.ver k ≤ (match inv k with | some i => g2.ver i | none => if k < g.objs.length then g.ver k else g2.ver (n + (k - g.objs.length)))
   split
   ·rename_i i hi
    obtain ⟨hin, rfl⟩ := hI.of k i hi
    exact hE.ver i (by rw [near_len]; exact hin)
   ·rw [if_pos hk]; exact Nat.le_refl _
  ·have hvv : (match inv k with | some i => g2.ver i | none => if k < g.objs.length then g.ver k else g2.ver (n + (k - g.objs.length))) = g.ver k := hvv
   rw [hGlt b hb]
   simp only [backG, hk]
   split at hvv
   ·rename_i i hi
    obtain ⟨hin, rfl⟩ := hI.of k i hi
    obtain ⟨k1, k2⟩ := hE.vec b i hb (by rw [near_len]; exact hin) (by rw [near_kind hb]; exact nearK_vec hk hi) hvv
    refine ⟨?_, k2⟩
    simp only [backK, k1]
    rw [if_pos (by omega)]
    show BK.vec (nx ρ n g.objs.length i) = _
    rw [nx, if_pos hin]
   ·rename_i hi
    obtain ⟨S, _, _, e3⟩ := hpart b hb (fun k i a _ => by rw [a] at hk; cases hk) (fun k' i a e => by rw [a] at hk; cases hk; rw [hi] at e; cases e)
    exact ⟨rfl, fun C E fz hC => ⟨C, e3.trans hC, rfl⟩⟩
 have hcase : ∀ b y, b < w2.heap.size → G.kind b = y → (∃ k, y = .obj k ∨ y = .vec k) → (b < w.heap.size ∧ g.kind b = y ∧ w2.heap[b]? = w.heap[b]? ∧ ∀ k, (y = .obj k ∨ y = .vec k) → inv k = none) ∨ (∃ i, i < p ∧ ((g2.kind b = .obj i ∧ y = .obj (τ i)) ∨ (g2.kind b = .vec i ∧ y = .vec (τ i)))) := by
  intro b y hb hk hy
  have hbk : backK g2 τ p b = y → ∃ i, i < p ∧ ((g2.kind b = .obj i ∧ y = .obj (τ i)) ∨ (g2.kind b = .vec i ∧ y = .vec (τ i))) := by
   intro e
   unfold backK at e
   split at e
   ·rename_i i hi
    split at e
    ·rename_i hip; exact ⟨i, hip, .inl ⟨hi, e.symm⟩⟩
    ·obtain ⟨k, hy | hy⟩ := hy <;> (rw [hy] at e; cases e)
   ·rename_i i hi
    split at e
    ·rename_i hip; exact ⟨i, hip, .inr ⟨hi, e.symm⟩⟩
    ·obtain ⟨k, hy | hy⟩ := hy <;> (rw [hy] at e; cases e)
   ·obtain ⟨k, hy | hy⟩ := hy <;> (rw [hy] at e; cases e)
   ·rename_i x h1 h2 h3
    obtain ⟨k, hy | hy⟩ := hy
    ·rw [hy] at e; exact (h1 k e).elim
    ·rw [hy] at e; exact (h2 k e).elim
  by_cases hb1 : b < w.heap.size
  ·rw [hGlt b hb1] at hk
   unfold backG at hk
   split at hk
   ·rename_i k hkk
    split at hk
    ·exact .inr (hbk hk)
    ·rename_i hi
     obtain ⟨S, _, _, e3⟩ := hpart b hb1 (fun k' i a e => by rw [a] at hkk; cases hkk; rw [hi] at e; cases e) (fun k' i a e => by rw [a] at hkk; cases hkk)
     refine .inl ⟨hb1, hkk.trans hk, e3, fun k' hk' => ?_⟩
     rcases hk' with hk' | hk' <;> (rw [hk'] at hk; cases hk)
     exact hi
   ·rename_i k hkk
    split at hk
    ·exact .inr (hbk hk)
    ·rename_i hi
     obtain ⟨S, _, _, e3⟩ := hpart b hb1 (fun k' i a e => by rw [a] at hkk; cases hkk) (fun k' i a e => by rw [a] at hkk; cases hkk; rw [hi] at e; cases e)
     refine .inl ⟨hb1, hkk.trans hk, e3, fun k' hk' => ?_⟩
     rcases hk' with hk' | hk' <;> (rw [hk'] at hk; cases hk)
     exact hi
   ·rename_i x h1 h2
    obtain ⟨k, hy | hy⟩ := hy
    ·rw [hy] at hk; exact (h1 k hk).elim
    ·rw [hy] at hk; exact (h2 k hk).elim
  ·rw [hGge b hb1] at hk
   exact .inr (hbk hk)
 refine ⟨G, hB.rel _ _ hr (frz_rel hv2), ⟨by show g.tk = _; rw [hs.tk, htk], ?_, fun k b o hk ho => ?_, fun b k hb hk => ?_, fun b t hb hk => ?_, fun b k hb hk => ?_, hs.glob.mono hEG⟩, hEG⟩
 ·show (g.objs ++ (g2.objs.take p).drop n).length = _
  rw [List.length_append, List.length_drop, List.length_take, hlen]
  omega
 ·
  have hkl : k < g.objs.length + (p - n) := by rw [← hlen]; exact getElem?_lt ho
  by_cases hki : k < g.objs.length ∧ inv k = none
  ·obtain ⟨q1, q2⟩ := hki
   have hk : (g.objs ++ (g2.objs.take p).drop n)[k]? = some b := hk
   rw [List.getElem?_append_left q1] at hk
   rw [hold k (by rw [hgl]; exact q1) q2] at ho
   obtain ⟨p1, p2⟩ := hs.obj k b o hk ho
   refine ⟨Nat.lt_of_lt_of_le p1 hE.size, ?_⟩
   have hver : G.ver k = g.ver k := by
    show (match inv k with | some i => g2.ver i | none => if k < g.objs.length then g.ver k else _) = _
    rw [q2]; simp only; rw [if_pos q1]
   have hkeep : ∀ b, b < w.heap.size → (g.kind b = .obj k ∨ g.kind b = .vec k) → G.kind b = g.kind b ∧ w2.heap[b]? = w.heap[b]? := by
    intro b hb hk
    obtain ⟨S, _, _, e3⟩ := hpart b hb (fun k' i a e => by
     rcases hk with hk | hk <;> (rw [a] at hk; cases hk)
     rw [q2] at e; cases e) (fun k' i a e => by
     rcases hk with hk | hk <;> (rw [a] at hk; cases hk)
     rw [q2] at e; cases e)
    refine ⟨?_, e3⟩
    rw [hGlt b hb]
    rcases hk with hk | hk <;> simp only [backG, hk, q2]
   cases o with
   | gone => trivial
   | nov v => exact hver.trans p2
   | cells cs =>
    obtain ⟨e1, C, E, e2, e3, e4⟩ := p2
    obtain ⟨f1, f2⟩ := hkeep b p1 (.inl e1)
    exact ⟨f1.trans e1, C, E, f2.trans e2, RelAll.mono hEG _ _ e3, e4⟩
   | lp s' j' f' tm' =>
    obtain ⟨e1, L, e2, e3, e4, e5⟩ := p2
    obtain ⟨f1, f2⟩ := hkeep b p1 (.inl e1)
    exact ⟨f1.trans e1, L, f2.trans e2, e3, e4, RelAll.mono hEG _ _ e5⟩
   | map es =>
    obtain ⟨e1, M, c, e2, e3, e4⟩ := p2
    obtain ⟨f1, f2⟩ := hkeep b p1 (.inl e1)
    exact ⟨f1.trans e1, M, c, f2.trans e2, RelAll.mono hEG _ _ e3, RelAll.mono hEG _ _ e4⟩
   | vec v cs =>
    obtain ⟨e0, b', e1, e2, C, E, e3, e4, e5⟩ := p2
    obtain ⟨f1, f2⟩ := hkeep b' e1 (.inr e2)
    exact ⟨hver.trans e0, b', Nat.lt_of_lt_of_le e1 hE.size, f1.trans e2, C, E, f2.trans e3, RelAll.mono hEG _ _ e4, e5⟩
  ·have : ∃ i, i < p ∧ τ i = k := by
    by_cases q1 : k < g.objs.length
    ·cases e : inv k with
     | none => exact absurd ⟨q1, e⟩ hki
     | some i =>
      obtain ⟨hi, rfl⟩ := hI.of k i e
      exact ⟨i, by omega, by show nx ρ n g.objs.length i = _; rw [nx, if_pos hi]⟩
    ·exact ⟨n + (k - g.objs.length), by omega, by show nx ρ n g.objs.length _ = _; rw [nx, if_neg (by omega)]; omega⟩
   obtain ⟨i, hi, rfl⟩ := this
   rw [hB.objs i hi] at hk
   have hoi : objs2[i]? = some (objs2[i]'(by omega)) := List.getElem?_eq_getElem _
   have := hnew i _ hi hoi
   rw [show st'.objs[τ i]? = _ from this] at ho
   cases ho
   obtain ⟨p1, p2⟩ := hs2.obj i b _ hk hoi
   exact ⟨p1, hB.ob hi p1 (ho2 i _ hi hoi) p2⟩
 ·rcases hcase b _ hb hk ⟨k, .inl rfl⟩ with ⟨h1, h2, _, h3⟩ | ⟨i, hi, ⟨h1, h2⟩ | ⟨h1, h2⟩⟩
  ·obtain ⟨o, k1, k2, k3⟩ := hs.back b k h1 h2
   have hkl := getElem?_lt k1
   refine ⟨o, by rw [hold k hkl (h3 k (.inl rfl))]; exact k1, ?_, k3⟩
   show (g.objs ++ _)[k]? = _
   rw [List.getElem?_append_left (getElem?_lt k2)]; exact k2
  ·simp only [BK.obj.injEq] at h2
   subst h2
   obtain ⟨o, k1, k2, k3⟩ := hs2.back b i hb h1
   refine ⟨renO τ o, hnew i o hi k1, (hB.objs i hi).trans k2, ?_⟩
   cases o <;> first | trivial | exact k3
  ·cases h2
 ·by_cases hb1 : b < w.heap.size
  ·have hk0 := hk
   rw [hGlt b hb1] at hk
   have : g.kind b = .row t := by
    unfold backG at hk
    split at hk
    ·split at hk
     ·unfold backK at hk
      split at hk
      ·split at hk <;> cases hk
      ·split at hk <;> cases hk
      ·cases hk
      ·rename_i h1 h2 h3; exact (h3 t hk).elim
     ·cases hk
    ·split at hk
     ·unfold backK at hk
      split at hk
      ·split at hk <;> cases hk
      ·split at hk <;> cases hk
      ·cases hk
      ·rename_i h1 h2 h3; exact (h3 t hk).elim
     ·cases hk
    ·exact hk
   rw [htk]
   exact hs.rowlt b t hb1 this
  ·rw [hGge b hb1] at hk
   unfold backK at hk
   split at hk
   ·split at hk <;> cases hk
   ·split at hk <;> cases hk
   ·cases hk
   ·rename_i h1 h2 h3; exact (h3 t hk).elim
 ·rcases hcase b _ hb hk ⟨k, .inr rfl⟩ with ⟨h1, h2, _, h3⟩ | ⟨i, hi, ⟨h1, h2⟩ | ⟨h1, h2⟩⟩
  ·obtain ⟨⟨v, cs, k1⟩, k2⟩ := hs.vec b k h1 h2
   have hkl := getElem?_lt k1
   have hin := h3 k (.inr rfl)
   refine ⟨⟨v, cs, by rw [hold k hkl hin]; exact k1⟩, fun b' hb' hk' => ?_⟩
   rcases hcase b' _ hb' hk' ⟨k, .inr rfl⟩ with ⟨q1, q2, _, _⟩ | ⟨i, hi, ⟨q1, q2⟩ | ⟨q1, q2⟩⟩
   ·exact k2 b' q1 q2
   ·cases q2
   ·simp only [BK.vec.injEq] at q2
    have := nx_lt hI (by rw [← hgl]; exact hkl) q2.symm
    rw [hin] at this; cases this
  ·cases h2
  ·simp only [BK.vec.injEq] at h2
   subst h2
   obtain ⟨⟨v, cs, k1⟩, k2⟩ := hs2.vec b i hb h1
   refine ⟨⟨v, renL τ cs, hnew i _ hi k1⟩, fun b' hb' hk' => ?_⟩
   rcases hcase b' _ hb' hk' ⟨_, .inr rfl⟩ with ⟨q1, q2, _, q3⟩ | ⟨j, hj, ⟨q1, q2⟩ | ⟨q1, q2⟩⟩
   ·have hin := q3 _ (.inr rfl)
    obtain ⟨⟨v', cs', k3⟩, _⟩ := hs.vec b' _ q1 q2
    have k4 : τ i < g.objs.length := by rw [← hgl]; exact getElem?_lt k3
    have := nx_lt hI k4 (i := i) rfl
    rw [hin] at this; cases this
   ·cases q2
   ·simp only [BK.vec.injEq] at q2
    have := nx_inj hI hl q2
    subst this
    exact k2 b' hb' q1
theorem placed {id : FuncId} {args0 : List AV} {objs0 objs2 : List Ob} {r0 : AV} {xt : List (Nat × Nat)} (h : CallsTo P id args0 ⟨objs0, []⟩ (.ret r0, ⟨objs2, xt⟩)) {n p : Nat} (hnp : n ≤ p) (hp : p ≤ objs2.length)
  (ha : NearL n args0) (hr : Near p (frz r0)) (ho2 : ∀ (i : Nat) (o : Ob), i < p → objs2[i]? = some o → NearO p o)
  {ρ : Nat → Nat} {inv : Nat → Option Nat} {st st' : St} (hL : Lies st objs0 ρ n inv) (htk : st'.tk = st.tk) (hlen : st'.objs.length = st.objs.length + (p - n))
  (hnew : ∀ (i : Nat) (o : Ob), i < p → objs2[i]? = some o → st'.objs[nx ρ n st.objs.length i]? = some (renO (nx ρ n st.objs.length) o)) (hold : ∀ k, k < st.objs.length → inv k = none → st'.objs[k]? = st.objs[k]?) :
  CallsTo P id (renL ρ args0) st (.ret (ren (nx ρ n st.objs.length) (frz r0)), st') := by
 intro g w vals hv hs
 have hl : ∀ i, i < n → ρ i < g.objs.length := fun i hi => by rw [hs.len]; exact hL.lt i hi
 have hI := hL.inv
 refine (h (g.near w.heap.size n ρ inv) w vals (RelAll.near hI hl _ _ ha hv) (hs.near hL)).mono fun e w2 ⟨g2, h1, hs2, hE⟩ => ?_
 obtain ⟨v, rfl, hv2⟩ := h1
 obtain ⟨g', k1, k2, k3⟩ := placed_core hnp hp hr ho2 hL htk hlen hnew hold hs hv2 hs2 hE
 exact ⟨g', ⟨v, rfl, k1⟩, k2, k3⟩
end
end Go.V
namespace Go.V
section
variable {P : Program}
def verO (o : Option Ob) : Option Nat :=
 match o with
 | some o => match o with
  | .vec v _ => some v
  | .nov v => some v
  | _ => none
 | none => none
def rgN (b : Option AV) (d : Nat) : Option Nat :=
 match b with
 | none => some d
 | some x => match x with
  | .ptr i _ => some (i + d)
  | _ => none
theorem verO_some {o : Option Ob} {v : Nat} (h : verO o = some v) : (∃ cs, o = some (.vec v cs)) ∨ o = some (.nov v) := by
 unfold verO at h
 split at h
 ·split at h
  ·cases h; exact .inl ⟨_, rfl⟩
  ·cases h; exact .inr rfl
  ·cases h
 ·cases h
theorem verO_lt {l : List Ob} {j v : Nat} (h : verO l[j]? = some v) : j < l.length := by
 rcases verO_some h with ⟨cs, h⟩ | h
 ·exact getElem?_lt h
 ·exact getElem?_lt h
theorem reg_moved {g : Gh} {st : St} {w w1 : World} {C : Array Value} {E : TypeId} (hs : StRel g st w) (hp : Push w w1 (.cells C E)) {j v : Nat} {cs : List AV} (hv : verO st.objs[j]? = some v) (hr : RelAll g w cs (C.toList.take cs.length)) (h1 : ∀ u ∈ C.toList.take cs.length, u.oneCell' = true) :
  ∃ g', StRel g' ⟨st.objs.set j (.vec (v + 1) cs), st.tk⟩ w1 ∧ Ev g w g' w1 ∧ (∀ c sz n, n ≤ c → c * sz ≤ C.size → okE sz E = true → Rel g' w1 (.vs j (v + 1) sz n) (.slice (some ⟨w.heap.size, 0, none⟩) n c)) ∧ ∀ off, Rel g' w1 (.vp j (v + 1) off) (.pointer (some ⟨w.heap.size, off, none⟩)) := by
 have hjl := verO_lt hv
 refine vec_moved (gos := g.objs) hs hp (fun o ho => ⟨v, ?_, Nat.lt_succ_self v⟩) (by rw [List.getElem?_eq_getElem (by rw [hs.len]; exact hjl)]; rfl) (fun _ _ h => h) (fun _ _ h => .inl h) (by simp [hs.len]) (List.getElem?_set_self hjl) (fun k hk => List.getElem?_set_ne (fun e => hk e.symm)) hr h1
 rcases verO_some hv with ⟨cs0, h⟩ | h
 ·rw [h] at ho; cases ho; exact .inl ⟨_, rfl⟩
 ·rw [h] at ho; cases ho; exact .inr rfl
def rgOps (b : Option Operand) : List Operand := b.toList
theorem rg_ev {ev ev' : Operand → AV} {xs : List Operand} {b : Option Operand} (h : ∀ x ∈ xs ++ rgOps b, ev x = ev' x) : b.map ev = b.map ev' := by
 cases b with
 | none => rfl
 | some x => simp only [Option.map_some, h x (by simp [rgOps])]
noncomputable def aappR (sz bytes : Nat) (r : Option Nat) (s x : AV) (st : St) (k : AV → St → Ans) : Ans :=
 match s with
 | .nilsl => match rowsT sz x st with
  | none => none
  | some rows => match apOk rows.length bytes with
   | true => match Nat.beq rows.length 0 with
    | true => k .nilsl st
    | false => match r with
     | some j => match verO st.objs[j]? with
      | some v => k (.vs j (v + 1) sz rows.length) ⟨st.objs.set j (.vec (v + 1) (catC [] 0 rows)), st.tk⟩
      | none => none
     | none => none
   | false => none
 | s => aappV sz bytes s x st k
theorem aappR_nat (sz bytes : Nat) (r : Option Nat) (s x : AV) (st : St) (k : AV → St → Ans) : aappR sz bytes r s x st k = thenM (aappR sz bytes r s x st retM) k := by
 unfold aappR
 split
 ·split
  ·rfl
  ·split
   ·split
    ·rfl
    ·split
     ·split <;> rfl
     ·rfl
   ·rfl
 ·exact aappV_nat _ _ _ _ _ _
theorem aappR_run {T X e sz bytes : Nat} {z : Value} (hok : okE sz e = true) (hT : ElemOf P T e sz bytes z) {dx : TypeDesc} (hX : P.underlying X = some dx) (hdx : isSeq dx = true) (ty : TypeId) {g : Gh} {st : St} {w : World} (hs : StRel g st w) {S Y : AV} {s x : Value} (hS : Rel g w S s) (hY : Rel g w Y x) {r : Option Nat} {k : AV → St → Ans} {fin : Fin × St} (h : aappR sz bytes r S Y st k = some fin) :
  ∃ r v st' g' w', k r st' = some fin ∧ (Builtin.append_ #[T, X] ty #[s, x]).run P w = .ok v w' ∧ Rel g' w' r v ∧ StRel g' st' w' ∧ Ev g w g' w' := by
 have hzc : ∀ n, (Builtin.zeroCells z.cells n).toList.length = n * sz := fun n => by rw [Array.length_toList (xs := Builtin.zeroCells z.cells n), size_zeroCells, hT.cells]
 unfold aappR at h
 split at h
 ·obtain rfl : s = .slice none 0 0 := hS
  split at h
  ·cases h
  ·rename_i rows hrows
   obtain ⟨news, h1, h2, h3, h4, h5, h6⟩ := rowsA_run (P := P) hs hY (rowsT_rowsA hrows)
   split at h
   ·rename_i hc
    rw [apOk_iff] at hc
    split at h
    ·rename_i h0
     have h0 := Nat.eq_of_beq_eq_true h0
     have hn : news = [] := List.eq_nil_of_length_eq_zero (by rw [h4, h0, Nat.zero_mul])
     have := run_append_fits (P := P) (p := none) (n := 0) (cap := 0) hT hX hdx ty h5 (h6 w rfl) (by omega)
     refine ⟨_, _, _, g, w, h, this, ?_, hs, Ev.refl g w⟩
     rw [h0]; rfl
    ·rename_i h0
     have h0 : rows.length ≠ 0 := by intro e; rw [e] at h0; cases h0
     split at h
     ·rename_i j
      split at h
      ·rename_i v hv
       rw [catC, opq_eq, List.take_nil, List.nil_append] at h
       have hrun := run_append_grows (P := P) (p := none) (n := 0) (cap := 0) (olds := []) hT hX hdx ty h5 (fun w' _ => by simp [Builtin.firstCells]) h6 (by omega) (by simpa using hc)
       rw [List.nil_append, Nat.zero_add] at hrun
       have hge := grownCap_ge w rows.length 0 e
       have hlen : rows.flatten.length = news.length := RelAll.length _ _ h1
       obtain ⟨g', k1, k2, k3, _⟩ := reg_moved hs (Push.drew w (.cells (news ++ (Builtin.zeroCells z.cells (grownCap w rows.length 0 e - rows.length)).toList).toArray e)) hv (cs := rows.flatten)
        (by rw [hlen, List.toList_toArray, List.take_left]; exact h1) (fun u hu => by
         rw [hlen, List.toList_toArray, List.take_left] at hu
         exact h3 u hu)
       refine ⟨_, _, _, g', _, h, hrun, k3 _ sz _ hge ?_ hok, k1, k2⟩
       rw [List.size_toArray, List.length_append, hzc, h4, ← Nat.add_mul]
       exact Nat.mul_le_mul_right _ (by omega)
      ·cases h
     ·cases h
   ·cases h
 ·exact aappV_run hok hT hX hdx ty hs hS hY h
noncomputable def opAppendR (b : Option Operand) (d : Nat) (dst : Option Tmp) (s x : Operand) (T X e sz bytes : Nat) (z : Value) (hT : ElemOf P T e sz bytes z) (dx : TypeDesc) (hX : P.underlying X = some dx) (hdx : isSeq dx = true) (ty : TypeId) (pos : String) (after : Array Edge) (hok : okE sz e = true := by rfl) : MSim P :=
 MSim.makes (mkOp dst (.call { callee := .builtin .append, args := #[s, x], argTypes := #[T, X] }) ty pos after) rfl ([s, x] ++ rgOps b) (fun ev st k => aappR sz bytes (rgN (b.map ev) d) (ev s) (ev x) st k) (fun ev ev' st k h => by rw [rg_ev h, h s (by simp), h x (by simp)]) fun ev st k fin h g w a he hs => by
  obtain ⟨r, v, st', g', w', h1, h2, h3⟩ := aappR_run (P := P) hok hT hX hdx ty hs (he s (by simp)) (he x (by simp)) h
  refine ⟨r, v, st', g', w', h1, ?_, h3⟩
  rw [callBuiltin]
  simp only [builtin, List.map_toArray, List.map_cons, List.map_nil, Sem.run_bind, h2]
  rfl
theorem opAppendR_nat {b : Option Operand} {d : Nat} {dst : Option Tmp} {s x : Operand} {T X e sz bytes : Nat} {z : Value} {hT : ElemOf P T e sz bytes z} {dx : TypeDesc} {hX : P.underlying X = some dx} {hdx : isSeq dx = true} {ty : TypeId} {pos : String} {after : Array Edge} {hok : okE sz e = true} : (opAppendR (P := P) b d dst s x T X e sz bytes z hT dx hX hdx ty pos after hok).NatM := fun ev st k => aappR_nat _ _ _ _ _ _ _
theorem reg_freed {g : Gh} {st : St} {w : World} (hs : StRel g st w) {j v : Nat} {cs : List AV} (hcs : st.objs[j]? = some (.vec v cs)) :
  ∃ g' b C E, StRel g' ⟨st.objs.set j (.nov (v + 1)), st.tk⟩ w ∧ Ev g w g' w ∧ g'.kind b = .solid ∧ w.heap[b]? = some (.cells C E (0, 0)) ∧ RelAll g w cs (C.toList.take cs.length) ∧ (∀ u ∈ C.toList.take cs.length, u.oneCell' = true) ∧ g.kind b = .vec j ∧ b < w.heap.size := by
 have hjl : j < g.objs.length := by rw [hs.len]; exact getElem?_lt hcs
 obtain ⟨hver, b, hb, hkb, C, E, hC, hr, hrc⟩ := vec_of hs hjl hcs
 have huniq := (hs.vec b j hb hkb).2
 let g' : Gh := ⟨fun x => if x = b then .solid else g.kind x, g.objs, g.tk, fun x => if x = j then v + 1 else g.ver x⟩
 have hk : ∀ x, g.kind x ≠ .vec j → g'.kind x = g.kind x := fun x hx => by simp only [g']; rw [if_neg (fun e => hx (by rw [e]; exact hkb))]
 have hback : ∀ x y, x < w.heap.size → g'.kind x = y → y ≠ .solid → g.kind x = y ∧ y ≠ .vec j := by
  intro x y hs' hx hy
  simp only [g'] at hx
  split at hx
  ·exact absurd hx.symm hy
  ·rename_i h; exact ⟨hx, fun e => h (huniq x hs' (hx.trans e))⟩
 have hE : Ev g w g' w := by
  refine ⟨rfl, rfl, rfl, Nat.le_refl _, fun x hx hf => ⟨?_, rfl⟩, fun x t hx hf => ⟨?_, fun C E fz h => ⟨C, h, rfl, fun _ _ => rfl⟩⟩, fun x k hx hf => .inl ?_, fun _ _ h => h, tk_refl _, fun k hk => ?_, fun x k hx hkl hf hv => ⟨?_, fun C E fz h => ⟨C, h, rfl⟩⟩, fun _ C _ fz h => ⟨C, fz, h, rfl⟩⟩
  ·exact hk x (by intro e; rw [e] at hf; cases hf)
  ·exact (hk x (by intro e; rw [e] at hf; cases hf)).trans hf
  ·exact (hk x (by intro e; rw [e] at hf; cases hf)).trans hf
  ·simp only [g']
   split
   ·rename_i e; subst e; omega
   ·exact Nat.le_refl _
  ·refine (hk x ?_).trans hf
   intro e
   rw [e] at hf
   cases hf
   simp only [g', if_true] at hv
   omega
 refine ⟨g', b, C, E, ⟨hs.tk, by simp [g', hs.len], fun k b' o hk' ho => ?_, fun x k hx hf => ?_, fun x t hx hf => ?_, fun x k hx hf => ?_, hs.glob.mono hE⟩, hE, by simp [g', hkb], hC, hr, hrc, hkb, hb⟩
 ·by_cases hkj : k = j
  ·subst hkj
   rw [List.getElem?_set_self (getElem?_lt hcs)] at ho
   cases ho
   exact ⟨(hs.obj k b' _ hk' hcs).1, by show (if k = k then v + 1 else _) = _; rw [if_pos rfl]⟩
  ·rw [List.getElem?_set_ne (fun e => hkj e.symm)] at ho
   obtain ⟨p1, p2⟩ := hs.obj k b' o hk' ho
   refine ⟨p1, ?_⟩
   have hver' : g'.ver k = g.ver k := by show (if k = j then v + 1 else _) = _; rw [if_neg hkj]
   have hv : ∀ b'', b'' < w.heap.size → g.kind b'' = .vec k → w.heap[b'']? = w.heap[b'']? ∧ g'.kind b'' = .vec k := fun b'' _ hh =>
    ⟨rfl, (hk b'' (by rw [hh]; intro e; cases e; exact hkj rfl)).trans hh⟩
   cases o with
   | gone => trivial
   | nov v => exact hver'.trans p2
   | cells cs' => exact p2.keep hE rfl (hk b' (by rw [p2.1]; intro e; cases e)) hv hver'
   | map es => exact p2.keep hE rfl (hk b' (by rw [p2.1]; intro e; cases e)) hv hver'
   | lp _ _ _ _ => exact p2.keep hE rfl (hk b' (by rw [p2.1]; intro e; cases e)) hv hver'
   | vec v cs' =>
    obtain ⟨e1, b'', e2, e3, C1, E1, e4, e5, e6⟩ := p2
    obtain ⟨_, f2⟩ := hv b'' e2 e3
    exact ⟨hver'.trans e1, b'', e2, f2, C1, E1, e4, RelAll.mono hE _ _ e5, e6⟩
 ·obtain ⟨k1, _⟩ := hback x _ hx hf (by intro e; cases e)
  obtain ⟨o, k3, k4, k5⟩ := hs.back x k hx k1
  have hkj : k ≠ j := by intro e; subst e; rw [hcs] at k3; cases k3; exact k5.elim
  exact ⟨o, by rw [List.getElem?_set_ne (fun e => hkj e.symm)]; exact k3, k4, k5⟩
 ·obtain ⟨k1, _⟩ := hback x _ hx hf (by intro e; cases e)
  exact hs.rowlt x t hx k1
 ·obtain ⟨k1, k2⟩ := hback x _ hx hf (by intro e; cases e)
  obtain ⟨⟨v', cs', k3⟩, k4⟩ := hs.vec x k hx k1
  have hkj : k ≠ j := by intro e; subst e; exact k2 rfl
  refine ⟨⟨v', cs', by rw [List.getElem?_set_ne (fun e => hkj e.symm)]; exact k3⟩, fun x' hx' hf' => ?_⟩
  obtain ⟨k5, _⟩ := hback x' _ hx' hf' (by intro e; cases e)
  exact k4 x' hx' k5
noncomputable def afree (x : AV) (st : St) (k : AV → St → Ans) : Ans :=
 match x with
 | .vs j v sz n => match st.objs[j]? with
  | some (.vec v' cs) => match Nat.beq v v' && inC cs 0 (mulN n sz) with
   | true => k (.ns false sz (rowsC sz n cs 0)) ⟨st.objs.set j (.nov (v' + 1)), st.tk⟩
   | false => none
  | _ => none
 | .ms j sz o n cap => match st.objs[j]? with
  | some (.cells cs) => match inC cs o (mulN n sz) with
   | true => k (.ns false sz (rowsC sz n cs o)) ⟨st.objs.set j .gone, st.tk⟩
   | false => none
  | _ => none
 | _ => none
theorem afree_nat (x : AV) (st : St) (k : AV → St → Ans) : afree x st k = thenM (afree x st retM) k := by
 unfold afree
 split
 ·split
  ·split <;> rfl
  ·rfl
 ·split
  ·split <;> rfl
  ·rfl
 ·rfl
theorem afree_rel {g : Gh} {st : St} {w : World} (hs : StRel g st w) {x : AV} {v : Value} (hv : Rel g w x v) {k : AV → St → Ans} {fin : Fin × St} (h : afree x st k = some fin) : ∃ r st' g', k r st' = some fin ∧ Rel g' w r v ∧ StRel g' st' w ∧ Ev g w g' w := by
 unfold afree at h
 split at h
 ·rename_i j ve sz n
  split at h
  ·rename_i v' cs hcs
   split at h
   ·rename_i hc
    rw [Bool.and_eq_true] at hc
    obtain rfl := Nat.eq_of_beq_eq_true hc.1
    have hin := hc.2
    have hrows := rowsC_some hin
    rw [List.drop_zero] at hrows
    obtain ⟨b, c, rfl, hle, hj, _, hb⟩ := hv
    obtain ⟨g', b', C, E, k1, k2, k3, k4, k5, k6, k7, k8⟩ := reg_freed hs hcs
    obtain ⟨hk, C', E', fz', hC', _⟩ := hb (by have := (vec_of hs hj hcs).1; omega)
    obtain rfl := (hs.vec b' j k8 k7).2 b (lt_of_block hC') hk
    obtain ⟨e1, e2, e3⟩ := rowsOf_list sz n _ _ hrows
    refine ⟨_, _, g', h, .inr ⟨rfl, b, 0, none, c, by rw [e1], by rw [e1]; exact hle, .inl rfl, ?_⟩, k1, k2⟩
    refine RelRows.of sz _ ((C.toList.take cs.length).take (n * sz)) b 0 e2 (by rw [e3]; exact RelAll.mono k2 _ _ (RelAll.take _ _ _ k5)) fun i u hi => ?_
    rw [List.getElem?_take] at hi
    split at hi
    ·refine ⟨?_, by simp [Gh.prot, k3], k6 u (List.mem_of_getElem? hi)⟩
     rw [cell_of k4, Nat.zero_add]
     rw [List.getElem?_take] at hi
     split at hi
     ·simpa using hi
     ·cases hi
    ·cases hi
   ·cases h
  ·cases h
 ·rename_i j sz o n cap
  split at h
  ·rename_i cs hcs
   split at h
   ·rename_i hc
    obtain ⟨b, hg, rfl, hle⟩ := hv
    obtain ⟨_, C, E, hC, _⟩ := ob_of hs hg hcs
    obtain ⟨g', k1, k2, k3⟩ := frozen_obj (w' := w) hs hg hcs hC rfl rfl rfl rfl (fun _ _ => rfl) hC
    obtain ⟨b', o', sp, cap', q1, q2, _, q3, q4⟩ := k3 sz o n cap _ hle (rowsC_some hc)
    exact ⟨_, _, g', h, .inr ⟨rfl, b', o', sp, cap', q1, q2, q3, q4⟩, k1, k2⟩
   ·cases h
  ·cases h
 ·cases h
noncomputable def opMoveZ (dst : Option Tmp) (x : Operand) (ty : TypeId) (pos : String) (after : Array Edge) : MSim P :=
 MSim.makes (mkOp dst (.move x) ty pos after) rfl [x] (fun ev st k => afree (ev x) st k) (fun ev ev' st k h => by simp only [h x (by simp)]) fun ev st k fin h g w a he hs => by
  obtain ⟨r, st', g', k1, k2, k3, k4⟩ := afree_rel hs (he x (by simp)) h
  exact ⟨r, _, st', g', w, k1, rfl, k2, k3, k4⟩
noncomputable def acopyV (sz : Nat) (d s : AV) (st : St) (k : AV → St → Ans) : Ans :=
 match d with
 | .vs j v s' n => match Nat.beq s' sz with
  | true => match rowsT sz s st with
   | some rows => match st.objs[j]? with
    | some (.vec v' cs) => match Nat.beq v v' && inC cs 0 (mulN (minN rows.length n) sz) with
     | true => k (.int .i64 (minN rows.length n : Nat)) ⟨st.objs.set j (.vec v (setC cs 0 (flC rows (minN rows.length n)))), st.tk⟩
     | false => none
    | _ => none
   | none => none
  | false => none
 | d => acopy sz d s st k
theorem acopyV_nat (sz : Nat) (d s : AV) (st : St) (k : AV → St → Ans) : acopyV sz d s st k = thenM (acopyV sz d s st retM) k := by
 unfold acopyV
 split
 ·split
  ·split
   ·split
    ·split <;> rfl
    ·rfl
   ·rfl
  ·rfl
 ·exact acopy_nat _ _ _ _ _
noncomputable def opCopyV (dst : Option Tmp) (d s : Operand) (T X e sz : Nat) (hT : P.underlying T = some (.slice e)) (hz : (P.info? e).map (·.size) = some sz) (ty : TypeId) (pos : String) (after : Array Edge) : MSim P :=
 ⟨mkOp dst (.call { callee := .builtin .copy, args := #[d, s], argTypes := #[T, X] }) ty pos after, rfl, [d, s], fun ev st k => acopyV sz (ev d) (ev s) st k, fun ev ev' st k h => by simp only [h d (by simp), h s (by simp)], fun ev st k fin h g w a he hs => by
  have hv := he d (by simp)
  have hx := he s (by simp)
  unfold acopyV at h
  split at h
  ·rename_i j v s' n hd
   split at h
   ·rename_i hsz
    obtain rfl : s' = sz := by simpa using hsz
    rw [hd] at hv
    split at h
    ·rename_i rows hrows
     split at h
     ·rename_i v' cs hcs
      split at h
      ·rename_i hin
       rw [Bool.and_eq_true] at hin
       obtain rfl := Nat.eq_of_beq_eq_true hin.1
       have hin := hin.2
       rw [inC_iff, mulN, opq_eq, minN, opq_eq, Nat.zero_add] at hin
       rw [minN, opq_eq, setC, opq_eq, flC, opq_eq] at h
       obtain ⟨vs, k1, k2, k3, k4, k5⟩ := rowsA_first (P := P) hs hx (rowsT_rowsA hrows) (min rows.length n) (by omega)
       have hl := RelAll.length _ _ k1
       obtain ⟨b, cap, hv, hle, hj, hve, hb⟩ := hv
       have hp : Rel g w (.vp j v 0) (.pointer (some ⟨b, 0, none⟩)) := ⟨b, rfl, hj, hve, fun e => by
        obtain ⟨q1, C, E, fz, q2, _⟩ := hb e
        exact ⟨q1, lt_of_block q2⟩⟩
       obtain ⟨b', g', w', s0, s1, s2, s3⟩ := store_vec (P := P) hs hp hcs k1 k2 (by rw [hl, k3, Nat.zero_add]; exact hin)
       cases s0
       refine ⟨_, _, h, told_value (g' := g') (w' := w') (v := .int .i64 (min rows.length n : Nat)) ?_ rfl s2 s3⟩
       rw [callBuiltin]
       have hrun : (Builtin.copy_ #[T, X] ty #[a.eval d, a.eval s]).run P w = .ok (.int .i64 (min rows.length n : Nat)) w' := by
        unfold Builtin.copy_
        simp only [List.getElem?_toArray, List.getElem?_cons_zero, List.getElem?_cons_succ, Sem.run_bind, run_underlying hT w, Result.andThen_ok, hv, k4, run_sizeOf' hz w]
        rw [show Nat.min rows.length n = min rows.length n from rfl, k5]
        simp only [Result.andThen_ok, s1, Sem.run_pure, goInt]
       simp [builtin, hrun]
      ·cases h
     ·cases h
    ·cases h
   ·cases h
  ·exact (opCopy dst d s T X e sz hT hz ty pos after).sound ev st k fin h g w a he hs⟩
theorem opCopyV_nat {dst : Option Tmp} {d s : Operand} {T X e sz : Nat} {hT : P.underlying T = some (.slice e)} {hz : (P.info? e).map (·.size) = some sz} {ty : TypeId} {pos : String} {after : Array Edge} : (opCopyV (P := P) dst d s T X e sz hT hz ty pos after).NatM := fun ev st k => acopyV_nat _ _ _ _ _
end
end Go.V
namespace Go.V
section
variable {P : Program}
theorem more_nov {g : Gh} {st : St} {w : World} (hs : StRel g st w) {b0 : Nat} (hb0 : b0 < w.heap.size) (m : Nat) : ∃ g', StRel g' ⟨st.objs ++ List.replicate m (.nov 0), st.tk⟩ w ∧ Ev g w g' w := by
 let g' : Gh := ⟨g.kind, g.objs ++ List.replicate m b0, g.tk, fun x => if x < g.objs.length then g.ver x else 0⟩
 have hE : Ev g w g' w := by
  refine ⟨rfl, rfl, rfl, Nat.le_refl _, fun _ _ _ => ⟨rfl, rfl⟩, fun _ _ _ h => ⟨h, fun C _ _ hb => ⟨C, hb, rfl, fun _ _ => rfl⟩⟩, fun _ _ _ h => .inl h, fun k b hk => ?_, tk_refl _, fun k hk => ?_, fun _ _ _ _ h _ => ⟨h, fun C _ _ hb => ⟨C, hb, rfl⟩⟩, fun _ C _ fz h => ⟨C, fz, h, rfl⟩⟩
  ·show (g.objs ++ _)[k]? = _
   rw [List.getElem?_append_left (getElem?_lt hk)]; exact hk
  ·show g.ver k ≤ if k < g.objs.length then g.ver k else 0
   rw [if_pos hk]; exact Nat.le_refl _
 refine ⟨g', ⟨hs.tk, by simp [g', hs.len], fun k b o hk ho => ?_, fun b k hb hk => ?_, fun b t hb hk => hs.rowlt b t hb hk, fun b k hb hk => ?_, hs.glob.mono hE⟩, hE⟩
 ·by_cases hkl : k < st.objs.length
  ·rw [List.getElem?_append_left hkl] at ho
   have hk : (g.objs ++ List.replicate m b0)[k]? = some b := hk
   rw [List.getElem?_append_left (by rw [hs.len]; exact hkl)] at hk
   obtain ⟨p1, p2⟩ := hs.obj k b o hk ho
   refine ⟨p1, ?_⟩
   have hver : g'.ver k = g.ver k := by show (if k < g.objs.length then _ else _) = _; rw [if_pos (by rw [hs.len]; exact hkl)]
   cases o with
   | gone => trivial
   | nov v => exact hver.trans p2
   | cells cs' => exact p2.keep hE rfl rfl (fun b' hb' hh => ⟨rfl, hh⟩) hver
   | map es => exact p2.keep hE rfl rfl (fun b' hb' hh => ⟨rfl, hh⟩) hver
   | lp _ _ _ _ => exact p2.keep hE rfl rfl (fun b' hb' hh => ⟨rfl, hh⟩) hver
   | vec v cs' =>
    obtain ⟨e1, b'', e2, e3, C1, E1, e4, e5, e6⟩ := p2
    exact ⟨hver.trans e1, b'', e2, e3, C1, E1, e4, RelAll.mono hE _ _ e5, e6⟩
  ·rw [List.getElem?_append_right (by omega)] at ho
   have hk : (g.objs ++ List.replicate m b0)[k]? = some b := hk
   rw [List.getElem?_append_right (by rw [hs.len]; omega)] at hk
   rw [List.getElem?_replicate] at ho hk
   split at ho
   ·cases ho
    split at hk
    ·cases hk
     refine ⟨hb0, ?_⟩
     show (if k < g.objs.length then _ else _) = _
     rw [if_neg (by rw [hs.len]; exact hkl)]
    ·cases hk
   ·cases ho
 ·obtain ⟨o, h1, h2, h3⟩ := hs.back b k hb hk
  refine ⟨o, by rw [List.getElem?_append_left (getElem?_lt h1)]; exact h1, ?_, h3⟩
  show (g.objs ++ _)[k]? = _
  rw [List.getElem?_append_left (getElem?_lt h2)]; exact h2
 ·obtain ⟨⟨v, cs, h1⟩, h2⟩ := hs.vec b k hb hk
  exact ⟨⟨v, cs, by rw [List.getElem?_append_left (getElem?_lt h1)]; exact h1⟩, h2⟩
def aph (m : Nat) (st : St) (k : St → Ans) : Ans :=
 match st.objs with
 | [] => none
 | _ :: _ => k ⟨st.objs ++ List.replicate m (.nov 0), st.tk⟩
def MSim.ph (x : MSim P) (m : Nat) : MSim P where
 oper := x.oper
 plain := x.plain
 xs := x.xs
 f ev st k := x.f ev st fun r st' => aph m st' fun st'' => k r st''
 congr ev ev' st k h := x.congr ev ev' st _ h
 sound ev st k fin h g w a he hs := by
  obtain ⟨r, st', h1, h2⟩ := x.sound ev st _ fin h g w a he hs
  unfold aph at h1
  split at h1
  ·cases h1
  ·rename_i o os ho
   refine ⟨r, _, h1, fun next Q hn => h2 next Q fun v g' w' k1 k2 k3 => ?_⟩
   have hl : 0 < g'.objs.length := by rw [k2.len, ho]; simp
   have hb := (k2.obj 0 _ o (List.getElem?_eq_getElem hl) (by rw [ho]; rfl)).1
   obtain ⟨g'', q1, q2⟩ := more_nov k2 hb m
   exact hn v g'' w' (Rel.mono q2 _ _ k1) q1 (k3.trans q2)
structure OpSim2 (P : Program) where
 o1 : Oper
 o2 : Oper
 plain1 : o1.guard = none
 plain2 : o2.guard = none
 run : Cont → Env → St → Ans
 sound : ∀ K env st fin, run K env st = some fin → ∀ g w a, EnvRel g w env a → StRel g st w → ∀ next Q, Post K fin g w a.defers (Exit.then next Q) →
  ∀ ρ, ∀ N : Act → World → Prop, (∀ a w, o2.wpIn (Rd ρ) 0 P a w next Q → N a w) → o1.wpIn (Rd ρ) 0 P a w N Q
structure OpSim3 (P : Program) where
 o1 : Oper
 o2 : Oper
 o3 : Oper
 plain1 : o1.guard = none
 plain2 : o2.guard = none
 plain3 : o3.guard = none
 run : Cont → Env → St → Ans
 sound : ∀ K env st fin, run K env st = some fin → ∀ g w a, EnvRel g w env a → StRel g st w → ∀ next Q, Post K fin g w a.defers (Exit.then next Q) →
  ∀ ρ, ∀ N M : Act → World → Prop, (∀ a w, o3.wpIn (Rd ρ) 0 P a w next Q → M a w) → (∀ a w, o2.wpIn (Rd ρ) 0 P a w M Q → N a w) → o1.wpIn (Rd ρ) 0 P a w N Q
inductive Item (P : Program) where
 | one (o : OpSim P)
 | two (o : OpSim2 P)
 | three (o : OpSim3 P)
def Item.opers : Item P → List Oper
 | .one o => [o.oper]
 | .two o => [o.o1, o.o2]
 | .three o => [o.o1, o.o2, o.o3]
def runItems : List (Item P) → Cont → Env → St → Ans
 | [], K, env, st => K .normal env st
 | .one o :: r, K, env, st => o.run (Cont.then (runItems r K) K) env st
 | .two o :: r, K, env, st => o.run (Cont.then (runItems r K) K) env st
 | .three o :: r, K, env, st => o.run (Cont.then (runItems r K) K) env st
theorem wanted_plain {o : Oper} (h : o.guard = none) (f : Nat → Option Bool) : Region.wanted o f = true := by simp [Region.wanted, h]
theorem wpList_cons {ops : Array Oper} {Q : Exit → Act → World → Prop} {o : Oper} (h : o.guard = none) {r : List Oper} {a : Act} {w : World} {ρ : Option Nat} (hw : o.wpIn (Rd ρ) 0 P a w (wpListIn (Rd ρ) 0 P ops Q r) Q) : wpListIn (Rd ρ) 0 P ops Q (o :: r) a w := by
 unfold wpListIn
 rw [if_pos (wanted_plain h _)]
 exact hw
theorem runItems_sound (ops : Array Oper) : ∀ (l : List (Item P)) (K : Cont) (env : Env) (st : St) (fin : Fin × St), runItems l K env st = some fin → ∀ g w a, EnvRel g w env a → StRel g st w → ∀ Q, Post K fin g w a.defers Q → ∀ ρ,
  wpListIn (Rd ρ) 0 P ops Q (l.flatMap Item.opers) a w
 | [], K, env, st, fin, h, g, w, a, he, hs, Q, hp, ρ => hp .normal env st g w a .normal h he hs (Ev.refl g w) (.refl ..) rfl
 | x :: l, K, env, st, fin, h, g, w, a, he, hs, Q, hp, ρ => by
  have ih := runItems_sound ops l K
  have step : Post (Cont.then (runItems l K) K) fin g w a.defers (Exit.then (wpListIn (Rd ρ) 0 P ops Q (l.flatMap Item.opers)) Q) := by
   intro ex env' st' g' w' a' e k1 k2 k3 k4 k5 k6
   cases ex with
   | normal =>
    obtain rfl := k6
    exact ih env' st' fin k1 g' w' a' k2 k3 Q (hp.later2 k4 k5) ρ
   | exit id => obtain rfl := k6; exact hp _ _ _ _ _ _ _ k1 k2 k3 k4 k5 rfl
   | goto id => obtain rfl := k6; exact hp _ _ _ _ _ _ _ k1 k2 k3 k4 k5 rfl
   | ret => obtain rfl := k6; exact hp _ _ _ _ _ _ _ k1 k2 k3 k4 k5 rfl
   | panic v => obtain ⟨u, rfl, k7⟩ := k6; exact hp _ _ _ _ _ _ _ k1 k2 k3 k4 k5 ⟨u, rfl, k7⟩
  cases x with
  | one o => exact wpList_cons o.plain (o.sound _ env st fin h g w a he hs _ _ step ρ)
  | two o => exact wpList_cons o.plain1 (o.sound _ env st fin h g w a he hs _ _ step ρ _ fun a w hw => wpList_cons o.plain2 hw)
  | three o => exact wpList_cons o.plain1 (o.sound _ env st fin h g w a he hs _ _ step ρ _ _ (fun a w hw => wpList_cons o.plain3 hw) fun a w hw => wpList_cons o.plain2 hw)
def Sim.items (id : Nat) (l : List (Item P)) : Sim P where
 code := .region id (l.flatMap Item.opers).toArray false
 run F K env st := runItems l K env st
 sound F K env st fin hr g w a he hs Q hp ρ _ := by
  refine wpIn_region_list ?_
  have := runItems_sound (l.flatMap Item.opers).toArray l K env st fin hr g w a he hs Q hp ρ
  simpa using this
theorem setV_all : ∀ (L vs : List Value), vs.length = L.length → setV L 0 vs = vs
 | [], [], _ => rfl
 | l :: L, v :: vs, h => by
  have ih := setV_all L vs (by simpa using h)
  simp [setV, ih]
theorem alloc_setRow (w : World) (C D : Array Value) (E : TypeId) : (w.alloc (.cells C E)).setRow w.heap.size D = w.alloc (.cells D E) := by
 unfold World.setRow World.alloc
 congr 1
 apply Array.ext'
 apply List.ext_getElem?
 intro i
 rw [Array.getElem?_toList, Array.getElem?_toList, Array.getElem?_modify, Array.getElem?_push, Array.getElem?_push]
 by_cases h : i = w.heap.size
 ·subst h; simp
 ·rw [if_neg (fun e => h e.symm), if_neg h, if_neg h]
def apartT (x : Operand) (t : Tmp) : Bool :=
 match x with
 | .tmp s => !Nat.beq s t
 | .global _ => false
 | _ => true
theorem eval_put {a : Act} {x : Operand} {t : Tmp} {v : Value} (h : apartT x t = true) : (a.put (some t) v).eval x = a.eval x := by
 cases x with
 | tmp s =>
  have hne : t ≠ s := by
   intro e
   subst e
   simp [apartT] at h
  show ((a.tmps.setIfInBounds t v).getD s undef) = a.tmps.getD s undef
  simp only [Array.getD_eq_getD_getElem?, Array.getElem?_setIfInBounds, if_neg hne]
 | const v => rfl
 | func f => rfl
 | global g => cases h
def op2Box (dst : Tmp) (T : TypeId) (z : Value) (hz : (P.info? T).bind (·.zero) = some z) (x : Operand) (hx : apartT x dst = true) (sz : Nat) (hsz : (P.info? T).map (·.size) = some sz) (hzs : Nat.beq z.cells.size sz = true) (n : Nat) (hn : Nat.blt dst n = true) (ty ty' : TypeId) (pos pos' : String) (after after' : Array Edge) : OpSim2 P where
 o1 := mkOp (some dst) (.alloc T) ty pos after
 o2 := mkOp none (.store T (.tmp dst) x) ty' pos' after'
 plain1 := rfl
 plain2 := rfl
 run K env st := match Nat.beq env.n n with
  | true => match cellsA (env.eval x) with
   | some cs => match Nat.beq cs.length sz with
    | true => K .normal (env.put dst (.eptr cs)) st
    | false => none
   | none => none
  | false => none
 sound K env st fin h g w a he hs next Q hp ρ N hN := by
  split at h
  ·rename_i hen
   have hen := Nat.eq_of_beq_eq_true hen
   split at h
   ·rename_i cs hcs
    split at h
    ·rename_i hlen
     have hlen := Nat.eq_of_beq_eq_true hlen
     have hzs := Nat.eq_of_beq_eq_true hzs
     obtain ⟨h1, h1c⟩ := cellsA_rel hcs (he.eval x)
     have hl := RelAll.length _ _ h1
     have hlt : dst < a.tmps.size := by rw [he.size, hen]; simpa using hn
     have r1 : (execOp a.eval (mkOp (some dst) (.alloc T) ty pos after)).run P w = .ok (.value (.pointer (some ⟨w.heap.size, 0, none⟩))) (w.alloc (.cells z.cells T)) := by
      simp [execOp, mkOp, Instr.alloc, newVar, run_newRow, run_zeroValue' hz] <;> rfl
     have hp0 := Push.alloc w (.cells (a.eval x).cells T)
     have hE : Ev g w ⟨g.use w.heap.size .solid, g.objs, g.tk, g.ver⟩ (w.alloc (.cells (a.eval x).cells T)) := by simpa using Ev.push hp0 .solid [] g.tk (tk_refl _)
     have hs' := hs.push hp0 .solid g.tk (tk_refl _) trivial
     have hrel : Rel ⟨g.use w.heap.size .solid, g.objs, g.tk, g.ver⟩ (w.alloc (.cells (a.eval x).cells T)) (.eptr cs) (.pointer (some ⟨w.heap.size, 0, none⟩)) :=
      ⟨_, _, rfl, RelCells.of cs _ _ _ (RelAll.mono hE _ _ h1) fun j v hj => ⟨(solid_cells (g := g) hp0 g.tk (tk_refl _) g.objs j v hj).1, (solid_cells (g := g) hp0 g.tk (tk_refl _) g.objs j v hj).2, h1c v (List.mem_of_getElem? hj)⟩⟩
     have e1 : (a.put (some dst) (.pointer (some ⟨w.heap.size, 0, none⟩))).eval (.tmp dst) = .pointer (some ⟨w.heap.size, 0, none⟩) := by
      show (a.tmps.setIfInBounds dst _).getD dst undef = _
      simp only [Array.getD_eq_getD_getElem?, Array.getElem?_setIfInBounds, if_true, if_pos hlt, Option.getD_some]
     have e2 := eval_put (a := a) (v := .pointer (some ⟨w.heap.size, 0, none⟩)) hx
     have hC : (w.alloc (.cells z.cells T)).heap[w.heap.size]? = some (.cells z.cells T (0, 0)) := (Push.alloc w _).new
     have hcsz : (a.eval x).cells.toList.length = z.cells.toList.length := by rw [← hl, hlen, ← hzs]; simp
     have r2 := run_storeCells_gen (P := P) w.heap.size 0 T (0, 0) (a.eval x).cells.toList 0 z.cells (w.alloc (.cells z.cells T)) hC (by rw [hcsz]; simp) (fun j _ _ => by simp) h1c
     rw [Nat.add_zero, setV_all _ _ hcsz, Array.toArray_toList, alloc_setRow] at r2
     have r3 : (execOp (a.put (some dst) (.pointer (some ⟨w.heap.size, 0, none⟩))).eval (mkOp none (.store T (.tmp dst) x) ty' pos' after')).run P (w.alloc (.cells z.cells T)) = .ok .skip (w.alloc (.cells (a.eval x).cells T)) := by
      have hsize : (a.eval x).cells.size = sz := by rw [← hlen]; simpa using hl.symm
      simp [execOp, mkOp, Instr.storeAt, e1, e2, Instr.sureAddr, storeVar, run_sizeOf' hsz, hsize, r2]
     refine wpIn_value r1 ?_
     refine hN _ _ ?_
     refine wpIn_skip' r3 ?_
     have hstr : StRel ⟨g.use w.heap.size .solid, g.objs, g.tk, g.ver⟩ st (w.alloc (.cells (a.eval x).cells T)) := by rw [hs.tk] at hs' ⊢; exact hs'
     exact hp .normal _ st _ _ _ .normal h ((he.mono hE).put dst hrel) hstr hE (.of_eq (put_defers ..)) rfl
    ·cases h
   ·cases h
  ·cases h
end
end Go.V
namespace Go.V
section
variable {P : Program}
theorem RelRows.cells {g : Gh} {w : World} {sz : Nat} : ∀ {l : List (List AV)} {b o : Nat}, RelRows g w sz l b o → RelCells g w l.flatten b o := by
 intro l b o h
 obtain ⟨vs, h1, _, h3⟩ := RelRows.values sz l b o h
 exact RelCells.of _ vs b o h1 h3
noncomputable def aarrP (n sz : Nat) (x : AV) (k : AV → Ans) : Ans :=
 match x with
 | .ns _ s l => match Nat.beq s sz && Nat.ble n l.length with
  | true => k (.eptr (flC l n))
  | false => none
 | .sl s _ l => match Nat.beq s sz && Nat.ble n l.length with
  | true => k (.eptr (flC l n))
  | false => none
 | .ms j s o m _ => match Nat.beq s sz && Nat.ble n m with
  | true => k (.ptr j o)
  | false => none
 | .vs j v s m => match Nat.beq s sz && Nat.ble n m with
  | true => k (.vp j v 0)
  | false => none
 | _ => none
noncomputable def opArrPtr (dst : Option Tmp) (T : TypeId) (x : Operand) (n e sz : Nat) (hT : P.underlying T = some (.array n e)) (hn : n ≠ 0) (ty : TypeId) (pos : String) (after : Array Edge) : PSim P :=
 PSim.quiet (mkOp dst (.sliceToArrayPointer T x) ty pos after) rfl [x] (fun ev k => aarrP n sz (ev x) k) (fun ev ev' k h => by simp only [h x (by simp)]) fun ev k fin h g w a st he hs => by
  have hv := he x (by simp)
  have key : ∀ p m cap, a.eval x = .slice p m cap → n ≤ m → (execOp a.eval (mkOp dst (.sliceToArrayPointer T x) ty pos after)).run P w = .ok (.value (.pointer p)) w := by
   intro p m cap h1 h2
   simp [execOp, mkOp, Instr.arrayAt, run_underlying hT, h1, Nat.not_lt.mpr h2]
  have frozen : ∀ {b o sp cap} {l : List (List AV)}, a.eval x = .slice (some ⟨b, o, sp⟩) l.length cap → n ≤ l.length → (sp = none ∨ l = []) → RelRows g w sz l b o → Rel g w (.eptr (flC l n)) (.pointer (some ⟨b, o, sp⟩)) := by
   intro b o sp cap l h1 h2 h3 h4
   have hsp : sp = none := by
    rcases h3 with h3 | h3
    ·exact h3
    ·subst h3; simp at h2; omega
   subst hsp
   rw [flC, opq_eq]
   exact ⟨b, o, rfl, (RelRows.take sz n l b o h4).cells⟩
  unfold aarrP at h
  split at h
  ·rename_i z s l hb
   split at h
   ·rename_i hc
    rw [Bool.and_eq_true] at hc
    obtain rfl := Nat.eq_of_beq_eq_true hc.1
    have hle := Nat.le_of_ble_eq_true hc.2
    rw [hb] at hv
    rcases hv with ⟨_, r2, _⟩ | ⟨_, b, o, sp, cap, r1, r2, r3, r4⟩
    ·subst r2; simp at hle; omega
    ·exact ⟨_, _, h, key _ _ _ r1 hle, frozen r1 hle r3 r4⟩
   ·cases h
  ·rename_i s f l hb
   split at h
   ·rename_i hc
    rw [Bool.and_eq_true] at hc
    obtain rfl := Nat.eq_of_beq_eq_true hc.1
    have hle := Nat.le_of_ble_eq_true hc.2
    rw [hb] at hv
    obtain ⟨b, o, sp, cap, r1, r2, _, r3, r4⟩ := hv
    exact ⟨_, _, h, key _ _ _ r1 hle, frozen r1 hle r3 r4⟩
   ·cases h
  ·rename_i j s o m cap hb
   split at h
   ·rename_i hc
    rw [Bool.and_eq_true] at hc
    have hle := Nat.le_of_ble_eq_true hc.2
    rw [hb] at hv
    obtain ⟨b, r1, r2, _⟩ := hv
    exact ⟨_, _, h, key _ _ _ r2 hle, b, r1, rfl⟩
   ·cases h
  ·rename_i j v s m hb
   split at h
   ·rename_i hc
    rw [Bool.and_eq_true] at hc
    have hle := Nat.le_of_ble_eq_true hc.2
    rw [hb] at hv
    obtain ⟨b, c, r1, r2, r3, r4, r5⟩ := hv
    exact ⟨_, _, h, key _ _ _ r1 hle, b, rfl, r3, r4, fun e => by
     obtain ⟨q1, C, E, fz, q2, _⟩ := r5 e
     exact ⟨q1, lt_of_block q2⟩⟩
   ·cases h
  ·cases h
noncomputable def aloadA (sz : Nat) (p : AV) (st : St) (k : AV → Ans) : Ans :=
 match p with
 | .eptr cs => match inC cs 0 sz with
  | true => k (.agg (subC cs 0 sz))
  | false => none
 | .ptr j o => match st.objs[j]? with
  | some (.cells cs) => match inC cs o sz with
   | true => k (.agg (subC cs o sz))
   | false => none
  | _ => none
 | .vp j v o => match st.objs[j]? with
  | some (.vec v' cs) => match Nat.beq v v' && inC cs o sz with
   | true => k (.agg (subC cs o sz))
   | false => none
  | _ => none
 | _ => none
theorem apart_sub {cs : List AV} {o sz : Nat} {k : AV → Ans} (h : inC cs o sz = true) : V.apart true sz (cs.drop o) k = k (.agg (subC cs o sz)) := by
 rw [inC_iff] at h
 unfold V.apart
 simp only [takeN_some sz (cs.drop o) (by simp; omega), subC, opq_eq]
noncomputable def opLoadA (dst : Option Tmp) (T : TypeId) (x : Operand) (d : TypeDesc) (hd : P.underlying T = some d) (ha : isAggD d = true) (sz : Nat) (hz : (P.info? T).map (·.size) = some sz) (ty : TypeId) (pos : String) (after : Array Edge) : QSim P :=
 (opLoad dst T x d hd sz hz ty pos after).by' (fun ev st k => aloadA sz (ev x) st k) (fun ev ev' st k h => by simp only [h x (by simp [opLoad, QSim.quiet])]) fun ev st k fin h => by
  show aload (isAggD d) sz (ev x) st k = some fin
  rw [ha]
  generalize ev x = p at h ⊢
  unfold aloadA at h
  unfold aload
  split at h
  ·split at h
   ·rename_i cs hc
    have := apart_sub (k := k) hc
    rw [List.drop_zero] at this
    simp only [this]; exact h
   ·cases h
  ·split at h
   ·rename_i hcs
    split at h
    ·rename_i hc
     simp only [hcs, apart_sub (k := k) hc]; exact h
    ·cases h
   ·cases h
  ·split at h
   ·rename_i hcs
    split at h
    ·rename_i hc
     rw [Bool.and_eq_true] at hc
     simp only [hcs, hc.1, apart_sub (k := k) hc.2]; exact h
    ·cases h
   ·cases h
  ·cases h
theorem aloadA_nat (sz : Nat) (p : AV) (st : St) (k : AV → Ans) : aloadA sz p st k = thenA (aloadA sz p st retA) k := by
 unfold aloadA
 split
 ·split <;> rfl
 ·split
  ·split <;> rfl
  ·rfl
 ·split
  ·split <;> rfl
  ·rfl
 ·rfl
theorem opLoadA_nat {dst : Option Tmp} {T : TypeId} {x : Operand} {d : TypeDesc} {hd : P.underlying T = some d} {ha : isAggD d = true} {sz : Nat} {hz : (P.info? T).map (·.size) = some sz} {ty : TypeId} {pos : String} {after : Array Edge} : (opLoadA (P := P) dst T x d hd ha sz hz ty pos after).Nat := fun ev st k => aloadA_nat _ _ _ _
noncomputable def zAr (n : Nat) (x : AV) : List AV := opq (List.replicate n x)
noncomputable def opAllocZ (n : Nat) (x : AV) (dst : Option Tmp) (T : TypeId) (z : Value) (hz : (P.info? T).bind (·.zero) = some z) (hx : cellsA (ofLit z) = some (List.replicate n x)) (ty : TypeId) (pos : String) (after : Array Edge) : MSim P :=
 (opAlloc dst T z hz ty pos after).by' (fun ev st k => k (.ptr st.objs.length 0) ⟨st.objs ++ [.cells (zAr n x)], st.tk⟩) (fun _ _ _ _ _ => rfl) fun ev st k fin h => by
  show (match cellsA (ofLit z) with | some cs => k (.ptr st.objs.length 0) ⟨st.objs ++ [.cells cs], st.tk⟩ | none => none) = some fin
  rw [hx]
  rw [zAr, opq_eq] at h
  exact h
def endB (xs r : List AV) : List AV :=
 match r with
 | [] => xs
 | r => xs ++ r
theorem endB_eq (xs r : List AV) : endB xs r = xs ++ r := by
 unfold endB
 split
 ·simp
 ·rfl
def cutIn : List AV → Nat → Nat → List AV → List AV
 | cs, 0, sz, xs => endB xs (cs.drop sz)
 | c :: cs, off + 1, sz, xs => c :: cutIn cs off sz xs
 | [], _ + 1, _, xs => xs
theorem cutIn_eq : ∀ (cs : List AV) (off : Nat) (xs : List AV), off + xs.length ≤ cs.length → cutIn cs off xs.length xs = setAt cs off xs
 | [], 0, [], _ => rfl
 | [], 0, x :: xs, h => by simp at h
 | [], off + 1, xs, h => by simp at h
 | c :: cs, 0, [], _ => by simp [cutIn, endB, setAt]
 | c :: cs, 0, x :: xs, h => by
  have ih := cutIn_eq cs 0 xs (by simpa using h)
  rw [show cutIn cs 0 xs.length xs = endB xs (cs.drop xs.length) by cases cs <;> rfl, endB_eq] at ih
  rw [show cutIn (c :: cs) 0 (x :: xs).length (x :: xs) = endB (x :: xs) ((c :: cs).drop (x :: xs).length) from rfl, endB_eq]
  simp only [List.length_cons, List.drop_succ_cons, List.cons_append, setAt, ih]
 | c :: cs, off + 1, xs, h => by
  have ih := cutIn_eq cs off xs (by simp at h ⊢; omega)
  rw [show cutIn (c :: cs) (off + 1) xs.length xs = c :: cutIn cs off xs.length xs from rfl, ih]
  cases xs with
  | nil => cases cs <;> rfl
  | cons x xs => rfl
def cutK : List AV → Nat → Nat → List AV → (List AV → Ans) → Ans
 | cs, 0, sz, xs, k => match cs.drop sz with
  | [] => k xs
  | c :: r => k (xs ++ c :: r)
 | c :: cs, off + 1, sz, xs, k => cutK cs off sz xs fun l => k (c :: l)
 | [], _ + 1, _, xs, k => k xs
theorem cutK_eq : ∀ (cs : List AV) (off sz : Nat) (xs : List AV) (k : List AV → Ans), cutK cs off sz xs k = k (cutIn cs off sz xs)
 | [], 0, sz, xs, k => by simp [cutK, cutIn, endB]
 | c :: cs, 0, sz, xs, k => by
  rw [show cutIn (c :: cs) 0 sz xs = endB xs ((c :: cs).drop sz) from rfl, show cutK (c :: cs) 0 sz xs k = (match (c :: cs).drop sz with | [] => k xs | c :: r => k (xs ++ c :: r)) from rfl]
  unfold endB
  split
  ·rename_i h; rw [h]
  ·rename_i h; rw [h]
 | c :: cs, off + 1, sz, xs, k => by
  rw [show cutK (c :: cs) (off + 1) sz xs k = cutK cs off sz xs (fun l => k (c :: l)) from rfl, cutK_eq cs off sz xs]; rfl
 | [], _ + 1, _, xs, k => rfl
def apartsC : List (Nat × Nat × AV) → List AV → (List AV → Ans) → Ans
 | [], cs, k => k cs
 | (off, sz, x) :: r, cs, k => match cellsA x with
  | some xs => match Nat.beq xs.length sz && Nat.ble (off + sz) cs.length with
   | true => cutK cs off sz xs fun cs' => apartsC r cs' k
   | false => none
  | none => none
theorem apartsC_aparts : ∀ (l : List (Nat × Nat × AV)) (cs : List AV) (k : List AV → Ans) (fin : Fin × St), apartsC l cs k = some fin → aparts l cs k = some fin
 | [], cs, k, fin, h => h
 | (off, sz, x) :: r, cs, k, fin, h => by
  simp only [apartsC] at h
  simp only [aparts]
  split at h
  ·rename_i xs hxs
   split at h
   ·rename_i hc
    rw [Bool.and_eq_true] at hc
    have h1 := Nat.eq_of_beq_eq_true hc.1
    have h2 := Nat.le_of_ble_eq_true hc.2
    subst h1
    rw [cutK_eq, cutIn_eq _ _ _ h2] at h
    simp only [hxs]
    rw [if_pos ⟨trivial, h2⟩]
    exact apartsC_aparts r _ k fin h
   ·cases h
  ·cases h
def abuildC (Z : Array Value) (parts : List (Nat × Nat × AV)) (k : AV → Ans) : Ans := apartsC parts (Z.toList.map ofLitS) fun cs => k (.agg cs)
def opBuildC (dst : Option Tmp) (T : TypeId) (Z : Array Value) (parts : List (Nat × Nat × Nat × Operand)) (hz : (P.info? T).bind (·.zero) = some (.agg Z)) (hb : buildB P T Z parts = true) (ty : TypeId) (pos : String) (after : Array Edge) : PSim P :=
 (opBuild dst T Z parts hz hb ty pos after).by' (fun ev k => abuildC Z (parts.map fun p => (p.2.1, p.2.2.1, ev p.2.2.2)) k) (fun ev ev' k h => by rw [parts_ev h]) fun ev k fin h => by
  show aparts _ _ _ = _
  exact apartsC_aparts _ _ _ _ h
def abuild1 (sz : Nat) (x : AV) (k : AV → Ans) : Ans :=
 match cellsA x with
 | some xs => match Nat.beq xs.length sz with
  | true => k (.sl sz true [xs])
  | false => none
 | none => none
def opBuildSlice1 (dst : Option Tmp) (T : TypeId) (x : Operand) (e sz bytes : Nat) (z : Value) (hT : ElemOf P T e sz bytes z) (h1 : z.cells.toList.all Value.oneCell' = true) (hl : 1 * sz ≤ 16777216) (ty : TypeId) (pos : String) (after : Array Edge) : PSim P :=
 (opBuildSlice dst T 1 [(0, x)] e sz bytes z hT h1 hl ty pos after).by' (fun ev k => abuild1 sz (frz (ev x)) k) (fun ev ev' k h => by rw [h x (by simp [opBuildSlice, PSim.makes])]) fun ev k fin h => by
  show abuildSl sz 1 [(0 * sz, sz, frz (ev x))] k = some fin
  unfold abuild1 at h
  split at h
  ·rename_i xs hxs
   split at h
   ·rename_i hc
    have hc := Nat.eq_of_beq_eq_true hc
    subst hc
    have e1 : setAt (List.replicate (1 * xs.length) .dead) (0 * xs.length) xs = xs := by
     rw [← cutIn_eq _ _ _ (by simp), Nat.zero_mul]
     rw [show cutIn (List.replicate (1 * xs.length) .dead) 0 xs.length xs = endB xs ((List.replicate (1 * xs.length) AV.dead).drop xs.length) by cases (List.replicate (1 * xs.length) AV.dead) <;> rfl, endB_eq]
     simp
    have e2 : rowsOf xs.length 1 xs = some [xs] := by simp [rowsOf, takeN_some xs.length xs (Nat.le_refl _)]
    simp only [abuildSl, aparts, hxs]
    rw [if_pos (by simp), e1]
    simp only [e2]
    exact h
   ·cases h
  ·cases h
theorem abuild1_nat (sz : Nat) (x : AV) (k : AV → Ans) : abuild1 sz x k = thenA (abuild1 sz x retA) k := by
 unfold abuild1
 split
 ·split <;> rfl
 ·rfl
theorem opBuildSlice1_nat {dst : Option Tmp} {T : TypeId} {x : Operand} {e sz bytes : Nat} {z : Value} {hT : ElemOf P T e sz bytes z} {h1 : z.cells.toList.all Value.oneCell' = true} {hl : 1 * sz ≤ 16777216} {ty : TypeId} {pos : String} {after : Array Edge} : (opBuildSlice1 (P := P) dst T x e sz bytes z hT h1 hl ty pos after).Nat := fun ev k => abuild1_nat _ _ _
noncomputable def aslB (n sz : Nat) (x : AV) (lo hi mx : Option AV) (st : St) (k : AV → Ans) : Ans :=
 match x with
 | .ptr b o => abounds n lo hi mx fun i j m => if i < m.getD n then k (.ms b sz (o + i * sz) (j - i) (m.getD n - i)) else k (.sl sz true [])
 | .eptr cs => abounds n lo hi mx fun i j m => match inC cs (i * sz) (mulN (j - i) sz) with
  | true => k (.ns false sz (rowsC sz (j - i) cs (i * sz)))
  | false => none
 | .vp q v o => match Nat.beq o 0 with
  | true => match st.objs[q]? with
   | some (.vec v' cs) => match Nat.beq v v' && inC cs 0 (mulN n sz) with
    | true => abounds n lo hi mx fun i j m => match Nat.beq i 0 && m.isNone with
     | true => match okAll sz with
      | true => k (.vs q v sz j)
      | false => none
     | false => none
    | false => none
   | _ => none
  | false => none
 | _ => none
noncomputable def opSliceB (dst : Option Tmp) (T : TypeId) (x : Operand) (lo hi mx : Option Operand) (n e sz : Nat) (hT : P.underlying T = some (.array n e)) (hn : n ≠ 0) (hz : (P.info? e).map (·.size) = some sz) (ty : TypeId) (pos : String) (after : Array Edge) : QSim P :=
 QSim.quiet (mkOp dst (.slice T x lo hi mx) ty pos after) rfl (sliceOps x lo hi mx) (fun ev st k => aslB n sz (ev x) (lo.map ev) (hi.map ev) (mx.map ev) st k)
  (fun ev ev' st k h => by simp only [h x sliceOps_x, map_evO h (o := lo) sliceOps_lo, map_evO h (o := hi) sliceOps_hi, map_evO h (o := mx) sliceOps_mx]) fun ev st k fin h g w a he hs => by
  have hv := he x sliceOps_x
  have key : ∀ b o i j m, a.eval x = .pointer (some ⟨b, o, none⟩) → (Instr.sliceBounds false n n (lo.map a.eval) (hi.map a.eval) (mx.map a.eval)).run P w = .ok (i, j, m) w →
    (execOp a.eval (mkOp dst (.slice T x lo hi mx) ty pos after)).run P w = .ok (.value (.slice (some (if m = i then ⟨b, o, none⟩ else ⟨b, o + i * sz, none⟩)) (j - i) (m - i))) w := by
   intro b o i j m h1 h2
   simp [execOp, mkOp, Instr.sliceAt, run_underlying hT, h1, Instr.sureAddr, h2, run_sizeOf' hz, add_none]
  unfold aslB at h
  split at h
  ·rename_i b0 o hb
   rw [hb] at hv
   obtain ⟨b, hg, hv⟩ := hv
   obtain ⟨i, j, m, h1, h2, h3, h4, h5⟩ := abounds_run (P := P) he sliceOps_lo sliceOps_hi sliceOps_mx h
   have hr := key b o i j _ hv (h5 false n (Nat.le_refl _))
   split at h1
   ·rename_i hi
    have hne : ¬ m.getD n = i := by omega
    rw [if_neg hne] at hr
    exact ⟨_, _, h1, hr, b, hg, rfl, by omega⟩
   ·rename_i hi
    have he : m.getD n = i := by omega
    rw [if_pos he] at hr
    refine ⟨_, _, h1, hr, b, o, none, m.getD n - i, ?_, by simp, fun _ => by simp; omega, .inl rfl, trivial⟩
    rw [show j - i = 0 by omega]; rfl
  ·rename_i cs hb
   rw [hb] at hv
   obtain ⟨b, o, hv, hc⟩ := hv
   obtain ⟨i, j, m, h1, h2, h3, h4, h5⟩ := abounds_run (P := P) he sliceOps_lo sliceOps_hi sliceOps_mx h
   have hr := key b o i j _ hv (h5 false n (Nat.le_refl _))
   split at h1
   ·rename_i hin
    have hrows := rowsC_some hin
    obtain ⟨e1, e2⟩ := rowsOf_rel sz (j - i) _ b (o + i * sz) _ hrows (RelCells.drop (i * sz) cs b o hc)
    refine ⟨_, _, h1, hr, .inr ⟨rfl, ?_⟩⟩
    by_cases hm : m.getD n = i
    ·rw [if_pos hm]
     have h0 : rowsC sz (j - i) cs (i * sz) = [] := List.eq_nil_of_length_eq_zero (by rw [e1]; omega)
     rw [h0]
     exact ⟨b, o, none, m.getD n - i, by rw [show j - i = 0 by omega]; rfl, by simp, .inl rfl, trivial⟩
    ·rw [if_neg hm]
     exact ⟨b, o + i * sz, none, _, by rw [e1], by rw [e1]; omega, .inl rfl, e2⟩
   ·cases h1
  ·rename_i q v o hb
   split at h
   ·rename_i ho
    obtain rfl := Nat.eq_of_beq_eq_true ho
    rw [hb] at hv
    split at h
    ·rename_i v' cs hcs
     split at h
     ·rename_i hc
      rw [Bool.and_eq_true, inC_iff, mulN, opq_eq, Nat.zero_add] at hc
      obtain rfl := Nat.eq_of_beq_eq_true hc.1
      obtain ⟨b, hv1, hbl, hkb, C, E, hC, hr0, hrc⟩ := vp_of hs hv hcs
      obtain ⟨_, _, hj, hve, _⟩ := hv
      obtain ⟨i, j, m, h1, h2, h3, h4, h5⟩ := abounds_run (P := P) he sliceOps_lo sliceOps_hi sliceOps_mx h
      have hr := key b 0 i j _ hv1 (h5 false n (Nat.le_refl _))
      split at h1
      ·rename_i hi
       split at h1
       case h_2 => cases h1
       rename_i hoka
       simp only [Bool.and_eq_true, Option.isNone_iff_eq_none] at hi
       obtain ⟨hi, rfl⟩ := hi
       obtain rfl := Nat.eq_of_beq_eq_true hi
       simp only [Option.getD_none] at h3 h4 hr
       have hne : ¬ n = 0 := hn
       rw [if_neg hne, Nat.zero_mul] at hr
       have hl := RelAll.length _ _ hr0
       rw [List.length_take] at hl
       have hcs2 : C.toList.length = C.size := Array.length_toList
       exact ⟨_, _, h1, hr, b, n, rfl, by omega, hj, hve, fun _ => ⟨hkb, C, E, (0, 0), hC, okAll_all hoka E, by omega⟩⟩
      ·cases h1
     ·cases h
    ·cases h
   ·cases h
  ·cases h
theorem bnd_nat {x : Option AV} {y d : Nat} {k k' : Nat → Ans} {K : AV → Ans} (h : ∀ n, k n = thenA (k' n) K) : bnd x y d k = thenA (bnd x y d k') K := by
 unfold bnd
 split
 ·exact h _
 ·split
  ·split
   ·exact h _
   ·rfl
  ·rfl
theorem abounds_nat {n : Nat} {lo hi mx : Option AV} {k k' : Nat → Nat → Option Nat → Ans} {K : AV → Ans} (h : ∀ i j m, k i j m = thenA (k' i j m) K) : abounds n lo hi mx k = thenA (abounds n lo hi mx k') K := by
 unfold abounds
 split
 ·exact bnd_nat fun _ => bnd_nat fun _ => h _ _ _
 ·split
  ·rfl
  ·exact bnd_nat fun _ => bnd_nat fun _ => bnd_nat fun _ => h _ _ _
theorem opSliceB_nat {dst : Option Tmp} {T : TypeId} {x : Operand} {lo hi mx : Option Operand} {n e sz : Nat} {hT : P.underlying T = some (.array n e)} {hn : n ≠ 0} {hz : (P.info? e).map (·.size) = some sz} {ty : TypeId} {pos : String} {after : Array Edge} : (opSliceB (P := P) dst T x lo hi mx n e sz hT hn hz ty pos after).Nat := by
 intro ev st k
 show aslB n sz (ev x) (lo.map ev) (hi.map ev) (mx.map ev) st k = thenA (aslB n sz (ev x) (lo.map ev) (hi.map ev) (mx.map ev) st retA) k
 unfold aslB
 split
 ·exact abounds_nat fun i j m => by split <;> rfl
 ·exact abounds_nat fun i j m => by split <;> rfl
 ·split
  ·split
   ·split
    ·exact abounds_nat fun i j m => by (repeat' split) <;> rfl
    ·rfl
   ·rfl
  ·rfl
 ·rfl
theorem opSlice_nat {dst : Option Tmp} {T : TypeId} {x : Operand} {lo hi mx : Option Operand} {e sz : Nat} {hT : P.underlying T = some (.slice e)} {hz : (P.info? e).map (·.size) = some sz} {ty : TypeId} {pos : String} {after : Array Edge} : (opSlice (P := P) dst T x lo hi mx e sz hT hz ty pos after).Nat := by
 intro ev k
 show asl sz (ev x) (lo.map ev) (hi.map ev) (mx.map ev) k = thenA (asl sz (ev x) (lo.map ev) (hi.map ev) (mx.map ev) retA) k
 unfold asl
 split
 ·exact abounds_nat fun i j m => rfl
 ·split
  ·exact abounds_nat fun i j m => rfl
  ·rfl
 ·split
  ·exact abounds_nat fun i j m => rfl
  ·rfl
 ·split
  ·exact abounds_nat fun i j m => by split <;> rfl
  ·rfl
 ·split
  ·exact abounds_nat fun i j m => rfl
  ·rfl
 ·split
  ·exact abounds_nat fun i j m => by split <;> rfl
  ·rfl
 ·rfl
theorem vec_new {g : Gh} {st : St} {w w1 : World} {C : Array Value} {E : TypeId} (hs : StRel g st w) (hp : Push w w1 (.cells C E)) {cs : List AV} (hr : RelAll g w cs (C.toList.take cs.length)) (h1 : ∀ u ∈ C.toList.take cs.length, u.oneCell' = true) :
  ∃ g', StRel g' ⟨st.objs ++ [.vec 0 cs], st.tk⟩ w1 ∧ Ev g w g' w1 ∧ (∀ c sz n, n ≤ c → c * sz ≤ C.size → okE sz E = true → Rel g' w1 (.vs st.objs.length 0 sz n) (.slice (some ⟨w.heap.size, 0, none⟩) n c)) ∧ ∀ off, Rel g' w1 (.vp st.objs.length 0 off) (.pointer (some ⟨w.heap.size, off, none⟩)) := by
 refine vec_moved (gos := g.objs ++ [w.heap.size]) hs hp (fun o ho => ?_) ?_ (fun k b hk => ?_) (fun k b hk => ?_) (by simp [hs.len]) (by simp) (fun k hk => ?_) hr h1
 ·rw [List.getElem?_eq_none (Nat.le_refl _)] at ho; cases ho
 ·rw [List.getElem?_append_right (by rw [hs.len]; exact Nat.le_refl _)]; simp [hs.len]
 ·rw [List.getElem?_append_left (getElem?_lt hk)]; exact hk
 ·rcases Nat.lt_or_ge k g.objs.length with hlt | hge
  ·rw [List.getElem?_append_left hlt] at hk; exact .inl hk
  ·have hlt := getElem?_lt hk
   rw [List.length_append, List.length_singleton] at hlt
   have : k = g.objs.length := by omega
   subst this
   rw [List.getElem?_append_right (Nat.le_refl _)] at hk
   simp at hk
   exact .inr ⟨hs.len, hk.symm⟩
 ·rcases Nat.lt_or_ge k st.objs.length with hlt | hge
  ·rw [List.getElem?_append_left hlt]
  ·rw [List.getElem?_eq_none (by simp; omega), List.getElem?_eq_none hge]
def amakeG (sz bytes : Nat) (r : Option (Option Nat)) (x c : AV) (st : St) (k : AV → St → Ans) : Ans :=
 match x with
 | .int _ n => match c with
  | .int _ m => match decide (n = 0) && mkOkC bytes m with
   | true => match r with
    | none => k (.vs st.objs.length 0 sz 0) ⟨st.objs ++ [.vec 0 []], st.tk⟩
    | some r => match r with
     | some j => match verO st.objs[j]? with
      | some v => k (.vs j (v + 1) sz 0) ⟨st.objs.set j (.vec (v + 1) []), st.tk⟩
      | none => none
     | none => none
   | false => none
  | _ => none
 | _ => none
where mkOkC (bytes : Nat) (m : Int) : Bool := decide (0 ≤ m) && decide ((bytes : Int) * m ≤ 281474976710656)
def opMakeG (nw : Bool) (b : Option Operand) (d : Nat) (dst : Option Tmp) (T : TypeId) (x c : Operand) (e sz bytes : Nat) (z : Value) (hT : ElemOf P T e sz bytes z) (ty : TypeId) (pos : String) (after : Array Edge) (hok : okE sz e = true := by rfl) : MSim P :=
 MSim.makes (mkOp dst (.makeSlice T x c) ty pos after) rfl ([x, c] ++ rgOps b) (fun ev st k => amakeG sz bytes (bif nw then none else some (rgN (b.map ev) d)) (ev x) (ev c) st k) (fun ev ev' st k h => by rw [rg_ev h, h x (by simp), h c (by simp)]) fun ev st k fin h g w a he hs => by
  have hx := he x (by simp)
  have hcv := he c (by simp)
  unfold amakeG at h
  split at h
  ·rename_i kd n hb
   split at h
   ·rename_i kd' m hb'
    split at h
    ·rename_i hc
     simp only [amakeG.mkOkC, Bool.and_eq_true, decide_eq_true_eq] at hc
     obtain ⟨rfl, h0, h1⟩ := hc
     rw [hb] at hx
     rw [hb'] at hcv
     have hx : a.eval x = .int kd 0 := hx
     have hcv : a.eval c = .int kd' m := hcv
     obtain ⟨i, q1, q2, q3, q4⟩ := hT.info
     have hpos := hT.pos
     have h63 : m ≤ 9223372036854775807 := by
      have : (1 : Int) * m ≤ (bytes : Int) * m := Int.mul_le_mul_of_nonneg_right (by omega) h0
      omega
     have hrun := run_make (P := P) w T e i z hT.1 q1 q4 kd kd' 0 m (Int.le_refl _) h0 (by rw [q3]; exact h1) h63
     have hrun' : (execOp a.eval (mkOp dst (.makeSlice T x c) ty pos after)).run P w = .ok (.value (.slice (some ⟨w.heap.size, 0, none⟩) 0 m.toNat)) (w.alloc (.cells (madeCells z.cells (m.toNat * i.size)) e)) := by
      simp only [execOp, mkOp, hx, hcv, Sem.run_bind, hrun, Result.andThen_ok]; rfl
     have hsz : m.toNat * sz ≤ (madeCells z.cells (m.toNat * i.size)).size := by rw [q2]; simp [madeCells]
     split at h
     ·obtain ⟨g', k1, k2, k3, _⟩ := vec_new hs (Push.alloc w (.cells (madeCells z.cells (m.toNat * i.size)) e)) (cs := []) rfl (by simp)
      exact ⟨_, _, _, g', _, h, hrun', k3 m.toNat sz 0 (Nat.zero_le _) hsz hok, k1, k2⟩
     ·split at h
      ·rename_i j
       split at h
       ·rename_i v hvv
        obtain ⟨g', k1, k2, k3, _⟩ := reg_moved hs (Push.alloc w (.cells (madeCells z.cells (m.toNat * i.size)) e)) hvv (cs := []) rfl (by simp)
        exact ⟨_, _, _, g', _, h, hrun', k3 m.toNat sz 0 (Nat.zero_le _) hsz hok, k1, k2⟩
       ·cases h
      ·cases h
    ·cases h
   ·cases h
  ·cases h
end
end Go.V
namespace Go.V
section
variable {P : Program}
mutual
theorem ren_id : ∀ a : AV, ren (fun k => k) a = a
 | .bool _ => rfl
 | .int _ _ => rfl
 | .str _ => rfl
 | .nilptr => rfl
 | .nilsl => rfl
 | .nilmap => rfl
 | .nilfn => rfl
 | .nilif => rfl
 | .ptr k off => rfl
 | .tp k E m' => rfl
 | .eptr cs => rfl
 | .sl _ _ _ => rfl
 | .lg _ _ _ => rfl
 | .ms k sz off n cap => rfl
 | .mp k => rfl
 | .fn f a c => by simp only [ren, renL_id a, renL_id c]
 | .ifc t v => by simp only [ren, ren_id v]
 | .agg cs => by simp only [ren, renL_id cs]
 | .tup cs => by simp only [ren, renL_id cs]
 | .dead => rfl
 | .ns _ _ _ => rfl
 | .vs k v sz n => rfl
 | .vp k v off => rfl
theorem renL_id : ∀ l : List AV, renL (fun k => k) l = l
 | [] => rfl
 | x :: l => by simp only [renL, ren_id x, renL_id l]
end
theorem renO_id (o : Ob) : renO (fun k => k) o = o := by
 cases o with
 | cells cs => simp only [renO, renL_id]
 | map es => simp only [renO, ren_id]; simp
 | vec v cs => simp only [renO, renL_id]
 | gone => rfl
 | nov v => rfl
 | lp s j f tm => simp only [renO, renL_id]
mutual
theorem ren_near {n : Nat} {ρ τ : Nat → Nat} (h : ∀ k, k < n → ρ k = τ k) : ∀ a : AV, Near n a → ren ρ a = ren τ a
 | .bool _, _ => rfl
 | .int _ _, _ => rfl
 | .str _, _ => rfl
 | .nilptr, _ => rfl
 | .nilsl, _ => rfl
 | .nilmap, _ => rfl
 | .nilfn, _ => rfl
 | .nilif, _ => rfl
 | .ptr k off, s => by simp only [ren, h k s]
 | .tp k E m', s => by simp only [ren, h k s]
 | .eptr cs, _ => rfl
 | .sl _ _ _, _ => rfl
 | .lg _ _ _, _ => rfl
 | .ms k sz off n cap, s => by simp only [ren, h k s]
 | .mp k, s => by simp only [ren, h k s]
 | .fn f a c, s => by simp only [ren, renL_near h a s.2.1, renL_near h c s.2.2]
 | .ifc t v, s => by simp only [ren, ren_near h v s]
 | .agg cs, s => by simp only [ren, renL_near h cs s]
 | .tup cs, s => by simp only [ren, renL_near h cs s]
 | .dead, _ => rfl
 | .ns _ _ _, _ => rfl
 | .vs k v sz n, s => by simp only [ren, h k s]
 | .vp k v off, s => by simp only [ren, h k s]
theorem renL_near {n : Nat} {ρ τ : Nat → Nat} (h : ∀ k, k < n → ρ k = τ k) : ∀ l : List AV, NearL n l → renL ρ l = renL τ l
 | [], _ => rfl
 | x :: l, s => by simp only [renL, ren_near h x s.1, renL_near h l s.2]
end
theorem renO_near {n : Nat} {ρ τ : Nat → Nat} (h : ∀ k, k < n → ρ k = τ k) (o : Ob) (s : NearO n o) : renO ρ o = renO τ o := by
 cases o with
 | cells cs => simp only [renO, renL_near h cs s]
 | map es =>
  simp only [renO]
  congr 1
  have : ∀ es : List (AV × AV), NearL n (es.map (·.1)) → NearL n (es.map (·.2)) → es.map (fun e => (ren ρ e.1, ren ρ e.2)) = es.map (fun e => (ren τ e.1, ren τ e.2)) := by
   intro es
   induction es with
   | nil => intro _ _; rfl
   | cons e es ih => intro s1 s2; simp only [List.map_cons, ren_near h _ s1.1, ren_near h _ s2.1, ih s1.2 s2.2]
  exact this es s.1 s.2
 | vec v cs => simp only [renO, renL_near h cs s]
 | gone => rfl
 | nov v => rfl
 | lp s' j f tm => simp only [renO, renL_near h tm s]
structure ADT (X : Type) where
 m : Nat
 p : Nat
 hp : p < m
 obs : X → List Ob
 Ok : X → Prop
 len : ∀ x, (obs x).length = m
 near : ∀ x, Ok x → ∀ o ∈ obs x, NearO m o
 inj : ∀ x y, Ok x → Ok y → obs x = obs y → x = y
variable {X : Type}
def sh (i j : Nat) : Nat := i + j
def invS (m i k : Nat) : Option Nat := if i ≤ k ∧ k < i + m then some (k - i) else none
theorem inv_sh (m i : Nat) : Inv (sh i) m (invS m i) := by
 refine ⟨fun j hj => ?_, fun k j h => ?_⟩
 ·show (if i ≤ i + j ∧ i + j < i + m then some (i + j - i) else none) = some j
  rw [if_pos (by omega), Nat.add_sub_cancel_left]
 ·simp only [invS] at h
  split at h
  ·cases h; exact ⟨by omega, by show i + (k - i) = k; omega⟩
  ·cases h
def ADT.at_ (A : ADT X) (i : Nat) (x : X) : List Ob := (A.obs x).map (renO (sh i))
theorem ADT.at_len (A : ADT X) (i : Nat) (x : X) : (A.at_ i x).length = A.m := by rw [ADT.at_, List.length_map, A.len]
def ADT.is (A : ADT X) (i : Nat) (l : List Ob) (x : X) : Prop := A.Ok x ∧ A.at_ i x = l
open Classical in
noncomputable def ADT.G (A : ADT X) (i : Nat) (l : List Ob) : Option X := opq (if h : ∃ x, A.is i l x then some (Classical.choose h) else none)
noncomputable def ADT.ob (A : ADT X) (i : Nat) (x : X) (j : Nat) : Ob := opq ((A.at_ i x).getD j .gone)
noncomputable def obl (A : ADT X) (i : Nat) (x : X) : Nat → Nat → List Ob
 | 0, _ => []
 | k + 1, j => A.ob i x j :: obl A i x k (j + 1)
theorem obl_eq (A : ADT X) (i : Nat) (x : X) : ∀ k j, j + k ≤ A.m → obl A i x k j = ((A.at_ i x).drop j).take k
 | 0, j, _ => by rw [List.take_zero]; rfl
 | k + 1, j, h => by
  have hl : j < (A.at_ i x).length := by rw [ADT.at_len]; omega
  rw [obl, obl_eq A i x k (j + 1) (by omega), List.drop_eq_getElem_cons hl, List.take_succ_cons, ADT.ob, opq_eq, List.getD_eq_getElem?_getD, List.getElem?_eq_getElem hl]
  rfl
noncomputable def ADT.obl (A : ADT X) (i : Nat) (x : X) : List Ob := V.obl A i x A.m 0
theorem ADT.obl_eq (A : ADT X) (i : Nat) (x : X) : A.obl i x = A.at_ i x := by
 rw [ADT.obl, V.obl_eq A i x A.m 0 (by omega), List.drop_zero, List.take_of_length_le (by rw [ADT.at_len]; exact Nat.le_refl _)]
def getN : Nat → List Ob → Option (List Ob)
 | 0, _ => some []
 | _ + 1, [] => none
 | k + 1, o :: l => match getN k l with
  | some r => some (o :: r)
  | none => none
def plc : List Ob → Nat → List Ob → List Ob
 | l, 0, xs => xs ++ l.drop xs.length
 | [], _ + 1, _ => []
 | o :: l, i + 1, xs => o :: plc l i xs
theorem plc_eq : ∀ (l : List Ob) (i : Nat) (xs : List Ob), i + xs.length ≤ l.length → plc l i xs = l.take i ++ xs ++ l.drop (i + xs.length)
 | l, 0, xs, _ => by rw [plc.eq_def]; simp
 | [], i + 1, xs, h => by simp at h
 | o :: l, i + 1, xs, h => by
  rw [plc, plc_eq l i xs (by simp at h; omega), show i + 1 + xs.length = (i + xs.length) + 1 by omega]
  simp
noncomputable def ADT.pl (A : ADT X) (st : St) (i : Nat) (x : X) : St := ⟨plc st.objs i (A.obl i x), st.tk⟩
noncomputable def ADT.on (A : ADT X) (x : AV) (st : St) (k : Nat → X → Ans) : Ans :=
 match x with
 | .ptr j o => match Nat.beq o 0 && Nat.ble A.p j with
  | true => match getN A.m (st.objs.drop (j - A.p)) with
   | some l => onSome (A.G (j - A.p) l) none fun X => k (j - A.p) X
   | none => none
  | false => none
 | _ => none
structure ADT.Here (A : ADT X) (st : St) (i : Nat) (x : X) : Prop where
 ok : A.Ok x
 le : i + A.m ≤ st.objs.length
 eq : (st.objs.drop i).take A.m = A.at_ i x
theorem ADT.Here.lies {A : ADT X} {st : St} {i : Nat} {x : X} (h : A.Here st i x) : Lies st (A.obs x) (sh i) A.m (invS A.m i) := by
 refine ⟨A.len x, inv_sh _ i, fun j o ho => ?_, A.near x h.ok⟩
 have hj : j < A.m := by rw [← A.len x]; exact getElem?_lt ho
 have e := congrArg (fun l => l[j]?) h.eq
 simp only [List.getElem?_take, if_pos hj, List.getElem?_drop, ADT.at_, List.getElem?_map, ho, Option.map_some] at e
 exact e
theorem ADT.pl_len {A : ADT X} {st : St} {i : Nat} {x : X} (h : i + A.m ≤ st.objs.length) : (A.pl st i x).objs.length = st.objs.length := by
 have hl : (A.obl i x).length = A.m := by rw [ADT.obl_eq, ADT.at_len]
 rw [ADT.pl, plc_eq _ _ _ (by omega)]
 simp only [List.length_append, List.length_take, List.length_drop, hl]
 omega
theorem ADT.pl_in {A : ADT X} {st : St} {i : Nat} {x : X} (h : i + A.m ≤ st.objs.length) {j : Nat} (hj : j < A.m) : (A.pl st i x).objs[i + j]? = (A.at_ i x)[j]? := by
 have hl : (A.obl i x).length = A.m := by rw [ADT.obl_eq, ADT.at_len]
 rw [ADT.pl, plc_eq _ _ _ (by omega)]
 simp only [List.append_assoc]
 rw [List.getElem?_append_right (by rw [List.length_take]; omega), List.length_take, Nat.min_eq_left (by omega), Nat.add_sub_cancel_left, List.getElem?_append_left (by omega), ADT.obl_eq]
theorem ADT.pl_out {A : ADT X} {st : St} {i : Nat} {x : X} (h : i + A.m ≤ st.objs.length) {k : Nat} (hk : ¬ (i ≤ k ∧ k < i + A.m)) : (A.pl st i x).objs[k]? = st.objs[k]? := by
 have hl : (A.obl i x).length = A.m := by rw [ADT.obl_eq, ADT.at_len]
 rw [ADT.pl, plc_eq _ _ _ (by omega)]
 simp only [List.append_assoc]
 by_cases h1 : k < i
 ·rw [List.getElem?_append_left (by rw [List.length_take]; omega), List.getElem?_take, if_pos h1]
 ·rw [List.getElem?_append_right (by rw [List.length_take]; omega), List.length_take, Nat.min_eq_left (by omega), List.getElem?_append_right (by omega), List.getElem?_drop]
  congr 1; omega
theorem ADT.Here.same {A : ADT X} {st : St} {i : Nat} {x : X} (h : A.Here st i x) : A.pl st i x = st := by
 have e : (A.pl st i x).objs = st.objs := by
  apply List.ext_getElem?
  intro k
  by_cases hk : i ≤ k ∧ k < i + A.m
  ·obtain ⟨j, rfl⟩ := Nat.exists_eq_add_of_le hk.1
   have hj : j < A.m := by omega
   rw [ADT.pl_in h.le hj]
   have e := congrArg (fun l => l[j]?) h.eq
   simp only [List.getElem?_take, if_pos hj, List.getElem?_drop] at e
   exact e.symm
  ·rw [ADT.pl_out h.le hk]
 cases st
 simp only [ADT.pl] at e ⊢
 rw [e]
theorem ADT.near_at {A : ADT X} {y : X} (hy : A.Ok y) {i j : Nat} {o : Ob} (ho : (A.obs y)[j]? = some o) {τ : Nat → Nat} (hτ : ∀ k, k < A.m → τ k = i + k) : (A.at_ i y)[j]? = some (renO τ o) := by
 rw [ADT.at_, List.getElem?_map, ho, Option.map_some, renO_near (n := A.m) (ρ := sh i) (τ := τ) (fun k hk => (hτ k hk).symm) o (A.near y hy o (List.mem_of_getElem? ho))]
theorem ADT.placed {A : ADT X} {f : Fun P} {F : Nat} {x y : X} {args0 : List AV} {r : AV} {xs : List Ob} (hrun : f.run F args0 ⟨A.obs x, []⟩ = some (.ret r, ⟨A.obs y ++ xs, []⟩)) (hy : A.Ok y) (ha : NearL A.m args0) (hr : Near A.m (frz r))
  {st : St} {i : Nat} (hd : A.Here st i x) : CallsTo P f.id (renL (sh i) args0) st (.ret (ren (sh i) (frz r)), A.pl st i y) := by
 have n4 : ∀ j, j < A.m → nx (sh i) A.m st.objs.length j = i + j := fun j hj => by rw [nx, if_pos hj]; rfl
 have e : ren (nx (sh i) A.m st.objs.length) (frz r) = ren (sh i) (frz r) := ren_near (fun k hk => n4 k hk) _ hr
 rw [← e]
 refine V.placed (f.sound hrun) (Nat.le_refl _) (by simp [A.len]) ha hr (fun j o hj ho => ?_) hd.lies rfl (by rw [ADT.pl_len hd.le]; omega) (fun j o hj ho => ?_) (fun k hk hi => ?_)
 ·rw [List.getElem?_append_left (by rw [A.len]; exact hj)] at ho
  exact A.near y hy o (List.mem_of_getElem? ho)
 ·rw [List.getElem?_append_left (by rw [A.len]; exact hj)] at ho
  rw [n4 j hj, ADT.pl_in hd.le hj]
  exact ADT.near_at hy ho n4
 ·refine ADT.pl_out hd.le fun e => ?_
  simp only [invS] at hi
  rw [if_pos e] at hi; cases hi
noncomputable def ADT.add (A : ADT X) (st : St) (x : X) : St := ⟨st.objs ++ A.obl st.objs.length x, st.tk⟩
theorem ADT.fresh {A : ADT X} {f : Fun P} {F : Nat} {x : X} {args0 : List AV} {r : AV} {xs : List Ob} (hrun : f.run F args0 ⟨[], []⟩ = some (.ret r, ⟨A.obs x ++ xs, []⟩)) (hx : A.Ok x) (ha : NearL 0 args0) (hr : Near A.m (frz r)) (st : St) :
  CallsTo P f.id args0 st (.ret (ren (sh st.objs.length) (frz r)), A.add st x) := by
 have n4 : ∀ j, nx (fun _ => 0) 0 st.objs.length j = st.objs.length + j := fun j => by rw [nx, if_neg (by omega)]; omega
 have e : ren (nx (fun _ => 0) 0 st.objs.length) (frz r) = ren (sh st.objs.length) (frz r) := ren_near (n := A.m) (fun k hk => n4 k) _ hr
 have e2 : renL (fun _ => 0) args0 = args0 := by
  have := renL_near (n := 0) (ρ := fun _ => 0) (τ := fun k => k) (fun k hk => by omega) args0 ha
  rw [this, renL_id]
 have hl : (A.obl st.objs.length x).length = A.m := by rw [ADT.obl_eq, ADT.at_len]
 rw [← e]
 have := V.placed (ρ := fun _ => 0) (f.sound hrun) (Nat.zero_le A.m) (by simp [A.len]) ha hr (fun j o hj ho => by
  rw [List.getElem?_append_left (by rw [A.len]; exact hj)] at ho
  exact A.near x hx o (List.mem_of_getElem? ho)) (inv := fun _ => none) (st := st) (st' := A.add st x) ⟨rfl, ⟨fun i hi => (by omega), fun k i h => (by cases h)⟩, fun i o h => (by simp at h), fun o h => (by simp at h)⟩ rfl (by simp [ADT.add, hl]) (fun j o hj ho => ?_) (fun k hk hi => ?_)
 ·rw [e2] at this; exact this
 ·rw [List.getElem?_append_left (by rw [A.len]; exact hj)] at ho
  rw [n4 j, ADT.add]
  simp only
  rw [List.getElem?_append_right (by omega), Nat.add_sub_cancel_left, ADT.obl_eq]
  exact ADT.near_at hx ho fun k _ => n4 k
 ·rw [ADT.add]
  simp only
  rw [List.getElem?_append_left hk]
theorem CallsTo.wk {id : FuncId} {args args' : List AV} {st : St} {fin : Fin × St} (h : CallsTo P id args' st fin) (hw : ∀ g w vs, RelAll g w args vs → RelAll g w args' vs) : CallsTo P id args st fin := fun g w vals hv hs => h g w vals (hw g w _ hv) hs
def updE (ev : Operand → AV) (i : Nat) (r : AV) : Operand → AV
 | .tmp j => match Nat.beq j i with
  | true => r
  | false => ev (.tmp j)
 | o => ev o
noncomputable def MSim.fz (y : MSim P) (i : Nat) : MSim P where
 oper := y.oper
 plain := y.plain
 xs := .tmp i :: y.xs
 f ev st k := afree (ev (.tmp i)) st fun r st' => y.f (updE ev i r) st' k
 congr ev ev' st k h := by
  rw [h (.tmp i) (by simp)]
  congr 1
  funext r st'
  refine y.congr _ _ _ _ fun o ho => ?_
  have := h o (by simp [ho])
  unfold updE
  split
  ·split
   ·rfl
   ·exact this
  ·exact this
 sound ev st k fin h g w a he hs := by
  obtain ⟨r, st', g', k1, k2, k3, k4⟩ := afree_rel hs (he (.tmp i) (by simp)) h
  obtain ⟨r2, st2, q1, q2⟩ := y.sound (updE ev i r) st' k fin k1 g' w a (fun o ho => by
   unfold updE
   split
   ·rename_i j
    split
    ·rename_i hj
     obtain rfl := Nat.eq_of_beq_eq_true hj
     exact k2
    ·exact Rel.mono k4 _ _ (he _ (by simp [ho]))
   ·exact Rel.mono k4 _ _ (he _ (by simp [ho]))) k3
  exact ⟨r2, st2, q1, fun next Q hn => q2 next Q fun v g2 w2 a1 a2 a3 => hn v g2 w2 a1 a2 (k4.trans a3)⟩
def thS (a : Ans) (k : Fin → St → Ans) : Ans :=
 match a with
 | some (r, st') => k r st'
 | none => none
theorem onInt_th {x : AV} {s s' : IntKind → Int → Ans} {k : Fin → St → Ans} (h : ∀ i n, s i n = thS (s' i n) k) : onInt x s = thS (onInt x s') k := by
 unfold onInt
 split
 ·exact h _ _
 ·rfl
theorem onNs_th {sz : Nat} {x : AV} {s s' : Bool → List (List AV) → Ans} {k : Fin → St → Ans} (h : ∀ z l, s z l = thS (s' z l) k) : onNs sz x s = thS (onNs sz x s') k := by
 unfold onNs
 split
 ·exact h _ _
 all_goals first
  | rfl
  | (split
     ·exact h _ _
     ·rfl)
theorem ifT_th {b : Bool} {s s' : Ans} {k : Fin → St → Ans} (h : s = thS s' k) : ifT b s = thS (ifT b s') k := by
 cases b
 ·rfl
 ·exact h
def Fun.byQ (f : Fun P) (sem : List AV → St → (AV → Ans) → Ans)
  (hs : ∀ args st k fin, sem args st k = some fin → ∃ r, k r = some fin ∧ CallsTo P f.id args st (.ret r, st)) : OrcQ P where
 id := f.id
 fn := f.fn
 hf := f.hf
 hname := f.hname
 hb := by rw [f.hbody]; rfl
 F := sem
 sound k args st fin h := hs args st k fin h
noncomputable def fuel : Nat := opq 1000000
variable {Y : Type}
def sh2 (m i j k : Nat) : Nat := if k < m then i + k else j + (k - m)
end
end Go.V
namespace Go.V
section
variable {P : Program}
def Orc.dead (id : FuncId) (fn : Func) (hf : P.funcs[id]? = some fn) (hname : (fn.name == "runtime.NumGoroutine") = false) (hb : fn.body.isNone = false) : Orc P where
 id := id
 fn := fn
 hf := hf
 hname := hname
 hb := hb
 sem _ _ _ := none
 sound k args st fin h := by cases h
noncomputable def hideI (x : AV) : AV :=
 match x with
 | .int k n => .int k (opq n)
 | x => x
theorem hideI_eq (x : AV) : hideI x = x := by
 unfold hideI
 split
 ·rw [opq_eq]
 ·rfl
noncomputable def PSim.hide (y : PSim P) : PSim P where
 oper := y.oper
 plain := y.plain
 xs := y.xs
 f ev k := y.f ev fun r => k (hideI r)
 congr ev ev' k h := y.congr ev ev' _ h
 sound ev k fin h g w a st he hs := by
  obtain ⟨r, h1, h2⟩ := y.sound ev _ fin h g w a st he hs
  exact ⟨r, by rw [hideI_eq] at h1; exact h1, h2⟩
theorem PSim.hide_nat {y : PSim P} (h : y.Nat) : y.hide.Nat := fun ev k => by
 show y.f ev (fun r => k (hideI r)) = thenA (y.f ev fun r => retA (hideI r)) k
 rw [h ev (fun r => k (hideI r)), h ev (fun r => retA (hideI r))]
 cases y.f ev retA with
 | none => rfl
 | some x =>
  obtain ⟨f, s⟩ := x
  cases f with
  | ret r => simp only [thenA, retA, hideI_eq]
  | pan r => rfl
mutual
def FlatD : AV → Prop
 | .agg cs => FlatDL cs
 | .tup cs => FlatDL cs
 | .bool _ => True
 | .int _ _ => True
 | .str _ => True
 | .nilptr => True
 | .nilsl => True
 | .nilmap => True
 | .nilfn => True
 | .nilif => True
 | _ => False
def FlatDL : List AV → Prop
 | [] => True
 | x :: l => FlatD x ∧ FlatDL l
end
mutual
theorem FlatD.any {g g' : Gh} {w w' : World} : ∀ (a : AV) (v : Value), FlatD a → Rel g w a v → Rel g' w' a v
 | .agg cs, _, s, ⟨vs, r1, r2, r3⟩ => ⟨vs, r1, FlatDL.any cs vs.toList s r2, r3⟩
 | .tup cs, _, s, ⟨vs, r1, r2⟩ => ⟨vs, r1, FlatDL.any cs vs.toList s r2⟩
 | .bool _, _, _, r => r
 | .int _ _, _, _, r => r
 | .str _, _, _, r => r
 | .nilptr, _, _, r => r
 | .nilsl, _, _, r => r
 | .nilmap, _, _, r => r
 | .nilfn, _, _, r => r
 | .nilif, _, _, r => r
 | .ptr _ _, _, s, _ => s.elim
 | .eptr _, _, s, _ => s.elim
 | .sl _ _ _, _, s, _ => s.elim
 | .lg _ _ _, _, s, _ => s.elim
 | .ms _ _ _ _ _, _, s, _ => s.elim
 | .mp _, _, s, _ => s.elim
 | .fn _ _ _, _, s, _ => s.elim
 | .ifc _ _, _, s, _ => s.elim
 | .dead, _, s, _ => s.elim
 | .ns _ _ _, _, s, _ => s.elim
 | .vs _ _ _ _, _, s, _ => s.elim
 | .vp _ _ _, _, s, _ => s.elim
 | .tp _ _ _, _, s, _ => s.elim
theorem FlatDL.any {g g' : Gh} {w w' : World} : ∀ (l : List AV) (vs : List Value), FlatDL l → RelAll g w l vs → RelAll g' w' l vs
 | [], _, _, r => r
 | x :: l, _, ⟨s1, s2⟩, ⟨v, vr, r1, r2, r3⟩ => ⟨v, vr, r1, FlatD.any x v s1 r2, FlatDL.any l vr s2 r3⟩
end
end
end Go.V
namespace Go.V
section
variable {P : Program}
end
end Go.V
namespace Go.V
section
variable {P : Program}
def findG (n : Nat) : List (Nat × List AV) → Option (List AV)
 | [] => none
 | x :: r => match Nat.beq x.1 n with
  | true => some x.2
  | false => findG n r
theorem findG_mem {n : Nat} : ∀ {l : List (Nat × List AV)} {cs : List AV}, findG n l = some cs → (n, cs) ∈ l
 | [], cs, h => by cases h
 | x :: r, cs, h => by
  simp only [findG] at h
  split at h
  ·rename_i h1
   cases h
   obtain rfl := Nat.eq_of_beq_eq_true h1
   exact List.mem_cons_self
  ·exact List.mem_cons_of_mem _ (findG_mem h)
def evG (ev : Operand → AV) (o : Operand) : AV :=
 match o with
 | .global n => match findG n globs with
  | some cs => .eptr cs
  | none => .dead
 | o => ev o
theorem EvR.glob {g : Gh} {w : World} {ev : Operand → AV} {a : Act} {xs : List Operand} (h : EvR g w ev a xs) (hG : Globs g w) : EvR g w (evG ev) a xs := by
 intro x hx
 unfold evG
 split
 ·rename_i n
  split
  ·rename_i cs hc
   exact ⟨n, 0, rfl, hG _ (findG_mem hc)⟩
  ·trivial
 ·exact h x hx
theorem evG_congr {ev ev' : Operand → AV} {xs : List Operand} (h : ∀ o ∈ xs, ev o = ev' o) : ∀ o ∈ xs, evG ev o = evG ev' o := by
 intro o ho
 unfold evG
 split
 ·rfl
 ·exact h o ho
def PSim.glob (x : PSim P) : PSim P :=
 ⟨x.oper, x.plain, x.xs, fun ev k => x.f (evG ev) k, fun ev ev' k h => x.congr _ _ _ (evG_congr h), fun ev k fin h g w a st he hs => x.sound (evG ev) k fin h g w a st (he.glob hs.glob) hs⟩
def QSim.glob (x : QSim P) : QSim P :=
 ⟨x.oper, x.plain, x.xs, fun ev st k => x.f (evG ev) st k, fun ev ev' st k h => x.congr _ _ _ _ (evG_congr h), fun ev st k fin h g w a he hs => x.sound (evG ev) st k fin h g w a (he.glob hs.glob) hs⟩
def constOk (s : ByteArray) (xs : List Operand) : Bool := xs.all fun o => match o with
 | .const v => match v with
  | .string t => t.data.toList == s.data.toList
  | _ => true
 | _ => true
def evN (nm : ByteArray) (ev : Operand → AV) (o : Operand) : AV :=
 match o with
 | .const v => match v with
  | .string _ => .str nm
  | v => ev (.const v)
 | o => ev o
def PSim.named (x : PSim P) (nm s : ByteArray) (hn : nm = s) (hx : constOk s x.xs = true) : PSim P :=
 ⟨x.oper, x.plain, x.xs, fun ev k => x.f (evN nm ev) k, fun ev ev' k h => x.congr _ _ _ fun o ho => by
  unfold evN
  split
  ·split
   ·rfl
   ·exact h _ ho
  ·exact h _ ho, fun ev k fin h g w a st he hs => x.sound (evN nm ev) k fin h g w a st (fun o ho => by
  have hc := List.all_eq_true.mp hx o ho
  unfold evN
  split
  ·split
   ·rename_i t
    simp only [beq_iff_eq] at hc
    have : t = s := by
     have := Array.toList_inj.mp hc
     cases t; cases s; simp only at this; rw [this]
    show Value.string t = Value.string nm
    rw [hn, this]
   ·exact he _ ho
  ·exact he _ ho) hs⟩
end
end Go.V
namespace Go.V
section
variable {P : Program}
end
end Go.V
namespace Go.V
section
variable {P : Program}
def slots (env : Env) : List AV := (List.range env.n).map (look env.m)
theorem relAll_of {g : Gh} {w : World} : ∀ (l : List AV) (vs : List Value), l.length = vs.length → (∀ i, i < l.length → Rel g w (l.getD i .dead) (vs.getD i undef)) → RelAll g w l vs
 | [], [], _, _ => rfl
 | [], _ :: _, h, _ => by simp at h
 | _ :: _, [], h, _ => by simp at h
 | x :: l, v :: vs, h, hr => ⟨v, vs, rfl, by simpa using hr 0 (by simp), relAll_of l vs (by simpa using h) fun i hi => by have := hr (i + 1) (by simp; omega); simpa using this⟩
theorem slots_rel {g : Gh} {w : World} {env : Env} {a : Act} (he : EnvRel g w env a) : RelAll g w (slots env) a.tmps.toList := by
 refine relAll_of _ _ (by simp [slots, he.size]) fun i hi => ?_
 have hi' : i < env.n := by simpa [slots] using hi
 have e1 : (slots env).getD i .dead = look env.m i := by simp [slots, List.getD_eq_getElem?_getD, hi']
 have e2 : a.tmps.toList.getD i undef = a.tmps.getD i undef := by rw [List.getD_eq_getElem?_getD, Array.getD_eq_getD_getElem?, Array.getElem?_toList]
 rw [e1, e2]; exact he.slot i
theorem write_lp {g : Gh} {st : St} {w : World} (hs : StRel g st w) {j b : Nat} (hg : g.objs[j]? = some b) {s jj f : Nat} {tm : List AV} (hes : st.objs[j]? = some (.lp s jj f tm)) {L : Loop} (hM : w.heap[b]? = some (.loop L)) (L' : Loop) {s' j' : Nat}
  (h0 : rngs f = some (L'.params, L'.assign, L'.body)) (h1 : LSt s' j' L') (h2 : RelAll g w tm L'.tmps.toList) :
  StRel g ⟨st.objs.set j (.lp s' j' f tm), st.tk⟩ (w.putObj b (.loop L')) ∧ Ev g w g (w.putObj b (.loop L')) := by
 obtain ⟨hkind, _⟩ := ob_of hs hg hes
 have hlt := lt_of_block hM
 have hnew : (w.putObj b (.loop L')).heap[b]? = some (.loop L') := World.putObj_heap_same hlt
 have hold : ∀ x, x ≠ b → (w.putObj b (.loop L')).heap[x]? = w.heap[x]? := fun x hx => World.putObj_heap_other hx
 have hne : ∀ x, g.kind x ≠ .obj j → x ≠ b := fun x hx e => hx (by rw [e]; exact hkind)
 have hE : Ev g w g (w.putObj b (.loop L')) := by
  refine ⟨rfl, rfl, rfl, by simp, fun x hx hk => ⟨rfl, ?_⟩, fun x t hx hk => ⟨hk, fun C' E' fz hC' => ⟨C', ?_, rfl, fun _ _ => rfl⟩⟩, fun x k hx hk => .inl hk, fun _ _ h => h, tk_refl _, fun _ _ => Nat.le_refl _, fun x k hx _ hk _ => ⟨hk, fun C' E' fz hC' => ⟨C', ?_, rfl⟩⟩, fun x C' E' fz hC' => ⟨C', fz, ?_, rfl⟩⟩
  ·refine hold x (hne x ?_)
   intro e; rw [e] at hk; cases hk
  ·rw [← hC']; exact hold x (hne x (by rw [hk]; intro e; cases e))
  ·rw [← hC']; exact hold x (hne x (by rw [hk]; intro e; cases e))
  ·rw [← hC']; exact hold x (fun e => by rw [e, hM] at hC'; cases hC')
 refine ⟨⟨hs.tk, by simp [hs.len], fun k b' y hk hy => ?_, fun b' k hb' hk => ?_, fun b' t hb' hk => hs.rowlt b' t (by simpa using hb') hk, fun b' k hb' hk => ?_, hs.glob.mono hE⟩, hE⟩
 ·by_cases hkj : k = j
  ·subst hkj
   rw [hg] at hk
   cases hk
   rw [List.getElem?_set_self (getElem?_lt hes)] at hy
   cases hy
   exact ⟨by simpa using hlt, hkind, L', hnew, h0, h1, RelAll.mono hE _ _ h2⟩
  ·rw [List.getElem?_set_ne (fun e => hkj e.symm)] at hy
   obtain ⟨h2, h3⟩ := hs.obj k b' y hk hy
   refine ⟨by simpa using h2, ?_⟩
   have hvk : ∀ b'', b'' < w.heap.size → g.kind b'' = .vec k → (w.putObj b (.loop L')).heap[b'']? = w.heap[b'']? ∧ g.kind b'' = .vec k := fun b'' _ h5 =>
    ⟨hold b'' (hne b'' (by rw [h5]; intro e; cases e)), h5⟩
   by_cases hbb : b' = b
   ·subst hbb
    cases y with
    | gone => trivial
    | nov v => exact h3
    | cells cs' => have := h3.1; rw [hkind] at this; cases this; exact absurd rfl hkj
    | map es => have := h3.1; rw [hkind] at this; cases this; exact absurd rfl hkj
    | lp _ _ _ _ => have := h3.1; rw [hkind] at this; cases this; exact absurd rfl hkj
    | vec v cs' =>
     obtain ⟨e1, b'', e2, e3, C', E', e4, e5, e6⟩ := h3
     exact ⟨e1, b'', by simpa using e2, e3, C', E', (hvk b'' e2 e3).1.trans e4, RelAll.mono hE _ _ e5, e6⟩
   ·exact h3.keep hE (hold _ hbb) rfl hvk rfl
 ·obtain ⟨y, h2, h3, h4⟩ := hs.back b' k (by simpa using hb') hk
  by_cases hkj : k = j
  ·subst hkj
   exact ⟨_, List.getElem?_set_self (getElem?_lt hes), h3, trivial⟩
  ·exact ⟨y, by rw [List.getElem?_set_ne (fun e => hkj e.symm)]; exact h2, h3, h4⟩
 ·obtain ⟨⟨v, cs', h2⟩, h3⟩ := hs.vec b' k (by simpa using hb') hk
  have hkj : k ≠ j := by intro e; subst e; rw [hes] at h2; cases h2
  exact ⟨⟨v, cs', by rw [List.getElem?_set_ne (fun e => hkj e.symm)]; exact h2⟩, fun b'' hb'' => h3 b'' (by simpa using hb'')⟩
theorem drop_lp {g : Gh} {st : St} {w : World} (hs : StRel g st w) {j b : Nat} (hg : g.objs[j]? = some b) {s jj f : Nat} {tm : List AV} (hes : st.objs[j]? = some (.lp s jj f tm)) {L : Loop} (hM : w.heap[b]? = some (.loop L)) (L' : Loop) :
  StRel ⟨g.use b .solid, g.objs, g.tk, g.ver⟩ ⟨st.objs.set j .gone, st.tk⟩ (w.putObj b (.loop L')) ∧ Ev g w ⟨g.use b .solid, g.objs, g.tk, g.ver⟩ (w.putObj b (.loop L')) := by
 obtain ⟨hkind, _⟩ := ob_of hs hg hes
 have hlt := lt_of_block hM
 have hold : ∀ x, x ≠ b → (w.putObj b (.loop L')).heap[x]? = w.heap[x]? := fun x hx => World.putObj_heap_other hx
 have hne : ∀ x, g.kind x ≠ .obj j → x ≠ b := fun x hx e => hx (by rw [e]; exact hkind)
 have huse : ∀ x, x ≠ b → (g.use b .solid) x = g.kind x := fun x hx => by simp only [Gh.use]; rw [if_neg hx]
 have hE : Ev g w ⟨g.use b .solid, g.objs, g.tk, g.ver⟩ (w.putObj b (.loop L')) := by
  refine ⟨rfl, rfl, rfl, by simp, fun x hx hk => ?_, fun x t hx hk => ?_, fun x k hx hk => ?_, fun _ _ h => h, tk_refl _, fun _ _ => Nat.le_refl _, fun x k hx _ hk _ => ?_, fun x C' E' fz hC' => ⟨C', fz, ?_, rfl⟩⟩
  ·have := hne x (by intro e; rw [e] at hk; cases hk)
   exact ⟨huse x this, hold x this⟩
  ·have := hne x (by rw [hk]; intro e; cases e)
   exact ⟨(huse x this).trans hk, fun C' E' fz hC' => ⟨C', (hold x this).trans hC', rfl, fun _ _ => rfl⟩⟩
  ·by_cases hxb : x = b
   ·subst hxb; right; simp [Gh.use]
   ·left; exact (huse x hxb).trans hk
  ·have := hne x (by rw [hk]; intro e; cases e)
   exact ⟨(huse x this).trans hk, fun C' E' fz hC' => ⟨C', (hold x this).trans hC', rfl⟩⟩
  ·rw [← hC']; exact hold x (fun e => by rw [e, hM] at hC'; cases hC')
 have hback : ∀ x kd, (g.use b .solid) x = kd → kd ≠ .solid → x ≠ b ∧ g.kind x = kd := by
  intro x kd hk hn
  have : x ≠ b := by intro e; subst e; simp [Gh.use] at hk; exact hn hk.symm
  exact ⟨this, by rw [← huse x this]; exact hk⟩
 refine ⟨⟨hs.tk, by simp [hs.len], fun k b' y hk hy => ?_, fun b' k hb' hk => ?_, fun b' t hb' hk => ?_, fun b' k hb' hk => ?_, hs.glob.mono hE⟩, hE⟩
 ·by_cases hkj : k = j
  ·subst hkj
   rw [List.getElem?_set_self (getElem?_lt hes)] at hy
   cases hy
   obtain ⟨h2, _⟩ := hs.obj k b' _ hk hes
   exact ⟨by simpa using h2, trivial⟩
  ·rw [List.getElem?_set_ne (fun e => hkj e.symm)] at hy
   obtain ⟨h2, h3⟩ := hs.obj k b' y hk hy
   refine ⟨by simpa using h2, ?_⟩
   have hvk : ∀ b'', b'' < w.heap.size → g.kind b'' = .vec k → (w.putObj b (.loop L')).heap[b'']? = w.heap[b'']? ∧ (g.use b .solid) b'' = .vec k := fun b'' _ h5 => by
    have := hne b'' (by rw [h5]; intro e; cases e)
    exact ⟨hold b'' this, (huse b'' this).trans h5⟩
   by_cases hbb : b' = b
   ·subst hbb
    cases y with
    | gone => trivial
    | nov v => exact h3
    | cells cs' => have := h3.1; rw [hkind] at this; cases this; exact absurd rfl hkj
    | map es => have := h3.1; rw [hkind] at this; cases this; exact absurd rfl hkj
    | lp _ _ _ _ => have := h3.1; rw [hkind] at this; cases this; exact absurd rfl hkj
    | vec v cs' =>
     obtain ⟨e1, b'', e2, e3, C', E', e4, e5, e6⟩ := h3
     exact ⟨e1, b'', by simpa using e2, (hvk b'' e2 e3).2, C', E', (hvk b'' e2 e3).1.trans e4, RelAll.mono hE _ _ e5, e6⟩
   ·exact h3.keep hE (hold _ hbb) (huse _ hbb) hvk rfl
 ·obtain ⟨h1, h1'⟩ := hback b' _ hk (by intro e; cases e)
  obtain ⟨y, h2, h3, h4⟩ := hs.back b' k (by simpa using hb') h1'
  have hkj : k ≠ j := by intro e; subst e; rw [hg] at h3; cases h3; exact h1 rfl
  exact ⟨y, by rw [List.getElem?_set_ne (fun e => hkj e.symm)]; exact h2, h3, h4⟩
 ·obtain ⟨h1, h1'⟩ := hback b' _ hk (by intro e; cases e)
  exact hs.rowlt b' t (by simpa using hb') h1'
 ·obtain ⟨h1, h1'⟩ := hback b' _ hk (by intro e; cases e)
  obtain ⟨⟨v, cs', h2⟩, h3⟩ := hs.vec b' k (by simpa using hb') h1'
  have hkj : k ≠ j := by intro e; subst e; rw [hes] at h2; cases h2
  exact ⟨⟨v, cs', by rw [List.getElem?_set_ne (fun e => hkj e.symm)]; exact h2⟩, fun b'' hb'' hk'' => h3 b'' (by simpa using hb'') (hback b'' _ hk'' (by intro e; cases e)).2⟩
structure YOrc (P : Program) where
 sem : Nat → List AV → St → (Fin → St → Ans) → Ans
 sound : ∀ j args st k fin, sem j args st k = some fin → ∀ g w b (vals : Array Value), g.objs[j]? = some b → RelAll g w args vals.toList → StRel g st w →
  ∃ fn tmps assign body, (Instr.yield b vals).run P w = .ok (.round b fn tmps assign body) w ∧
   RoundIn Fence.wide 0 P b fn tmps assign body w fun e w' => ∃ r st' g', k r st' = some fin ∧ FinRel g' w' r e ∧ StRel g' st' w' ∧ Ev g w g' w'
def acallY (Y : YOrc P) (Os : List (Orc P)) (c : AV) (args : List AV) (st : St) (k : Fin → St → Ans) : Ans :=
 match c with
 | .fn (.yield j) first captured => match first with
  | [] => match captured with
   | [] => Y.sem j args st k
   | _ => none
  | _ => none
 | c => acall Os c args st k
def opCallY (Y : YOrc P) (Os : List (Orc P)) (dst : Option Tmp) (t : Tmp) (args : List Operand) (tys : Array TypeId) (ty : TypeId) (pos : String) (after : Array Edge) : OpSim P where
 oper := mkOp dst (.call { callee := .value (.tmp t), args := args.toArray, argTypes := tys }) ty pos after
 plain := rfl
 run K env st := acallY Y Os (look env.m t) (args.map env.eval) st (Cont.call K env dst)
 sound K env st fin h g w a he hs next Q hp ρ := by
  have hv := he.slot t
  unfold acallY at h
  split at h
  ·rename_i j first captured hb
   split at h
   ·split at h
    ·rw [hb] at hv
     obtain ⟨va, vc, ⟨b, hob, hv⟩, hva, hvc⟩ := hv
     have hva : va = #[] := by have : va.toList = [] := hva; simpa using this
     have hvc : vc = #[] := by have : vc.toList = [] := hvc; simpa using this
     subst hva; subst hvc
     have hev : a.eval (.tmp t) = .func (.yield b) #[] #[] := hv
     obtain ⟨fn, tmps, assign, body, hy, hround⟩ := Y.sound _ _ _ _ _ h g w b ((args.map a.eval).toArray) hob (by simpa using he.evals args) hs
     have hrun : (execOp a.eval (mkOp dst (.call { callee := .value (.tmp t), args := args.toArray, argTypes := tys }) ty pos after)).run P w = .ok (.round b fn tmps assign body) w := by
      simp only [execOp, mkOp, resolve, hev, Deferred.ofValue]
      simpa [invoke] using hy
     refine ⟨fun _ _ => trivial, ?_⟩
     rw [show ((mkOp dst (.call { callee := .value (.tmp t), args := args.toArray, argTypes := tys }) ty pos after).semAt (Rd ρ).round a.eval).run P w = _ from semAt_of hrun fun _ e => (by cases e), Oper.uponIn_round]
     refine ⟨rd_depth, ?_⟩
     refine RoundIn.mono (show RoundIn (Rd ρ) 0 P b fn tmps assign body w _ from hround) fun e w' ⟨r, st', g', hk, h1, h2, h3⟩ => ?_
     cases r with
     | ret x =>
      obtain ⟨v, rfl, hv⟩ := h1
      exact hp .normal _ st' g' w' _ .normal hk ((he.mono h3).putO dst hv) h2 h3 (.of_eq (put_defers ..)) rfl
     | pan x =>
      obtain ⟨v, rfl, hv⟩ := h1
      exact hp (.panic x) _ st' g' w' a _ hk (he.mono h3) h2 h3 (.refl ..) ⟨v, rfl, hv⟩
    ·cases h
   ·cases h
  ·exact (opCallDyn Os dst t args tys ty pos after).sound K env st fin h g w a he hs next Q hp ρ
def putAll : Env → List Tmp → List AV → Env
 | e, t :: ts, x :: xs => putAll (e.put t x) ts xs
 | e, _, _ => e
theorem putAll_rel {g : Gh} {w : World} : ∀ (ts : List Tmp) (xs : List AV) (vs : List Value) (e : Env) (a : Act), RelAll g w xs vs → EnvRel g w e a →
  EnvRel g w (putAll e ts xs) { a with tmps := (ts.zip vs).foldl (fun tmps (x : Tmp × Value) => tmps.setIfInBounds x.1 x.2) a.tmps }
 | [], xs, vs, e, a, h, he => by cases xs <;> exact he
 | t :: ts, [], vs, e, a, h, he => by obtain rfl : vs = [] := h; exact he
 | t :: ts, x :: xs, _, e, a, ⟨v, vr, rfl, h1, h2⟩, he => putAll_rel ts xs vr (e.put t x) (a.put (some t) v) h2 (he.put t h1)
def endK (j : Nat) (k : Fin → St → Ans) : Cont := fun x env st =>
 match st.objs[j]? with
 | some (.lp 1 _ f tm) => match x with
  | .normal => k (.ret (.bool true)) ⟨st.objs.set j (.lp 0 0 f tm), st.tk⟩
  | .ret => k (.ret (.bool false)) ⟨st.objs.set j (.lp 2 0 f tm), st.tk⟩
  | .exit i => k (.ret (.bool false)) ⟨st.objs.set j (.lp 2 (i + 1) f tm), st.tk⟩
  | _ => none
 | _ => none
def beginK (j : Nat) (k : Env → St → Ans) : Cont := fun x env st =>
 match x with
 | .normal => match st.objs[j]? with
  | some (.lp 0 jj f tm) => k env ⟨st.objs.set j (.lp 1 jj f tm), st.tk⟩
  | _ => none
 | _ => none
def rangeY (F : Nat) (f : Nat) (ps : Array Tmp) (asg body : Sim P) (hr : rngs f = some (ps, asg.code, body.code)) (h1 : noRange asg.code = true) (h2 : noRange body.code = true) : YOrc P where
 sem j args st k :=
  match st.objs[j]? with
  | some (.lp 0 _ f' tm) => match Nat.beq f' f && Nat.beq args.length ps.size with
   | true => asg.run F (beginK j fun env st => body.run F (endK j k) env st) (putAll ⟨tm.length, argEnv 0 tm⟩ ps.toList args) st
   | false => none
  | _ => none
 sound j args st k fin h g w b vals hob hv hs := by
  split at h
  ·rename_i jj f' tm hst
   split at h
   ·rename_i hc
    rw [Bool.and_eq_true] at hc
    obtain rfl := Nat.eq_of_beq_eq_true hc.1
    have hlen := Nat.eq_of_beq_eq_true hc.2
    obtain ⟨hkind, L, hL, hcode, ⟨hst0, hpend⟩, htm⟩ := ob_of hs hob hst
    rw [hr] at hcode
    simp only [Option.some.injEq, Prod.mk.injEq] at hcode
    obtain ⟨e1, e2, e3⟩ := hcode
    have hsz : vals.size = L.params.size := by have := RelAll.length _ _ hv; rw [← e1]; simpa [hlen] using this.symm
    refine ⟨_, _, _, _, run_yield hL hsz, roundIn_of_wpIn trivial ?_⟩
    rw [← e2, ← e3]
    have he0 : EnvRel g w ⟨tm.length, argEnv 0 tm⟩ ⟨L.tmps, []⟩ := by
     have hl := RelAll.length _ _ htm
     refine ⟨by simpa using hl.symm, fun t => ?_⟩
     have := argEnv_rel tm L.tmps.toList 0 [] [] htm rfl t
     simpa using this
    have he1 : EnvRel g w (putAll ⟨tm.length, argEnv 0 tm⟩ ps.toList args) { tmps := (L.params.zip vals).foldl (fun tmps (x : Tmp × Value) => tmps.setIfInBounds x.1 x.2) L.tmps, defers := [] } := by
     have := putAll_rel ps.toList args vals.toList _ _ hv he0
     rw [← e1, ← Array.foldl_toList, Array.toList_zip]
     exact this
    refine asg.sound F _ _ st fin h g w _ he1 hs _ ?_ (some b) (.inr h1)
    intro x env1 st1 g1 w1 a1 e k1 k2 k3 k4 k5 k6
    cases x with
    | normal =>
     obtain rfl := k6
     simp only [beginK] at k1
     split at k1
     ·rename_i jj1 f1 tm1 hst1
      have hob1 := k4.objs j b hob
      obtain ⟨hkind1, L1, hL1, hcode1, ⟨hr1, hp1⟩, htm1⟩ := ob_of k3 hob1 hst1
      obtain ⟨hs2, hE2⟩ := write_lp k3 hob1 hst1 hL1 { L1 with state := .busy } (s' := 1) (j' := jj1) hcode1 rfl htm1
      refine ⟨_, run_beginRound hL1 hr1, ?_⟩
      refine body.sound F _ env1 _ fin k1 g1 _ a1 (k2.mono hE2) hs2 _ ?_ (some b) (.inr h2)
      intro x env2 st2 g2 w2 a2 e m1 m2 m3 m4 m5 m6
      simp only [endK] at m1
      split at m1
      ·rename_i jj2 f2 tm2 hst2
       have hob2 := m4.objs j b hob1
       obtain ⟨hkind2, L2, hL2, hcode2, hr2, htm2⟩ := ob_of m3 hob2 hst2
       have hEE : Ev g w g2 w2 := k4.trans (hE2.trans m4)
       have fin' : ∀ (jump : Option Code) (s' j' : Nat), LSt s' j' { L2 with state := if jump.isNone then .ready else .done, pending := jump } → k (.ret (.bool jump.isNone)) ⟨st2.objs.set j (.lp s' j' f2 tm2), st2.tk⟩ = some fin →
         ∃ v w', (Instr.endRound b jump).run P w2 = .ok v w' ∧ ∃ r st' g', k r st' = some fin ∧ FinRel g' w' r (.returned v) ∧ StRel g' st' w' ∧ Ev g w g' w' := by
        intro jump s' j' hl hk
        obtain ⟨hs3, hE3⟩ := write_lp m3 hob2 hst2 hL2 { L2 with state := if jump.isNone then .ready else .done, pending := jump } (s' := s') (j' := j') hcode2 hl htm2
        exact ⟨_, _, run_endRound jump hL2, _, _, g2, hk, ⟨_, rfl, rfl⟩, hs3, hEE.trans hE3⟩
       cases x with
       | normal => obtain rfl := m6; exact fin' none 0 0 ⟨rfl, rfl⟩ m1
       | ret => obtain rfl := m6; exact fin' (some .ret) 2 0 ⟨rfl, rfl⟩ m1
       | exit i => obtain rfl := m6; exact fin' (some (.exit i)) 2 (i + 1) ⟨rfl, rfl⟩ m1
       | goto i => cases m1
       | panic v => cases m1
      ·cases m1
     ·cases k1
    | exit i => cases k1
    | goto i => cases k1
    | ret => cases k1
    | panic v => cases k1
   ·cases h
  ·cases h
def doneK (j : Nat) (K : Cont) (env : Env) : Fin → St → Ans := fun r st =>
 match r with
 | .ret _ => match st.objs[j]? with
  | some (.lp 0 _ _ _) => K .normal env ⟨st.objs.set j .gone, st.tk⟩
  | some (.lp 2 jj _ _) => match jj with
   | 0 => K .ret env ⟨st.objs.set j .gone, st.tk⟩
   | i + 1 => K (.exit i) env ⟨st.objs.set j .gone, st.tk⟩
  | _ => none
 | .pan v => K (.panic v) env st
noncomputable def Sim.rangeF (f : Nat) (g0 : Operand) (ps : Array Tmp) (asg body : Sim P) (it : YOrc P → Orc P) (hr : rngs f = some (ps, asg.code, body.code)) (h1 : noRange asg.code = true) (h2 : noRange body.code = true) : Sim P where
 code := .rangeFunc g0 ps asg.code body.code
 run F K env st :=
  match env.eval g0 with
  | .fn (.func i) first cap => match first with
   | [] => match Nat.beq (it (rangeY F f ps asg body hr h1 h2)).id i with
    | true => (it (rangeY F f ps asg body hr h1 h2)).sem (.fn (.yield st.objs.length) [] [] :: cap) ⟨st.objs ++ [.lp 0 0 f (slots env)], st.tk⟩ (doneK st.objs.length K env)
    | false => none
   | _ => none
  | _ => none
 sound F K env st fin h g w a he hs Q hp ρ hρ := by
  obtain rfl : ρ = none := by
   rcases hρ with h | h
   ·exact h
   ·cases h
  have hv := he.eval g0
  split at h
  ·rename_i i first cap hb
   rw [hb] at hv
   split at h
   ·split at h
    ·rename_i hid
     obtain rfl := Nat.eq_of_beq_eq_true hid
     generalize hO : it (rangeY F f ps asg body hr h1 h2) = O at h hv hb
     obtain ⟨va, vc, hv, hva, hvc⟩ := hv
     have hva : va = #[] := by have : va.toList = [] := hva; simpa using this
     subst hva
     have hv : a.eval g0 = .func (.func O.id) #[] vc := hv
     refine wpIn_rangeFunc fun fn _ => ?_
     have hp1 := Push.alloc w (.deferred (some []))
     have hs1 : StRel ⟨g.use w.heap.size .solid, g.objs, g.tk, g.ver⟩ st (w.alloc (.deferred (some []))) := by
      have := hs.push hp1 .solid g.tk (tk_refl _) trivial
      rw [hs.tk] at this ⊢; exact this
     have hE1 : Ev g w ⟨g.use w.heap.size .solid, g.objs, g.tk, g.ver⟩ (w.alloc (.deferred (some []))) := by simpa using Ev.push hp1 .solid [] g.tk (tk_refl _)
     generalize hg1 : (⟨g.use w.heap.size .solid, g.objs, g.tk, g.ver⟩ : Gh) = g1 at hs1 hE1
     have hk1 : g1.kind w.heap.size = .solid := by rw [← hg1]; simp [Gh.use]
     have hsz1 : (w.alloc (.deferred (some []))).heap.size = w.heap.size + 1 := World.size_alloc ..
     have hd1 : (w.alloc (.deferred (some []))).heap[w.heap.size]? = some (.deferred (some [])) := hp1.new
     generalize hw1 : w.alloc (.deferred (some [])) = w1 at *
     have htm : RelAll g1 w1 (slots env) a.tmps.toList := RelAll.mono hE1 _ _ (slots_rel he)
     obtain ⟨L, hLd⟩ : ∃ L : Loop, L = { state := .ready, pending := none, fn, tmps := a.tmps, params := ps, assign := asg.code, body := body.code, defers := w.heap.size } := ⟨_, rfl⟩
     have hLp : rngs f = some (L.params, L.assign, L.body) := by rw [hLd]; exact hr
     have hLs : LSt 0 0 L := by rw [hLd]; exact ⟨rfl, rfl⟩
     have hLt : L.tmps = a.tmps := by rw [hLd]
     have hp2 := Push.alloc w1 (.loop L)
     have hs2 := hs1.pushObj hp2 (.lp 0 0 f (slots env)) trivial fun hE => ⟨by simp [Gh.use], L, hp2.new, hLp, hLs, by rw [hLt]; exact RelAll.mono hE _ _ htm⟩
     have hE2 : Ev g1 w1 ⟨g1.use w1.heap.size (.obj st.objs.length), g1.objs ++ [w1.heap.size], g1.tk, g1.ver⟩ (w1.alloc (.loop L)) := Ev.push hp2 _ _ _ (tk_refl _)
     have hob2 : (g1.objs ++ [w1.heap.size])[st.objs.length]? = some w1.heap.size := by
      rw [List.getElem?_append_right (by rw [hs1.len]; exact Nat.le_refl _)]; simp [hs1.len]
     have hk2 : (g1.use w1.heap.size (.obj st.objs.length)) w.heap.size = .solid := by simp only [Gh.use]; rw [if_neg (by omega)]; exact hk1
     generalize hg2 : (⟨g1.use w1.heap.size (.obj st.objs.length), g1.objs ++ [w1.heap.size], g1.tk, g1.ver⟩ : Gh) = g2 at hs2 hE2
     have hob2 : g2.objs[st.objs.length]? = some w1.heap.size := by rw [← hg2]; exact hob2
     have hk2 : g2.kind w.heap.size = .solid := by rw [← hg2]; exact hk2
     have hd2 : (w1.alloc (.loop L)).heap[w.heap.size]? = some (.deferred (some [])) := (hp2.old (by omega)).trans hd1
     have hsz2 : w.heap.size < (w1.alloc (.loop L)).heap.size := by rw [World.size_alloc]; omega
     have hE : Ev g w g2 (w1.alloc (.loop L)) := hE1.trans hE2
     have hargs : RelAll g2 (w1.alloc (.loop L)) (.fn (.yield st.objs.length) [] [] :: cap) (#[Value.func (.yield (w.heap.size + 1)) #[] #[]] ++ vc).toList := by
      refine ⟨Value.func (.yield (w.heap.size + 1)) #[] #[], vc.toList, by simp, ⟨#[], #[], ⟨w1.heap.size, hob2, by rw [hsz1]⟩, rfl, rfl⟩, RelAll.mono hE _ _ hvc⟩
     refine ⟨w.heap.size + 1, [mark w.heap.size], w1.alloc (.loop L), { target := .fn (.func O.id) vc, args := #[.func (.yield (w.heap.size + 1)) #[] #[]] }, w1.alloc (.loop L), O.id, #[.func (.yield (w.heap.size + 1)) #[] #[]] ++ vc, w1.alloc (.loop L), ?_, ?_, fun _ _ => trivial, ?_, fun h => (by cases h), ?_⟩
     ·rw [← hw1, hLd]; exact run_enterLoop_outer _ _ _ _ _
     ·simp only [resolve, rangeCall, Deferred.ofValue, hv]
      simp [Act.eval]
     ·simp [invoke, run_callFunc O.hf O.hname O.hb]
     ·refine rd_calls ((O.sound _ _ _ _ h g2 _ _ hargs hs2).mono fun e w3 ⟨r, st3, g3, hk, f1, f2, f3⟩ => ?_)
      have hD3 : g3.kind w.heap.size = .solid ∧ w3.heap[w.heap.size]? = some (.deferred (some [])) := by
       obtain ⟨x1, x2⟩ := f3.solid w.heap.size hsz2 hk2
       exact ⟨x1, x2.trans hd2⟩
      have hsz3 : w.heap.size < w3.heap.size := Nat.lt_of_lt_of_le hsz2 f3.size
      have hdg : ∀ g4 w4, Ev g3 w3 g4 w4 → DG g4 w.heap.size w4 a.defers ([mark w.heap.size] ++ a.defers) := by
       intro g4 w4 hE4
       obtain ⟨x1, x2⟩ := hE4.solid w.heap.size hsz3 hD3.1
       exact ⟨[w.heap.size], rfl, by simp, fun D hD => by
        rw [List.mem_singleton] at hD
        subst hD
        exact ⟨Nat.le_refl _, Nat.lt_of_lt_of_le hsz3 hE4.size, x1, x2.trans hD3.2⟩⟩
      have hEr : ∀ {g4 w4}, Ev g3 w3 g4 w4 → EnvRel g4 w4 env { a with defers := [mark w.heap.size] ++ a.defers } := fun hE4 =>
       let he' := he.mono (hE.trans (f3.trans hE4)); ⟨he'.size, he'.slot⟩
      cases r with
      | pan x =>
       obtain ⟨v, rfl, hv'⟩ := f1
       exact hp (.panic x) env st3 g3 w3 _ _ hk (hEr (Ev.refl ..)) f2 (hE.trans f3) (hdg _ _ (Ev.refl ..)) ⟨v, rfl, hv'⟩
      | ret x =>
       obtain ⟨v, rfl, hv'⟩ := f1
       have hob3 := f3.objs _ _ hob2
       rw [hsz1] at hob3
       simp only [doneK] at hk
       split at hk
       ·rename_i jj3 f3' tm3 hst3
        obtain ⟨_, L3, hL3, _, ⟨hr3, hpn3⟩, _⟩ := ob_of f2 hob3 hst3
        obtain ⟨hs4, hE4⟩ := drop_lp f2 hob3 hst3 hL3 { L3 with state := .exhausted }
        have hel := (run_endLoop (P := P) hL3 (by rw [hr3]; intro e; cases e)).trans (show _ = Result.ok none (w3.putObj (w.heap.size + 1) (.loop { L3 with state := .exhausted })) by rw [hpn3])
        refine ⟨none, _, hel, ?_⟩
        exact hp .normal env _ _ _ _ .normal hk (hEr hE4) hs4 (hE.trans (f3.trans hE4)) (hdg _ _ hE4) rfl
       ·rename_i jj3 f3' tm3 hst3
        obtain ⟨_, L3, hL3, _, ⟨hr3, hpn3⟩, _⟩ := ob_of f2 hob3 hst3
        obtain ⟨hs4, hE4⟩ := drop_lp f2 hob3 hst3 hL3 { L3 with state := .exhausted }
        have hel := (run_endLoop (P := P) hL3 (by rw [hr3]; intro e; cases e)).trans (show _ = Result.ok (some (jcode jj3)) (w3.putObj (w.heap.size + 1) (.loop { L3 with state := .exhausted })) by rw [hpn3])
        refine ⟨some (jcode jj3), _, hel, ?_⟩
        split at hk
        ·exact wpIn_ret (hp .ret env _ _ _ _ .ret hk (hEr hE4) hs4 (hE.trans (f3.trans hE4)) (hdg _ _ hE4) rfl)
        ·rename_i ii
         exact wpIn_exit (hp (.exit ii) env _ _ _ _ (.exit ii) hk (hEr hE4) hs4 (hE.trans (f3.trans hE4)) (hdg _ _ hE4) rfl)
       ·cases hk
    ·cases h
   ·cases h
  ·cases h
noncomputable def YOrc.step (Y : YOrc P) (j : Nat) (args : List AV) (st : St) : Option (Bool × St) :=
 opq (match Y.sem j args st Fun.done with
  | some (.ret (.bool b), st') => some (b, st')
  | _ => none)
noncomputable def YOrc.told (Y : YOrc P) : YOrc P where
 sem j args st k := onSome (Y.step j args st) none fun o => k (.ret (.bool o.1)) o.2
 sound j args st k fin h g w b vals h1 h2 h3 := by
  cases hs : Y.step j args st with
  | none => rw [hs] at h; cases h
  | some o =>
   rw [hs] at h
   obtain ⟨b', st'⟩ := o
   have h : k (.ret (.bool b')) st' = some fin := h
   have hd : Y.sem j args st Fun.done = some (.ret (.bool b'), st') := by
    rw [YOrc.step, opq_eq] at hs
    split at hs
    ·rename_i b'' st'' hr
     simp only [Option.some.injEq, Prod.mk.injEq] at hs
     obtain ⟨rfl, rfl⟩ := hs
     exact hr
    ·cases hs
   obtain ⟨fn, tmps, assign, body, q1, q2⟩ := Y.sound j args st _ _ hd g w b vals h1 h2 h3
   refine ⟨fn, tmps, assign, body, q1, RoundIn.mono q2 ?_⟩
   rintro e w' ⟨r, st2, g', e1, e2⟩
   simp only [Fun.done, Option.some.injEq, Prod.mk.injEq] at e1
   obtain ⟨rfl, rfl⟩ := e1
   exact ⟨_, _, g', h, e2⟩
noncomputable def txC (l : List (List AV)) : ByteArray := opq (textOf ((nR l).map fun (b : Nat) => (b : Int)))
noncomputable def abytesC (x : AV) (st : St) (k : AV → Ans) : Ans :=
 match x with
 | .str _ => none
 | x => match rowsA 1 x st with
  | some l => match okR l with
   | true => k (.str (txC l))
   | false => none
  | none => none
theorem abytesC_of {x : AV} {st : St} {k : AV → Ans} {fin : Fin × St} (h : abytesC x st k = some fin) : (∀ s, x ≠ .str s) ∧ abytes x st k = some fin := by
 have hx : ∀ s, x ≠ .str s := by intro s e; rw [e] at h; cases h
 refine ⟨hx, ?_⟩
 unfold abytesC at h
 unfold abytes
 split at h
 ·exact absurd rfl (hx _)
 ·split at h
  ·rename_i l hl
   split at h
   ·rename_i hr
    split
    ·exact absurd rfl (hx _)
    ·rw [hl]
     simp only [numsOf_nR hr]
     rw [txC, opq_eq] at h
     exact h
   ·cases h
  ·cases h
noncomputable def opBytesStrC (dst : Option Tmp) (S T : TypeId) (x : Operand) (e : TypeId) (hS : P.underlying S = some (.slice e)) (he : P.underlying e = some (.int .u8)) (hT : P.underlying T = some .string) (ty : TypeId) (pos : String) (after : Array Edge) : QSim P where
 oper := mkOp dst (.convert S T x) ty pos after
 plain := rfl
 xs := [x]
 f ev st k := abytesC (ev x) st k
 congr ev ev' st k h := by simp only [h x (by simp)]
 sound ev st k fin h g w a hev hs := (opBytesStr dst S T x e hS he hT ty pos after).sound ev st k fin (by
  obtain ⟨h1, h2⟩ := abytesC_of h
  show (match ev x with | .str _ => none | _ => abytes (ev x) st k) = some fin
  split
  ·rename_i s e; exact absurd e (h1 s)
  ·exact h2) g w a hev hs
end
end Go.V
namespace Go.V
section
variable {P : Program}
def Sim.never (c : Code) : Sim P := ⟨c, fun _ _ _ _ => none, fun _ _ _ _ _ h => by cases h⟩
def cutOk (args : List AV) (st st2 : St) : Prop :=
 st.tk = [] ∧ NearL st.objs.length args ∧ (∀ o ∈ st.objs, NearO st.objs.length o) ∧ st.objs.length ≤ st2.objs.length ∧ ∀ o ∈ st2.objs.take st.objs.length, NearO st.objs.length o
open Classical in
noncomputable def YOrc.stepC (Y : YOrc P) (j : Nat) (args : List AV) (st : St) : Option (Bool × St) :=
 opq (match Y.sem j args st Fun.done with
  | some (.ret (.bool b), st') => if cutOk args st st' then some (b, ⟨st'.objs.take st.objs.length, []⟩) else none
  | _ => none)
theorem YOrc.stepC_of {Y : YOrc P} {j : Nat} {args : List AV} {st : St} {b : Bool} {st' : St} (h : Y.sem j args st Fun.done = some (.ret (.bool b), st')) (hc : cutOk args st st') : Y.stepC j args st = some (b, ⟨st'.objs.take st.objs.length, []⟩) := by
 rw [YOrc.stepC, opq_eq, h]
 exact if_pos hc
theorem nx_id (n : Nat) : nx (fun k => k) n n = fun k => k := by
 funext i
 show (if i < n then i else n + (i - n)) = i
 split <;> omega
def invI (n k : Nat) : Option Nat := if k < n then some k else none
theorem lies_self {st : St} (ht : st.tk = []) (h : ∀ o ∈ st.objs, NearO st.objs.length o) : Lies st st.objs (fun k => k) st.objs.length (invI st.objs.length) := by
 refine ⟨rfl, ⟨fun i hi => ?_, fun k i h => ?_⟩, fun i o ho => ?_, h⟩
 ·simp only [invI]; rw [if_pos hi]
 ·simp only [invI] at h
  split at h
  ·cases h; exact ⟨by omega, rfl⟩
  ·cases h
 ·rw [renO_id]; exact ho
noncomputable def YOrc.cut (Y : YOrc P) : YOrc P where
 sem j args st k := onSome (Y.stepC j args st) none fun o => k (.ret (.bool o.1)) o.2
 sound j args st k fin h g w b vals h1 h2 h3 := by
  cases hs : Y.stepC j args st with
  | none => rw [hs] at h; cases h
  | some o =>
   rw [hs] at h
   obtain ⟨b', st'⟩ := o
   have h : k (.ret (.bool b')) st' = some fin := h
   have hd : ∃ st2, Y.sem j args st Fun.done = some (.ret (.bool b'), st2) ∧ cutOk args st st2 ∧ st' = ⟨st2.objs.take st.objs.length, []⟩ := by
    rw [YOrc.stepC, opq_eq] at hs
    split at hs
    ·rename_i b'' st'' hr
     split at hs
     ·rename_i hc
      simp only [Option.some.injEq, Prod.mk.injEq] at hs
      obtain ⟨rfl, rfl⟩ := hs
      exact ⟨st'', hr, hc, rfl⟩
     ·cases hs
    ·cases hs
   obtain ⟨st2, hr, ⟨c1, c2, c3, c4, c5⟩, rfl⟩ := hd
   have hL := lies_self c1 c3
   have hlen := h3.len
   have hl : ∀ i, i < st.objs.length → (fun k : Nat => k) i < g.objs.length := fun i hi => by rw [hlen]; exact hi
   have hj : j < st.objs.length := by rw [← hlen]; exact getElem?_lt h1
   have hst : st = ⟨st.objs, []⟩ := by rw [← c1]
   have hs1 := h3.near hL
   rw [← hst] at hs1
   obtain ⟨fn, tmps, assign, body, q1, q2⟩ := Y.sound j args st _ _ hr (g.near w.heap.size st.objs.length (fun k => k) (invI st.objs.length)) w b vals ((near_objs hj (hl j hj)).trans h1) (by
    have := RelAll.near hL.inv hl _ _ c2 (by rw [renL_id]; exact h2)
    exact this) hs1
   refine ⟨fn, tmps, assign, body, q1, RoundIn.mono q2 ?_⟩
   rintro e w' ⟨r, st3, g2, e1, e2, e3, e4⟩
   simp only [Fun.done, Option.some.injEq, Prod.mk.injEq] at e1
   obtain ⟨rfl, rfl⟩ := e1
   obtain ⟨v, rfl, hv⟩ := e2
   have hst3 : st3 = ⟨st3.objs, st3.tk⟩ := rfl
   obtain ⟨g', k1, k2, k3⟩ := placed_core (objs0 := st.objs) (objs2 := st3.objs) (r0 := .bool b') (xt := st3.tk) (n := st.objs.length) (p := st.objs.length) (st := st) (st' := ⟨st3.objs.take st.objs.length, []⟩) (Nat.le_refl _) c4 trivial
    (fun i o hi ho => c5 o (List.mem_of_getElem? (by rw [List.getElem?_take, if_pos hi]; exact ho))) hL c1.symm (by simp only [List.length_take]; omega)
    (fun i o hi ho => by rw [nx_id, renO_id]; show (st3.objs.take st.objs.length)[i]? = _; rw [List.getElem?_take, if_pos hi]; exact ho)
    (fun k hk hi => by simp only [invI] at hi; rw [if_pos hk] at hi; cases hi) h3 hv e3 e4
   exact ⟨_, _, g', h, ⟨v, rfl, k1⟩, k2, k3⟩
end
theorem aloadT_mono {d : LD} {p : AV} {st : St} {k : AV → Ans} {fin : Fin × St} (o : Ob) (h : aloadT d p st k = some fin) : aloadT d p ⟨st.objs ++ [o], st.tk⟩ k = some fin := by
 have app : ∀ {j : Nat} {x : Ob}, st.objs[j]? = some x → (st.objs ++ [o])[j]? = some x := fun {j x} hx => by
  rw [List.getElem?_append_left (getElem?_lt hx)]; exact hx
 unfold aloadT at h ⊢
 split at h
 ·exact h
 ·split at h
  ·rename_i cs hcs
   simp only [app hcs]; exact h
  ·cases h
 ·split at h
  ·rename_i v' cs hcs
   simp only [app hcs]; exact h
  ·cases h
 ·cases h
section
variable {P : Program}
theorem opLoadT_mono {ld : LD} {dst : Option Tmp} {T : TypeId} {x : Operand} {d : TypeDesc} {hd : P.underlying T = some d} {sz : Nat} {hz : (P.info? T).map (·.size) = some sz} {hl} {ty : TypeId} {pos : String} {after : Array Edge} : (opLoadT (P := P) ld dst T x d hd sz hz hl ty pos after).Mono := fun ev st o k fin h => aloadT_mono o h
theorem opAlloc_adds {dst : Option Tmp} {T : TypeId} {z : Value} {hz : (P.info? T).bind (·.zero) = some z} {ty : TypeId} {pos : String} {after : Array Edge} : (opAlloc (P := P) dst T z hz ty pos after).Adds := fun ev st r st' h => by
 have h : (match cellsA (ofLit z) with
  | some cs => (some (Fin.ret (.ptr st.objs.length 0), (⟨st.objs ++ [.cells cs], st.tk⟩ : St)) : Ans)
  | none => none) = some (.ret r, st') := h
 split at h
 ·simp only [Option.some.injEq, Prod.mk.injEq] at h
  exact ⟨_, h.2.symm⟩
 ·cases h
end
end Go.V
namespace Go.Proofs.Ytnhdjhcpbjggmaa.V
open Go Go.V Go.RowKit
theorem ze85 : (Try.prog.info? 85).bind (·.zero) = some (.agg #[(.int .u8 0), (.int .u8 0), (.int .u8 0), (.int .u8 0), (.int .u8 0), (.int .u8 0), (.int .u8 0), (.int .u8 0), (.int .u8 0), (.int .u8 0), (.int .u8 0), (.int .u8 0), (.int .u8 0), (.int .u8 0), (.int .u8 0), (.int .u8 0), (.int .u8 0), (.int .u8 0), (.int .u8 0), (.int .u8 0), (.int .u8 0), (.int .u8 0), (.int .u8 0), (.int .u8 0), (.int .u8 0), (.int .u8 0), (.int .u8 0), (.int .u8 0), (.int .u8 0), (.int .u8 0), (.int .u8 0), (.int .u8 0), (.int .u8 0), (.int .u8 0), (.int .u8 0), (.int .u8 0), (.int .u8 0), (.int .u8 0), (.int .u8 0), (.int .u8 0), (.int .u8 0), (.int .u8 0), (.int .u8 0), (.int .u8 0), (.int .u8 0), (.int .u8 0), (.int .u8 0), (.int .u8 0), (.int .u8 0), (.int .u8 0), (.int .u8 0), (.int .u8 0), (.int .u8 0), (.int .u8 0), (.int .u8 0), (.int .u8 0), (.int .u8 0), (.int .u8 0), (.int .u8 0), (.int .u8 0), (.int .u8 0), (.int .u8 0), (.int .u8 0), (.int .u8 0)]) := by kernel_rfl
theorem by85 : (Try.prog.info? 85).map (·.bytes) = some 64 := by kernel_rfl
theorem sz85 : (Try.prog.info? 85).map (·.size) = some 64 := by kernel_rfl
theorem el75 : ElemOf Try.prog 75 85 64 64 (.agg #[(.int .u8 0), (.int .u8 0), (.int .u8 0), (.int .u8 0), (.int .u8 0), (.int .u8 0), (.int .u8 0), (.int .u8 0), (.int .u8 0), (.int .u8 0), (.int .u8 0), (.int .u8 0), (.int .u8 0), (.int .u8 0), (.int .u8 0), (.int .u8 0), (.int .u8 0), (.int .u8 0), (.int .u8 0), (.int .u8 0), (.int .u8 0), (.int .u8 0), (.int .u8 0), (.int .u8 0), (.int .u8 0), (.int .u8 0), (.int .u8 0), (.int .u8 0), (.int .u8 0), (.int .u8 0), (.int .u8 0), (.int .u8 0), (.int .u8 0), (.int .u8 0), (.int .u8 0), (.int .u8 0), (.int .u8 0), (.int .u8 0), (.int .u8 0), (.int .u8 0), (.int .u8 0), (.int .u8 0), (.int .u8 0), (.int .u8 0), (.int .u8 0), (.int .u8 0), (.int .u8 0), (.int .u8 0), (.int .u8 0), (.int .u8 0), (.int .u8 0), (.int .u8 0), (.int .u8 0), (.int .u8 0), (.int .u8 0), (.int .u8 0), (.int .u8 0), (.int .u8 0), (.int .u8 0), (.int .u8 0), (.int .u8 0), (.int .u8 0), (.int .u8 0), (.int .u8 0)]) := ⟨Try.underlying75, sz85, by85, ze85, by kernel_rfl, by decide⟩
theorem ze79 : (Try.prog.info? 79).bind (·.zero) = some (.agg #[(.slice none 0 0), (.map none), (.slice none 0 0)]) := by kernel_rfl
theorem fl79_0 : fieldB Try.prog 79 0 0 1 false = true := by kernel_rfl
theorem sz75 : (Try.prog.info? 75).map (·.size) = some 1 := by kernel_rfl
theorem sz5 : (Try.prog.info? 5).map (·.size) = some 1 := by kernel_rfl
theorem ze5 : (Try.prog.info? 5).bind (·.zero) = some (.int .u8 0) := by kernel_rfl
theorem by5 : (Try.prog.info? 5).map (·.bytes) = some 1 := by kernel_rfl
theorem el33 : ElemOf Try.prog 33 5 1 1 (.int .u8 0) := ⟨Try.underlying33, sz5, by5, ze5, by kernel_rfl, by decide⟩
theorem fl79_2 : fieldB Try.prog 79 2 2 1 false = true := by kernel_rfl
theorem sz77 : (Try.prog.info? 77).map (·.size) = some 1 := by kernel_rfl
theorem mixed : Try.prog.follows .mixedOrders = true := by kernel_rfl
noncomputable def f22_l0 : Sim Try.prog :=
 (.seq (.live [0, 6, 24, 25, 26] (.region 5 [
 ⟨(opBin (some 26) .lss 3 (.tmp 25) (.tmp 24) 3 0 "disk.go:35" #[]).op, none⟩
 ] (by kernel_rfl)))
 (.seq (.cond (.tmp 26)
 .skip
 (.live [6] (.exit 0)))
 (.seq (.block 1 (.seq (.live [0, 6, 7, 24, 25] (.region 6 [
 ⟨(opMove (some 27) (.tmp 25) 3 "disk.go:35" #[]).op, none⟩,
 ⟨(opAssign (some 7) (.tmp 27) 3 "disk.go:35" #[eD 0, eP 0]).op, none⟩
 ] (by kernel_rfl)))
 (.seq (.live [0, 6, 8, 24, 25] (.region 7 [
 ⟨(opMove (some 28) (.tmp 6) 25 "disk.go:36" #[]).op, none⟩,
 ⟨(opNilCheck (some 29) (.tmp 28) 0 "disk.go:36" #[eD 0]).op, none⟩,
 ⟨(opFieldAddr (some 30) 79 (.tmp 29) 0 0 1 false fl79_0 (by decide) 0 "disk.go:36" #[eD 1]).op, none⟩,
 ⟨(opLoadT (.one .any) (some 31) 75 (.tmp 30) (.slice 85) Try.underlying75 1 sz75 (by kernel_rfl) 75 "disk.go:36" #[eD 2]).op, none⟩,
 ⟨(opMove (some 32) (.tmp 7) 3 "disk.go:36" #[]).op, none⟩,
 ⟨(opIndexAddrT (some 33) 75 (.tmp 31) (.tmp 32) 85 64 Try.underlying75 sz85 0 "disk.go:36" #[eD 3, eD 4]).op, none⟩,
 ⟨(opSliceB (some 34) 85 (.tmp 33) none none none 64 5 1 Try.underlying85 (by decide) sz5 33 "disk.go:36" #[eD 5]).op, none⟩,
 ⟨(opMove (some 35) (.tmp 0) 33 "disk.go:36" #[]).op, none⟩,
 ⟨(opCopyV (some 36) (.tmp 34) (.tmp 35) 33 33 5 1 Try.underlying33 sz5 3 "disk.go:36" #[eD 6, eD 7]).op, none⟩,
 ⟨(opAssign (some 8) (.tmp 36) 3 "disk.go:36" #[eD 8, eC 8, eP 0, eP 1, eP 2, eP 3, eP 4, eP 5, eP 6, eP 7, eP 8]).op, none⟩
 ] (by kernel_rfl)))
 (.live [0, 6, 24, 25] (.region 8 [
 ⟨(opMove (some 37) (.tmp 0) 33 "disk.go:37" #[]).op, none⟩,
 ⟨(opMove (some 38) (.tmp 8) 3 "disk.go:37" #[]).op, none⟩,
 ⟨(opSlice (some 39) 33 (.tmp 37) (some (.tmp 38)) none none 5 1 Try.underlying33 sz5 33 "disk.go:37" #[eD 0, eD 1]).op, none⟩,
 ⟨(opAssign (some 0) (.tmp 39) 33 "disk.go:37" #[eD 2, eP 0, eP 1, eP 2]).op, none⟩
 ] (by kernel_rfl))))))
 (.live [0, 6, 24, 25] (.region 9 [
 ⟨(opBin (some 40) .add 3 (.tmp 25) (.const (Value.int IntKind.i64 1)) 3 3 "disk.go:35" #[]).op, none⟩,
 ⟨(opMove (some 25) (.tmp 40) 3 "disk.go:35" #[eD 0]).op, none⟩
 ] (by kernel_rfl))))))
noncomputable def f22_r0 : Sim Try.prog :=
 (.seq (.live [4, 5] (.region 10 [
 ⟨(opMove (some 41) (.tmp 6) 25 "disk.go:39" #[]).op, none⟩,
 ⟨(opAssign (some 4) (.tmp 41) 25 "disk.go:39" #[eD 0, eP 0]).op, none⟩,
 ⟨(opAssign (some 5) (.const (Value.int IntKind.i64 0)) 26 "disk.go:39" #[eC 1, eP 0, eP 1]).op, none⟩
 ] (by kernel_rfl)))
 (.live [4, 5] .ret))
noncomputable def f22_b : Sim Try.prog :=
 (.seq (.live [0, 1] (.region 0 [
 ⟨(opAssign (some 4) (.const (Value.pointer none)) 25 "disk.go:30" #[]).op, none⟩,
 ⟨(opAssign (some 5) (.const (Value.int IntKind.i64 0)) 26 "disk.go:30" #[eC 0]).op, none⟩
 ] (by kernel_rfl)))
 (.seq (.seq (.live [0, 1, 14] (.region 1 [
 ⟨(opMove (some 9) (.tmp 1) 3 "disk.go:31" #[]).op, none⟩,
 ⟨(opBin (some 10) .lss 3 (.tmp 9) (.const (Value.int IntKind.i64 1)) 3 4 "disk.go:31" #[eD 0]).op, none⟩,
 ⟨(opMove (some 11) (.tmp 10) 4 "disk.go:31" #[eD 1]).op, none⟩,
 ⟨(opMove (some 12) (.tmp 1) 3 "disk.go:31" #[eG 2]).op, (some (2, 11, false))⟩,
 ⟨(opBin (some 13) .gtr 3 (.tmp 12) (.const (Value.int IntKind.i64 65536)) 3 4 "disk.go:31" #[eD 3, eG 2]).op, (some (2, 11, false))⟩,
 ⟨(opPick (some 14) (.tmp 11) (.const (Value.bool true)) (.tmp 13) 4 "disk.go:31" #[eD 2, eD 4]).op, none⟩
 ] (by kernel_rfl)))
 (.cond (.tmp 14)
 (.seq (.live [4, 5] (.region 2 [
 ⟨(opAssign (some 4) (.const (Value.pointer none)) 25 "disk.go:32" #[]).op, none⟩,
 ⟨(opAssign (some 5) (.const (Value.int IntKind.i64 41)) 26 "disk.go:32" #[eC 0, eP 0]).op, none⟩
 ] (by kernel_rfl)))
 (.live [4, 5] .ret))
 .skip))
 (.seq (.live [0, 6] (.region 3 [
 ⟨(opMove (some 15) (.tmp 1) 3 "disk.go:34" #[]).op, none⟩,
 ⟨(opMakeC (some 16) 75 (.tmp 15) 85 64 64 (.agg #[(.int .u8 0), (.int .u8 0), (.int .u8 0), (.int .u8 0), (.int .u8 0), (.int .u8 0), (.int .u8 0), (.int .u8 0), (.int .u8 0), (.int .u8 0), (.int .u8 0), (.int .u8 0), (.int .u8 0), (.int .u8 0), (.int .u8 0), (.int .u8 0), (.int .u8 0), (.int .u8 0), (.int .u8 0), (.int .u8 0), (.int .u8 0), (.int .u8 0), (.int .u8 0), (.int .u8 0), (.int .u8 0), (.int .u8 0), (.int .u8 0), (.int .u8 0), (.int .u8 0), (.int .u8 0), (.int .u8 0), (.int .u8 0), (.int .u8 0), (.int .u8 0), (.int .u8 0), (.int .u8 0), (.int .u8 0), (.int .u8 0), (.int .u8 0), (.int .u8 0), (.int .u8 0), (.int .u8 0), (.int .u8 0), (.int .u8 0), (.int .u8 0), (.int .u8 0), (.int .u8 0), (.int .u8 0), (.int .u8 0), (.int .u8 0), (.int .u8 0), (.int .u8 0), (.int .u8 0), (.int .u8 0), (.int .u8 0), (.int .u8 0), (.int .u8 0), (.int .u8 0), (.int .u8 0), (.int .u8 0), (.int .u8 0), (.int .u8 0), (.int .u8 0), (.int .u8 0)]) el75 [AV.int .u8 0, AV.int .u8 0, AV.int .u8 0, AV.int .u8 0, AV.int .u8 0, AV.int .u8 0, AV.int .u8 0, AV.int .u8 0, AV.int .u8 0, AV.int .u8 0, AV.int .u8 0, AV.int .u8 0, AV.int .u8 0, AV.int .u8 0, AV.int .u8 0, AV.int .u8 0, AV.int .u8 0, AV.int .u8 0, AV.int .u8 0, AV.int .u8 0, AV.int .u8 0, AV.int .u8 0, AV.int .u8 0, AV.int .u8 0, AV.int .u8 0, AV.int .u8 0, AV.int .u8 0, AV.int .u8 0, AV.int .u8 0, AV.int .u8 0, AV.int .u8 0, AV.int .u8 0, AV.int .u8 0, AV.int .u8 0, AV.int .u8 0, AV.int .u8 0, AV.int .u8 0, AV.int .u8 0, AV.int .u8 0, AV.int .u8 0, AV.int .u8 0, AV.int .u8 0, AV.int .u8 0, AV.int .u8 0, AV.int .u8 0, AV.int .u8 0, AV.int .u8 0, AV.int .u8 0, AV.int .u8 0, AV.int .u8 0, AV.int .u8 0, AV.int .u8 0, AV.int .u8 0, AV.int .u8 0, AV.int .u8 0, AV.int .u8 0, AV.int .u8 0, AV.int .u8 0, AV.int .u8 0, AV.int .u8 0, AV.int .u8 0, AV.int .u8 0, AV.int .u8 0, AV.int .u8 0] (by kernel_rfl) (by kernel_rfl) 75 "disk.go:34" #[eD 0, eD 0]).op, none⟩,
 ⟨(opMakeMap (some 17) 76 76 "disk.go:34" #[]).op, none⟩,
 ⟨(opBuild (some 18) 79 #[(.slice none 0 0), (.map none), (.slice none 0 0)] [(0, 0, 1, (.tmp 16)), (1, 1, 1, (.tmp 17))] ze79 (by kernel_rfl) 79 "disk.go:34" #[eD 1, eD 2]).op, none⟩,
 ⟨(MSim.ph (opBox (some 19) 79 (.tmp 18) 25 "disk.go:34" #[eD 3]) 1).op, none⟩,
 ⟨(opAssign (some 6) (.tmp 19) 25 "disk.go:34" #[eD 4, eP 0, eP 1, eP 2, eP 3, eP 4]).op, none⟩
 ] (by kernel_rfl)))
 (.seq (.seq (.live [0, 6, 24, 25] (.region 4 [
 ⟨(opMove (some 20) (.tmp 6) 25 "disk.go:35" #[]).op, none⟩,
 ⟨(opNilCheck (some 21) (.tmp 20) 0 "disk.go:35" #[eD 0]).op, none⟩,
 ⟨(opFieldAddr (some 22) 79 (.tmp 21) 0 0 1 false fl79_0 (by decide) 0 "disk.go:35" #[eD 1]).op, none⟩,
 ⟨(opLoadT (.one .any) (some 23) 75 (.tmp 22) (.slice 85) Try.underlying75 1 sz75 (by kernel_rfl) 75 "disk.go:35" #[eD 2]).op, none⟩,
 ⟨(opLen (some 24) (.tmp 23) 75 (.slice 85) Try.underlying75 3 "disk.go:35" #[eD 3]).op, none⟩,
 ⟨(opMove (some 25) (.const (Value.int IntKind.i64 0)) 3 "disk.go:35" #[]).op, none⟩
 ] (by kernel_rfl)))
 (.block 0 (.loop [0, 6, 24, 25] f22_l0)))
 f22_r0))))
noncomputable def f22 : Fun Try.prog where
 id := 22
 fn := Try.f22
 hf := Try.func22
 hname := by kernel_rfl
 body := f22_b
 hbody := by kernel_rfl
 res := [rTmp 4, rTmp 5]
 hres := by kernel_rfl
 n := 42
 hn := by kernel_rfl
noncomputable def f73_b : Sim Try.prog :=
 (.seq (.live [0, 1] (.region 0 [
 ⟨(opAssign (some 4) (.const (Value.bool false)) 4 "disk.go:43" #[]).op, none⟩
 ] (by kernel_rfl)))
 (.seq (.live [4] (.region 1 [
 ⟨(opMove (some 5) (.tmp 1) 3 "disk.go:43" #[]).op, none⟩,
 ⟨(opBin (some 6) .geq 3 (.tmp 5) (.const (Value.int IntKind.i64 0)) 3 4 "disk.go:43" #[eD 0]).op, none⟩,
 ⟨(opMove (some 7) (.tmp 6) 4 "disk.go:43" #[eD 1]).op, none⟩,
 ⟨(opMove (some 8) (.tmp 1) 3 "disk.go:43" #[eG 2]).op, (some (2, 7, true))⟩,
 ⟨(opMove (some 9) (.tmp 0) 25 "disk.go:43" #[eG 2]).op, (some (2, 7, true))⟩,
 ⟨(opNilCheck (some 10) (.tmp 9) 0 "disk.go:43" #[eD 4, eG 2]).op, (some (2, 7, true))⟩,
 ⟨(opFieldAddr (some 11) 79 (.tmp 10) 0 0 1 false fl79_0 (by decide) 0 "disk.go:43" #[eD 5, eG 2]).op, (some (2, 7, true))⟩,
 ⟨(opLoadT (.one .any) (some 12) 75 (.tmp 11) (.slice 85) Try.underlying75 1 sz75 (by kernel_rfl) 75 "disk.go:43" #[eD 6, eG 2]).op, (some (2, 7, true))⟩,
 ⟨(opLen (some 13) (.tmp 12) 75 (.slice 85) Try.underlying75 3 "disk.go:43" #[eD 7, eG 2]).op, (some (2, 7, true))⟩,
 ⟨(opBin (some 14) .lss 3 (.tmp 8) (.tmp 13) 3 4 "disk.go:43" #[eD 3, eD 8, eG 2]).op, (some (2, 7, true))⟩,
 ⟨(opPick (some 15) (.tmp 7) (.tmp 14) (.const (Value.bool false)) 4 "disk.go:43" #[eD 2, eD 9]).op, none⟩,
 ⟨(opAssign (some 4) (.tmp 15) 4 "disk.go:43" #[eD 10, eC 2, eP 0, eP 1, eP 2, eP 3, eP 4, eP 5, eP 6, eP 7, eP 8, eP 9, eP 10]).op, none⟩
 ] (by kernel_rfl)))
 (.live [4] .ret)))
noncomputable def f73 : Fun Try.prog where
 id := 73
 fn := Try.f73
 hf := Try.func73
 hname := by kernel_rfl
 body := f73_b
 hbody := by kernel_rfl
 res := [rTmp 4]
 hres := by kernel_rfl
 n := 16
 hn := by kernel_rfl
noncomputable def f66_b : Sim Try.prog :=
 (.seq (.live [0] (.region 0 [
 ⟨(opAssign (some 2) (.const (Value.slice none 0 0)) 33 "slices.go:355" #[]).op, none⟩
 ] (by kernel_rfl)))
 (.seq (.seq (.live [0, 4] (.region 1 [
 ⟨(opMove (some 3) (.tmp 0) 33 "slices.go:357" #[]).op, none⟩,
 ⟨(opEq (some 4) 33 (.slice 5) Try.underlying33 (.tmp 3) (.const (Value.slice none 0 0)) (.inl rfl) 33 4 "slices.go:357" #[eD 0]).op, none⟩
 ] (by kernel_rfl)))
 (.cond (.tmp 4)
 (.seq (.live [2] (.region 2 [
 ⟨(opAssign (some 2) (.const (Value.slice none 0 0)) 33 "slices.go:358" #[]).op, none⟩
 ] (by kernel_rfl)))
 (.live [2] .ret))
 .skip))
 (.seq (.live [2] (.region 3 [
 ⟨(opBuildSlice (some 5) 33 0 [] 5 1 1 (.int .u8 0) el33 (by kernel_rfl) (by decide) 33 "slices.go:362" #[]).op, none⟩,
 ⟨(opMove (some 6) (.tmp 0) 33 "slices.go:362" #[]).op, none⟩,
 ⟨(opAppendF (some 7) (.tmp 5) (.tmp 6) 33 33 5 1 1 (.int .u8 0) el33 (.slice 5) Try.underlying33 rfl 33 "slices.go:362" #[eD 0, eD 1]).op, none⟩,
 ⟨(opAssign (some 2) (.tmp 7) 33 "slices.go:362" #[eD 2, eC 2, eP 0, eP 1, eP 2]).op, none⟩
 ] (by kernel_rfl)))
 (.live [2] .ret))))
noncomputable def f66 : Fun Try.prog where
 id := 66
 fn := Try.f66
 hf := Try.func66
 hname := by kernel_rfl
 body := f66_b
 hbody := by kernel_rfl
 res := [rTmp 2]
 hres := by kernel_rfl
 n := 8
 hn := by kernel_rfl
noncomputable def f35_b : Sim Try.prog :=
 (.seq (.live [0] (.region 0 [
 ⟨(opAssign (some 2) (.const (Value.int IntKind.i64 0)) 3 "disk.go:96" #[]).op, none⟩
 ] (by kernel_rfl)))
 (.seq (.live [2] (.region 1 [
 ⟨(opMove (some 3) (.tmp 0) 25 "disk.go:96" #[]).op, none⟩,
 ⟨(opNilCheck (some 4) (.tmp 3) 0 "disk.go:96" #[eD 0]).op, none⟩,
 ⟨(opFieldAddr (some 5) 79 (.tmp 4) 0 0 1 false fl79_0 (by decide) 0 "disk.go:96" #[eD 1]).op, none⟩,
 ⟨(opLoadT (.one .any) (some 6) 75 (.tmp 5) (.slice 85) Try.underlying75 1 sz75 (by kernel_rfl) 75 "disk.go:96" #[eD 2]).op, none⟩,
 ⟨(opLen (some 7) (.tmp 6) 75 (.slice 85) Try.underlying75 3 "disk.go:96" #[eD 3]).op, none⟩,
 ⟨(opAssign (some 2) (.tmp 7) 3 "disk.go:96" #[eD 4, eP 0, eP 1, eP 2, eP 3, eP 4]).op, none⟩
 ] (by kernel_rfl)))
 (.live [2] .ret)))
noncomputable def f35 : Fun Try.prog where
 id := 35
 fn := Try.f35
 hf := Try.func35
 hname := by kernel_rfl
 body := f35_b
 hbody := by kernel_rfl
 res := [rTmp 2]
 hres := by kernel_rfl
 n := 8
 hn := by kernel_rfl
noncomputable def f17_l0 : Sim Try.prog :=
 (.seq (.seq (.live [0, 1, 5, 14] (.region 4 [
 ⟨(opMove (some 11) (.tmp 5) 3 "ref.go:18" #[]).op, none⟩,
 ⟨(opMove (some 12) (.tmp 0) 33 "ref.go:18" #[]).op, none⟩,
 ⟨(opLen (some 13) (.tmp 12) 33 (.slice 5) Try.underlying33 3 "ref.go:18" #[eD 1]).op, none⟩,
 ⟨(opBin (some 14) .lss 3 (.tmp 11) (.tmp 13) 3 4 "ref.go:18" #[eD 0, eD 2]).op, none⟩
 ] (by kernel_rfl)))
 (.cond (.tmp 14)
 .skip
 (.live [] (.exit 0))))
 (.seq (.block 1 (.seq (.live [0, 1, 5, 25] (.draw 6 [
 ⟨.p (opMove (some 17) (.tmp 0) 33 "ref.go:19" #[]), none⟩,
 ⟨.p (opMove (some 18) (.tmp 5) 3 "ref.go:19" #[]), none⟩,
 ⟨.pn (opIndexAddrT (some 19) 33 (.tmp 17) (.tmp 18) 5 1 Try.underlying33 sz5 0 "ref.go:19" #[eD 0, eD 1]) opIndexAddrT_nat, none⟩,
 ⟨.qn (opLoadT (.one (.int .u8)) (some 20) 5 (.tmp 19) (.int .u8) Try.underlying5 1 sz5 (by kernel_rfl) 5 "ref.go:19" #[eD 2]) opLoadT_nat, none⟩,
 ⟨.p (opMove (some 21) (.tmp 1) 33 "ref.go:19" #[]), none⟩,
 ⟨.p (opMove (some 22) (.tmp 5) 3 "ref.go:19" #[]), none⟩,
 ⟨.pn (opIndexAddrT (some 23) 33 (.tmp 21) (.tmp 22) 5 1 Try.underlying33 sz5 0 "ref.go:19" #[eD 4, eD 5]) opIndexAddrT_nat, none⟩,
 ⟨.qn (opLoadT (.one (.int .u8)) (some 24) 5 (.tmp 23) (.int .u8) Try.underlying5 1 sz5 (by kernel_rfl) 5 "ref.go:19" #[eD 6]) opLoadT_nat, none⟩,
 ⟨.pn (opBin (some 25) .neq 5 (.tmp 20) (.tmp 24) 5 4 "ref.go:19" #[eD 3, eD 7]) opBin_nat, none⟩
 ] mixed (by kernel_rfl)))
 (.cond (.tmp 25)
 (.seq (.live [4] (.region 7 [
 ⟨(opAssign (some 4) (.const (Value.bool false)) 4 "ref.go:20" #[]).op, none⟩
 ] (by kernel_rfl)))
 (.live [4] .ret))
 .skip)))
 (.live [0, 1, 5] (.region 5 [
 ⟨(opMove (some 15) (.tmp 5) 3 "ref.go:18" #[]).op, none⟩,
 ⟨(opBin (some 16) .add 3 (.tmp 15) (.const (Value.int IntKind.i64 1)) 3 3 "ref.go:18" #[eD 0]).op, none⟩,
 ⟨(opAssign (some 5) (.tmp 16) 3 "ref.go:18" #[eD 1, eP 0, eP 1]).op, none⟩
 ] (by kernel_rfl)))))
noncomputable def f17_r0 : Sim Try.prog :=
 (.seq (.live [4] (.region 8 [
 ⟨(opAssign (some 4) (.const (Value.bool true)) 4 "ref.go:23" #[]).op, none⟩
 ] (by kernel_rfl)))
 (.live [4] .ret))
noncomputable def f17_b : Sim Try.prog :=
 (.seq (.live [0, 1] (.region 0 [
 ⟨(opAssign (some 4) (.const (Value.bool false)) 4 "ref.go:14" #[]).op, none⟩
 ] (by kernel_rfl)))
 (.seq (.seq (.live [0, 1, 10] (.region 1 [
 ⟨(opMove (some 6) (.tmp 0) 33 "ref.go:15" #[]).op, none⟩,
 ⟨(opLen (some 7) (.tmp 6) 33 (.slice 5) Try.underlying33 3 "ref.go:15" #[eD 0]).op, none⟩,
 ⟨(opMove (some 8) (.tmp 1) 33 "ref.go:15" #[]).op, none⟩,
 ⟨(opLen (some 9) (.tmp 8) 33 (.slice 5) Try.underlying33 3 "ref.go:15" #[eD 2]).op, none⟩,
 ⟨(opBin (some 10) .neq 3 (.tmp 7) (.tmp 9) 3 4 "ref.go:15" #[eD 1, eD 3]).op, none⟩
 ] (by kernel_rfl)))
 (.cond (.tmp 10)
 (.seq (.live [4] (.region 2 [
 ⟨(opAssign (some 4) (.const (Value.bool false)) 4 "ref.go:16" #[]).op, none⟩
 ] (by kernel_rfl)))
 (.live [4] .ret))
 .skip))
 (.seq (.seq (.live [0, 1, 5] (.region 3 [
 ⟨(opAssign (some 5) (.const (Value.int IntKind.i64 0)) 3 "ref.go:18" #[]).op, none⟩
 ] (by kernel_rfl)))
 (.block 0 (.loop [0, 1, 5] f17_l0)))
 f17_r0)))
noncomputable def f17 : Fun Try.prog where
 id := 17
 fn := Try.f17
 hf := Try.func17
 hname := by kernel_rfl
 body := f17_b
 hbody := by kernel_rfl
 res := [rTmp 4]
 hres := by kernel_rfl
 n := 26
 hn := by kernel_rfl
theorem same_run (F : Nat) (z y : Bool) (l r : List (List AV)) (st : St) :
 (f17.run F [.ns z 1 l, .ns y 1 r] st : Ans) =
 branch (.bool ((↑l.length : Int) != (↑r.length : Int))) (some (Fin.ret (.bool false), st))
 (loopRun (f17_l0.run F) [0, 1, 5]
 (Cont.block 0 (Cont.then (f17_r0.run F (f17.leaveK Fun.done)) (f17.leaveK Fun.done))) F
 (Env.mk 26
 [(0, AV.ns z 1 l), (1, AV.ns y 1 r), (5, .int .i64 0)])
 st) := by kernel_rfl
theorem same_round (F n : Nat) (K : Cont) (z y : Bool) (i : Int) (l r : List (List AV)) (st : St) :
 (loopRun (f17_l0.run F) [0, 1, 5] K n.succ (Env.mk 26 [(0, .ns z 1 l), (1, .ns y 1 r), (5, .int .i64 i)]) st : Ans) =
 branch (.bool (decide (i < (↑l.length : Int))))
 (branch (.bool (inR l i))
 (branch (.bool ((LD.one (LT.int IntKind.u8)).is (V.rowAt l i)))
 (branch (.bool (inR r i))
 (branch (.bool ((LD.one (LT.int IntKind.u8)).is (V.rowAt r i)))
 (branch (.bool (hdI (V.rowAt l i) != hdI (V.rowAt r i)))
 (K AX.ret (Env.mk 26 [(4, AV.bool false)]) st)
 (loopRun (f17_l0.run F) [0, 1, 5] K n
 (Env.mk 26
 [(0, AV.ns z 1 l), (1, AV.ns y 1 r),
 (5, .int .i64 (IntKind.i64.wrap (i + 1)))])
 st))
 none)
 none)
 none)
 none)
 (K (AX.exit 0) (Env.mk 26 []) st) := by kernel_rfl
theorem same_out (F : Nat) (st : St) :
 ((Cont.block 0 (Cont.then (f17_r0.run F (f17.leaveK Fun.done)) (f17.leaveK Fun.done))) (.exit 0) (Env.mk 26 []) st : Ans) =
 some (Fin.ret (.bool true), st) := by kernel_rfl
theorem same_ret (F : Nat) (st : St) :
 ((Cont.block 0 (Cont.then (f17_r0.run F (f17.leaveK Fun.done)) (f17.leaveK Fun.done))) .ret (Env.mk 26 [(4, .bool false)]) st : Ans) =
 some (Fin.ret (.bool false), st) := by kernel_rfl
theorem load_run (F : Nat) (z : Bool) (l : List (List AV)) (n : Int) :
 (f22.run F [.ns z 1 l, .int .i64 n] ⟨[], []⟩ : Ans) =
 branch (.bool (decide (n < 1)))
 (some (Fin.ret (AV.tup [AV.nilptr, .int .i64 41]), St.mk [] []))
 (branch (.bool (decide (n > 65536)))
 (some (Fin.ret (AV.tup [AV.nilptr, .int .i64 41]), St.mk [] []))
 (branch (.bool (mkOk 64 n))
 (loopRun (f22_l0.run F) [0, 6, 24, 25]
 (Cont.block 0 (Cont.then (f22_r0.run F (f22.leaveK Fun.done)) (f22.leaveK Fun.done))) F
 (Env.mk 42
 [(0, AV.ns z 1 l), (6, AV.ptr 2 0),
 (24, .int .i64 (↑n.toNat : Int)), (25, .int .i64 0)])
 (St.mk
 [Ob.cells
 (zerC n.toNat
 [AV.int IntKind.u8 (0 : Int), AV.int IntKind.u8 (0 : Int), AV.int IntKind.u8 (0 : Int),
 AV.int IntKind.u8 (0 : Int), AV.int IntKind.u8 (0 : Int), AV.int IntKind.u8 (0 : Int),
 AV.int IntKind.u8 (0 : Int), AV.int IntKind.u8 (0 : Int), AV.int IntKind.u8 (0 : Int),
 AV.int IntKind.u8 (0 : Int), AV.int IntKind.u8 (0 : Int), AV.int IntKind.u8 (0 : Int),
 AV.int IntKind.u8 (0 : Int), AV.int IntKind.u8 (0 : Int), AV.int IntKind.u8 (0 : Int),
 AV.int IntKind.u8 (0 : Int), AV.int IntKind.u8 (0 : Int), AV.int IntKind.u8 (0 : Int),
 AV.int IntKind.u8 (0 : Int), AV.int IntKind.u8 (0 : Int), AV.int IntKind.u8 (0 : Int),
 AV.int IntKind.u8 (0 : Int), AV.int IntKind.u8 (0 : Int), AV.int IntKind.u8 (0 : Int),
 AV.int IntKind.u8 (0 : Int), AV.int IntKind.u8 (0 : Int), AV.int IntKind.u8 (0 : Int),
 AV.int IntKind.u8 (0 : Int), AV.int IntKind.u8 (0 : Int), AV.int IntKind.u8 (0 : Int),
 AV.int IntKind.u8 (0 : Int), AV.int IntKind.u8 (0 : Int), AV.int IntKind.u8 (0 : Int),
 AV.int IntKind.u8 (0 : Int), AV.int IntKind.u8 (0 : Int), AV.int IntKind.u8 (0 : Int),
 AV.int IntKind.u8 (0 : Int), AV.int IntKind.u8 (0 : Int), AV.int IntKind.u8 (0 : Int),
 AV.int IntKind.u8 (0 : Int), AV.int IntKind.u8 (0 : Int), AV.int IntKind.u8 (0 : Int),
 AV.int IntKind.u8 (0 : Int), AV.int IntKind.u8 (0 : Int), AV.int IntKind.u8 (0 : Int),
 AV.int IntKind.u8 (0 : Int), AV.int IntKind.u8 (0 : Int), AV.int IntKind.u8 (0 : Int),
 AV.int IntKind.u8 (0 : Int), AV.int IntKind.u8 (0 : Int), AV.int IntKind.u8 (0 : Int),
 AV.int IntKind.u8 (0 : Int), AV.int IntKind.u8 (0 : Int), AV.int IntKind.u8 (0 : Int),
 AV.int IntKind.u8 (0 : Int), AV.int IntKind.u8 (0 : Int), AV.int IntKind.u8 (0 : Int),
 AV.int IntKind.u8 (0 : Int), AV.int IntKind.u8 (0 : Int), AV.int IntKind.u8 (0 : Int),
 AV.int IntKind.u8 (0 : Int), AV.int IntKind.u8 (0 : Int), AV.int IntKind.u8 (0 : Int),
 AV.int IntKind.u8 (0 : Int)]),
 Ob.map [], Ob.cells [AV.ms 0 64 0 n.toNat n.toNat, AV.mp 1, AV.nilsl],
 Ob.nov 0]
 []))
 none)) := by kernel_rfl
theorem load_round (F m : Nat) (K : Cont) (z : Bool) (l : List (List AV)) (i e : Int) (N : Nat) (ls : List AV) :
 (loopRun (f22_l0.run F) [0, 6, 24, 25] K m.succ (Env.mk 42 [(0, .ns z 1 l), (6, .ptr 2 0), (24, .int .i64 e), (25, .int .i64 i)]) ⟨[.cells ls, .map [], .cells [.ms 0 64 0 N N, .mp 1, .nilsl], .nov 0], []⟩ : Ans) =
 branch (.bool (decide (i < e)))
 (if (0 : Int) ≤ i ∧ i < (↑N : Int) then
 branch (.bool (inC ls (0 + i.toNat * 64 + 0) (mulN (minN l.length 64) 1)))
 (if (0 : Int) ≤ (↑(minN l.length 64) : Int) ∧ (↑(minN l.length 64) : Int) ≤ (↑l.length : Int) then
 loopRun (f22_l0.run F) [0, 6, 24, 25] K m
 (Env.mk 42
 [(0,
 AV.ns z 1 (List.drop (↑(minN l.length 64) : Int).toNat (List.take l.length l))),
 (6, AV.ptr 2 0), (24, .int .i64 e),
 (25, .int .i64 (IntKind.i64.wrap (i + 1)))])
 (St.mk
 [Ob.cells (setC ls (0 + i.toNat * 64 + 0) (flC l (minN l.length 64))),
 Ob.map [], Ob.cells [AV.ms 0 64 0 N N, AV.mp 1, AV.nilsl],
 Ob.nov 0]
 [])
 else none)
 none
 else none)
 (K (AX.exit 0) (Env.mk 42 [(6, AV.ptr 2 0)])
 (St.mk
 [Ob.cells ls, Ob.map [], Ob.cells [AV.ms 0 64 0 N N, AV.mp 1, AV.nilsl],
 Ob.nov 0]
 [])) := by kernel_rfl
theorem load_out (F : Nat) (K : Cont) (st : St) :
 ((Cont.block 0 (Cont.then (f22_r0.run F (f22.leaveK Fun.done)) (f22.leaveK Fun.done))) (.exit 0) (Env.mk 42 [(6, .ptr 2 0)]) st : Ans) =
 some (Fin.ret (AV.tup [AV.ptr 2 0, .int .i64 0]), st) := by kernel_rfl
theorem size_run (F N : Nat) (ls : List AV) (es : List (AV × AV)) (wr : AV) (W : Ob) :
 (f35.run F [.ptr 2 0] ⟨[.cells ls, .map es, .cells [.ms 0 64 0 N N, .mp 1, wr], W], []⟩ : Ans) =
 some
 (Fin.ret (.int .i64 (↑N : Int)),
 St.mk [Ob.cells ls, Ob.map es, Ob.cells [AV.ms 0 64 0 N N, AV.mp 1, wr], W] []) := by kernel_rfl
end Go.Proofs.Ytnhdjhcpbjggmaa.V
