/- Merged out of 20 texts: what the claim's code comes to, and why. -/
import Derived.ChangeArms
import Derived.DataReads
import Derived.SizedLaws
import Derived.WideShapes
import Derived.ChangeShapes
import Derived.MapKept
import Derived.Lib.Builder
import Derived.Lib.UnsafeStr
import Derived.Laws.Externs
import Derived.Test.YtcfedmheblbdnaaDoorRows
import Derived.Test.YtcfedmheblbdnaaDoorR62
/- What a law's arguments are, as abstract values: read off their reading. -/
set_option linter.unusedVariables false
set_option linter.unusedSimpArgs false
namespace Go.V
open Go.WideShapes

/-- A shape of values. -/
inductive Ty where
  | bool
  | int (k : IntKind)
  | str
  | sl (e : Ty) (bytes : Nat)
  | st (fs : List Ty)

mutual
def Ty.size : Ty → Nat
  | .bool => 1
  | .int _ => 1
  | .str => 1
  | .sl _ _ => 1
  | .st fs => Ty.sizes fs
def Ty.sizes : List Ty → Nat
  | [] => 0
  | y :: r => y.size + Ty.sizes r
end

mutual
/-- A type of the program has this shape. -/
def Ty.ok (P : Program) : Ty → TypeId → Bool
  | .bool, t => match P.underlying t with
    | some .bool => true
    | _ => false
  | .int k, t => match P.underlying t with
    | some (.int k') => decide (k' = k)
    | _ => false
  | .str, t => match P.underlying t with
    | some .string => true
    | _ => false
  | .sl e b, t => match P.underlying t with
    | some (.slice u) => Nat.beq (P.cellsOf u) e.size && (Nat.blt 0 e.size && (Nat.beq (P.bytesOf u) b && e.ok P u))
    | _ => false
  | .st fs, t => match P.underlying t with
    | some (.struct F) => Nat.beq (P.cellsOf t) (Ty.sizes fs) && Ty.oks P fs F.toList 0
    | _ => false
def Ty.oks (P : Program) : List Ty → List Field → Nat → Bool
  | [], [], _ => true
  | y :: r, f :: F, o => Nat.beq f.offset o && (Nat.beq (P.cellsOf f.type) y.size && (y.ok P f.type && Ty.oks P r F (o + y.size)))
  | _, _, _ => false
end

mutual
/-- Cells of this shape. -/
def Ty.Shape : Ty → List AV → Prop
  | .bool, ays => ∃ b, ays = [.bool b]
  | .int k, ays => ∃ n, ays = [.int k n] ∧ (Lit.int k n).wf = true
  | .str, ays => ∃ s : ByteArray, ays = [.str s] ∧ s.size ≤ reachBytes
  | .sl e b, ays => ∃ z l, ays = [.ns z e.size l] ∧ (z = true → l = []) ∧ l.length * b ≤ reachBytes ∧ l.length ≤ maxLen ∧ ∀ r ∈ l, e.Shape r
  | .st fs, ays => Ty.Shapes fs ays
def Ty.Shapes : List Ty → List AV → Prop
  | [], ays => ays = []
  | y :: r, ays => ∃ a b, ays = a ++ b ∧ y.Shape a ∧ Ty.Shapes r b
end

section
variable {P : Program} {H : Type} {enc : TypeId × Value → H} {W : World} {base : Nat} {spare : Nat → Bool} {held : Bool}

theorem RelCells.ofCells : ∀ (ays : List AV) (cs : List Value) (b off : Nat), RelAll g0 W ays cs → (∀ u ∈ cs, u.oneCell' = true) → (∀ i u, cs[i]? = some u → W.cell? ⟨b, off + i, none⟩ = some u) → RelCells g0 W ays b off
  | [], _, _, _, _, _, _ => trivial
  | a :: ays, _, b, off, ⟨v, vr, rfl, h1, h2⟩, h3, h4 => by
    refine ⟨⟨v, by simpa using h4 0 v rfl, trivial, h3 v (by simp), h1⟩, RelCells.ofCells ays vr b (off + 1) h2 (fun u hu => h3 u (by simp [hu])) fun i u hu => ?_⟩
    have := h4 (i + 1) u (by simpa using hu)
    rwa [show off + (i + 1) = off + 1 + i by omega] at this

theorem cell_spot {a : Addr} {u : Value} (h : W.cell? a = some u) : a.spot = none := by
  unfold World.cell? at h
  split at h
  · split at h
    · cases h
    · rename_i hs; cases hsp : a.spot with
      | none => rfl
      | some s => rw [hsp] at hs; simp at hs
  · cases h

/-- Rows, one by one. -/
theorem rows_of_reads {sz : Nat} (hsz : 0 < sz) {Q : List AV → Prop} {b off : Nat} : ∀ (n k : Nat), (∀ i, i < n → ∃ ays cs, RelAll g0 W ays cs ∧ ays.length = sz ∧ Q ays ∧ (∀ u ∈ cs, u.oneCell' = true) ∧ ∀ j u, cs[j]? = some u → W.cell? ⟨b, off + (k + i) * sz + j, none⟩ = some u) →
    ∃ l, l.length = n ∧ (∀ r ∈ l, Q r) ∧ RelRows g0 W sz l b (off + k * sz)
  | 0, k, _ => ⟨[], rfl, by simp, trivial⟩
  | n + 1, k, h => by
    obtain ⟨l, h1, h2, h3⟩ := rows_of_reads hsz (b := b) (off := off) (Q := Q) n (k + 1) fun i hi => by
      have := h (i + 1) (by omega)
      rwa [show k + (i + 1) = k + 1 + i by omega] at this
    obtain ⟨ays, cs, k1, k2, k3, k4, k5⟩ := h 0 (by omega)
    refine ⟨ays :: l, by simp [h1], fun r hr => ?_, k2, RelCells.ofCells ays cs b _ k1 k4 (by simpa using k5), ?_⟩
    · rcases List.mem_cons.mp hr with rfl | hr
      · exact k3
      · exact h2 r hr
    · rw [show off + k * sz + sz = off + (k + 1) * sz by rw [Nat.add_mul]; omega]; exact h3

mutual
theorem Ty.read : ∀ (y : Ty) (t : TypeId) (cs : List Value) (x : DataW H × List MemPlace) (fuel : Nat), y.ok P t = true → DataW.trod enc P W base spare held fuel t cs = some x → (∀ n ∈ x.1.weights P t, n ≤ reachBytes) →
    ∃ ays, RelAll g0 W ays cs ∧ y.Shape ays ∧ ays.length = y.size ∧ ∀ u ∈ cs, u.oneCell' = true
  | .bool, t, cs, x, fuel, hk, h, hw => by
    unfold Ty.ok at hk
    split at hk
    · rename_i ht
      obtain ⟨b, rfl, _⟩ := DataW.trod_bool ht h
      exact ⟨[.bool b], ⟨_, _, rfl, rfl, rfl⟩, ⟨b, rfl⟩, rfl, by simp [Value.oneCell']⟩
    · cases hk
  | .int k, t, cs, x, fuel, hk, h, hw => by
    unfold Ty.ok at hk
    split at hk
    · rename_i k' ht
      obtain rfl : k' = k := by simpa using hk
      obtain ⟨n, rfl, _, hwf⟩ := DataW.trod_int ht h
      exact ⟨[.int k' n], ⟨_, _, rfl, rfl, rfl⟩, ⟨n, rfl, hwf⟩, rfl, by simp [Value.oneCell']⟩
    · cases hk
  | .str, t, cs, x, fuel, hk, h, hw => by
    unfold Ty.ok at hk
    split at hk
    · rename_i ht
      obtain ⟨s, rfl, rfl, _⟩ := DataW.trod_string ht h
      refine ⟨[.str s], ⟨_, _, rfl, rfl, rfl⟩, ⟨s, rfl, ?_⟩, rfl, by simp [Value.oneCell']⟩
      have := hw s.data.toList.length (by simp [DataW.weights])
      simpa using this
    · cases hk
  | .sl e b, t, cs, x, fuel, hk, h, hw => by
    unfold Ty.ok at hk
    split at hk
    · rename_i u ht
      simp only [Bool.and_eq_true] at hk
      obtain ⟨hc, h0, hb, he⟩ := hk
      have hc : P.cellsOf u = e.size := by simpa using hc
      have h0 : 0 < e.size := by simpa using h0
      have hb : P.bytesOf u = b := by simpa using hb
      rcases DataW.trod_slice ht h with ⟨rfl, _⟩ | ⟨a, len, cap, elems, rest, n, _, rfl, rfl, _, hl, hm, hlen, hel, hsp, hns⟩
      · exact ⟨[.ns true e.size []], ⟨_, _, rfl, .inl ⟨rfl, rfl, rfl⟩, rfl⟩, ⟨true, [], rfl, fun _ => rfl, by simp, by simp, by simp⟩, rfl, by simp [Value.oneCell']⟩
      · have hws : ∀ (i : Nat) (y : DataW H × List MemPlace), elems[i]? = some y → ∀ m ∈ y.1.weights P u, m ≤ reachBytes := by
          intro i y hy m hm'
          refine hw m ?_
          simp only [DataW.weights, ht]
          refine List.mem_cons_of_mem _ (List.mem_append_left _ ?_)
          have : y.1 ∈ elems.map (·.1) := List.mem_map.mpr ⟨y, List.mem_of_getElem? hy, rfl⟩
          clear hw hel hsp hns
          generalize elems.map (·.1) = ds at this
          induction ds with
          | nil => simp at this
          | cons d ds ih =>
            simp only [DataW.weightsAll]
            rcases List.mem_cons.mp this with rfl | h'
            · exact List.mem_append_left _ hm'
            · exact List.mem_append_right _ (ih h')
        have hsize : len * b ≤ reachBytes := by
          have := hw ((elems.map (·.1)).length * P.bytesOf u + (rest.map (·.1)).length * P.bytesOf u) (by
            simp only [DataW.weights, ht]
            rw [← Nat.add_mul]
            exact List.mem_cons_self)
          rw [hb, List.length_map, hlen] at this
          omega
        obtain ⟨bl, off, sp⟩ := a
        have hspot : sp = none ∨ len = 0 := by
          rcases Nat.eq_zero_or_pos len with h1 | h1
          · exact .inr h1
          · have h2 := hel 0 h1
            rw [List.getElem?_eq_getElem (by omega)] at h2
            obtain ⟨ci, k1, k2⟩ := Option.bind_eq_some_iff.mp h2
            obtain ⟨_, k4, k5⟩ := World.cells?_some k1
            have k6 := k5 0 (by omega)
            rw [List.getElem?_eq_getElem (by omega)] at k6
            have := cell_spot k6
            simp [Addr.add] at this
            exact .inl this
        have hrow : ∀ i, i < len → ∃ ays cs, RelAll g0 W ays cs ∧ ays.length = e.size ∧ e.Shape ays ∧ (∀ u ∈ cs, u.oneCell' = true) ∧ ∀ j u, cs[j]? = some u → W.cell? ⟨bl, off + (0 + i) * e.size + j, none⟩ = some u := by
          intro i hi
          have h2 := hel i hi
          rw [List.getElem?_eq_getElem (by omega)] at h2
          obtain ⟨ci, k1, k2⟩ := Option.bind_eq_some_iff.mp h2
          obtain ⟨ays, r1, r2, r3, r4⟩ := Ty.read e u ci _ n he k2 (hws i _ (List.getElem?_eq_getElem (by omega)))
          obtain ⟨_, k4, k5⟩ := World.cells?_some k1
          obtain rfl : sp = none := hspot.resolve_right (by omega)
          refine ⟨ays, ci, r1, r3, r2, r4, fun j v hj => ?_⟩
          have := k5 j (by rw [← k4]; exact getElem?_lt hj)
          rw [hj, hc, add_none, add_none] at this
          rw [Nat.zero_add]; exact this
        obtain ⟨l, l1, l2, l3⟩ := rows_of_reads h0 len 0 hrow
        refine ⟨[.ns false e.size l], ⟨_, _, rfl, .inr ⟨rfl, bl, off, sp, cap, by rw [l1], by omega, ?_, by simpa using l3⟩, rfl⟩, ⟨false, l, rfl, (fun h => by cases h), by rw [l1]; exact hsize, by omega, l2⟩, rfl, by simp [Value.oneCell']⟩
        rcases hspot with h1 | h1
        · exact .inl h1
        · exact .inr (List.eq_nil_of_length_eq_zero (by omega))
    · cases hk
  | .st fs, t, cs, x, fuel, hk, h, hw => by
    unfold Ty.ok at hk
    split at hk
    · rename_i F ht
      simp only [Bool.and_eq_true] at hk
      obtain ⟨hc, hos⟩ := hk
      have hc : P.cellsOf t = Ty.sizes fs := by simpa using hc
      obtain ⟨xs, n, _, rfl, hl, hxl, hel⟩ := DataW.trod_struct ht h
      obtain ⟨ays, r1, r2, r3, r4⟩ := Ty.reads fs F.toList 0 cs n xs hos (fun i f hf => hel i f (by simpa using hf)) (by simpa using hxl) (by omega) (fun m hm => hw m (by simpa [DataW.weights, ht] using hm))
      exact ⟨ays, by simpa using r1, r2, r3, by simpa using r4⟩
    · cases hk
theorem Ty.reads : ∀ (ys : List Ty) (F : List Field) (o : Nat) (cs : List Value) (n : Nat) (xs : List (DataW H × List MemPlace)), Ty.oks P ys F o = true →
    (∀ (i : Nat) f, F[i]? = some f → DataW.trod enc P W base spare held n f.type ((cs.drop f.offset).take (P.cellsOf f.type)) = xs[i]?) → xs.length = F.length → cs.length = o + Ty.sizes ys →
    (∀ m ∈ DataW.weightsEach P (F.map (·.type)) (xs.map (·.1)), m ≤ reachBytes) →
    ∃ ays, RelAll g0 W ays (cs.drop o) ∧ Ty.Shapes ys ays ∧ ays.length = Ty.sizes ys ∧ ∀ u ∈ cs.drop o, u.oneCell' = true
  | [], [], o, cs, n, xs, hk, hel, hxl, hl, hw => by
    have : cs.drop o = [] := List.drop_eq_nil_of_le (by simp [Ty.sizes] at hl; omega)
    exact ⟨[], this, rfl, rfl, by simp [this]⟩
  | [], _ :: _, o, cs, n, xs, hk, hel, hxl, hl, hw => by simp [Ty.oks] at hk
  | _ :: _, [], o, cs, n, xs, hk, hel, hxl, hl, hw => by simp [Ty.oks] at hk
  | y :: ys, f :: F, o, cs, n, [], hk, hel, hxl, hl, hw => by simp at hxl
  | y :: ys, f :: F, o, cs, n, x :: xs, hk, hel, hxl, hl, hw => by
    simp only [Ty.oks, Bool.and_eq_true] at hk
    obtain ⟨h1, h2, h3, h4⟩ := hk
    have h1 : f.offset = o := by simpa using h1
    have h2 : P.cellsOf f.type = y.size := by simpa using h2
    have hx := hel 0 f rfl
    rw [h1, h2] at hx
    obtain ⟨ays, r1, r2, r3, r4⟩ := Ty.read y f.type _ x n h3 hx (fun m hm => hw m (by simp only [List.map_cons, DataW.weightsEach]; exact List.mem_append_left _ hm))
    obtain ⟨bs, s1, s2, s3, s4⟩ := Ty.reads ys F (o + y.size) cs n xs h4 (fun i g hg => by have := hel (i + 1) g (by simpa using hg); simpa using this) (by simpa using hxl) (by rw [hl, Ty.sizes]; omega) (fun m hm => hw m (by simp only [List.map_cons, DataW.weightsEach]; exact List.mem_append_right _ hm))
    have hsplit : cs.drop o = (cs.drop o).take y.size ++ cs.drop (o + y.size) := by
      rw [← List.drop_drop, List.take_append_drop]
    refine ⟨ays ++ bs, by rw [hsplit]; exact RelAll.append _ _ _ _ r1 s1, ⟨ays, bs, rfl, r2, s2⟩, by rw [List.length_append, r3, s3, Ty.sizes], fun u hu => ?_⟩
    rw [hsplit] at hu
    rcases List.mem_append.mp hu with hu | hu
    · exact r4 u hu
    · exact s4 u hu
end

/-- An argument. -/
def Ty.AV' : Ty → List AV → AV
  | .st _, ays => .agg ays
  | _, ays => ays.headD .dead

theorem Ty.arg {y : Ty} {t : TypeId} {v : Value} {d : DataW H} {ps : List MemPlace} {r : Reach} {b0 : Nat} (hk : y.ok P t = true) (hval : Value.okWide P W r b0 t v) (h : DataW.Trod enc P W base spare held t v d ps) (hw : ∀ n ∈ d.weights P t, n ≤ reachBytes) :
    ∃ ays, y.Shape ays ∧ Rel g0 W (y.AV' ays) v := by
  obtain ⟨fuel, hf⟩ := h
  obtain ⟨ays, r1, r2, r3, r4⟩ := Ty.read y t _ _ fuel hk hf hw
  refine ⟨ays, r2, ?_⟩
  cases y with
  | st fs =>
    unfold Ty.ok at hk
    split at hk
    · rename_i F ht
      obtain ⟨cs, rfl, hcs⟩ := okWide_struct ht hval
      exact ⟨cs, rfl, by simpa [Value.cells] using r1, by simpa [Value.cells] using r4⟩
    · cases hk
  | bool =>
    obtain ⟨b, rfl⟩ := r2
    unfold Ty.ok at hk
    split at hk
    · rename_i ht
      obtain ⟨u, rfl⟩ := okWide_bool ht hval
      obtain ⟨w, wr, e, k1, _⟩ := r1
      simp [Value.cells] at e
      rw [← e.1] at k1; exact k1
    · cases hk
  | int k =>
    obtain ⟨b, rfl, _⟩ := r2
    unfold Ty.ok at hk
    split at hk
    · rename_i ht
      obtain ⟨u, rfl⟩ := okWide_int ht hval
      obtain ⟨w, wr, e, k1, _⟩ := r1
      simp [Value.cells] at e
      rw [← e.1] at k1; exact k1
    · cases hk
  | str =>
    obtain ⟨b, rfl, _⟩ := r2
    unfold Ty.ok at hk
    split at hk
    · rename_i ht
      obtain ⟨u, rfl⟩ := okWide_string ht hval
      obtain ⟨w, wr, e, k1, _⟩ := r1
      simp [Value.cells] at e
      rw [← e.1] at k1; exact k1
    · cases hk
  | sl e b =>
    unfold Ty.ok at hk
    split at hk
    · rename_i u ht
      obtain ⟨a, n, c, rfl⟩ := okWide_slice ht hval
      obtain ⟨z, l, rfl, _⟩ := r2
      obtain ⟨w, wr, e', k1, _⟩ := r1
      simp [Value.cells] at e'
      rw [← e'.1] at k1; exact k1
    · cases hk
end
end Go.V

/- A law's arguments: bounds of numbers, bytes. -/
set_option linter.unusedVariables false
namespace Go.V
open Go.WideShapes

end Go.V

/- Maps. -/
set_option linter.unusedVariables false
set_option linter.unusedSimpArgs false
namespace Go.V

/-- What is looked up: one cell of a kind, or several cells. -/
inductive LK where
  | one (t : LT)
  | agg (sz : Nat)
  /-- a slice that never changes, maybe nil -/
  | sl (sz : Nat)
def isAgg (n : Nat) (v : AV) : Bool :=
  match v with
  | .agg cs => Nat.beq cs.length n
  | _ => false
def aggL (v : AV) : List AV :=
  match v with
  | .agg cs => cs
  | _ => []
def LK.is (l : LK) (v : AV) : Bool :=
  match l with
  | .one t => flatT t && isLT t [v]
  | .agg n => isAgg n v
  | .sl n => isLT (.ns n) [v]
def LK.val (l : LK) (v : AV) : AV :=
  match l with
  | .one t => valLT t [v]
  | .agg _ => .agg (aggL v)
  | .sl n => valLT (.ns n) [v]
section
variable {P : Program}
theorem RelAll.set {g : Gh} {w : World} : ∀ {cs : List AV} {vs : List Value} (j : Nat) {c : AV} {v : Value}, RelAll g w cs vs → Rel g w c v → RelAll g w (cs.set j c) (vs.set j v)
  | [], _, _, _, _, h, _ => by obtain rfl := h; exact rfl
  | x :: cs, _, 0, _, _, ⟨u, r, e, h1, h2⟩, hc => by subst e; exact ⟨_, _, rfl, hc, h2⟩
  | x :: cs, _, j + 1, _, _, ⟨u, r, e, h1, h2⟩, hc => by subst e; exact ⟨_, _, rfl, h1, RelAll.set j h2 hc⟩

end
end Go.V

/- Callees shown with the objects alone that they are handed: what they come to wherever these lie. -/
set_option linter.unusedVariables false
set_option linter.unusedSimpArgs false
namespace Go.V
section
variable {P : Program}

mutual
/-- Objects have other numbers. -/
def ren (ρ : Nat → Nat) : AV → AV
  | .ptr k off => .ptr (ρ k) off
  | .tp k E m' => .tp (ρ k) E m'
  | .ms k sz off n cap => .ms (ρ k) sz off n cap
  | .mp k => .mp (ρ k)
  | .vs k v sz n => .vs (ρ k) v sz n
  | .vp k v off => .vp (ρ k) v off
  | .fn f a c => .fn f (renL ρ a) (renL ρ c)
  | .ifc t v => .ifc t (ren ρ v)
  | .agg cs => .agg (renL ρ cs)
  | .tup cs => .tup (renL ρ cs)
  | x => x
def renL (ρ : Nat → Nat) : List AV → List AV
  | [] => []
  | x :: l => ren ρ x :: renL ρ l
end
def renO (ρ : Nat → Nat) : Ob → Ob
  | .cells cs => .cells (renL ρ cs)
  | .map es => .map (es.map fun e => (ren ρ e.1, ren ρ e.2))
  | .vec v cs => .vec v (renL ρ cs)
  | o => o
theorem renL_eq (ρ : Nat → Nat) : ∀ l, renL ρ l = l.map (ren ρ)
  | [] => rfl
  | x :: l => by rw [renL, renL_eq ρ l]; rfl
theorem renL_length (ρ : Nat → Nat) (l : List AV) : (renL ρ l).length = l.length := by rw [renL_eq, List.length_map]
mutual
/-- Its objects are among the first; what never changes leads to none. -/
def Near (n : Nat) : AV → Prop
  | .ptr k _ => k < n
  | .tp k _ _ => k < n
  | .ms k _ _ _ _ => k < n
  | .mp k => k < n
  | .vs k _ _ _ => k < n
  | .vp k _ _ => k < n
  | .fn _ a c => NearL n a ∧ NearL n c
  | .ifc _ v => Near n v
  | .agg cs => NearL n cs
  | .tup cs => NearL n cs
  | .eptr cs => ScopedL 0 0 cs
  | .sl _ _ l => ScopedR 0 0 l
  | .ns _ _ l => ScopedR 0 0 l
  | .lg _ _ _ => False
  | _ => True
def NearL (n : Nat) : List AV → Prop
  | [] => True
  | x :: l => Near n x ∧ NearL n l
end
def NearO (n : Nat) : Ob → Prop
  | .cells cs => NearL n cs
  | .map es => NearL n (es.map (·.1)) ∧ NearL n (es.map (·.2))
  | .vec _ cs => NearL n cs
  | _ => True

/-- Where the first n stand. -/
structure Inv (ρ : Nat → Nat) (n : Nat) (inv : Nat → Option Nat) : Prop where
  to : ∀ i, i < n → inv (ρ i) = some i
  of : ∀ k i, inv k = some i → i < n ∧ ρ i = k
theorem Inv.none {ρ : Nat → Nat} {n : Nat} {inv : Nat → Option Nat} (h : Inv ρ n inv) {i k : Nat} (hi : i < n) (hk : inv k = .none) : ρ i ≠ k := fun e => by rw [← e, h.to i hi] at hk; cases hk
theorem Inv.inj {ρ : Nat → Nat} {n : Nat} {inv : Nat → Option Nat} (h : Inv ρ n inv) {i j : Nat} (hi : i < n) (hj : j < n) (e : ρ i = ρ j) : i = j := by
  have h1 := h.to i hi
  rw [e, h.to j hj] at h1
  cases h1; rfl

def nearK (g : Gh) (inv : Nat → Option Nat) (b : Nat) : BK :=
  match g.kind b with
  | .obj k => match inv k with
    | some i => .obj i
    | none => .part fun _ => False
  | .vec k => match inv k with
    | some i => .vec i
    | none => .part fun _ => False
  | _ => .part fun off => g.prot b off
/-- The picture of a callee that knows of these objects alone. -/
def Gh.near (g : Gh) (size n : Nat) (ρ : Nat → Nat) (inv : Nat → Option Nat) : Gh :=
  ⟨fun b => if b < size then nearK g inv b else .solid, (List.range n).map fun i => g.objs.getD (ρ i) 0, [], fun i => g.ver (ρ i)⟩

theorem near_objs {g : Gh} {size n : Nat} {ρ : Nat → Nat} {inv : Nat → Option Nat} {i : Nat} (hi : i < n) (hl : ρ i < g.objs.length) : (g.near size n ρ inv).objs[i]? = g.objs[ρ i]? := by
  simp only [Gh.near, List.getElem?_map, List.getElem?_range hi, Option.map_some, List.getD_eq_getElem?_getD, List.getElem?_eq_getElem hl, Option.getD_some]
theorem near_len {g : Gh} {size n : Nat} {ρ : Nat → Nat} {inv : Nat → Option Nat} : (g.near size n ρ inv).objs.length = n := by simp [Gh.near]
theorem near_kind {g : Gh} {size n : Nat} {ρ : Nat → Nat} {inv : Nat → Option Nat} {b : Nat} (hb : b < size) : (g.near size n ρ inv).kind b = nearK g inv b := by
  simp only [Gh.near]; rw [if_pos hb]
theorem nearK_obj {g : Gh} {inv : Nat → Option Nat} {b k i : Nat} (h : g.kind b = .obj k) (hi : inv k = some i) : nearK g inv b = .obj i := by
  simp only [nearK, h, hi]
theorem nearK_vec {g : Gh} {inv : Nat → Option Nat} {b k i : Nat} (h : g.kind b = .vec k) (hi : inv k = some i) : nearK g inv b = .vec i := by
  simp only [nearK, h, hi]
theorem nearK_obj' {g : Gh} {inv : Nat → Option Nat} {b i : Nat} (h : nearK g inv b = .obj i) : ∃ k, g.kind b = .obj k ∧ inv k = some i := by
  unfold nearK at h
  split at h
  · split at h
    · rename_i hk _ _ hi; cases h; exact ⟨_, hk, hi⟩
    · cases h
  · split at h <;> cases h
  · cases h
theorem nearK_vec' {g : Gh} {inv : Nat → Option Nat} {b i : Nat} (h : nearK g inv b = .vec i) : ∃ k, g.kind b = .vec k ∧ inv k = some i := by
  unfold nearK at h
  split at h
  · split at h <;> cases h
  · split at h
    · rename_i hk _ _ hi; cases h; exact ⟨_, hk, hi⟩
    · cases h
  · cases h
theorem nearK_row {g : Gh} {inv : Nat → Option Nat} {b t : Nat} (h : nearK g inv b = .row t) : False := by
  unfold nearK at h
  split at h
  · split at h <;> cases h
  · split at h <;> cases h
  · cases h
theorem near_prot {g : Gh} {size n : Nat} {ρ : Nat → Nat} {inv : Nat → Option Nat} {b off : Nat} (hb : b < size) (hp : g.prot b off) : (g.near size n ρ inv).prot b off := by
  have hp0 := hp
  unfold Gh.prot
  rw [near_kind hb, nearK]
  unfold Gh.prot at hp
  cases hk : g.kind b with
  | obj k => rw [hk] at hp; exact hp.elim
  | vec k => rw [hk] at hp; exact hp.elim
  | solid => exact hp0
  | part S => exact hp0
  | row t => exact hp0
theorem near_protC {g : Gh} {n : Nat} {ρ : Nat → Nat} {inv : Nat → Option Nat} {w : World} (b off : Nat) (u : Value) (hc : w.cell? ⟨b, off, none⟩ = some u) (hp : g.prot b off) : (g.near w.heap.size n ρ inv).prot b off := by
  obtain ⟨C, E, fz, hb, _⟩ := cell_some hc
  exact near_prot (lt_of_block hb) hp

mutual
theorem Rel.near {g : Gh} {w : World} {n : Nat} {ρ : Nat → Nat} {inv : Nat → Option Nat} (hI : Inv ρ n inv) (hl : ∀ i, i < n → ρ i < g.objs.length) : ∀ (a : AV) (v : Value), Near n a → Rel g w (ren ρ a) v → Rel (g.near w.heap.size n ρ inv) w a v
  | .bool _, _, _, r => r
  | .int _ _, _, _, r => r
  | .str _, _, _, r => r
  | .nilptr, _, _, r => r
  | .nilsl, _, _, r => r
  | .nilmap, _, _, r => r
  | .nilfn, _, _, r => r
  | .nilif, _, _, r => r
  | .ptr k off, _, s, ⟨b, r1, r2⟩ => ⟨b, (near_objs s (hl k s)).trans r1, r2⟩
  | .tp k E m', _, s, ⟨b, r1, r2⟩ => ⟨b, (near_objs s (hl k s)).trans r1, r2⟩
  | .eptr cs, _, s, ⟨b, off, r1, r2⟩ => ⟨b, off, r1, RelCells.toProt near_protC cs b off s r2⟩
  | .sl sz full l, _, s, ⟨b, off, sp, cap, r1, r2, r3, rs, r4⟩ => ⟨b, off, sp, cap, r1, r2, r3, rs, RelRows.toProt near_protC sz l b off s r4⟩
  | .lg t sz l, _, s, _ => s.elim
  | .ms k sz off n cap, _, s, ⟨b, r1, r2⟩ => ⟨b, (near_objs s (hl k s)).trans r1, r2⟩
  | .mp k, _, s, ⟨b, r1, r2⟩ => ⟨b, (near_objs s (hl k s)).trans r1, r2⟩
  | .fn f a c, _, ⟨s1, s2⟩, ⟨va, vc, r1, r2, r3⟩ => ⟨va, vc, r1, RelAll.near hI hl a va.toList s1 r2, RelAll.near hI hl c vc.toList s2 r3⟩
  | .ifc t a, _, s, ⟨u, r1, r2⟩ => ⟨u, r1, Rel.near hI hl a u s r2⟩
  | .agg cs, _, s, ⟨vs, r1, r2, r3⟩ => ⟨vs, r1, RelAll.near hI hl cs vs.toList s r2, r3⟩
  | .tup cs, _, s, ⟨vs, r1, r2⟩ => ⟨vs, r1, RelAll.near hI hl cs vs.toList s r2⟩
  | .dead, _, _, _ => trivial
  | .ns z sz l, _, s, .inl r => .inl r
  | .ns z sz l, _, s, .inr ⟨r0, b, off, sp, cap, r1, r2, rs, r4⟩ => .inr ⟨r0, b, off, sp, cap, r1, r2, rs, RelRows.toProt near_protC sz l b off s r4⟩
  | .vs k v sz m, _, s, ⟨b, c, r1, r2, r3, r4, r5⟩ => ⟨b, c, r1, r2, by rw [near_len]; exact s, r4, fun e => by
    obtain ⟨k1, C, E, fz, k2, k3⟩ := r5 e
    exact ⟨by rw [near_kind (lt_of_block k2)]; exact nearK_vec k1 (hI.to k s), C, E, fz, k2, k3⟩⟩
  | .vp k v off, _, s, ⟨b, r1, r3, r4, r5⟩ => ⟨b, r1, by rw [near_len]; exact s, r4, fun e => by
    obtain ⟨k1, k2⟩ := r5 e
    exact ⟨by rw [near_kind k2]; exact nearK_vec k1 (hI.to k s), k2⟩⟩
theorem RelAll.near {g : Gh} {w : World} {n : Nat} {ρ : Nat → Nat} {inv : Nat → Option Nat} (hI : Inv ρ n inv) (hl : ∀ i, i < n → ρ i < g.objs.length) : ∀ (ays : List AV) (vs : List Value), NearL n ays → RelAll g w (renL ρ ays) vs → RelAll (g.near w.heap.size n ρ inv) w ays vs
  | [], _, _, r => r
  | a :: ays, _, ⟨s1, s2⟩, ⟨v, vr, r1, r2, r3⟩ => ⟨v, vr, r1, Rel.near hI hl a v s1 r2, RelAll.near hI hl ays vr s2 r3⟩
end

theorem renO_map1 (ρ : Nat → Nat) (es : List (AV × AV)) : (es.map fun e => (ren ρ e.1, ren ρ e.2)).map (·.1) = renL ρ (es.map (·.1)) := by
  rw [renL_eq, List.map_map, List.map_map]; rfl
theorem renO_map2 (ρ : Nat → Nat) (es : List (AV × AV)) : (es.map fun e => (ren ρ e.1, ren ρ e.2)).map (·.2) = renL ρ (es.map (·.2)) := by
  rw [renL_eq, List.map_map, List.map_map]; rfl

theorem ObRel.near {g : Gh} {w : World} {n : Nat} {ρ : Nat → Nat} {inv : Nat → Option Nat} (hI : Inv ρ n inv) (hl : ∀ i, i < n → ρ i < g.objs.length) {i b : Nat} (hi : i < n) (hb : b < w.heap.size) {o : Ob} (ho : NearO n o) (h : ObRel g w (ρ i) b (renO ρ o)) : ObRel (g.near w.heap.size n ρ inv) w i b o := by
  cases o with
  | cells cs =>
    obtain ⟨h1, C, E, h2, h3, h4⟩ := h
    rw [renL_length] at h3 h4
    exact ⟨by rw [near_kind hb]; exact nearK_obj h1 (hI.to i hi), C, E, h2, RelAll.near hI hl _ _ ho h3, h4⟩
  | map es =>
    obtain ⟨h1, M, c, h2, h3, h4⟩ := h
    rw [renO_map1] at h3
    rw [renO_map2] at h4
    exact ⟨by rw [near_kind hb]; exact nearK_obj h1 (hI.to i hi), M, c, h2, RelAll.near hI hl _ _ ho.1 h3, RelAll.near hI hl _ _ ho.2 h4⟩
  | gone => trivial
  | nov v => exact h
  | vec v cs =>
    obtain ⟨h1, b', h2, h3, C, E, h4, h5, h6⟩ := h
    rw [renL_length] at h5 h6
    exact ⟨h1, b', h2, by rw [near_kind h2]; exact nearK_vec h3 (hI.to i hi), C, E, h4, RelAll.near hI hl _ _ ho h5, h6⟩

/-- How the handed objects lie. -/
structure Lies (st : St) (objs0 : List Ob) (ρ : Nat → Nat) (n : Nat) (inv : Nat → Option Nat) : Prop where
  len : objs0.length = n
  inv : Inv ρ n inv
  at_ : ∀ i o, objs0[i]? = some o → st.objs[ρ i]? = some (renO ρ o)
  near : ∀ o ∈ objs0, NearO n o
theorem Lies.lt {st : St} {objs0 : List Ob} {ρ : Nat → Nat} {n : Nat} {inv : Nat → Option Nat} (h : Lies st objs0 ρ n inv) (i : Nat) (hi : i < n) : ρ i < st.objs.length :=
  getElem?_lt (h.at_ i _ (List.getElem?_eq_getElem (by rw [h.len]; exact hi)))

theorem StRel.near {g : Gh} {st : St} {w : World} (hs : StRel g st w) {objs0 : List Ob} {ρ : Nat → Nat} {n : Nat} {inv : Nat → Option Nat} (hL : Lies st objs0 ρ n inv) : StRel (g.near w.heap.size n ρ inv) ⟨objs0, []⟩ w := by
  have hl : ∀ i, i < n → ρ i < g.objs.length := fun i hi => by rw [hs.len]; exact hL.lt i hi
  refine ⟨rfl, by rw [near_len, hL.len], fun i b o hk ho => ?_, fun b i hb hk => ?_, fun b t hb hk => ?_, fun b i hb hk => ?_, hs.glob.toProt near_protC⟩
  · have hi : i < n := by rw [← hL.len]; exact getElem?_lt ho
    rw [near_objs hi (hl i hi)] at hk
    obtain ⟨h1, h2⟩ := hs.obj (ρ i) b _ hk (hL.at_ i o ho)
    exact ⟨h1, h2.near hL.inv hl hi h1 (hL.near o (List.mem_of_getElem? ho))⟩
  · rw [near_kind hb] at hk
    obtain ⟨k, h1, h2⟩ := nearK_obj' hk
    obtain ⟨hi, rfl⟩ := hL.inv.of k i h2
    obtain ⟨o, h3, h4, h5⟩ := hs.back b _ hb h1
    have ho : objs0[i]? = some (objs0[i]'(by rw [hL.len]; exact hi)) := List.getElem?_eq_getElem _
    have h6 := hL.at_ i _ ho
    rw [h3] at h6
    cases h6
    refine ⟨_, ho, by rw [near_objs hi (hl i hi)]; exact h4, ?_⟩
    generalize objs0[i]'(by rw [hL.len]; exact hi) = y at h5
    cases y <;> first | trivial | exact h5
  · rw [near_kind hb] at hk; exact (nearK_row hk).elim
  · rw [near_kind hb] at hk
    obtain ⟨k, h1, h2⟩ := nearK_vec' hk
    obtain ⟨hi, rfl⟩ := hL.inv.of k i h2
    obtain ⟨⟨v, cs, h3⟩, h4⟩ := hs.vec b _ hb h1
    have ho : objs0[i]? = some (objs0[i]'(by rw [hL.len]; exact hi)) := List.getElem?_eq_getElem _
    have h6 := hL.at_ i _ ho
    rw [h3] at h6
    refine ⟨?_, fun b' hb' hk' => ?_⟩
    · generalize objs0[i]'(by rw [hL.len]; exact hi) = y at ho h6
      cases y <;> simp only [renO, Option.some.injEq, reduceCtorEq] at h6
      exact ⟨_, _, ho⟩
    · rw [near_kind hb'] at hk'
      obtain ⟨k', h7, h8⟩ := nearK_vec' hk'
      obtain ⟨_, e⟩ := hL.inv.of k' i h8
      subst e
      exact h4 b' hb' h7

/-! ### And back -/
/-- Where objects stand afterwards: those that were handed, where they stood; those that were made, behind all. -/
def nx (ρ : Nat → Nat) (n len i : Nat) : Nat := if i < n then ρ i else len + (i - n)
def backK (g2 : Gh) (τ : Nat → Nat) (p b : Nat) : BK :=
  match g2.kind b with
  | .obj i => if i < p then .obj (τ i) else .part fun _ => False
  | .vec i => if i < p then .vec (τ i) else .part fun _ => False
  | .row _ => .part fun off => g2.prot b off
  | x => x
def backG (g g2 : Gh) (τ : Nat → Nat) (p : Nat) (inv : Nat → Option Nat) (b : Nat) : BK :=
  match g.kind b with
  | .obj k => match inv k with
    | some _ => backK g2 τ p b
    | none => .obj k
  | .vec k => match inv k with
    | some _ => backK g2 τ p b
    | none => .vec k
  | x => x
def Gh.back (g g2 : Gh) (size n p : Nat) (τ : Nat → Nat) (inv : Nat → Option Nat) : Gh where
  kind b := if b < size then backG g g2 τ p inv b else backK g2 τ p b
  objs := g.objs ++ (g2.objs.take p).drop n
  tk := g.tk
  ver k := match inv k with
    | some i => g2.ver i
    | none => if k < g.objs.length then g.ver k else g2.ver (n + (k - g.objs.length))

/-- The two pictures agree. -/
structure Bk (G g2 : Gh) (w2 : World) (τ : Nat → Nat) (p : Nat) : Prop where
  objs : ∀ i, i < p → G.objs[τ i]? = g2.objs[i]?
  lt : ∀ i, i < p → τ i < G.objs.length
  ver : ∀ i, i < p → G.ver (τ i) = g2.ver i
  kobj : ∀ b i, b < w2.heap.size → i < p → g2.kind b = .obj i → G.kind b = .obj (τ i)
  kvec : ∀ b i, b < w2.heap.size → i < p → g2.kind b = .vec i → G.kind b = .vec (τ i)
  prot : ∀ b off u, w2.cell? ⟨b, off, none⟩ = some u → g2.prot b off → G.prot b off
mutual
theorem Bk.rel {G g2 : Gh} {w : World} {τ : Nat → Nat} {p : Nat} (h : Bk G g2 w τ p) : ∀ (a : AV) (v : Value), Near p a → Rel g2 w a v → Rel G w (ren τ a) v
  | .bool _, _, _, r => r
  | .int _ _, _, _, r => r
  | .str _, _, _, r => r
  | .nilptr, _, _, r => r
  | .nilsl, _, _, r => r
  | .nilmap, _, _, r => r
  | .nilfn, _, _, r => r
  | .nilif, _, _, r => r
  | .ptr k off, _, s, ⟨b, r1, r2⟩ => ⟨b, (h.objs k s).trans r1, r2⟩
  | .tp k E m', _, s, ⟨b, r1, r2⟩ => ⟨b, (h.objs k s).trans r1, r2⟩
  | .eptr cs, _, s, ⟨b, off, r1, r2⟩ => ⟨b, off, r1, RelCells.toProt h.prot cs b off s r2⟩
  | .sl sz full l, _, s, ⟨b, off, sp, cap, r1, r2, r3, rs, r4⟩ => ⟨b, off, sp, cap, r1, r2, r3, rs, RelRows.toProt h.prot sz l b off s r4⟩
  | .lg t sz l, _, s, _ => s.elim
  | .ms k sz off n cap, _, s, ⟨b, r1, r2⟩ => ⟨b, (h.objs k s).trans r1, r2⟩
  | .mp k, _, s, ⟨b, r1, r2⟩ => ⟨b, (h.objs k s).trans r1, r2⟩
  | .fn f a c, _, ⟨s1, s2⟩, ⟨va, vc, r1, r2, r3⟩ => ⟨va, vc, r1, Bk.relAll h a va.toList s1 r2, Bk.relAll h c vc.toList s2 r3⟩
  | .ifc t a, _, s, ⟨u, r1, r2⟩ => ⟨u, r1, Bk.rel h a u s r2⟩
  | .agg cs, _, s, ⟨vs, r1, r2, r3⟩ => ⟨vs, r1, Bk.relAll h cs vs.toList s r2, r3⟩
  | .tup cs, _, s, ⟨vs, r1, r2⟩ => ⟨vs, r1, Bk.relAll h cs vs.toList s r2⟩
  | .dead, _, _, _ => trivial
  | .ns z sz l, _, s, .inl r => .inl r
  | .ns z sz l, _, s, .inr ⟨r0, b, off, sp, cap, r1, r2, rs, r4⟩ => .inr ⟨r0, b, off, sp, cap, r1, r2, rs, RelRows.toProt h.prot sz l b off s r4⟩
  | .vs k v sz m, _, s, ⟨b, c, r1, r2, r3, r4, r5⟩ => ⟨b, c, r1, r2, h.lt k s, by rw [h.ver k s]; exact r4, fun e => by
    rw [h.ver k s] at e
    obtain ⟨k1, C, E, fz, k2, k3⟩ := r5 e
    exact ⟨h.kvec b k (lt_of_block k2) s k1, C, E, fz, k2, k3⟩⟩
  | .vp k v off, _, s, ⟨b, r1, r3, r4, r5⟩ => ⟨b, r1, h.lt k s, by rw [h.ver k s]; exact r4, fun e => by
    rw [h.ver k s] at e
    obtain ⟨k1, k2⟩ := r5 e
    exact ⟨h.kvec b k k2 s k1, k2⟩⟩
theorem Bk.relAll {G g2 : Gh} {w : World} {τ : Nat → Nat} {p : Nat} (h : Bk G g2 w τ p) : ∀ (ays : List AV) (vs : List Value), NearL p ays → RelAll g2 w ays vs → RelAll G w (renL τ ays) vs
  | [], _, _, r => r
  | a :: ays, _, ⟨s1, s2⟩, ⟨v, vr, r1, r2, r3⟩ => ⟨v, vr, r1, Bk.rel h a v s1 r2, Bk.relAll h ays vr s2 r3⟩
end
theorem Bk.ob {G g2 : Gh} {w : World} {τ : Nat → Nat} {p : Nat} (h : Bk G g2 w τ p) {i b : Nat} (hi : i < p) (hb : b < w.heap.size) {o : Ob} (ho : NearO p o) (hr : ObRel g2 w i b o) : ObRel G w (τ i) b (renO τ o) := by
  cases o with
  | cells cs =>
    obtain ⟨h1, C, E, h2, h3, h4⟩ := hr
    exact ⟨h.kobj b i hb hi h1, C, E, h2, by rw [renL_length]; exact h.relAll _ _ ho h3, by rw [renL_length]; exact h4⟩
  | map es =>
    obtain ⟨h1, M, c, h2, h3, h4⟩ := hr
    exact ⟨h.kobj b i hb hi h1, M, c, h2, by rw [renO_map1]; exact h.relAll _ _ ho.1 h3, by rw [renO_map2]; exact h.relAll _ _ ho.2 h4⟩
  | gone => trivial
  | nov v => exact (h.ver i hi).trans hr
  | vec v cs =>
    obtain ⟨h1, b', h2, h3, C, E, h4, h5, h6⟩ := hr
    exact ⟨(h.ver i hi).trans h1, b', h2, h.kvec b' i h2 hi h3, C, E, h4, by rw [renL_length]; exact h.relAll _ _ ho h5, by rw [renL_length]; exact h6⟩

theorem nx_inj {ρ : Nat → Nat} {n len : Nat} {inv : Nat → Option Nat} (hI : Inv ρ n inv) (hl : ∀ i, i < n → ρ i < len) {i j : Nat} (e : nx ρ n len i = nx ρ n len j) : i = j := by
  unfold nx at e
  split at e
  · rename_i hi
    split at e
    · rename_i hj; exact hI.inj hi hj e
    · have := hl i hi; omega
  · split at e
    · rename_i hj; have := hl j hj; omega
    · omega
theorem nx_lt {ρ : Nat → Nat} {n len : Nat} {inv : Nat → Option Nat} (hI : Inv ρ n inv) {i k : Nat} (hk : k < len) (e : nx ρ n len i = k) : inv k = some i := by
  unfold nx at e
  split at e
  · rename_i hi; rw [← e]; exact hI.to i hi
  · omega

theorem backK_prot {g2 G : Gh} {τ : Nat → Nat} {p b off : Nat} (hk : G.kind b = backK g2 τ p b) (hp : g2.prot b off) : G.prot b off := by
  have hp0 := hp
  unfold Gh.prot at hp ⊢
  rw [hk]
  unfold backK
  cases h : g2.kind b with
  | solid => trivial
  | part S => rw [h] at hp; exact hp
  | obj k => rw [h] at hp; exact hp.elim
  | vec k => rw [h] at hp; exact hp.elim
  | row t => exact hp0

/-- A callee shown with what it is handed alone. -/
theorem placed {id : FuncId} {args0 : List AV} {objs0 objs2 : List Ob} {r0 : AV} {xt : List (Nat × Nat)} (h : CallsTo P id args0 ⟨objs0, []⟩ (.ret r0, ⟨objs2, xt⟩)) {n p : Nat} (hnp : n ≤ p) (hp : p ≤ objs2.length)
    (ha : NearL n args0) (hr : Near p (frz r0)) (ho2 : ∀ (i : Nat) (o : Ob), i < p → objs2[i]? = some o → NearO p o)
    {ρ : Nat → Nat} {inv : Nat → Option Nat} {st st' : St} (hL : Lies st objs0 ρ n inv) (htk : st'.tk = st.tk) (hlen : st'.objs.length = st.objs.length + (p - n))
    (hnew : ∀ (i : Nat) (o : Ob), i < p → objs2[i]? = some o → st'.objs[nx ρ n st.objs.length i]? = some (renO (nx ρ n st.objs.length) o)) (hold : ∀ k, k < st.objs.length → inv k = none → st'.objs[k]? = st.objs[k]?) :
    CallsTo P id (renL ρ args0) st (.ret (ren (nx ρ n st.objs.length) (frz r0)), st') := by
  intro g w vals hv hs
  have hl : ∀ i, i < n → ρ i < g.objs.length := fun i hi => by rw [hs.len]; exact hL.lt i hi
  have hI := hL.inv
  refine (h (g.near w.heap.size n ρ inv) w vals (RelAll.near hI hl _ _ ha hv) (hs.near hL)).mono fun e w2 ⟨g2, h1, hs2, hE⟩ => ?_
  obtain ⟨v, rfl, hv2⟩ := h1
  have hlen2 : g2.objs.length = objs2.length := hs2.len
  have hgl : st.objs.length = g.objs.length := hs.len.symm
  rw [hgl] at hlen hnew ⊢
  have hinvN : ∀ k, g.objs.length ≤ k → inv k = none := fun k hk => by
    cases e : inv k with
    | none => rfl
    | some i =>
      obtain ⟨hi, rfl⟩ := hI.of k i e
      have := hl i hi
      omega
  let τ := nx ρ n g.objs.length
  let G := g.back g2 w.heap.size n p τ inv
  -- blocks of which the callee knows nothing
  have hpart : ∀ b, b < w.heap.size → (∀ k i, g.kind b = .obj k → inv k = some i → False) → (∀ k i, g.kind b = .vec k → inv k = some i → False) → ∃ S, nearK g inv b = .part S ∧ g2.kind b = .part S ∧ w2.heap[b]? = w.heap[b]? := by
    intro b hb q1 q2
    have : ∃ S, nearK g inv b = .part S := by
      unfold nearK
      split
      · rename_i k hk
        split
        · rename_i i hi; exact (q1 k i hk hi).elim
        · exact ⟨_, rfl⟩
      · rename_i k hk
        split
        · rename_i i hi; exact (q2 k i hk hi).elim
        · exact ⟨_, rfl⟩
      · exact ⟨_, rfl⟩
    obtain ⟨S, hS⟩ := this
    obtain ⟨k1, k2⟩ := hE.part b (S := S) hb (by rw [near_kind hb]; exact hS)
    exact ⟨S, hS, k1, k2⟩
  have hGlt : ∀ b, b < w.heap.size → G.kind b = backG g g2 τ p inv b := fun b hb => by
    show (if b < w.heap.size then _ else _) = _
    rw [if_pos hb]
  have hGge : ∀ b, ¬ b < w.heap.size → G.kind b = backK g2 τ p b := fun b hb => by
    show (if b < w.heap.size then _ else _) = _
    rw [if_neg hb]
  -- the callee's objects' blocks
  have hmine : ∀ b, b < w2.heap.size → (∃ i, g2.kind b = .obj i ∨ g2.kind b = .vec i) → G.kind b = backK g2 τ p b := by
    intro b hb ⟨i, hi⟩
    by_cases hb1 : b < w.heap.size
    · rw [hGlt b hb1]
      by_cases q1 : ∃ k j, g.kind b = .obj k ∧ inv k = some j
      · obtain ⟨k, j, e1, e2⟩ := q1
        simp only [backG, e1, e2]
      · by_cases q2 : ∃ k j, g.kind b = .vec k ∧ inv k = some j
        · obtain ⟨k, j, e1, e2⟩ := q2
          simp only [backG, e1, e2]
        · obtain ⟨S, _, e3, _⟩ := hpart b hb1 (fun k i a b => q1 ⟨k, i, a, b⟩) (fun k i a b => q2 ⟨k, i, a, b⟩)
          rcases hi with hi | hi <;> (rw [hi] at e3; cases e3)
    · exact hGge b hb1
  have hB : Bk G g2 w2 τ p := by
    refine ⟨fun i hi => ?_, fun i hi => ?_, fun i hi => ?_, fun b i hb hi hk => ?_, fun b i hb hi hk => ?_, fun b off u hc hpr => ?_⟩
    · show (g.objs ++ (g2.objs.take p).drop n)[nx ρ n g.objs.length i]? = _
      unfold nx
      split
      · rename_i h
        rw [List.getElem?_append_left (hl i h)]
        have e1 : g.objs[ρ i]? = some (g.objs[ρ i]'(hl i h)) := List.getElem?_eq_getElem (hl i h)
        have e2 := hE.objs i _ ((near_objs h (hl i h)).trans e1)
        rw [e1, e2]
      · rw [List.getElem?_append_right (by omega), List.getElem?_drop, List.getElem?_take, if_pos (by omega)]
        congr 1; omega
    · show nx ρ n g.objs.length i < (g.objs ++ (g2.objs.take p).drop n).length
      rw [List.length_append, List.length_drop, List.length_take]
      unfold nx
      split
      · rename_i h; have := hl i h; omega
      · omega
    · show (match inv (nx ρ n g.objs.length i) with | some i => g2.ver i | none => if nx ρ n g.objs.length i < g.objs.length then g.ver (nx ρ n g.objs.length i) else g2.ver (n + (nx ρ n g.objs.length i - g.objs.length))) = _
      by_cases h : i < n
      · rw [show nx ρ n g.objs.length i = ρ i by rw [nx, if_pos h], hI.to i h]
      · rw [show nx ρ n g.objs.length i = g.objs.length + (i - n) by rw [nx, if_neg h], hinvN _ (by omega)]
        simp only
        rw [if_neg (by omega)]
        congr 1; omega
    · rw [hmine b hb ⟨i, .inl hk⟩]
      simp only [backK, hk]
      rw [if_pos hi]
    · rw [hmine b hb ⟨i, .inr hk⟩]
      simp only [backK, hk]
      rw [if_pos hi]
    · obtain ⟨C, E, fz, hbk, _⟩ := cell_some hc
      have hb := lt_of_block hbk
      by_cases hb1 : b < w.heap.size
      · by_cases q1 : ∃ k j, g.kind b = .obj k ∧ inv k = some j
        · obtain ⟨k, j, e1, e2⟩ := q1
          exact backK_prot (τ := τ) (p := p) (by rw [hGlt b hb1]; simp only [backG, e1, e2]) hpr
        · by_cases q2 : ∃ k j, g.kind b = .vec k ∧ inv k = some j
          · obtain ⟨k, j, e1, e2⟩ := q2
            exact backK_prot (τ := τ) (p := p) (by rw [hGlt b hb1]; simp only [backG, e1, e2]) hpr
          · obtain ⟨S, e2, e3, _⟩ := hpart b hb1 (fun k i a b => q1 ⟨k, i, a, b⟩) (fun k i a b => q2 ⟨k, i, a, b⟩)
            have hS : S off := by
              unfold Gh.prot at hpr; rw [e3] at hpr; exact hpr
            unfold Gh.prot
            rw [hGlt b hb1]
            unfold nearK at e2
            unfold backG
            cases hk : g.kind b with
            | obj k =>
              rw [hk] at e2
              simp only at e2
              split at e2
              · cases e2
              · cases e2; exact hS.elim
            | vec k =>
              rw [hk] at e2
              simp only at e2
              split at e2
              · cases e2
              · cases e2; exact hS.elim
            | solid => trivial
            | part T =>
              rw [hk] at e2
              simp only [BK.part.injEq] at e2
              subst e2
              unfold Gh.prot at hS; rw [hk] at hS; exact hS
            | row t =>
              rw [hk] at e2
              simp only [BK.part.injEq] at e2
              subst e2
              unfold Gh.prot at hS; rw [hk] at hS; exact hS
      · exact backK_prot (τ := τ) (p := p) (hGge b hb1) hpr
  have hEG : Ev g w G w2 := by
    refine ⟨hE.os, hE.tape, hE.output, hE.size, fun b hb hk => ?_, fun b t hb hk => ?_, fun b k hb hk => ?_, fun k b hk => ?_, tk_refl _, fun k hk => ?_, fun b k hb hkl hk hvv => ?_, hE.ty⟩
    · obtain ⟨S, _, _, e3⟩ := hpart b hb (fun k i a _ => by rw [a] at hk; cases hk) (fun k i a _ => by rw [a] at hk; cases hk)
      refine ⟨?_, e3⟩
      rw [hGlt b hb]
      unfold backG
      cases e : g.kind b with
      | obj k => rw [e] at hk; cases hk
      | vec k => rw [e] at hk; cases hk
      | _ => rfl
    · obtain ⟨S, _, _, e3⟩ := hpart b hb (fun k i a _ => by rw [a] at hk; cases hk) (fun k i a _ => by rw [a] at hk; cases hk)
      refine ⟨by rw [hGlt b hb]; simp only [backG, hk], fun C E fz hC => ⟨C, e3.trans hC, rfl, fun _ _ => rfl⟩⟩
    · rw [hGlt b hb]
      simp only [backG, hk]
      split
      · rename_i i hi
        obtain ⟨hin, rfl⟩ := hI.of k i hi
        have := hE.obj b i hb (by rw [near_kind hb]; exact nearK_obj hk hi)
        unfold backK
        rcases this with e | e
        · rw [e]; simp only; rw [if_pos (by omega)]
          left
          show BK.obj (nx ρ n g.objs.length i) = _
          rw [nx, if_pos hin]
        · rw [e]; exact .inr rfl
      · exact .inl rfl
    · show (g.objs ++ _)[k]? = _
      rw [List.getElem?_append_left (getElem?_lt hk)]; exact hk
    · show g.ver k ≤ (match inv k with | some i => g2.ver i | none => if k < g.objs.length then g.ver k else g2.ver (n + (k - g.objs.length)))
      split
      · rename_i i hi
        obtain ⟨hin, rfl⟩ := hI.of k i hi
        exact hE.ver i (by rw [near_len]; exact hin)
      · rw [if_pos hk]; exact Nat.le_refl _
    · have hvv : (match inv k with | some i => g2.ver i | none => if k < g.objs.length then g.ver k else g2.ver (n + (k - g.objs.length))) = g.ver k := hvv
      rw [hGlt b hb]
      simp only [backG, hk]
      split at hvv
      · rename_i i hi
        obtain ⟨hin, rfl⟩ := hI.of k i hi
        obtain ⟨k1, k2⟩ := hE.vec b i hb (by rw [near_len]; exact hin) (by rw [near_kind hb]; exact nearK_vec hk hi) hvv
        refine ⟨?_, k2⟩
        simp only [backK, k1]
        rw [if_pos (by omega)]
        show BK.vec (nx ρ n g.objs.length i) = _
        rw [nx, if_pos hin]
      · rename_i hi
        obtain ⟨S, _, _, e3⟩ := hpart b hb (fun k i a _ => by rw [a] at hk; cases hk) (fun k' i a e => by rw [a] at hk; cases hk; rw [hi] at e; cases e)
        exact ⟨rfl, fun C E fz hC => ⟨C, e3.trans hC, rfl⟩⟩
  -- which object a block of the new picture belongs to
  have hcase : ∀ b y, b < w2.heap.size → G.kind b = y → (∃ k, y = .obj k ∨ y = .vec k) → (b < w.heap.size ∧ g.kind b = y ∧ w2.heap[b]? = w.heap[b]? ∧ ∀ k, (y = .obj k ∨ y = .vec k) → inv k = none) ∨ (∃ i, i < p ∧ ((g2.kind b = .obj i ∧ y = .obj (τ i)) ∨ (g2.kind b = .vec i ∧ y = .vec (τ i)))) := by
    intro b y hb hk hy
    have hbk : backK g2 τ p b = y → ∃ i, i < p ∧ ((g2.kind b = .obj i ∧ y = .obj (τ i)) ∨ (g2.kind b = .vec i ∧ y = .vec (τ i))) := by
      intro e
      unfold backK at e
      split at e
      · rename_i i hi
        split at e
        · rename_i hip; exact ⟨i, hip, .inl ⟨hi, e.symm⟩⟩
        · obtain ⟨k, hy | hy⟩ := hy <;> (rw [hy] at e; cases e)
      · rename_i i hi
        split at e
        · rename_i hip; exact ⟨i, hip, .inr ⟨hi, e.symm⟩⟩
        · obtain ⟨k, hy | hy⟩ := hy <;> (rw [hy] at e; cases e)
      · obtain ⟨k, hy | hy⟩ := hy <;> (rw [hy] at e; cases e)
      · rename_i x h1 h2 h3
        obtain ⟨k, hy | hy⟩ := hy
        · rw [hy] at e; exact (h1 k e).elim
        · rw [hy] at e; exact (h2 k e).elim
    by_cases hb1 : b < w.heap.size
    · rw [hGlt b hb1] at hk
      unfold backG at hk
      split at hk
      · rename_i k hkk
        split at hk
        · exact .inr (hbk hk)
        · rename_i hi
          obtain ⟨S, _, _, e3⟩ := hpart b hb1 (fun k' i a e => by rw [a] at hkk; cases hkk; rw [hi] at e; cases e) (fun k' i a e => by rw [a] at hkk; cases hkk)
          refine .inl ⟨hb1, hkk.trans hk, e3, fun k' hk' => ?_⟩
          rcases hk' with hk' | hk' <;> (rw [hk'] at hk; cases hk)
          exact hi
      · rename_i k hkk
        split at hk
        · exact .inr (hbk hk)
        · rename_i hi
          obtain ⟨S, _, _, e3⟩ := hpart b hb1 (fun k' i a e => by rw [a] at hkk; cases hkk) (fun k' i a e => by rw [a] at hkk; cases hkk; rw [hi] at e; cases e)
          refine .inl ⟨hb1, hkk.trans hk, e3, fun k' hk' => ?_⟩
          rcases hk' with hk' | hk' <;> (rw [hk'] at hk; cases hk)
          exact hi
      · rename_i x h1 h2
        obtain ⟨k, hy | hy⟩ := hy
        · rw [hy] at hk; exact (h1 k hk).elim
        · rw [hy] at hk; exact (h2 k hk).elim
    · rw [hGge b hb1] at hk
      exact .inr (hbk hk)
  refine ⟨G, ⟨v, rfl, hB.rel _ _ hr (frz_rel hv2)⟩, ⟨by show g.tk = _; rw [hs.tk, htk], ?_, fun k b o hk ho => ?_, fun b k hb hk => ?_, fun b t hb hk => ?_, fun b k hb hk => ?_, hs.glob.mono hEG⟩, hEG⟩
  · show (g.objs ++ (g2.objs.take p).drop n).length = _
    rw [List.length_append, List.length_drop, List.length_take, hlen]
    omega
  · -- the objects
    have hkl : k < g.objs.length + (p - n) := by rw [← hlen]; exact getElem?_lt ho
    by_cases hki : k < g.objs.length ∧ inv k = none
    · obtain ⟨q1, q2⟩ := hki
      have hk : (g.objs ++ (g2.objs.take p).drop n)[k]? = some b := hk
      rw [List.getElem?_append_left q1] at hk
      rw [hold k (by rw [hgl]; exact q1) q2] at ho
      obtain ⟨p1, p2⟩ := hs.obj k b o hk ho
      refine ⟨Nat.lt_of_lt_of_le p1 hE.size, ?_⟩
      have hver : G.ver k = g.ver k := by
        show (match inv k with | some i => g2.ver i | none => if k < g.objs.length then g.ver k else _) = _
        rw [q2]; simp only; rw [if_pos q1]
      have hkeep : ∀ b, b < w.heap.size → (g.kind b = .obj k ∨ g.kind b = .vec k) → G.kind b = g.kind b ∧ w2.heap[b]? = w.heap[b]? := by
        intro b hb hk
        obtain ⟨S, _, _, e3⟩ := hpart b hb (fun k' i a e => by
          rcases hk with hk | hk <;> (rw [a] at hk; cases hk)
          rw [q2] at e; cases e) (fun k' i a e => by
          rcases hk with hk | hk <;> (rw [a] at hk; cases hk)
          rw [q2] at e; cases e)
        refine ⟨?_, e3⟩
        rw [hGlt b hb]
        rcases hk with hk | hk <;> simp only [backG, hk, q2]
      cases o with
      | gone => trivial
      | nov v => exact hver.trans p2
      | cells cs =>
        obtain ⟨e1, C, E, e2, e3, e4⟩ := p2
        obtain ⟨f1, f2⟩ := hkeep b p1 (.inl e1)
        exact ⟨f1.trans e1, C, E, f2.trans e2, RelAll.mono hEG _ _ e3, e4⟩
      | map es =>
        obtain ⟨e1, M, c, e2, e3, e4⟩ := p2
        obtain ⟨f1, f2⟩ := hkeep b p1 (.inl e1)
        exact ⟨f1.trans e1, M, c, f2.trans e2, RelAll.mono hEG _ _ e3, RelAll.mono hEG _ _ e4⟩
      | vec v cs =>
        obtain ⟨e0, b', e1, e2, C, E, e3, e4, e5⟩ := p2
        obtain ⟨f1, f2⟩ := hkeep b' e1 (.inr e2)
        exact ⟨hver.trans e0, b', Nat.lt_of_lt_of_le e1 hE.size, f1.trans e2, C, E, f2.trans e3, RelAll.mono hEG _ _ e4, e5⟩
    · have : ∃ i, i < p ∧ τ i = k := by
        by_cases q1 : k < g.objs.length
        · cases e : inv k with
          | none => exact absurd ⟨q1, e⟩ hki
          | some i =>
            obtain ⟨hi, rfl⟩ := hI.of k i e
            exact ⟨i, by omega, by show nx ρ n g.objs.length i = _; rw [nx, if_pos hi]⟩
        · exact ⟨n + (k - g.objs.length), by omega, by show nx ρ n g.objs.length _ = _; rw [nx, if_neg (by omega)]; omega⟩
      obtain ⟨i, hi, rfl⟩ := this
      rw [hB.objs i hi] at hk
      have hoi : objs2[i]? = some (objs2[i]'(by omega)) := List.getElem?_eq_getElem _
      have := hnew i _ hi hoi
      rw [show st'.objs[τ i]? = _ from this] at ho
      cases ho
      obtain ⟨p1, p2⟩ := hs2.obj i b _ hk hoi
      exact ⟨p1, hB.ob hi p1 (ho2 i _ hi hoi) p2⟩
  · rcases hcase b _ hb hk ⟨k, .inl rfl⟩ with ⟨h1, h2, _, h3⟩ | ⟨i, hi, ⟨h1, h2⟩ | ⟨h1, h2⟩⟩
    · obtain ⟨o, k1, k2, k3⟩ := hs.back b k h1 h2
      have hkl := getElem?_lt k1
      refine ⟨o, by rw [hold k hkl (h3 k (.inl rfl))]; exact k1, ?_, k3⟩
      show (g.objs ++ _)[k]? = _
      rw [List.getElem?_append_left (getElem?_lt k2)]; exact k2
    · simp only [BK.obj.injEq] at h2
      subst h2
      obtain ⟨o, k1, k2, k3⟩ := hs2.back b i hb h1
      refine ⟨renO τ o, hnew i o hi k1, (hB.objs i hi).trans k2, ?_⟩
      cases o <;> first | trivial | exact k3
    · cases h2
  · by_cases hb1 : b < w.heap.size
    · have hk0 := hk
      rw [hGlt b hb1] at hk
      have : g.kind b = .row t := by
        unfold backG at hk
        split at hk
        · split at hk
          · unfold backK at hk
            split at hk
            · split at hk <;> cases hk
            · split at hk <;> cases hk
            · cases hk
            · rename_i h1 h2 h3; exact (h3 t hk).elim
          · cases hk
        · split at hk
          · unfold backK at hk
            split at hk
            · split at hk <;> cases hk
            · split at hk <;> cases hk
            · cases hk
            · rename_i h1 h2 h3; exact (h3 t hk).elim
          · cases hk
        · exact hk
      rw [htk]
      exact hs.rowlt b t hb1 this
    · rw [hGge b hb1] at hk
      unfold backK at hk
      split at hk
      · split at hk <;> cases hk
      · split at hk <;> cases hk
      · cases hk
      · rename_i h1 h2 h3; exact (h3 t hk).elim
  · rcases hcase b _ hb hk ⟨k, .inr rfl⟩ with ⟨h1, h2, _, h3⟩ | ⟨i, hi, ⟨h1, h2⟩ | ⟨h1, h2⟩⟩
    · obtain ⟨⟨v, cs, k1⟩, k2⟩ := hs.vec b k h1 h2
      have hkl := getElem?_lt k1
      have hin := h3 k (.inr rfl)
      refine ⟨⟨v, cs, by rw [hold k hkl hin]; exact k1⟩, fun b' hb' hk' => ?_⟩
      rcases hcase b' _ hb' hk' ⟨k, .inr rfl⟩ with ⟨q1, q2, _, _⟩ | ⟨i, hi, ⟨q1, q2⟩ | ⟨q1, q2⟩⟩
      · exact k2 b' q1 q2
      · cases q2
      · simp only [BK.vec.injEq] at q2
        have := nx_lt hI (by rw [← hgl]; exact hkl) q2.symm
        rw [hin] at this; cases this
    · cases h2
    · simp only [BK.vec.injEq] at h2
      subst h2
      obtain ⟨⟨v, cs, k1⟩, k2⟩ := hs2.vec b i hb h1
      refine ⟨⟨v, renL τ cs, hnew i _ hi k1⟩, fun b' hb' hk' => ?_⟩
      rcases hcase b' _ hb' hk' ⟨_, .inr rfl⟩ with ⟨q1, q2, _, q3⟩ | ⟨j, hj, ⟨q1, q2⟩ | ⟨q1, q2⟩⟩
      · have hin := q3 _ (.inr rfl)
        obtain ⟨⟨v', cs', k3⟩, _⟩ := hs.vec b' _ q1 q2
        have k4 : τ i < g.objs.length := by rw [← hgl]; exact getElem?_lt k3
        have := nx_lt hI k4 (i := i) rfl
        rw [hin] at this; cases this
      · cases q2
      · simp only [BK.vec.injEq] at q2
        have := nx_inj hI hl q2
        subst this
        exact k2 b' hb' q1

end
end Go.V

/- Registers: growing objects that are used again and again. -/
set_option linter.unusedVariables false
set_option linter.unusedSimpArgs false
namespace Go.V
section
variable {P : Program}

def verO (o : Option Ob) : Option Nat :=
  match o with
  | some o => match o with
    | .vec v _ => some v
    | .nov v => some v
    | _ => none
  | none => none
/-- A register: a number, or so far behind the object to which an operand leads. -/
def rgN (b : Option AV) (d : Nat) : Option Nat :=
  match b with
  | none => some d
  | some x => match x with
    | .ptr i _ => some (i + d)
    | _ => none

theorem verO_some {o : Option Ob} {v : Nat} (h : verO o = some v) : (∃ cs, o = some (.vec v cs)) ∨ o = some (.nov v) := by
  unfold verO at h
  split at h
  · split at h
    · cases h; exact .inl ⟨_, rfl⟩
    · cases h; exact .inr rfl
    · cases h
  · cases h
theorem verO_lt {l : List Ob} {j v : Nat} (h : verO l[j]? = some v) : j < l.length := by
  rcases verO_some h with ⟨cs, h⟩ | h
  · exact getElem?_lt h
  · exact getElem?_lt h

/-- A register has a new block. -/
theorem reg_moved {g : Gh} {st : St} {w w1 : World} {C : Array Value} {E : TypeId} (hs : StRel g st w) (hp : Push w w1 (.cells C E)) {j v : Nat} {cs : List AV} (hv : verO st.objs[j]? = some v) (hr : RelAll g w cs (C.toList.take cs.length)) (h1 : ∀ u ∈ C.toList.take cs.length, u.oneCell' = true) :
    ∃ g', StRel g' ⟨st.objs.set j (.vec (v + 1) cs), st.tk⟩ w1 ∧ Ev g w g' w1 ∧ (∀ c sz n, n ≤ c → c * sz ≤ C.size → okE sz E = true → Rel g' w1 (.vs j (v + 1) sz n) (.slice (some ⟨w.heap.size, 0, none⟩) n c)) ∧ ∀ off, Rel g' w1 (.vp j (v + 1) off) (.pointer (some ⟨w.heap.size, off, none⟩)) := by
  have hjl := verO_lt hv
  refine vec_moved (gos := g.objs) hs hp (fun o ho => ⟨v, ?_, Nat.lt_succ_self v⟩) (by rw [List.getElem?_eq_getElem (by rw [hs.len]; exact hjl)]; rfl) (fun _ _ h => h) (fun _ _ h => .inl h) (by simp [hs.len]) (List.getElem?_set_self hjl) (fun k hk => List.getElem?_set_ne (fun e => hk e.symm)) hr h1
  rcases verO_some hv with ⟨cs0, h⟩ | h
  · rw [h] at ho; cases ho; exact .inl ⟨_, rfl⟩
  · rw [h] at ho; cases ho; exact .inr rfl

def rgOps (b : Option Operand) : List Operand := b.toList
theorem rg_ev {ev ev' : Operand → AV} {xs : List Operand} {b : Option Operand} (h : ∀ x ∈ xs ++ rgOps b, ev x = ev' x) : b.map ev = b.map ev' := by
  cases b with
  | none => rfl
  | some x => simp only [Option.map_some, h x (by simp [rgOps])]

/-- A variable in memory, in a register. -/
def aallocR (z : Value) (r : Option Nat) (st : St) (k : AV → St → Ans) : Ans :=
  match r with
  | some j => match verO st.objs[j]? with
    | some v => match cellsA (ofLit z) with
      | some cs => k (.vp j (v + 1) 0) ⟨st.objs.set j (.vec (v + 1) cs), st.tk⟩
      | none => none
    | none => none
  | none => none
/-- make of a slice, in a register. -/
noncomputable def amakeR (sz bytes : Nat) (zc : List AV) (r : Option Nat) (x : AV) (st : St) (k : AV → St → Ans) : Ans :=
  match x with
  | .int _ n => match mkOk bytes n with
    | true => match r with
      | some j => match verO st.objs[j]? with
        | some v => k (.vs j (v + 1) sz n.toNat) ⟨st.objs.set j (.vec (v + 1) (zerC n.toNat zc)), st.tk⟩
        | none => none
      | none => none
    | false => none
  | _ => none
/-- Append, the first block in a register. -/
noncomputable def aappR (sz bytes : Nat) (r : Option Nat) (s x : AV) (st : St) (k : AV → St → Ans) : Ans :=
  match s with
  | .nilsl => match rowsT sz x st with
    | none => none
    | some rows => match apOk rows.length bytes with
      | true => match Nat.beq rows.length 0 with
        | true => k .nilsl st
        | false => match r with
          | some j => match verO st.objs[j]? with
            | some v => k (.vs j (v + 1) sz rows.length) ⟨st.objs.set j (.vec (v + 1) (catC [] 0 rows)), st.tk⟩
            | none => none
          | none => none
      | false => none
  | s => aappV sz bytes s x st k
theorem aappR_run {T X e sz bytes : Nat} {z : Value} (hok : okE sz e = true) (hT : ElemOf P T e sz bytes z) {dx : TypeDesc} (hX : P.underlying X = some dx) (hdx : isSeq dx = true) (ty : TypeId) {g : Gh} {st : St} {w : World} (hs : StRel g st w) {S Y : AV} {s x : Value} (hS : Rel g w S s) (hY : Rel g w Y x) {r : Option Nat} {k : AV → St → Ans} {fin : Fin × St} (h : aappR sz bytes r S Y st k = some fin) :
    ∃ r v st' g' w', k r st' = some fin ∧ (Builtin.append_ #[T, X] ty #[s, x]).run P w = .ok v w' ∧ Rel g' w' r v ∧ StRel g' st' w' ∧ Ev g w g' w' := by
  have hzc : ∀ n, (Builtin.zeroCells z.cells n).toList.length = n * sz := fun n => by rw [Array.length_toList (xs := Builtin.zeroCells z.cells n), size_zeroCells, hT.cells]
  unfold aappR at h
  split at h
  · obtain rfl : s = .slice none 0 0 := hS
    split at h
    · cases h
    · rename_i rows hrows
      obtain ⟨news, h1, h2, h3, h4, h5, h6⟩ := rowsA_run (P := P) hs hY (rowsT_rowsA hrows)
      split at h
      · rename_i hc
        rw [apOk_iff] at hc
        split at h
        · rename_i h0
          have h0 := Nat.eq_of_beq_eq_true h0
          have hn : news = [] := List.eq_nil_of_length_eq_zero (by rw [h4, h0, Nat.zero_mul])
          have := run_append_fits (P := P) (p := none) (n := 0) (cap := 0) hT hX hdx ty h5 (h6 w rfl) (by omega)
          refine ⟨_, _, _, g, w, h, this, ?_, hs, Ev.refl g w⟩
          rw [h0]; rfl
        · rename_i h0
          have h0 : rows.length ≠ 0 := by intro e; rw [e] at h0; cases h0
          split at h
          · rename_i j
            split at h
            · rename_i v hv
              rw [catC, opq_eq, List.take_nil, List.nil_append] at h
              have hrun := run_append_grows (P := P) (p := none) (n := 0) (cap := 0) (olds := []) hT hX hdx ty h5 (fun w' _ => by simp [Builtin.firstCells]) h6 (by omega) (by simpa using hc)
              rw [List.nil_append, Nat.zero_add] at hrun
              have hge := grownCap_ge w rows.length 0 e
              have hlen : rows.flatten.length = news.length := RelAll.length _ _ h1
              obtain ⟨g', k1, k2, k3, _⟩ := reg_moved hs (Push.drew w (.cells (news ++ (Builtin.zeroCells z.cells (grownCap w rows.length 0 e - rows.length)).toList).toArray e)) hv (cs := rows.flatten)
                (by rw [hlen, List.toList_toArray, List.take_left]; exact h1) (fun u hu => by
                  rw [hlen, List.toList_toArray, List.take_left] at hu
                  exact h3 u hu)
              refine ⟨_, _, _, g', _, h, hrun, k3 _ sz _ hge ?_ hok, k1, k2⟩
              rw [List.size_toArray, List.length_append, hzc, h4, ← Nat.add_mul]
              exact Nat.mul_le_mul_right _ (by omega)
            · cases h
          · cases h
      · cases h
  · exact aappV_run hok hT hX hdx ty hs hS hY h
noncomputable def opAppendR (b : Option Operand) (d : Nat) (dst : Option Tmp) (s x : Operand) (T X e sz bytes : Nat) (z : Value) (hT : ElemOf P T e sz bytes z) (dx : TypeDesc) (hX : P.underlying X = some dx) (hdx : isSeq dx = true) (ty : TypeId) (pos : String) (after : Array Edge) (hok : okE sz e = true := by rfl) : MSim P :=
  MSim.makes (mkOp dst (.call { callee := .builtin .append, args := #[s, x], argTypes := #[T, X] }) ty pos after) rfl ([s, x] ++ rgOps b) (fun ev st k => aappR sz bytes (rgN (b.map ev) d) (ev s) (ev x) st k) (fun ev ev' st k h => by rw [rg_ev h, h s (by simp), h x (by simp)]) fun ev st k fin h g w a he hs => by
    obtain ⟨r, v, st', g', w', h1, h2, h3⟩ := aappR_run (P := P) hok hT hX hdx ty hs (he s (by simp)) (he x (by simp)) h
    refine ⟨r, v, st', g', w', h1, ?_, h3⟩
    rw [callBuiltin]
    simp only [builtin, List.map_toArray, List.map_cons, List.map_nil, Sem.run_bind, h2]
    rfl
/-- A register is given up: what it had never changes any more. -/
theorem reg_freed {g : Gh} {st : St} {w : World} (hs : StRel g st w) {j v : Nat} {cs : List AV} (hcs : st.objs[j]? = some (.vec v cs)) :
    ∃ g' b C E, StRel g' ⟨st.objs.set j (.nov (v + 1)), st.tk⟩ w ∧ Ev g w g' w ∧ g'.kind b = .solid ∧ w.heap[b]? = some (.cells C E (0, 0)) ∧ RelAll g w cs (C.toList.take cs.length) ∧ (∀ u ∈ C.toList.take cs.length, u.oneCell' = true) ∧ g.kind b = .vec j ∧ b < w.heap.size := by
  have hjl : j < g.objs.length := by rw [hs.len]; exact getElem?_lt hcs
  obtain ⟨hver, b, hb, hkb, C, E, hC, hr, hrc⟩ := vec_of hs hjl hcs
  have huniq := (hs.vec b j hb hkb).2
  let g' : Gh := ⟨fun x => if x = b then .solid else g.kind x, g.objs, g.tk, fun x => if x = j then v + 1 else g.ver x⟩
  have hk : ∀ x, g.kind x ≠ .vec j → g'.kind x = g.kind x := fun x hx => by simp only [g']; rw [if_neg (fun e => hx (by rw [e]; exact hkb))]
  have hback : ∀ x y, x < w.heap.size → g'.kind x = y → y ≠ .solid → g.kind x = y ∧ y ≠ .vec j := by
    intro x y hs' hx hy
    simp only [g'] at hx
    split at hx
    · exact absurd hx.symm hy
    · rename_i h; exact ⟨hx, fun e => h (huniq x hs' (hx.trans e))⟩
  have hE : Ev g w g' w := by
    refine ⟨rfl, rfl, rfl, Nat.le_refl _, fun x hx hf => ⟨?_, rfl⟩, fun x t hx hf => ⟨?_, fun C E fz h => ⟨C, h, rfl, fun _ _ => rfl⟩⟩, fun x k hx hf => .inl ?_, fun _ _ h => h, tk_refl _, fun k hk => ?_, fun x k hx hkl hf hv => ⟨?_, fun C E fz h => ⟨C, h, rfl⟩⟩, fun _ C _ fz h => ⟨C, fz, h, rfl⟩⟩
    · exact hk x (by intro e; rw [e] at hf; cases hf)
    · exact (hk x (by intro e; rw [e] at hf; cases hf)).trans hf
    · exact (hk x (by intro e; rw [e] at hf; cases hf)).trans hf
    · simp only [g']
      split
      · rename_i e; subst e; omega
      · exact Nat.le_refl _
    · refine (hk x ?_).trans hf
      intro e
      rw [e] at hf
      cases hf
      simp only [g', if_true] at hv
      omega
  refine ⟨g', b, C, E, ⟨hs.tk, by simp [g', hs.len], fun k b' o hk' ho => ?_, fun x k hx hf => ?_, fun x t hx hf => ?_, fun x k hx hf => ?_, hs.glob.mono hE⟩, hE, by simp [g', hkb], hC, hr, hrc, hkb, hb⟩
  · by_cases hkj : k = j
    · subst hkj
      rw [List.getElem?_set_self (getElem?_lt hcs)] at ho
      cases ho
      exact ⟨(hs.obj k b' _ hk' hcs).1, by show (if k = k then v + 1 else _) = _; rw [if_pos rfl]⟩
    · rw [List.getElem?_set_ne (fun e => hkj e.symm)] at ho
      obtain ⟨p1, p2⟩ := hs.obj k b' o hk' ho
      refine ⟨p1, ?_⟩
      have hver' : g'.ver k = g.ver k := by show (if k = j then v + 1 else _) = _; rw [if_neg hkj]
      have hv : ∀ b'', b'' < w.heap.size → g.kind b'' = .vec k → w.heap[b'']? = w.heap[b'']? ∧ g'.kind b'' = .vec k := fun b'' _ hh =>
        ⟨rfl, (hk b'' (by rw [hh]; intro e; cases e; exact hkj rfl)).trans hh⟩
      cases o with
      | gone => trivial
      | nov v => exact hver'.trans p2
      | cells cs' => exact p2.keep hE rfl (hk b' (by rw [p2.1]; intro e; cases e)) hv hver'
      | map es => exact p2.keep hE rfl (hk b' (by rw [p2.1]; intro e; cases e)) hv hver'
      | vec v cs' =>
        obtain ⟨e1, b'', e2, e3, C1, E1, e4, e5, e6⟩ := p2
        obtain ⟨_, f2⟩ := hv b'' e2 e3
        exact ⟨hver'.trans e1, b'', e2, f2, C1, E1, e4, RelAll.mono hE _ _ e5, e6⟩
  · obtain ⟨k1, _⟩ := hback x _ hx hf (by intro e; cases e)
    obtain ⟨o, k3, k4, k5⟩ := hs.back x k hx k1
    have hkj : k ≠ j := by intro e; subst e; rw [hcs] at k3; cases k3; exact k5.elim
    exact ⟨o, by rw [List.getElem?_set_ne (fun e => hkj e.symm)]; exact k3, k4, k5⟩
  · obtain ⟨k1, _⟩ := hback x _ hx hf (by intro e; cases e)
    exact hs.rowlt x t hx k1
  · obtain ⟨k1, k2⟩ := hback x _ hx hf (by intro e; cases e)
    obtain ⟨⟨v', cs', k3⟩, k4⟩ := hs.vec x k hx k1
    have hkj : k ≠ j := by intro e; subst e; exact k2 rfl
    refine ⟨⟨v', cs', by rw [List.getElem?_set_ne (fun e => hkj e.symm)]; exact k3⟩, fun x' hx' hf' => ?_⟩
    obtain ⟨k5, _⟩ := hback x' _ hx' hf' (by intro e; cases e)
    exact k4 x' hx' k5

/-- A slice in a register, from now on one that never changes. -/
noncomputable def afree (x : AV) (st : St) (k : AV → St → Ans) : Ans :=
  match x with
  | .vs j v sz n => match st.objs[j]? with
    | some (.vec v' cs) => match Nat.beq v v' && inC cs 0 (mulN n sz) with
      | true => k (.ns false sz (rowsC sz n cs 0)) ⟨st.objs.set j (.nov (v' + 1)), st.tk⟩
      | false => none
    | _ => none
  | .ms j sz o n cap => match st.objs[j]? with
    | some (.cells cs) => match inC cs o (mulN n sz) with
      | true => k (.ns false sz (rowsC sz n cs o)) ⟨st.objs.set j .gone, st.tk⟩
      | false => none
    | _ => none
  | _ => none
theorem afree_rel {g : Gh} {st : St} {w : World} (hs : StRel g st w) {x : AV} {v : Value} (hv : Rel g w x v) {k : AV → St → Ans} {fin : Fin × St} (h : afree x st k = some fin) : ∃ r st' g', k r st' = some fin ∧ Rel g' w r v ∧ StRel g' st' w ∧ Ev g w g' w := by
  unfold afree at h
  split at h
  · rename_i j ve sz n
    split at h
    · rename_i v' cs hcs
      split at h
      · rename_i hc
        rw [Bool.and_eq_true] at hc
        obtain rfl := Nat.eq_of_beq_eq_true hc.1
        have hin := hc.2
        have hrows := rowsC_some hin
        rw [List.drop_zero] at hrows
        obtain ⟨b, c, rfl, hle, hj, _, hb⟩ := hv
        obtain ⟨g', b', C, E, k1, k2, k3, k4, k5, k6, k7, k8⟩ := reg_freed hs hcs
        obtain ⟨hk, C', E', fz', hC', _⟩ := hb (by have := (vec_of hs hj hcs).1; omega)
        obtain rfl := (hs.vec b' j k8 k7).2 b (lt_of_block hC') hk
        obtain ⟨e1, e2, e3⟩ := rowsOf_list sz n _ _ hrows
        refine ⟨_, _, g', h, .inr ⟨rfl, b, 0, none, c, by rw [e1], by rw [e1]; exact hle, .inl rfl, ?_⟩, k1, k2⟩
        refine RelRows.of sz _ ((C.toList.take cs.length).take (n * sz)) b 0 e2 (by rw [e3]; exact RelAll.mono k2 _ _ (RelAll.take _ _ _ k5)) fun i u hi => ?_
        rw [List.getElem?_take] at hi
        split at hi
        · refine ⟨?_, by simp [Gh.prot, k3], k6 u (List.mem_of_getElem? hi)⟩
          rw [cell_of k4, Nat.zero_add]
          rw [List.getElem?_take] at hi
          split at hi
          · simpa using hi
          · cases hi
        · cases hi
      · cases h
    · cases h
  · rename_i j sz o n cap
    split at h
    · rename_i cs hcs
      split at h
      · rename_i hc
        obtain ⟨b, hg, rfl, hle⟩ := hv
        obtain ⟨_, C, E, hC, _⟩ := ob_of hs hg hcs
        obtain ⟨g', k1, k2, k3⟩ := frozen_obj (w' := w) hs hg hcs hC rfl rfl rfl rfl (fun _ _ => rfl) hC
        obtain ⟨b', o', sp, cap', q1, q2, _, q3, q4⟩ := k3 sz o n cap _ hle (rowsC_some hc)
        exact ⟨_, _, g', h, .inr ⟨rfl, b', o', sp, cap', q1, q2, q3, q4⟩, k1, k2⟩
      · cases h
    · cases h
  · cases h
/-- Copy into a register. -/
noncomputable def acopyV (sz : Nat) (d s : AV) (st : St) (k : AV → St → Ans) : Ans :=
  match d with
  | .vs j v s' n => match Nat.beq s' sz with
    | true => match rowsT sz s st with
      | some rows => match st.objs[j]? with
        | some (.vec v' cs) => match Nat.beq v v' && inC cs 0 (mulN (minN rows.length n) sz) with
          | true => k (.int .i64 (minN rows.length n : Nat)) ⟨st.objs.set j (.vec v (setC cs 0 (flC rows (minN rows.length n)))), st.tk⟩
          | false => none
        | _ => none
      | none => none
    | false => none
  | d => acopy sz d s st k
noncomputable def opCopyV (dst : Option Tmp) (d s : Operand) (T X e sz : Nat) (hT : P.underlying T = some (.slice e)) (hz : (P.info? e).map (·.size) = some sz) (ty : TypeId) (pos : String) (after : Array Edge) : MSim P :=
  ⟨mkOp dst (.call { callee := .builtin .copy, args := #[d, s], argTypes := #[T, X] }) ty pos after, rfl, [d, s], fun ev st k => acopyV sz (ev d) (ev s) st k, fun ev ev' st k h => by simp only [h d (by simp), h s (by simp)], fun ev st k fin h g w a he hs => by
    have hv := he d (by simp)
    have hx := he s (by simp)
    unfold acopyV at h
    split at h
    · rename_i j v s' n hd
      split at h
      · rename_i hsz
        obtain rfl : s' = sz := by simpa using hsz
        rw [hd] at hv
        split at h
        · rename_i rows hrows
          split at h
          · rename_i v' cs hcs
            split at h
            · rename_i hin
              rw [Bool.and_eq_true] at hin
              obtain rfl := Nat.eq_of_beq_eq_true hin.1
              have hin := hin.2
              rw [inC_iff, mulN, opq_eq, minN, opq_eq, Nat.zero_add] at hin
              rw [minN, opq_eq, setC, opq_eq, flC, opq_eq] at h
              obtain ⟨vs, k1, k2, k3, k4, k5⟩ := rowsA_first (P := P) hs hx (rowsT_rowsA hrows) (min rows.length n) (by omega)
              have hl := RelAll.length _ _ k1
              obtain ⟨b, cap, hv, hle, hj, hve, hb⟩ := hv
              have hp : Rel g w (.vp j v 0) (.pointer (some ⟨b, 0, none⟩)) := ⟨b, rfl, hj, hve, fun e => by
                obtain ⟨q1, C, E, fz, q2, _⟩ := hb e
                exact ⟨q1, lt_of_block q2⟩⟩
              obtain ⟨b', g', w', s0, s1, s2, s3⟩ := store_vec (P := P) hs hp hcs k1 k2 (by rw [hl, k3, Nat.zero_add]; exact hin)
              cases s0
              refine ⟨_, _, h, told_value (g' := g') (w' := w') (v := .int .i64 (min rows.length n : Nat)) ?_ rfl s2 s3⟩
              rw [callBuiltin]
              have hrun : (Builtin.copy_ #[T, X] ty #[a.eval d, a.eval s]).run P w = .ok (.int .i64 (min rows.length n : Nat)) w' := by
                unfold Builtin.copy_
                simp only [List.getElem?_toArray, List.getElem?_cons_zero, List.getElem?_cons_succ, Sem.run_bind, run_underlying hT w, Result.andThen_ok, hv, k4, run_sizeOf' hz w]
                rw [show Nat.min rows.length n = min rows.length n from rfl, k5]
                simp only [Result.andThen_ok, s1, Sem.run_pure, goInt]
              simp [builtin, hrun]
            · cases h
          · cases h
        · cases h
      · cases h
    · exact (opCopy dst d s T X e sz hT hz ty pos after).sound ev st k fin h g w a he hs⟩
end
end Go.V

/- Arrays; variables that are written once; objects kept ready. -/
set_option linter.unusedVariables false
set_option linter.unusedSimpArgs false
namespace Go.V
section
variable {P : Program}

/-! ### Objects kept ready -/
theorem more_nov {g : Gh} {st : St} {w : World} (hs : StRel g st w) {b0 : Nat} (hb0 : b0 < w.heap.size) (m : Nat) : ∃ g', StRel g' ⟨st.objs ++ List.replicate m (.nov 0), st.tk⟩ w ∧ Ev g w g' w := by
  let g' : Gh := ⟨g.kind, g.objs ++ List.replicate m b0, g.tk, fun x => if x < g.objs.length then g.ver x else 0⟩
  have hE : Ev g w g' w := by
    refine ⟨rfl, rfl, rfl, Nat.le_refl _, fun _ _ _ => ⟨rfl, rfl⟩, fun _ _ _ h => ⟨h, fun C _ _ hb => ⟨C, hb, rfl, fun _ _ => rfl⟩⟩, fun _ _ _ h => .inl h, fun k b hk => ?_, tk_refl _, fun k hk => ?_, fun _ _ _ _ h _ => ⟨h, fun C _ _ hb => ⟨C, hb, rfl⟩⟩, fun _ C _ fz h => ⟨C, fz, h, rfl⟩⟩
    · show (g.objs ++ _)[k]? = _
      rw [List.getElem?_append_left (getElem?_lt hk)]; exact hk
    · show g.ver k ≤ if k < g.objs.length then g.ver k else 0
      rw [if_pos hk]; exact Nat.le_refl _
  refine ⟨g', ⟨hs.tk, by simp [g', hs.len], fun k b o hk ho => ?_, fun b k hb hk => ?_, fun b t hb hk => hs.rowlt b t hb hk, fun b k hb hk => ?_, hs.glob.mono hE⟩, hE⟩
  · by_cases hkl : k < st.objs.length
    · rw [List.getElem?_append_left hkl] at ho
      have hk : (g.objs ++ List.replicate m b0)[k]? = some b := hk
      rw [List.getElem?_append_left (by rw [hs.len]; exact hkl)] at hk
      obtain ⟨p1, p2⟩ := hs.obj k b o hk ho
      refine ⟨p1, ?_⟩
      have hver : g'.ver k = g.ver k := by show (if k < g.objs.length then _ else _) = _; rw [if_pos (by rw [hs.len]; exact hkl)]
      cases o with
      | gone => trivial
      | nov v => exact hver.trans p2
      | cells cs' => exact p2.keep hE rfl rfl (fun b' hb' hh => ⟨rfl, hh⟩) hver
      | map es => exact p2.keep hE rfl rfl (fun b' hb' hh => ⟨rfl, hh⟩) hver
      | vec v cs' =>
        obtain ⟨e1, b'', e2, e3, C1, E1, e4, e5, e6⟩ := p2
        exact ⟨hver.trans e1, b'', e2, e3, C1, E1, e4, RelAll.mono hE _ _ e5, e6⟩
    · rw [List.getElem?_append_right (by omega)] at ho
      have hk : (g.objs ++ List.replicate m b0)[k]? = some b := hk
      rw [List.getElem?_append_right (by rw [hs.len]; omega)] at hk
      rw [List.getElem?_replicate] at ho hk
      split at ho
      · cases ho
        split at hk
        · cases hk
          refine ⟨hb0, ?_⟩
          show (if k < g.objs.length then _ else _) = _
          rw [if_neg (by rw [hs.len]; exact hkl)]
        · cases hk
      · cases ho
  · obtain ⟨o, h1, h2, h3⟩ := hs.back b k hb hk
    refine ⟨o, by rw [List.getElem?_append_left (getElem?_lt h1)]; exact h1, ?_, h3⟩
    show (g.objs ++ _)[k]? = _
    rw [List.getElem?_append_left (getElem?_lt h2)]; exact h2
  · obtain ⟨⟨v, cs, h1⟩, h2⟩ := hs.vec b k hb hk
    exact ⟨⟨v, cs, by rw [List.getElem?_append_left (getElem?_lt h1)]; exact h1⟩, h2⟩

/-- The same, and objects kept ready behind it. -/
def aph (m : Nat) (st : St) (k : St → Ans) : Ans :=
  match st.objs with
  | [] => none
  | _ :: _ => k ⟨st.objs ++ List.replicate m (.nov 0), st.tk⟩
def MSim.ph (x : MSim P) (m : Nat) : MSim P where
  oper := x.oper
  plain := x.plain
  xs := x.xs
  f ev st k := x.f ev st fun r st' => aph m st' fun st'' => k r st''
  congr ev ev' st k h := x.congr ev ev' st _ h
  sound ev st k fin h g w a he hs := by
    obtain ⟨r, st', h1, h2⟩ := x.sound ev st _ fin h g w a he hs
    unfold aph at h1
    split at h1
    · cases h1
    · rename_i o os ho
      refine ⟨r, _, h1, fun next Q hn => h2 next Q fun v g' w' k1 k2 k3 => ?_⟩
      have hl : 0 < g'.objs.length := by rw [k2.len, ho]; simp
      have hb := (k2.obj 0 _ o (List.getElem?_eq_getElem hl) (by rw [ho]; rfl)).1
      obtain ⟨g'', q1, q2⟩ := more_nov k2 hb m
      exact hn v g'' w' (Rel.mono q2 _ _ k1) q1 (k3.trans q2)

/-! ### Variables that are written once -/
/-- Two operations in one. -/
structure OpSim2 (P : Program) where
  o1 : Oper
  o2 : Oper
  plain1 : o1.guard = none
  plain2 : o2.guard = none
  run : Cont → Env → St → Ans
  sound : ∀ K env st fin, run K env st = some fin → ∀ g w a, EnvRel g w env a → StRel g st w → ∀ next Q, Post K fin g w a.defers (Exit.then next Q) →
    ∀ N : Act → World → Prop, (∀ a w, o2.wp P a w next Q → N a w) → o1.wp P a w N Q

/-- Three operations in one. -/
structure OpSim3 (P : Program) where
  o1 : Oper
  o2 : Oper
  o3 : Oper
  plain1 : o1.guard = none
  plain2 : o2.guard = none
  plain3 : o3.guard = none
  run : Cont → Env → St → Ans
  sound : ∀ K env st fin, run K env st = some fin → ∀ g w a, EnvRel g w env a → StRel g st w → ∀ next Q, Post K fin g w a.defers (Exit.then next Q) →
    ∀ N M : Act → World → Prop, (∀ a w, o3.wp P a w next Q → M a w) → (∀ a w, o2.wp P a w M Q → N a w) → o1.wp P a w N Q

inductive Item (P : Program) where
  | one (o : OpSim P)
  | two (o : OpSim2 P)
  | three (o : OpSim3 P)
def Item.opers : Item P → List Oper
  | .one o => [o.oper]
  | .two o => [o.o1, o.o2]
  | .three o => [o.o1, o.o2, o.o3]
def runItems : List (Item P) → Cont → Env → St → Ans
  | [], K, env, st => K .normal env st
  | .one o :: r, K, env, st => o.run (Cont.then (runItems r K) K) env st
  | .two o :: r, K, env, st => o.run (Cont.then (runItems r K) K) env st
  | .three o :: r, K, env, st => o.run (Cont.then (runItems r K) K) env st

theorem wanted_plain {o : Oper} (h : o.guard = none) (f : Nat → Option Bool) : Region.wanted o f = true := by simp [Region.wanted, h]
theorem wpList_cons {ops : Array Oper} {Q : Exit → Act → World → Prop} {o : Oper} (h : o.guard = none) {r : List Oper} {a : Act} {w : World} (hw : o.wp P a w (wpList P ops Q r) Q) : wpList P ops Q (o :: r) a w := by
  unfold wpList
  rw [if_pos (wanted_plain h _)]
  exact .inl hw
theorem runItems_sound (ops : Array Oper) : ∀ (l : List (Item P)) (K : Cont) (env : Env) (st : St) (fin : Fin × St), runItems l K env st = some fin → ∀ g w a, EnvRel g w env a → StRel g st w → ∀ Q, Post K fin g w a.defers Q →
    wpList P ops Q (l.flatMap Item.opers) a w
  | [], K, env, st, fin, h, g, w, a, he, hs, Q, hp => hp .normal env st g w a .normal h he hs (Ev.refl g w) rfl rfl
  | x :: l, K, env, st, fin, h, g, w, a, he, hs, Q, hp => by
    have ih := runItems_sound ops l K
    have step : Post (Cont.then (runItems l K) K) fin g w a.defers (Exit.then (wpList P ops Q (l.flatMap Item.opers)) Q) := by
      intro ex env' st' g' w' a' e k1 k2 k3 k4 k5 k6
      cases ex with
      | normal =>
        obtain rfl := k6
        exact ih env' st' fin k1 g' w' a' k2 k3 Q (k5 ▸ hp.later k4)
      | exit id => obtain rfl := k6; exact hp _ _ _ _ _ _ _ k1 k2 k3 k4 k5 rfl
      | goto id => obtain rfl := k6; exact hp _ _ _ _ _ _ _ k1 k2 k3 k4 k5 rfl
      | ret => obtain rfl := k6; exact hp _ _ _ _ _ _ _ k1 k2 k3 k4 k5 rfl
      | panic v => obtain ⟨u, rfl, k7⟩ := k6; exact hp _ _ _ _ _ _ _ k1 k2 k3 k4 k5 ⟨u, rfl, k7⟩
    cases x with
    | one o => exact wpList_cons o.plain (o.sound _ env st fin h g w a he hs _ _ step)
    | two o => exact wpList_cons o.plain1 (o.sound _ env st fin h g w a he hs _ _ step _ fun a w hw => wpList_cons o.plain2 hw)
    | three o => exact wpList_cons o.plain1 (o.sound _ env st fin h g w a he hs _ _ step _ _ (fun a w hw => wpList_cons o.plain3 hw) fun a w hw => wpList_cons o.plain2 hw)

/-- A region in the text's order, of such. -/
def Sim.items (id : Nat) (l : List (Item P)) : Sim P where
  code := .region id (l.flatMap Item.opers).toArray false
  run F K env st := runItems l K env st
  sound F K env st fin hr g w a he hs Q hp := by
    refine wp_region_list ?_
    have := runItems_sound (l.flatMap Item.opers).toArray l K env st fin hr g w a he hs Q hp
    simpa using this

theorem setV_all : ∀ (L vs : List Value), vs.length = L.length → setV L 0 vs = vs
  | [], [], _ => rfl
  | l :: L, v :: vs, h => by
    have ih := setV_all L vs (by simpa using h)
    simp [setV, ih]
theorem alloc_setRow (w : World) (C D : Array Value) (E : TypeId) : (w.alloc (.cells C E)).setRow w.heap.size D = w.alloc (.cells D E) := by
  unfold World.setRow World.alloc
  congr 1
  apply Array.ext'
  apply List.ext_getElem?
  intro i
  rw [Array.getElem?_toList, Array.getElem?_toList, Array.getElem?_modify, Array.getElem?_push, Array.getElem?_push]
  by_cases h : i = w.heap.size
  · subst h; simp
  · rw [if_neg (fun e => h e.symm), if_neg h, if_neg h]

/-- Does an operand read another slot? -/
def apartT (x : Operand) (t : Tmp) : Bool :=
  match x with
  | .tmp s => !Nat.beq s t
  | .global _ => false
  | _ => true
theorem eval_put {a : Act} {x : Operand} {t : Tmp} {v : Value} (h : apartT x t = true) : (a.put (some t) v).eval x = a.eval x := by
  cases x with
  | tmp s =>
    have hne : t ≠ s := by
      intro e
      subst e
      simp [apartT] at h
    show ((a.tmps.setIfInBounds t v).getD s undef) = a.tmps.getD s undef
    simp only [Array.getD_eq_getD_getElem?, Array.getElem?_setIfInBounds, if_neg hne]
  | const v => rfl
  | func f => rfl
  | global g => cases h

/-- A variable that is written at once and never again. -/
def op2Box (dst : Tmp) (T : TypeId) (z : Value) (hz : (P.info? T).bind (·.zero) = some z) (x : Operand) (hx : apartT x dst = true) (sz : Nat) (hsz : (P.info? T).map (·.size) = some sz) (hzs : Nat.beq z.cells.size sz = true) (n : Nat) (hn : Nat.blt dst n = true) (ty ty' : TypeId) (pos pos' : String) (after after' : Array Edge) : OpSim2 P where
  o1 := mkOp (some dst) (.alloc T) ty pos after
  o2 := mkOp none (.store T (.tmp dst) x) ty' pos' after'
  plain1 := rfl
  plain2 := rfl
  run K env st := match Nat.beq env.n n with
    | true => match cellsA (env.eval x) with
      | some cs => match Nat.beq cs.length sz with
        | true => K .normal (env.put dst (.eptr cs)) st
        | false => none
      | none => none
    | false => none
  sound K env st fin h g w a he hs next Q hp N hN := by
    split at h
    · rename_i hen
      have hen := Nat.eq_of_beq_eq_true hen
      split at h
      · rename_i cs hcs
        split at h
        · rename_i hlen
          have hlen := Nat.eq_of_beq_eq_true hlen
          have hzs := Nat.eq_of_beq_eq_true hzs
          obtain ⟨h1, h1c⟩ := cellsA_rel hcs (he.eval x)
          have hl := RelAll.length _ _ h1
          have hlt : dst < a.tmps.size := by rw [he.size, hen]; simpa using hn
          have r1 : (execOp a.eval (mkOp (some dst) (.alloc T) ty pos after)).run P w = .ok (.value (.pointer (some ⟨w.heap.size, 0, none⟩))) (w.alloc (.cells z.cells T)) := by
            simp [execOp, mkOp, Instr.alloc, newVar, run_newRow, run_zeroValue' hz] <;> rfl
          have hp0 := Push.alloc w (.cells (a.eval x).cells T)
          have hE : Ev g w ⟨g.use w.heap.size .solid, g.objs, g.tk, g.ver⟩ (w.alloc (.cells (a.eval x).cells T)) := by simpa using Ev.push hp0 .solid [] g.tk (tk_refl _)
          have hs' := hs.push hp0 .solid g.tk (tk_refl _) trivial
          have hrel : Rel ⟨g.use w.heap.size .solid, g.objs, g.tk, g.ver⟩ (w.alloc (.cells (a.eval x).cells T)) (.eptr cs) (.pointer (some ⟨w.heap.size, 0, none⟩)) :=
            ⟨_, _, rfl, RelCells.of cs _ _ _ (RelAll.mono hE _ _ h1) fun j v hj => ⟨(solid_cells (g := g) hp0 g.tk (tk_refl _) g.objs j v hj).1, (solid_cells (g := g) hp0 g.tk (tk_refl _) g.objs j v hj).2, h1c v (List.mem_of_getElem? hj)⟩⟩
          have e1 : (a.put (some dst) (.pointer (some ⟨w.heap.size, 0, none⟩))).eval (.tmp dst) = .pointer (some ⟨w.heap.size, 0, none⟩) := by
            show (a.tmps.setIfInBounds dst _).getD dst undef = _
            simp only [Array.getD_eq_getD_getElem?, Array.getElem?_setIfInBounds, if_true, if_pos hlt, Option.getD_some]
          have e2 := eval_put (a := a) (v := .pointer (some ⟨w.heap.size, 0, none⟩)) hx
          have hC : (w.alloc (.cells z.cells T)).heap[w.heap.size]? = some (.cells z.cells T (0, 0)) := (Push.alloc w _).new
          have hcsz : (a.eval x).cells.toList.length = z.cells.toList.length := by rw [← hl, hlen, ← hzs]; simp
          have r2 := run_storeCells_gen (P := P) w.heap.size 0 T (0, 0) (a.eval x).cells.toList 0 z.cells (w.alloc (.cells z.cells T)) hC (by rw [hcsz]; simp) (fun j _ _ => by simp) h1c
          rw [Nat.add_zero, setV_all _ _ hcsz, Array.toArray_toList, alloc_setRow] at r2
          have r3 : (execOp (a.put (some dst) (.pointer (some ⟨w.heap.size, 0, none⟩))).eval (mkOp none (.store T (.tmp dst) x) ty' pos' after')).run P (w.alloc (.cells z.cells T)) = .ok .skip (w.alloc (.cells (a.eval x).cells T)) := by
            have hsize : (a.eval x).cells.size = sz := by rw [← hlen]; simpa using hl.symm
            simp [execOp, mkOp, Instr.storeAt, e1, e2, Instr.sureAddr, storeVar, run_sizeOf' hsz, hsize, r2]
          show Oper.upon P _ a N Q ((execOp a.eval _).run P w)
          rw [r1, Oper.upon_value]
          refine hN _ _ ?_
          show Oper.upon P _ _ next Q ((execOp _ _).run P _)
          rw [show (mkOp (some dst) (Op.alloc T) ty pos after).dst = some dst from rfl, r3, Oper.upon_skip]
          have hstr : StRel ⟨g.use w.heap.size .solid, g.objs, g.tk, g.ver⟩ st (w.alloc (.cells (a.eval x).cells T)) := by rw [hs.tk] at hs' ⊢; exact hs'
          exact hp .normal _ st _ _ _ .normal h ((he.mono hE).put dst hrel) hstr hE (put_defers ..) rfl
        · cases h
      · cases h
    · cases h
end
end Go.V

/- Arrays. -/
set_option linter.unusedVariables false
set_option linter.unusedSimpArgs false
namespace Go.V
section
variable {P : Program}

theorem RelRows.cells {g : Gh} {w : World} {sz : Nat} : ∀ {l : List (List AV)} {b o : Nat}, RelRows g w sz l b o → RelCells g w l.flatten b o := by
  intro l b o h
  obtain ⟨vs, h1, _, h3⟩ := RelRows.values sz l b o h
  exact RelCells.of _ vs b o h1 h3

/-- A slice as a pointer to an array of n elements. -/
noncomputable def aarrP (n sz : Nat) (x : AV) (k : AV → Ans) : Ans :=
  match x with
  | .ns _ s l => match Nat.beq s sz && Nat.ble n l.length with
    | true => k (.eptr (flC l n))
    | false => none
  | .sl s _ l => match Nat.beq s sz && Nat.ble n l.length with
    | true => k (.eptr (flC l n))
    | false => none
  | .ms j s o m _ => match Nat.beq s sz && Nat.ble n m with
    | true => k (.ptr j o)
    | false => none
  | .vs j v s m => match Nat.beq s sz && Nat.ble n m with
    | true => k (.vp j v 0)
    | false => none
  | _ => none
/-- A whole array is loaded. -/
noncomputable def aloadA (sz : Nat) (p : AV) (st : St) (k : AV → Ans) : Ans :=
  match p with
  | .eptr cs => match inC cs 0 sz with
    | true => k (.agg (subC cs 0 sz))
    | false => none
  | .ptr j o => match st.objs[j]? with
    | some (.cells cs) => match inC cs o sz with
      | true => k (.agg (subC cs o sz))
      | false => none
    | _ => none
  | .vp j v o => match st.objs[j]? with
    | some (.vec v' cs) => match Nat.beq v v' && inC cs o sz with
      | true => k (.agg (subC cs o sz))
      | false => none
    | _ => none
  | _ => none
/-- An array's variable. -/
noncomputable def zAr (n : Nat) (x : AV) : List AV := opq (List.replicate n x)
noncomputable def opAllocZ (n : Nat) (x : AV) (dst : Option Tmp) (T : TypeId) (z : Value) (hz : (P.info? T).bind (·.zero) = some z) (hx : cellsA (ofLit z) = some (List.replicate n x)) (ty : TypeId) (pos : String) (after : Array Edge) : MSim P :=
  (opAlloc dst T z hz ty pos after).by' (fun ev st k => k (.ptr st.objs.length 0) ⟨st.objs ++ [.cells (zAr n x)], st.tk⟩) (fun _ _ _ _ _ => rfl) fun ev st k fin h => by
    show (match cellsA (ofLit z) with | some cs => k (.ptr st.objs.length 0) ⟨st.objs ++ [.cells cs], st.tk⟩ | none => none) = some fin
    rw [hx]
    rw [zAr, opq_eq] at h
    exact h

/-! ### Structs out of parts that aren't looked at -/
/-! ### Pieces of arrays -/
noncomputable def aslB (n sz : Nat) (x : AV) (lo hi mx : Option AV) (st : St) (k : AV → Ans) : Ans :=
  match x with
  | .ptr b o => abounds n lo hi mx fun i j m => if i < m.getD n then k (.ms b sz (o + i * sz) (j - i) (m.getD n - i)) else k (.sl sz true [])
  | .eptr cs => abounds n lo hi mx fun i j m => match inC cs (i * sz) (mulN (j - i) sz) with
    | true => k (.ns false sz (rowsC sz (j - i) cs (i * sz)))
    | false => none
  | .vp q v o => match Nat.beq o 0 with
    | true => match st.objs[q]? with
      | some (.vec v' cs) => match Nat.beq v v' && inC cs 0 (mulN n sz) with
        | true => abounds n lo hi mx fun i j m => match Nat.beq i 0 && m.isNone with
          | true => match okAll sz with
            | true => k (.vs q v sz j)
            | false => none
          | false => none
        | false => none
      | _ => none
    | false => none
  | _ => none
noncomputable def opSliceB (dst : Option Tmp) (T : TypeId) (x : Operand) (lo hi mx : Option Operand) (n e sz : Nat) (hT : P.underlying T = some (.array n e)) (hn : n ≠ 0) (hz : (P.info? e).map (·.size) = some sz) (ty : TypeId) (pos : String) (after : Array Edge) : QSim P :=
  QSim.quiet (mkOp dst (.slice T x lo hi mx) ty pos after) rfl (sliceOps x lo hi mx) (fun ev st k => aslB n sz (ev x) (lo.map ev) (hi.map ev) (mx.map ev) st k)
    (fun ev ev' st k h => by simp only [h x sliceOps_x, map_evO h (o := lo) sliceOps_lo, map_evO h (o := hi) sliceOps_hi, map_evO h (o := mx) sliceOps_mx]) fun ev st k fin h g w a he hs => by
    have hv := he x sliceOps_x
    have key : ∀ b o i j m, a.eval x = .pointer (some ⟨b, o, none⟩) → (Instr.sliceBounds false n n (lo.map a.eval) (hi.map a.eval) (mx.map a.eval)).run P w = .ok (i, j, m) w →
        (execOp a.eval (mkOp dst (.slice T x lo hi mx) ty pos after)).run P w = .ok (.value (.slice (some (if m = i then ⟨b, o, none⟩ else ⟨b, o + i * sz, none⟩)) (j - i) (m - i))) w := by
      intro b o i j m h1 h2
      simp [execOp, mkOp, Instr.sliceAt, run_underlying hT, h1, Instr.sureAddr, h2, run_sizeOf' hz, add_none]
    unfold aslB at h
    split at h
    · rename_i b0 o hb
      rw [hb] at hv
      obtain ⟨b, hg, hv⟩ := hv
      obtain ⟨i, j, m, h1, h2, h3, h4, h5⟩ := abounds_run (P := P) he sliceOps_lo sliceOps_hi sliceOps_mx h
      have hr := key b o i j _ hv (h5 false n (Nat.le_refl _))
      split at h1
      · rename_i hi
        have hne : ¬ m.getD n = i := by omega
        rw [if_neg hne] at hr
        exact ⟨_, _, h1, hr, b, hg, rfl, by omega⟩
      · rename_i hi
        have he : m.getD n = i := by omega
        rw [if_pos he] at hr
        refine ⟨_, _, h1, hr, b, o, none, m.getD n - i, ?_, by simp, fun _ => by simp; omega, .inl rfl, trivial⟩
        rw [show j - i = 0 by omega]; rfl
    · rename_i cs hb
      rw [hb] at hv
      obtain ⟨b, o, hv, hc⟩ := hv
      obtain ⟨i, j, m, h1, h2, h3, h4, h5⟩ := abounds_run (P := P) he sliceOps_lo sliceOps_hi sliceOps_mx h
      have hr := key b o i j _ hv (h5 false n (Nat.le_refl _))
      split at h1
      · rename_i hin
        have hrows := rowsC_some hin
        obtain ⟨e1, e2⟩ := rowsOf_rel sz (j - i) _ b (o + i * sz) _ hrows (RelCells.drop (i * sz) cs b o hc)
        refine ⟨_, _, h1, hr, .inr ⟨rfl, ?_⟩⟩
        by_cases hm : m.getD n = i
        · rw [if_pos hm]
          have h0 : rowsC sz (j - i) cs (i * sz) = [] := List.eq_nil_of_length_eq_zero (by rw [e1]; omega)
          rw [h0]
          exact ⟨b, o, none, m.getD n - i, by rw [show j - i = 0 by omega]; rfl, by simp, .inl rfl, trivial⟩
        · rw [if_neg hm]
          exact ⟨b, o + i * sz, none, _, by rw [e1], by rw [e1]; omega, .inl rfl, e2⟩
      · cases h1
    · rename_i q v o hb
      split at h
      · rename_i ho
        obtain rfl := Nat.eq_of_beq_eq_true ho
        rw [hb] at hv
        split at h
        · rename_i v' cs hcs
          split at h
          · rename_i hc
            rw [Bool.and_eq_true, inC_iff, mulN, opq_eq, Nat.zero_add] at hc
            obtain rfl := Nat.eq_of_beq_eq_true hc.1
            obtain ⟨b, hv1, hbl, hkb, C, E, hC, hr0, hrc⟩ := vp_of hs hv hcs
            obtain ⟨_, _, hj, hve, _⟩ := hv
            obtain ⟨i, j, m, h1, h2, h3, h4, h5⟩ := abounds_run (P := P) he sliceOps_lo sliceOps_hi sliceOps_mx h
            have hr := key b 0 i j _ hv1 (h5 false n (Nat.le_refl _))
            split at h1
            · rename_i hi
              split at h1
              case h_2 => cases h1
              rename_i hoka
              simp only [Bool.and_eq_true, Option.isNone_iff_eq_none] at hi
              obtain ⟨hi, rfl⟩ := hi
              obtain rfl := Nat.eq_of_beq_eq_true hi
              simp only [Option.getD_none] at h3 h4 hr
              have hne : ¬ n = 0 := hn
              rw [if_neg hne, Nat.zero_mul] at hr
              have hl := RelAll.length _ _ hr0
              rw [List.length_take] at hl
              have hcs2 : C.toList.length = C.size := Array.length_toList
              exact ⟨_, _, h1, hr, b, n, rfl, by omega, hj, hve, fun _ => ⟨hkb, C, E, (0, 0), hC, okAll_all hoka E, by omega⟩⟩
            · cases h1
          · cases h
        · cases h
      · cases h
    · cases h

/-- make of an empty slice that may grow, in a register. -/
theorem vec_new {g : Gh} {st : St} {w w1 : World} {C : Array Value} {E : TypeId} (hs : StRel g st w) (hp : Push w w1 (.cells C E)) {cs : List AV} (hr : RelAll g w cs (C.toList.take cs.length)) (h1 : ∀ u ∈ C.toList.take cs.length, u.oneCell' = true) :
    ∃ g', StRel g' ⟨st.objs ++ [.vec 0 cs], st.tk⟩ w1 ∧ Ev g w g' w1 ∧ (∀ c sz n, n ≤ c → c * sz ≤ C.size → okE sz E = true → Rel g' w1 (.vs st.objs.length 0 sz n) (.slice (some ⟨w.heap.size, 0, none⟩) n c)) ∧ ∀ off, Rel g' w1 (.vp st.objs.length 0 off) (.pointer (some ⟨w.heap.size, off, none⟩)) := by
  refine vec_moved (gos := g.objs ++ [w.heap.size]) hs hp (fun o ho => ?_) ?_ (fun k b hk => ?_) (fun k b hk => ?_) (by simp [hs.len]) (by simp) (fun k hk => ?_) hr h1
  · rw [List.getElem?_eq_none (Nat.le_refl _)] at ho; cases ho
  · rw [List.getElem?_append_right (by rw [hs.len]; exact Nat.le_refl _)]; simp [hs.len]
  · rw [List.getElem?_append_left (getElem?_lt hk)]; exact hk
  · rcases Nat.lt_or_ge k g.objs.length with hlt | hge
    · rw [List.getElem?_append_left hlt] at hk; exact .inl hk
    · have hlt := getElem?_lt hk
      rw [List.length_append, List.length_singleton] at hlt
      have : k = g.objs.length := by omega
      subst this
      rw [List.getElem?_append_right (Nat.le_refl _)] at hk
      simp at hk
      exact .inr ⟨hs.len, hk.symm⟩
  · rcases Nat.lt_or_ge k st.objs.length with hlt | hge
    · rw [List.getElem?_append_left hlt]
    · rw [List.getElem?_eq_none (by simp; omega), List.getElem?_eq_none hge]
end
end Go.V

/- Data kept in objects that lie together: told by the objects, wherever these lie. -/
set_option linter.unusedVariables false
set_option linter.unusedSimpArgs false
namespace Go.V
section
variable {P : Program}

mutual
theorem ren_ren (σ ρ τ : Nat → Nat) (h : ∀ k, σ (ρ k) = τ k) : ∀ a : AV, ren σ (ren ρ a) = ren τ a
  | .bool _ => rfl
  | .int _ _ => rfl
  | .str _ => rfl
  | .nilptr => rfl
  | .nilsl => rfl
  | .nilmap => rfl
  | .nilfn => rfl
  | .nilif => rfl
  | .ptr k off => by simp only [ren, h]
  | .tp k E m' => by simp only [ren, h]
  | .eptr cs => rfl
  | .sl _ _ _ => rfl
  | .lg _ _ _ => rfl
  | .ms k sz off n cap => by simp only [ren, h]
  | .mp k => by simp only [ren, h]
  | .fn f a c => by simp only [ren, renL_renL σ ρ τ h a, renL_renL σ ρ τ h c]
  | .ifc t v => by simp only [ren, ren_ren σ ρ τ h v]
  | .agg cs => by simp only [ren, renL_renL σ ρ τ h cs]
  | .tup cs => by simp only [ren, renL_renL σ ρ τ h cs]
  | .dead => rfl
  | .ns _ _ _ => rfl
  | .vs k v sz n => by simp only [ren, h]
  | .vp k v off => by simp only [ren, h]
theorem renL_renL (σ ρ τ : Nat → Nat) (h : ∀ k, σ (ρ k) = τ k) : ∀ l : List AV, renL σ (renL ρ l) = renL τ l
  | [] => rfl
  | x :: l => by simp only [renL, ren_ren σ ρ τ h x, renL_renL σ ρ τ h l]
end
mutual
theorem ren_id : ∀ a : AV, ren (fun k => k) a = a
  | .bool _ => rfl
  | .int _ _ => rfl
  | .str _ => rfl
  | .nilptr => rfl
  | .nilsl => rfl
  | .nilmap => rfl
  | .nilfn => rfl
  | .nilif => rfl
  | .ptr k off => rfl
  | .tp k E m' => rfl
  | .eptr cs => rfl
  | .sl _ _ _ => rfl
  | .lg _ _ _ => rfl
  | .ms k sz off n cap => rfl
  | .mp k => rfl
  | .fn f a c => by simp only [ren, renL_id a, renL_id c]
  | .ifc t v => by simp only [ren, ren_id v]
  | .agg cs => by simp only [ren, renL_id cs]
  | .tup cs => by simp only [ren, renL_id cs]
  | .dead => rfl
  | .ns _ _ _ => rfl
  | .vs k v sz n => rfl
  | .vp k v off => rfl
theorem renL_id : ∀ l : List AV, renL (fun k => k) l = l
  | [] => rfl
  | x :: l => by simp only [renL, ren_id x, renL_id l]
end
theorem renO_renO (σ ρ τ : Nat → Nat) (h : ∀ k, σ (ρ k) = τ k) (o : Ob) : renO σ (renO ρ o) = renO τ o := by
  cases o with
  | cells cs => simp only [renO, renL_renL σ ρ τ h]
  | map es => simp only [renO, List.map_map, Function.comp_def, ren_ren σ ρ τ h]
  | vec v cs => simp only [renO, renL_renL σ ρ τ h]
  | gone => rfl
  | nov v => rfl
theorem renO_id (o : Ob) : renO (fun k => k) o = o := by
  cases o with
  | cells cs => simp only [renO, renL_id]
  | map es => simp only [renO, ren_id]; simp
  | vec v cs => simp only [renO, renL_id]
  | gone => rfl
  | nov v => rfl
mutual
theorem ren_near {n : Nat} {ρ τ : Nat → Nat} (h : ∀ k, k < n → ρ k = τ k) : ∀ a : AV, Near n a → ren ρ a = ren τ a
  | .bool _, _ => rfl
  | .int _ _, _ => rfl
  | .str _, _ => rfl
  | .nilptr, _ => rfl
  | .nilsl, _ => rfl
  | .nilmap, _ => rfl
  | .nilfn, _ => rfl
  | .nilif, _ => rfl
  | .ptr k off, s => by simp only [ren, h k s]
  | .tp k E m', s => by simp only [ren, h k s]
  | .eptr cs, _ => rfl
  | .sl _ _ _, _ => rfl
  | .lg _ _ _, _ => rfl
  | .ms k sz off n cap, s => by simp only [ren, h k s]
  | .mp k, s => by simp only [ren, h k s]
  | .fn f a c, s => by simp only [ren, renL_near h a s.1, renL_near h c s.2]
  | .ifc t v, s => by simp only [ren, ren_near h v s]
  | .agg cs, s => by simp only [ren, renL_near h cs s]
  | .tup cs, s => by simp only [ren, renL_near h cs s]
  | .dead, _ => rfl
  | .ns _ _ _, _ => rfl
  | .vs k v sz n, s => by simp only [ren, h k s]
  | .vp k v off, s => by simp only [ren, h k s]
theorem renL_near {n : Nat} {ρ τ : Nat → Nat} (h : ∀ k, k < n → ρ k = τ k) : ∀ l : List AV, NearL n l → renL ρ l = renL τ l
  | [], _ => rfl
  | x :: l, s => by simp only [renL, ren_near h x s.1, renL_near h l s.2]
end
theorem renO_near {n : Nat} {ρ τ : Nat → Nat} (h : ∀ k, k < n → ρ k = τ k) (o : Ob) (s : NearO n o) : renO ρ o = renO τ o := by
  cases o with
  | cells cs => simp only [renO, renL_near h cs s]
  | map es =>
    simp only [renO]
    congr 1
    have : ∀ es : List (AV × AV), NearL n (es.map (·.1)) → NearL n (es.map (·.2)) → es.map (fun e => (ren ρ e.1, ren ρ e.2)) = es.map (fun e => (ren τ e.1, ren τ e.2)) := by
      intro es
      induction es with
      | nil => intro _ _; rfl
      | cons e es ih => intro s1 s2; simp only [List.map_cons, ren_near h _ s1.1, ren_near h _ s2.1, ih s1.2 s2.2]
    exact this es s.1 s.2
  | vec v cs => simp only [renO, renL_near h cs s]
  | gone => rfl
  | nov v => rfl

/-- Data kept in m objects; p: the object to which its pointer leads. -/
structure ADT (X : Type) where
  m : Nat
  p : Nat
  hp : p < m
  obs : X → List Ob
  Ok : X → Prop
  len : ∀ x, (obs x).length = m
  near : ∀ x, Ok x → ∀ o ∈ obs x, NearO m o
  inj : ∀ x y, Ok x → Ok y → obs x = obs y → x = y
variable {X : Type}
def sh (i j : Nat) : Nat := i + j
def invS (m i k : Nat) : Option Nat := if i ≤ k ∧ k < i + m then some (k - i) else none
theorem inv_sh (m i : Nat) : Inv (sh i) m (invS m i) := by
  refine ⟨fun j hj => ?_, fun k j h => ?_⟩
  · show (if i ≤ i + j ∧ i + j < i + m then some (i + j - i) else none) = some j
    rw [if_pos (by omega), Nat.add_sub_cancel_left]
  · simp only [invS] at h
    split at h
    · cases h; exact ⟨by omega, by show i + (k - i) = k; omega⟩
    · cases h
def ADT.at_ (A : ADT X) (i : Nat) (x : X) : List Ob := (A.obs x).map (renO (sh i))
theorem ADT.at_len (A : ADT X) (i : Nat) (x : X) : (A.at_ i x).length = A.m := by rw [ADT.at_, List.length_map, A.len]
theorem ADT.at_inj (A : ADT X) {i : Nat} {x y : X} (hx : A.Ok x) (hy : A.Ok y) (h : A.at_ i x = A.at_ i y) : x = y := by
  refine A.inj x y hx hy ?_
  have h2 := congrArg (List.map (renO fun k => k - i)) h
  rw [ADT.at_, ADT.at_, List.map_map, List.map_map] at h2
  have e : (renO (fun k => k - i)) ∘ (renO (sh i)) = id := by
    funext o
    rw [Function.comp_apply, renO_renO _ _ (fun k => k) (fun k => by show i + k - i = k; omega), renO_id]; rfl
  rw [e, List.map_id, List.map_id] at h2
  exact h2
def ADT.is (A : ADT X) (i : Nat) (l : List Ob) (x : X) : Prop := A.Ok x ∧ A.at_ i x = l
open Classical in
noncomputable def ADT.G (A : ADT X) (i : Nat) (l : List Ob) : Option X := opq (if h : ∃ x, A.is i l x then some (Classical.choose h) else none)
theorem ADT.G_spec {A : ADT X} {i : Nat} {l : List Ob} {x : X} (h : A.G i l = some x) : A.is i l x := by
  rw [ADT.G, opq_eq] at h
  split at h
  · rename_i hx; cases h; exact Classical.choose_spec hx
  · cases h
theorem ADT.G_of {A : ADT X} {i : Nat} {l : List Ob} {x : X} (h : A.is i l x) : A.G i l = some x := by
  have hx : ∃ x, A.is i l x := ⟨x, h⟩
  rw [ADT.G, opq_eq, dif_pos hx]
  have h1 := Classical.choose_spec hx
  rw [A.at_inj h1.1 h.1 (h1.2.trans h.2.symm)]
noncomputable def ADT.ob (A : ADT X) (i : Nat) (x : X) (j : Nat) : Ob := opq ((A.at_ i x).getD j .gone)
noncomputable def obl (A : ADT X) (i : Nat) (x : X) : Nat → Nat → List Ob
  | 0, _ => []
  | k + 1, j => A.ob i x j :: obl A i x k (j + 1)
theorem obl_eq (A : ADT X) (i : Nat) (x : X) : ∀ k j, j + k ≤ A.m → obl A i x k j = ((A.at_ i x).drop j).take k
  | 0, j, _ => by rw [List.take_zero]; rfl
  | k + 1, j, h => by
    have hl : j < (A.at_ i x).length := by rw [ADT.at_len]; omega
    rw [obl, obl_eq A i x k (j + 1) (by omega), List.drop_eq_getElem_cons hl, List.take_succ_cons, ADT.ob, opq_eq, List.getD_eq_getElem?_getD, List.getElem?_eq_getElem hl]
    rfl
noncomputable def ADT.obl (A : ADT X) (i : Nat) (x : X) : List Ob := V.obl A i x A.m 0
theorem ADT.obl_eq (A : ADT X) (i : Nat) (x : X) : A.obl i x = A.at_ i x := by
  rw [ADT.obl, V.obl_eq A i x A.m 0 (by omega), List.drop_zero, List.take_of_length_le (by rw [ADT.at_len]; exact Nat.le_refl _)]
/-- The objects tell it. -/
theorem ADT.G_obl (A : ADT X) {x : X} (h : A.Ok x) (i : Nat) : A.G i (A.obl i x) = some x := ADT.G_of ⟨h, (A.obl_eq i x).symm⟩
theorem ADT.obl_zero (A : ADT X) {x : X} (h : A.Ok x) : A.obl 0 x = A.obs x := by
  rw [ADT.obl_eq, ADT.at_]
  conv => rhs; rw [← List.map_id (A.obs x)]
  refine List.map_congr_left fun o ho => ?_
  rw [show sh 0 = fun k => k from funext fun k => Nat.zero_add k, renO_id]; rfl
/-- The first m of a list, if there are so many. -/
def getN : Nat → List Ob → Option (List Ob)
  | 0, _ => some []
  | _ + 1, [] => none
  | k + 1, o :: l => match getN k l with
    | some r => some (o :: r)
    | none => none
theorem getN_some : ∀ {k : Nat} {l r : List Ob}, getN k l = some r → r = l.take k ∧ k ≤ l.length
  | 0, l, r, h => by cases h; exact ⟨by rw [List.take_zero], by omega⟩
  | k + 1, [], r, h => by cases h
  | k + 1, o :: l, r, h => by
    simp only [getN] at h
    split at h
    · rename_i r' h'
      cases h
      obtain ⟨h1, h2⟩ := getN_some h'
      exact ⟨by rw [List.take_succ_cons, h1], by simp; omega⟩
    · cases h
/-- The objects from one on are others. -/
def plc : List Ob → Nat → List Ob → List Ob
  | l, 0, xs => xs ++ l.drop xs.length
  | [], _ + 1, _ => []
  | o :: l, i + 1, xs => o :: plc l i xs
theorem plc_eq : ∀ (l : List Ob) (i : Nat) (xs : List Ob), i + xs.length ≤ l.length → plc l i xs = l.take i ++ xs ++ l.drop (i + xs.length)
  | l, 0, xs, _ => by rw [plc.eq_def]; simp
  | [], i + 1, xs, h => by simp at h
  | o :: l, i + 1, xs, h => by
    rw [plc, plc_eq l i xs (by simp at h; omega), show i + 1 + xs.length = (i + xs.length) + 1 by omega]
    simp
noncomputable def ADT.pl (A : ADT X) (st : St) (i : Nat) (x : X) : St := ⟨plc st.objs i (A.obl i x), st.tk⟩
/-- Data in a state: where it is, what it is. -/
noncomputable def ADT.on (A : ADT X) (x : AV) (st : St) (k : Nat → X → Ans) : Ans :=
  match x with
  | .ptr j o => match Nat.beq o 0 && Nat.ble A.p j with
    | true => match getN A.m (st.objs.drop (j - A.p)) with
      | some l => onSome (A.G (j - A.p) l) none fun X => k (j - A.p) X
      | none => none
    | false => none
  | _ => none
/-- Data at a place. -/
structure ADT.Here (A : ADT X) (st : St) (i : Nat) (x : X) : Prop where
  ok : A.Ok x
  le : i + A.m ≤ st.objs.length
  eq : (st.objs.drop i).take A.m = A.at_ i x
theorem ADT.on_spec {A : ADT X} {x : AV} {st : St} {k : Nat → X → Ans} {fin : Fin × St} (h : A.on x st k = some fin) : ∃ i y, x = .ptr (i + A.p) 0 ∧ A.Here st i y ∧ k i y = some fin := by
  unfold ADT.on at h
  split at h
  · rename_i j o
    split at h
    · rename_i ho
      rw [Bool.and_eq_true] at ho
      obtain ⟨h1, h2⟩ := ho
      obtain rfl := Nat.eq_of_beq_eq_true h1
      have h2 := Nat.le_of_ble_eq_true h2
      split at h
      · rename_i l hl
        unfold onSome at h
        split at h
        · cases h
        · rename_i y hy
          obtain ⟨g1, g2⟩ := getN_some hl
          obtain ⟨g3, g4⟩ := ADT.G_spec hy
          have hm := A.hp
          rw [List.length_drop] at g2
          exact ⟨j - A.p, y, by rw [Nat.sub_add_cancel h2], ⟨g3, by omega, by rw [← g1, g4]⟩, h⟩
      · cases h
    · cases h
  · cases h
theorem ADT.Here.lies {A : ADT X} {st : St} {i : Nat} {x : X} (h : A.Here st i x) : Lies st (A.obs x) (sh i) A.m (invS A.m i) := by
  refine ⟨A.len x, inv_sh _ i, fun j o ho => ?_, A.near x h.ok⟩
  have hj : j < A.m := by rw [← A.len x]; exact getElem?_lt ho
  have e := congrArg (fun l => l[j]?) h.eq
  simp only [List.getElem?_take, if_pos hj, List.getElem?_drop, ADT.at_, List.getElem?_map, ho, Option.map_some] at e
  exact e
theorem ADT.pl_len {A : ADT X} {st : St} {i : Nat} {x : X} (h : i + A.m ≤ st.objs.length) : (A.pl st i x).objs.length = st.objs.length := by
  have hl : (A.obl i x).length = A.m := by rw [ADT.obl_eq, ADT.at_len]
  rw [ADT.pl, plc_eq _ _ _ (by omega)]
  simp only [List.length_append, List.length_take, List.length_drop, hl]
  omega
theorem ADT.pl_in {A : ADT X} {st : St} {i : Nat} {x : X} (h : i + A.m ≤ st.objs.length) {j : Nat} (hj : j < A.m) : (A.pl st i x).objs[i + j]? = (A.at_ i x)[j]? := by
  have hl : (A.obl i x).length = A.m := by rw [ADT.obl_eq, ADT.at_len]
  rw [ADT.pl, plc_eq _ _ _ (by omega)]
  simp only [List.append_assoc]
  rw [List.getElem?_append_right (by rw [List.length_take]; omega), List.length_take, Nat.min_eq_left (by omega), Nat.add_sub_cancel_left, List.getElem?_append_left (by omega), ADT.obl_eq]
theorem ADT.pl_out {A : ADT X} {st : St} {i : Nat} {x : X} (h : i + A.m ≤ st.objs.length) {k : Nat} (hk : ¬ (i ≤ k ∧ k < i + A.m)) : (A.pl st i x).objs[k]? = st.objs[k]? := by
  have hl : (A.obl i x).length = A.m := by rw [ADT.obl_eq, ADT.at_len]
  rw [ADT.pl, plc_eq _ _ _ (by omega)]
  simp only [List.append_assoc]
  by_cases h1 : k < i
  · rw [List.getElem?_append_left (by rw [List.length_take]; omega), List.getElem?_take, if_pos h1]
  · rw [List.getElem?_append_right (by rw [List.length_take]; omega), List.length_take, Nat.min_eq_left (by omega), List.getElem?_append_right (by omega), List.getElem?_drop]
    congr 1; omega
theorem ADT.Here.same {A : ADT X} {st : St} {i : Nat} {x : X} (h : A.Here st i x) : A.pl st i x = st := by
  have e : (A.pl st i x).objs = st.objs := by
    apply List.ext_getElem?
    intro k
    by_cases hk : i ≤ k ∧ k < i + A.m
    · obtain ⟨j, rfl⟩ := Nat.exists_eq_add_of_le hk.1
      have hj : j < A.m := by omega
      rw [ADT.pl_in h.le hj]
      have e := congrArg (fun l => l[j]?) h.eq
      simp only [List.getElem?_take, if_pos hj, List.getElem?_drop] at e
      exact e.symm
    · rw [ADT.pl_out h.le hk]
  cases st
  simp only [ADT.pl] at e ⊢
  rw [e]
theorem ADT.near_at {A : ADT X} {y : X} (hy : A.Ok y) {i j : Nat} {o : Ob} (ho : (A.obs y)[j]? = some o) {τ : Nat → Nat} (hτ : ∀ k, k < A.m → τ k = i + k) : (A.at_ i y)[j]? = some (renO τ o) := by
  rw [ADT.at_, List.getElem?_map, ho, Option.map_some, renO_near (n := A.m) (ρ := sh i) (τ := τ) (fun k hk => (hτ k hk).symm) o (A.near y hy o (List.mem_of_getElem? ho))]
/-- A method, shown at the data's objects alone. -/
theorem ADT.placed {A : ADT X} {f : Fun P} {F : Nat} {x y : X} {args0 : List AV} {r : AV} {xs : List Ob} (hrun : f.run F args0 ⟨A.obs x, []⟩ = some (.ret r, ⟨A.obs y ++ xs, []⟩)) (hy : A.Ok y) (ha : NearL A.m args0) (hr : Near A.m (frz r))
    {st : St} {i : Nat} (hd : A.Here st i x) : CallsTo P f.id (renL (sh i) args0) st (.ret (ren (sh i) (frz r)), A.pl st i y) := by
  have n4 : ∀ j, j < A.m → nx (sh i) A.m st.objs.length j = i + j := fun j hj => by rw [nx, if_pos hj]; rfl
  have e : ren (nx (sh i) A.m st.objs.length) (frz r) = ren (sh i) (frz r) := ren_near (fun k hk => n4 k hk) _ hr
  rw [← e]
  refine V.placed (f.sound hrun) (Nat.le_refl _) (by simp [A.len]) ha hr (fun j o hj ho => ?_) hd.lies rfl (by rw [ADT.pl_len hd.le]; omega) (fun j o hj ho => ?_) (fun k hk hi => ?_)
  · rw [List.getElem?_append_left (by rw [A.len]; exact hj)] at ho
    exact A.near y hy o (List.mem_of_getElem? ho)
  · rw [List.getElem?_append_left (by rw [A.len]; exact hj)] at ho
    rw [n4 j hj, ADT.pl_in hd.le hj]
    exact ADT.near_at hy ho n4
  · refine ADT.pl_out hd.le fun e => ?_
    simp only [invS] at hi
    rw [if_pos e] at hi; cases hi
noncomputable def ADT.add (A : ADT X) (st : St) (x : X) : St := ⟨st.objs ++ A.obl st.objs.length x, st.tk⟩
/-- What makes data, shown at no objects. -/
theorem ADT.fresh {A : ADT X} {f : Fun P} {F : Nat} {x : X} {args0 : List AV} {r : AV} {xs : List Ob} (hrun : f.run F args0 ⟨[], []⟩ = some (.ret r, ⟨A.obs x ++ xs, []⟩)) (hx : A.Ok x) (ha : NearL 0 args0) (hr : Near A.m (frz r)) (st : St) :
    CallsTo P f.id args0 st (.ret (ren (sh st.objs.length) (frz r)), A.add st x) := by
  have n4 : ∀ j, nx (fun _ => 0) 0 st.objs.length j = st.objs.length + j := fun j => by rw [nx, if_neg (by omega)]; omega
  have e : ren (nx (fun _ => 0) 0 st.objs.length) (frz r) = ren (sh st.objs.length) (frz r) := ren_near (n := A.m) (fun k hk => n4 k) _ hr
  have e2 : renL (fun _ => 0) args0 = args0 := by
    have := renL_near (n := 0) (ρ := fun _ => 0) (τ := fun k => k) (fun k hk => by omega) args0 ha
    rw [this, renL_id]
  have hl : (A.obl st.objs.length x).length = A.m := by rw [ADT.obl_eq, ADT.at_len]
  rw [← e]
  have := V.placed (ρ := fun _ => 0) (f.sound hrun) (Nat.zero_le A.m) (by simp [A.len]) ha hr (fun j o hj ho => by
    rw [List.getElem?_append_left (by rw [A.len]; exact hj)] at ho
    exact A.near x hx o (List.mem_of_getElem? ho)) (inv := fun _ => none) (st := st) (st' := A.add st x) ⟨rfl, ⟨fun i hi => (by omega), fun k i h => (by cases h)⟩, fun i o h => (by simp at h), fun o h => (by simp at h)⟩ rfl (by simp [ADT.add, hl]) (fun j o hj ho => ?_) (fun k hk hi => ?_)
  · rw [e2] at this; exact this
  · rw [List.getElem?_append_left (by rw [A.len]; exact hj)] at ho
    rw [n4 j, ADT.add]
    simp only
    rw [List.getElem?_append_right (by omega), Nat.add_sub_cancel_left, ADT.obl_eq]
    exact ADT.near_at hx ho fun k _ => n4 k
  · rw [ADT.add]
    simp only
    rw [List.getElem?_append_left hk]
theorem CallsTo.wk {id : FuncId} {args args' : List AV} {st : St} {fin : Fin × St} (h : CallsTo P id args' st fin) (hw : ∀ g w vs, RelAll g w args vs → RelAll g w args' vs) : CallsTo P id args st fin := fun g w vals hv hs => h g w vals (hw g w _ hv) hs
/-! ### An operation that freezes the slice it is handed -/
def updE (ev : Operand → AV) (i : Nat) (r : AV) : Operand → AV
  | .tmp j => match Nat.beq j i with
    | true => r
    | false => ev (.tmp j)
  | o => ev o
noncomputable def MSim.fz (y : MSim P) (i : Nat) : MSim P where
  oper := y.oper
  plain := y.plain
  xs := .tmp i :: y.xs
  f ev st k := afree (ev (.tmp i)) st fun r st' => y.f (updE ev i r) st' k
  congr ev ev' st k h := by
    rw [h (.tmp i) (by simp)]
    congr 1
    funext r st'
    refine y.congr _ _ _ _ fun o ho => ?_
    have := h o (by simp [ho])
    unfold updE
    split
    · split
      · rfl
      · exact this
    · exact this
  sound ev st k fin h g w a he hs := by
    obtain ⟨r, st', g', k1, k2, k3, k4⟩ := afree_rel hs (he (.tmp i) (by simp)) h
    obtain ⟨r2, st2, q1, q2⟩ := y.sound (updE ev i r) st' k fin k1 g' w a (fun o ho => by
      unfold updE
      split
      · rename_i j
        split
        · rename_i hj
          obtain rfl := Nat.eq_of_beq_eq_true hj
          exact k2
        · exact Rel.mono k4 _ _ (he _ (by simp [ho]))
      · exact Rel.mono k4 _ _ (he _ (by simp [ho]))) k3
    exact ⟨r2, st2, q1, fun next Q hn => q2 next Q fun v g2 w2 a1 a2 a3 => hn v g2 w2 a1 a2 (k4.trans a3)⟩
/-! ### What goes on does not sway a callee's answer -/
def thS (a : Ans) (k : Fin → St → Ans) : Ans :=
  match a with
  | some (r, st') => k r st'
  | none => none
theorem ifT_th {b : Bool} {s s' : Ans} {k : Fin → St → Ans} (h : s = thS s' k) : ifT b s = thS (ifT b s') k := by
  cases b
  · rfl
  · exact h
theorem ADT.on_th {A : ADT X} {x : AV} {st : St} {s s' : Nat → X → Ans} {k : Fin → St → Ans} (h : ∀ i y, s i y = thS (s' i y) k) : A.on x st s = thS (A.on x st s') k := by
  unfold ADT.on
  split
  · split
    · split
      · unfold onSome
        split
        · rfl
        · exact h _ _
      · rfl
    · rfl
  · rfl
/-- So many rounds as one likes, for a callee within. -/
noncomputable def fuel : Nat := opq 1000000
/-! ### Two data -/
variable {Y : Type}
end
end Go.V

/- Texts that are built in memory: typed pointers, callees that the model stands in for, == of pointers, refusals, a text taken out of a growing row. -/
set_option linter.unusedVariables false
set_option linter.unusedSimpArgs false
namespace Go.V
section
variable {P : Program}

/-- A refusal: nothing comes there. -/
def Sim.refuse (why : String) : Sim P where
  code := .refuse why
  run F K env st := none
  sound F K env st fin h := by cases h

/-- A callee that is never called. -/
def Orc.dead (id : FuncId) (fn : Func) (hf : P.funcs[id]? = some fn) (hname : (fn.name == "runtime.NumGoroutine") = false) (hb : fn.body.isNone = false) : Orc P where
  id := id
  fn := fn
  hf := hf
  hname := hname
  hb := hb
  sem _ _ _ := none
  sound k args st fin h := by cases h

/-- A variable in memory whose block's type is known. -/
def opAllocT (n : Nat) (dst : Option Tmp) (T : TypeId) (z : Value) (hz : (P.info? T).bind (·.zero) = some z) (hn : Nat.beq z.cells.size n = true) (ty : TypeId) (pos : String) (after : Array Edge) : MSim P :=
  MSim.makes (mkOp dst (.alloc T) ty pos after) rfl [] (fun ev st k => match cellsA (ofLit z) with
    | some cs => k (.tp st.objs.length T n) ⟨st.objs ++ [.cells cs], st.tk⟩
    | none => none) (fun ev ev' st k h => rfl) fun ev st k fin h g w a he hs => by
    split at h
    · rename_i cs hcs
      obtain ⟨h1, h1c⟩ := cellsA_rel hcs (ofLit_rel g w z)
      obtain ⟨g', k1, k2, b, k3, k4⟩ := newObj_rel hs z T h1 h1c
      exact ⟨_, _, _, g', _, h, by simp [execOp, mkOp, Instr.alloc, newVar, run_newRow, run_zeroValue' hz] <;> rfl, ⟨b, k3, k4, z.cells, (0, 0), by cases k4; exact (Push.alloc w _).new, Nat.eq_of_beq_eq_true hn⟩, k1, k2⟩
    · cases h

/-! ### Callees that the model stands in for -/
theorem run_ext {f : FuncId} {fn : Func} {e : Array Value → Sem Value} (hf : P.funcs[f]? = some fn) (hname : (fn.name == "runtime.NumGoroutine") = false) (hb : fn.body.isNone = true) (hn : Extern.findNext fn = none) (he : Extern.find fn = some e) {dst : Option Tmp} {xs : List Operand} {tys : Array TypeId} {ty : TypeId} {pos : String} {after : Array Edge} {a : Act} {w : World} {v : Value} (h : (e (xs.map a.eval).toArray).run P w = .ok v w) :
    (execOp a.eval (mkOp dst (.call { callee := .value (.func f), args := xs.toArray, argTypes := tys }) ty pos after)).run P w = .ok (.value v) w := by
  simp only [execOp, mkOp, resolve, Act.eval, Deferred.ofValue]
  have h' := h
  simp only [List.map_toArray] at h' ⊢
  simp [invoke, run_callFunc_extern hf hname hb hn he, Act.eval]
  have e1 : (List.map (fun x => a.eval x) xs).toArray = (xs.map a.eval).toArray := rfl
  first
    | (rw [h']; rfl)
    | (rw [h]; rfl)
    | simp [h']

/-- internal/abi.NoEscape: the pointer as it is. -/
def opExtId (f : FuncId) (fn : Func) (hf : P.funcs[f]? = some fn) (hname : (fn.name == "runtime.NumGoroutine") = false) (hb : fn.body.isNone = true) (hn : Extern.findNext fn = none) (hx : Extern.find fn = some Extern.AbiNoEscape.same)
    (dst : Option Tmp) (x : Operand) (tys : Array TypeId) (ty : TypeId) (pos : String) (after : Array Edge) : PSim P :=
  PSim.quiet (mkOp dst (.call { callee := .value (.func f), args := [x].toArray, argTypes := tys }) ty pos after) rfl [x] (fun ev k => k (ev x)) (fun ev ev' k h => by simp only [h x (by simp)]) fun ev k fin h g w a st he hs =>
    ⟨_, _, h, run_ext hf hname hb hn hx rfl, he x (by simp)⟩

/-- internal/bytealg.IndexByteString. -/
noncomputable def idxB (s : ByteArray) (c : Int) : Int := firstIdx s c.toNat.toUInt8
noncomputable def aidxB (x y : AV) (k : AV → Ans) : Ans :=
  match x with
  | .str s => match y with
    | .int .u8 c => k (.int .i64 (idxB s c))
    | _ => none
  | _ => none
noncomputable def opExtIdx (f : FuncId) (fn : Func) (hf : P.funcs[f]? = some fn) (hname : (fn.name == "runtime.NumGoroutine") = false) (hb : fn.body.isNone = true) (hn : Extern.findNext fn = none) (hx : Extern.find fn = some Extern.BytealgIndexByte.indexByte)
    (dst : Option Tmp) (x y : Operand) (tys : Array TypeId) (ty : TypeId) (pos : String) (after : Array Edge) : PSim P :=
  PSim.quiet (mkOp dst (.call { callee := .value (.func f), args := [x, y].toArray, argTypes := tys }) ty pos after) rfl [x, y] (fun ev k => aidxB (ev x) (ev y) k) (fun ev ev' k h => by simp only [h x (by simp), h y (by simp)]) fun ev k fin h g w a st he hs => by
    have h1 := he x (by simp)
    have h2 := he y (by simp)
    unfold aidxB at h
    split at h
    · rename_i s hs'
      split at h
      · rename_i c hc
        rw [hs'] at h1
        rw [hc] at h2
        have h1 : a.eval x = .string s := h1
        have h2 : a.eval y = .int .u8 c := h2
        refine ⟨_, _, h, run_ext hf hname hb hn hx ?_, rfl⟩
        simp only [List.map_cons, List.map_nil, h1, h2]
        exact run_indexByte_string s c w
      · cases h
    · cases h

/-! ### Typed pointers turned to and fro -/
def aconvP (E n : Nat) (x : AV) (k : AV → Ans) : Ans :=
  match x with
  | .tp j E' n' => match Nat.beq E' E && Nat.beq n' n with
    | true => k (.tp j E' n')
    | false => none
  | _ => none
theorem tp_shape {g : Gh} {w : World} {j E n : Nat} {v : Value} (h : Rel g w (.tp j E n) v) : ∃ b, v = .pointer (some ⟨b, 0, none⟩) ∧ w.shape? b = some (E, n) := by
  obtain ⟨b, _, h2, C, fz, h3, h4⟩ := h
  exact ⟨b, h2, by unfold World.shape?; rw [h3]; simp only [h4]⟩
/-- A pointer as an unsafe one. -/
def opConvPU (E n : Nat) (hn : Nat.ble 1 n = true) (dst : Option Tmp) (S T : TypeId) (x : Operand) (t : TypeId) (hS : P.underlying S = some (.pointer t)) (hT : P.underlying T = some .unsafePointer) (sz : Nat) (ht : (P.info? t).map (·.size) = some sz) (h0 : sz ≠ 0) (ty : TypeId) (pos : String) (after : Array Edge) : PSim P :=
  PSim.quiet (mkOp dst (.convert S T x) ty pos after) rfl [x] (fun ev k => aconvP E n (ev x) k) (fun ev ev' k h => by simp only [h x (by simp)]) fun ev k fin h g w a st he hs => by
    have hv := he x (by simp)
    unfold aconvP at h
    split at h
    · rename_i j E' n' hb
      split at h
      · rename_i hc
        rw [Bool.and_eq_true] at hc
        obtain rfl := Nat.eq_of_beq_eq_true hc.1
        obtain rfl := Nat.eq_of_beq_eq_true hc.2
        rw [hb] at hv
        obtain ⟨b, h1, h2⟩ := tp_shape hv
        obtain ⟨i, hi, his⟩ := Option.map_eq_some_iff.1 ht
        refine ⟨_, _, h, ?_, hv⟩
        have := Lib.run_to_unsafe (P := P) w ⟨b, 0, none⟩ hS hT hi (by rw [his]; exact h0) h2 (Nat.le_of_ble_eq_true hn)
        simp only [execOp, mkOp, h1, Sem.run_bind, this]; rfl
      · cases h
    · cases h
/-- An unsafe pointer as one that is not. -/
def opConvUP (E n : Nat) (dst : Option Tmp) (S T : TypeId) (x : Operand) (t : TypeId) (hS : P.underlying S = some .unsafePointer) (hT : P.underlying T = some (.pointer t)) (sz : Nat) (ht : (P.info? t).map (·.size) = some sz) (hl : liesAt P P.depth E (n / P.cellsOf E) 0 t 1 = true) (ty : TypeId) (pos : String) (after : Array Edge) : PSim P :=
  PSim.quiet (mkOp dst (.convert S T x) ty pos after) rfl [x] (fun ev k => aconvP E n (ev x) k) (fun ev ev' k h => by simp only [h x (by simp)]) fun ev k fin h g w a st he hs => by
    have hv := he x (by simp)
    unfold aconvP at h
    split at h
    · rename_i j E' n' hb
      split at h
      · rename_i hc
        rw [Bool.and_eq_true] at hc
        obtain rfl := Nat.eq_of_beq_eq_true hc.1
        obtain rfl := Nat.eq_of_beq_eq_true hc.2
        rw [hb] at hv
        obtain ⟨b, h1, h2⟩ := tp_shape hv
        obtain ⟨i, hi, his⟩ := Option.map_eq_some_iff.1 ht
        refine ⟨_, _, h, ?_, hv⟩
        have := Lib.run_from_unsafe (P := P) w ⟨b, 0, none⟩ hS hT hi h2 hl
        simp only [execOp, mkOp, h1, Sem.run_bind, this]; rfl
      · cases h
    · cases h

/-! ### == of pointers -/
def apeq (x y : AV) (k : Bool → Ans) : Ans :=
  match x with
  | .tp i _ _ => match y with
    | .tp j _ _ => match Nat.beq i j with
      | true => k true
      | false => none
    | _ => none
  | _ => none
theorem apeq_same {x y : AV} {k : Bool → Ans} {fin : Fin × St} (h : apeq x y k = some fin) {g : Gh} {w : World} {v u : Value} (hx : Rel g w x v) (hy : Rel g w y u) : ∃ a, v = .pointer (some a) ∧ u = .pointer (some a) ∧ k true = some fin := by
  unfold apeq at h
  split at h
  · split at h
    · split at h
      · rename_i hc
        obtain rfl := Nat.eq_of_beq_eq_true hc
        obtain ⟨b, h1, h2, _⟩ := hx
        obtain ⟨b', k1, k2, _⟩ := hy
        rw [h1] at k1; cases k1
        exact ⟨_, h2, k2, h⟩
      · cases h
    · cases h
  · cases h
theorem run_eqGuard_ptr (op : BinOp) (T : TypeId) (x y : Operand) (p q : Addr) (w : World) : (eqGuard op T x y (.pointer (some p)) (.pointer (some q))).run P w = .ok () w := by
  unfold eqGuard
  split <;> rfl
def opNeP (dst : Option Tmp) (T t : TypeId) (hT : P.underlying T = some (.pointer t)) (sz : Nat) (ht : (P.info? t).map (·.size) = some sz) (x y : Operand) (T' : TypeId) (ty : TypeId) (pos : String) (after : Array Edge) : PSim P :=
  PSim.quiet (mkOp dst (.binOp .neq T x y T') ty pos after) rfl [x, y] (fun ev k => apeq (ev x) (ev y) fun b => k (.bool !b)) (fun ev ev' k h => by simp only [h x (by simp), h y (by simp)]) fun ev k fin h g w a st he hs => by
    obtain ⟨p, h1, h2, h3⟩ := apeq_same h (he x (by simp)) (he y (by simp))
    obtain ⟨i, hi, _⟩ := Option.map_eq_some_iff.1 ht
    refine ⟨_, _, h3, ?_, rfl⟩
    simp only [execOp, mkOp, h1, h2, Sem.run_bind, run_eqGuard_ptr, Result.andThen_ok, Lib.run_neq_ptr_same (P := P) w p hT hi]; rfl

/-! ### A text taken out of a growing row -/
/-- A register is given up, its block gets a mark. -/
theorem reg_gone {g : Gh} {st : St} {w w' : World} (hs : StRel g st w) {j v : Nat} {cs : List AV} (hcs : st.objs[j]? = some (.vec v cs)) {b : Nat} (hkb : g.kind b = .vec j) {C : Array Value} {E : TypeId} {fz : Nat × Nat} (hC : w.heap[b]? = some (.cells C E (0, 0)))
    (h1 : w'.os = w.os) (h2 : w'.tape = w.tape) (h3 : w'.output = w.output) (h4 : w'.heap.size = w.heap.size) (h5 : ∀ x, x ≠ b → w'.heap[x]? = w.heap[x]?) (h6 : w'.heap[b]? = some (.cells C E fz)) :
    ∃ g', StRel g' ⟨st.objs.set j (.nov (v + 1)), st.tk⟩ w' ∧ Ev g w g' w' := by
  have hjl : j < g.objs.length := by rw [hs.len]; exact getElem?_lt hcs
  have hb := lt_of_block hC
  have hver := (vec_of hs hjl hcs).1
  have huniq := (hs.vec b j hb hkb).2
  let g' : Gh := ⟨fun x => if x = b then .solid else g.kind x, g.objs, g.tk, fun x => if x = j then v + 1 else g.ver x⟩
  have hne : ∀ x, g.kind x ≠ .vec j → x ≠ b := fun x hx e => hx (by rw [e]; exact hkb)
  have hk : ∀ x, g.kind x ≠ .vec j → g'.kind x = g.kind x := fun x hx => by simp only [g']; rw [if_neg (hne x hx)]
  have hback : ∀ x y, x < w.heap.size → g'.kind x = y → y ≠ .solid → g.kind x = y ∧ y ≠ .vec j := by
    intro x y hs' hx hy
    simp only [g'] at hx
    split at hx
    · exact absurd hx.symm hy
    · rename_i h; exact ⟨hx, fun e => h (huniq x hs' (hx.trans e))⟩
  have hE : Ev g w g' w' := by
    refine ⟨h1, h2, h3, Nat.le_of_eq h4.symm, fun x hx hf => ⟨?_, ?_⟩, fun x t hx hf => ⟨?_, fun C E fz h => ⟨C, ?_, rfl, fun _ _ => rfl⟩⟩, fun x k hx hf => .inl ?_, fun _ _ h => h, tk_refl _, fun k hk => ?_, fun x k hx hkl hf hv => ?_, fun x C1 E1 f1 hC1 => ?_⟩
    · exact hk x (by intro e; rw [e] at hf; cases hf)
    · exact h5 x (hne x (by intro e; rw [e] at hf; cases hf))
    · exact (hk x (by intro e; rw [e] at hf; cases hf)).trans hf
    · exact (h5 x (hne x (by intro e; rw [e] at hf; cases hf))).trans h
    · exact (hk x (by intro e; rw [e] at hf; cases hf)).trans hf
    · simp only [g']
      split
      · rename_i e; subst e; omega
      · exact Nat.le_refl _
    · have hnj : g.kind x ≠ .vec j := by
        intro e
        rw [e] at hf
        cases hf
        simp only [g', if_true] at hv
        omega
      exact ⟨(hk x hnj).trans hf, fun C E fz h => ⟨C, (h5 x (hne x hnj)).trans h, rfl⟩⟩
    · by_cases hxb : x = b
      · subst hxb
        rw [hC] at hC1
        cases hC1
        exact ⟨_, _, h6, rfl⟩
      · exact ⟨C1, f1, (h5 x hxb).trans hC1, rfl⟩
  refine ⟨g', ⟨hs.tk, by simp [g', hs.len], fun k b' o hk' ho => ?_, fun x k hx hf => ?_, fun x t hx hf => ?_, fun x k hx hf => ?_, hs.glob.mono hE⟩, hE⟩
  · by_cases hkj : k = j
    · subst hkj
      rw [List.getElem?_set_self (getElem?_lt hcs)] at ho
      cases ho
      exact ⟨by rw [h4]; exact (hs.obj k b' _ hk' hcs).1, by show (if k = k then v + 1 else _) = _; rw [if_pos rfl]⟩
    · rw [List.getElem?_set_ne (fun e => hkj e.symm)] at ho
      obtain ⟨p1, p2⟩ := hs.obj k b' o hk' ho
      refine ⟨by rw [h4]; exact p1, ?_⟩
      have hver' : g'.ver k = g.ver k := by show (if k = j then v + 1 else _) = _; rw [if_neg hkj]
      have hv : ∀ b'', b'' < w.heap.size → g.kind b'' = .vec k → w'.heap[b'']? = w.heap[b'']? ∧ g'.kind b'' = .vec k := fun b'' _ hh =>
        have hh' : g.kind b'' ≠ .vec j := by rw [hh]; intro e; cases e; exact hkj rfl
        ⟨h5 b'' (hne b'' hh'), (hk b'' hh').trans hh⟩
      cases o with
      | gone => trivial
      | nov v => exact hver'.trans p2
      | cells cs' =>
        have hh : g.kind b' ≠ .vec j := by rw [p2.1]; intro e; cases e
        exact p2.keep hE (h5 b' (hne b' hh)) (hk b' hh) hv hver'
      | map es =>
        have hh : g.kind b' ≠ .vec j := by rw [p2.1]; intro e; cases e
        exact p2.keep hE (h5 b' (hne b' hh)) (hk b' hh) hv hver'
      | vec v cs' =>
        obtain ⟨e1, b'', e2, e3, C1, E1, e4, e5, e6⟩ := p2
        obtain ⟨f1, f2⟩ := hv b'' e2 e3
        exact ⟨hver'.trans e1, b'', by rw [h4]; exact e2, f2, C1, E1, f1.trans e4, RelAll.mono hE _ _ e5, e6⟩
  · obtain ⟨k1, _⟩ := hback x _ (by rw [← h4]; exact hx) hf (by intro e; cases e)
    obtain ⟨o, k3, k4, k5⟩ := hs.back x k (by rw [← h4]; exact hx) k1
    have hkj : k ≠ j := by intro e; subst e; rw [hcs] at k3; cases k3; exact k5.elim
    exact ⟨o, by rw [List.getElem?_set_ne (fun e => hkj e.symm)]; exact k3, k4, k5⟩
  · obtain ⟨k1, _⟩ := hback x _ (by rw [← h4]; exact hx) hf (by intro e; cases e)
    exact hs.rowlt x t (by rw [← h4]; exact hx) k1
  · obtain ⟨k1, k2⟩ := hback x _ (by rw [← h4]; exact hx) hf (by intro e; cases e)
    obtain ⟨⟨v', cs', k3⟩, k4⟩ := hs.vec x k (by rw [← h4]; exact hx) k1
    have hkj : k ≠ j := by intro e; subst e; exact k2 rfl
    refine ⟨⟨v', cs', by rw [List.getElem?_set_ne (fun e => hkj e.symm)]; exact k3⟩, fun x' hx' hf' => ?_⟩
    obtain ⟨k5, _⟩ := hback x' _ (by rw [← h4]; exact hx') hf' (by intro e; cases e)
    exact k4 x' (by rw [← h4]; exact hx') k5

/-- unsafe.SliceData. -/
def asliceD (x : AV) (k : AV → Ans) : Ans :=
  match x with
  | .nilsl => k .nilptr
  | .vs j v _ n => match n with
    | 0 => none
    | _ + 1 => k (.vp j v 0)
  | _ => none
def opSliceData (dst : Option Tmp) (x : Operand) (tys : Array TypeId) (ty : TypeId) (pos : String) (after : Array Edge) : PSim P :=
  PSim.quiet (mkOp dst (.call { callee := .builtin .unsafeSliceData, args := #[x], argTypes := tys }) ty pos after) rfl [x] (fun ev k => asliceD (ev x) k) (fun ev ev' k h => by simp only [h x (by simp)]) fun ev k fin h g w a st he hs => by
    have hv := he x (by simp)
    rw [callBuiltin]
    unfold asliceD at h
    split at h
    · rename_i hb
      rw [hb] at hv
      have hv : a.eval x = .slice none 0 0 := hv
      exact ⟨_, _, h, by simp [builtin, hv, Lib.run_unsafeSliceData_nil], rfl⟩
    · rename_i j v s n hb
      split at h
      · cases h
      · rename_i n'
        rw [hb] at hv
        obtain ⟨b, c, hv, h1, h2, h3, h4⟩ := hv
        exact ⟨_, _, h, by simp [builtin, hv, Lib.run_unsafeSliceData_row (P := P) w tys ty ⟨b, 0, none⟩ (n' + 1) c (by omega)], b, rfl, h2, h3, fun e => ⟨(h4 e).1, by obtain ⟨_, C, E, fz, q, _⟩ := h4 e; exact lt_of_block q⟩⟩
    · cases h

/-- The bytes of cells, if they are bytes. -/
def byteC (c : AV) : Option Nat :=
  match c with
  | .int .u8 n => match decide (0 ≤ n) && decide (n < 256) with
    | true => some n.toNat
    | false => none
  | _ => none
def bytesC : List AV → Option (List Nat)
  | [] => some []
  | c :: cs => match byteC c with
    | some n => match bytesC cs with
      | some l => some (n :: l)
      | none => none
    | none => none
theorem byteC_of {n : Nat} (h : n < 256) : byteC (.int .u8 (n : Int)) = some n := by
  have e : (decide (0 ≤ (n : Int)) && decide ((n : Int) < 256)) = true := by simp; omega
  unfold byteC
  simp only [e, Int.toNat_natCast]
theorem byteC_spec {c : AV} {n : Nat} (h : byteC c = some n) : c = .int .u8 (n : Int) ∧ n < 256 := by
  unfold byteC at h
  split at h
  · split at h
    · rename_i m hn
      simp only [Bool.and_eq_true, decide_eq_true_eq] at hn
      cases h
      exact ⟨by rw [Int.toNat_of_nonneg hn.1], by omega⟩
    · cases h
  · cases h
theorem bytesC_bC : ∀ {l : List Nat}, (∀ x ∈ l, x < 256) → bytesC (bC l) = some l
  | [], _ => rfl
  | x :: l, h => by
    have ih := bytesC_bC (l := l) fun y hy => h y (List.mem_cons_of_mem _ hy)
    show bytesC (.int .u8 (x : Int) :: bC l) = _
    simp only [bytesC, byteC_of (h x List.mem_cons_self), ih]
theorem bytesC_rel {g : Gh} {w : World} : ∀ {cs : List AV} {l : List Nat} {vs : List Value}, bytesC cs = some l → RelAll g w cs vs → vs = l.map (fun x : Nat => Value.int .u8 (x : Int)) ∧ ∀ x ∈ l, x < 256
  | [], l, vs, h, hr => by
    simp only [bytesC, Option.some.injEq] at h
    subst h
    obtain rfl : vs = [] := hr
    exact ⟨rfl, by simp⟩
  | c :: cs, l, vs, h, hr => by
    simp only [bytesC] at h
    split at h
    · rename_i n hn
      split at h
      · rename_i l' hl
        cases h
        obtain ⟨hc, hlt⟩ := byteC_spec hn
        obtain ⟨v, vr, rfl, h1, h2⟩ := hr
        rw [hc] at h1
        obtain rfl : v = .int .u8 (n : Int) := h1
        obtain ⟨k1, k2⟩ := bytesC_rel hl h2
        refine ⟨by rw [k1]; rfl, fun x hx => ?_⟩
        rcases List.mem_cons.mp hx with rfl | hx
        · exact hlt
        · exact k2 x hx
      · cases h
    · cases h
/-- Bytes as a text. -/
def strB (l : List Nat) : ByteArray := ⟨(l.map fun n => UInt8.ofNat n).toArray⟩
/-- Does the cell ahead of a register know its row's type? -/
def tyAt (os : List Ob) (j v : Nat) : Bool :=
  match j with
  | 0 => false
  | i + 1 => match os[i]? with
    | some (.cells [_, .vs j' v' s _]) => Nat.beq j' (i + 1) && (Nat.beq v' v && Nat.beq s 1)
    | _ => false
theorem tyAt_spec {g : Gh} {st : St} {w : World} (hs : StRel g st w) {j v : Nat} (h : tyAt st.objs j v = true) {cs : List AV} (hcs : st.objs[j]? = some (.vec v cs)) {b : Nat} (hb : b < w.heap.size) (hk : g.kind b = .vec j) : ∃ C E fz, w.heap[b]? = some (.cells C E fz) ∧ okE 1 E = true := by
  unfold tyAt at h
  split at h
  · cases h
  · rename_i i
    split at h
    · rename_i x j' v' s n ho
      simp only [Bool.and_eq_true] at h
      obtain rfl := Nat.eq_of_beq_eq_true h.1
      obtain rfl := Nat.eq_of_beq_eq_true h.2.1
      obtain rfl := Nat.eq_of_beq_eq_true h.2.2
      have hil : i < g.objs.length := by rw [hs.len]; exact getElem?_lt ho
      obtain ⟨_, C, E, hC, hr, _⟩ := (hs.obj i _ _ (List.getElem?_eq_getElem hil) ho).2
      obtain ⟨u, ur, e1, _, u2, ur2, e2, h2, _⟩ := hr
      obtain ⟨b', c, _, _, q3, q4, q5⟩ := h2
      have hver := (vec_of hs q3 hcs).1
      obtain ⟨q6, C', E', fz', q7, q8, _⟩ := q5 hver.symm
      obtain rfl := (hs.vec b _ hb hk).2 b' (lt_of_block q7) q6
      exact ⟨C', E', fz', q7, q8⟩
    · cases h
/-- So many bytes, and at least one. -/
noncomputable def uOk (m : Int) (n : Nat) : Bool := opq (decide (m = n) && (decide (n ≠ 0) && decide (n ≤ 9223372036854775807)))
theorem uOk_iff {m : Int} {n : Nat} : uOk m n = true ↔ m = n ∧ n ≠ 0 ∧ n ≤ 9223372036854775807 := by rw [uOk, opq_eq]; simp
/-- unsafe.String. -/
def evid (q : AV) (j v : Nat) : Bool :=
  match q with
  | .vs j' v' s _ => Nat.beq j' j && (Nat.beq v' v && Nat.beq s 1)
  | _ => false
theorem evid_spec {g : Gh} {st : St} {w : World} (hs : StRel g st w) {j v : Nat} {q : AV} {u : Value} (h : evid q j v = true) (hq : Rel g w q u) {cs : List AV} (hcs : st.objs[j]? = some (.vec v cs)) {b : Nat} (hb : b < w.heap.size) (hk : g.kind b = .vec j) : ∃ C E fz, w.heap[b]? = some (.cells C E fz) ∧ okE 1 E = true := by
  unfold evid at h
  split at h
  · simp only [Bool.and_eq_true] at h
    obtain rfl := Nat.eq_of_beq_eq_true h.1
    obtain rfl := Nat.eq_of_beq_eq_true h.2.1
    obtain rfl := Nat.eq_of_beq_eq_true h.2.2
    obtain ⟨b', c, _, _, q3, q4, q5⟩ := hq
    have hver := (vec_of hs q3 hcs).1
    obtain ⟨q6, C', E', fz', q7, q8, _⟩ := q5 hver.symm
    obtain rfl := (hs.vec b _ hb hk).2 b' (lt_of_block q7) q6
    exact ⟨C', E', fz', q7, q8⟩
  · cases h
noncomputable def austr (p n q : AV) (st : St) (k : AV → St → Ans) : Ans :=
  match n with
  | .int .i64 m => match p with
    | .nilptr => match decide (m = 0) with
      | true => k (.str ByteArray.empty) st
      | false => none
    | .vp j v o => match Nat.beq o 0 && (tyAt st.objs j v || evid q j v) with
      | true => match st.objs[j]? with
        | some (.vec v' cs) => match Nat.beq v v' && uOk m cs.length with
          | true => onSome (bytesC cs) none fun l => k (.str (strB l)) ⟨st.objs.set j (.nov (v + 1)), st.tk⟩
          | false => none
        | _ => none
      | false => none
    | _ => none
  | _ => none
theorem austr_nat (p n q : AV) (st : St) (k : AV → St → Ans) : austr p n q st k = thenM (austr p n q st retM) k := by
  unfold austr
  split
  · split
    · split <;> rfl
    · split
      · split
        · split
          · unfold onSome
            split <;> rfl
          · rfl
        · rfl
      · rfl
    · rfl
  · rfl
noncomputable def opUString (dst : Option Tmp) (p n q : Operand) (pt it e : TypeId) (hp : P.underlying pt = some (.pointer e)) (hc : P.cellsOf e = 1) (hE : ∀ E, okE 1 E = true → E = e) (ty : TypeId) (pos : String) (after : Array Edge) : MSim P :=
  MSim.makes (mkOp dst (.call { callee := .builtin .unsafeString, args := #[p, n], argTypes := #[pt, it] }) ty pos after) rfl [p, n, q] (fun ev st k => austr (ev p) (ev n) (ev q) st k) (fun ev ev' st k h => by simp only [h p (by simp), h n (by simp), h q (by simp)]) fun ev st k fin h g w a he hs => by
    have hvp := he p (by simp)
    have hvn := he n (by simp)
    rw [callBuiltin]
    unfold austr at h
    split at h
    · rename_i m hn
      rw [hn] at hvn
      have hvn : a.eval n = .int .i64 m := hvn
      split at h
      · rename_i hb
        rw [hb] at hvp
        have hvp : a.eval p = .pointer none := hvp
        split at h
        · rename_i hm
          have hm : m = 0 := of_decide_eq_true hm
          subst hm
          exact ⟨_, _, _, g, w, h, by simp [builtin, hvp, hvn, Lib.run_unsafeString_none], rfl, hs, Ev.refl g w⟩
        · cases h
      · rename_i j v o hb
        split at h
        · rename_i hc1
          rw [Bool.and_eq_true] at hc1
          obtain rfl := Nat.eq_of_beq_eq_true hc1.1
          split at h
          · rename_i v' cs hcs
            split at h
            · rename_i hc2
              rw [Bool.and_eq_true] at hc2
              obtain rfl := Nat.eq_of_beq_eq_true hc2.1
              obtain ⟨hm, hn0, hn1⟩ := uOk_iff.mp hc2.2
              subst hm
              unfold onSome at h
              split at h
              · cases h
              · rename_i l hl
                · 
                  rw [hb] at hvp
                  obtain ⟨b, hv1, hbl, hkb, C, E, hC, hr, hrc⟩ := vp_of hs hvp hcs
                  obtain ⟨C', E', fz', hC', hok⟩ : ∃ C E fz, w.heap[b]? = some (.cells C E fz) ∧ okE 1 E = true := by
                    rcases Bool.or_eq_true .. |>.mp hc1.2 with ht | ht
                    · exact tyAt_spec hs ht hcs hbl hkb
                    · exact evid_spec hs ht (he q (by simp)) hcs hbl hkb
                  rw [hC] at hC'
                  cases hC'
                  obtain rfl := hE _ hok
                  have hrl := RelAll.length _ _ hr
                  obtain ⟨hvs, hlt⟩ := bytesC_rel hl hr
                  have hll : l.length = cs.length := by
                    have := congrArg List.length hvs
                    rw [List.length_map, ← hrl] at this
                    exact this.symm
                  have hle : cs.length ≤ C.size := by
                    rw [List.length_take] at hrl
                    have e1 : C.toList.length = C.size := Array.length_toList
                    omega
                  have hsh : w.shape? b = some (E, C.size) := by unfold World.shape?; rw [hC]
                  have hcell : ∀ i x, (l.map fun n => UInt8.ofNat n)[i]? = some x → w.cell? ((⟨b, 0, none⟩ : Addr).add i) = some (.int .u8 x.toNat) := by
                    intro i x hi
                    rw [List.getElem?_map] at hi
                    cases hli : l[i]? with
                    | none => rw [hli] at hi; cases hi
                    | some y =>
                      rw [hli] at hi
                      cases hi
                      have hy := hlt y (List.mem_of_getElem? hli)
                      have h9 : (C.toList.take cs.length)[i]? = some (Value.int .u8 (y : Int)) := by rw [hvs, List.getElem?_map, hli]; rfl
                      rw [List.getElem?_take] at h9
                      split at h9
                      · rw [add_none, Nat.zero_add, cell_of hC]
                        rw [show (UInt8.ofNat y).toNat = y from UInt8.toNat_ofNat_of_lt' hy]
                        simpa using h9
                      · cases h9
                  have hrun := Lib.run_unsafeString_row (P := P) w pt it ty E hp hc b C.size hsh (l.map fun n => UInt8.ofNat n) (by intro e; have := congrArg List.length e; simp at this; subst this; simp at hll; omega) (by rw [List.length_map]; omega) (by rw [List.length_map, hll]; omega) hcell
                  rw [List.length_map, hll] at hrun
                  have hnz : cs.length ≠ 0 := by omega
                  obtain ⟨g', k1, k2⟩ := reg_gone (w' := w.freeze ⟨b, 0, none⟩ cs.length) (fz := (0, 0 + cs.length)) hs hcs hkb hC (by unfold World.freeze; rw [if_neg hnz]) (by unfold World.freeze; rw [if_neg hnz]) (by unfold World.freeze; rw [if_neg hnz])
                    (by unfold World.freeze; rw [if_neg hnz]; simp) (fun y hy => by
                      unfold World.freeze; rw [if_neg hnz]
                      simp only [Array.getElem?_modify]
                      rw [if_neg (by omega)]) (by
                      unfold World.freeze; rw [if_neg hnz]
                      simp only [Array.getElem?_modify, if_true, hC]
                      rfl)
                  exact ⟨_, _, _, g', _, h, by simp [builtin, hv1, hvn, hrun]; rfl, rfl, k1, k2⟩
            · cases h
          · cases h
        · cases h
      · cases h
    · cases h
theorem opUString_nat {dst : Option Tmp} {p n q : Operand} {pt it e : TypeId} {hp : P.underlying pt = some (.pointer e)} {hc : P.cellsOf e = 1} {hE : ∀ E, okE 1 E = true → E = e} {ty : TypeId} {pos : String} {after : Array Edge} : (opUString (P := P) dst p n q pt it e hp hc hE ty pos after).NatM := fun ev st k => austr_nat _ _ _ _ _
theorem opSliceData_nat {dst : Option Tmp} {x : Operand} {tys : Array TypeId} {ty : TypeId} {pos : String} {after : Array Edge} : (opSliceData (P := P) dst x tys ty pos after).Nat := fun ev k => by
  show asliceD (ev x) k = thenA (asliceD (ev x) retA) k
  unfold asliceD
  split
  · rfl
  · split <;> rfl
  · rfl
theorem flatIf_nat {α : Type} {f : Fun P} {dec : List AV → Option α} {enc : α → List AV} {hde} {pre : α → Bool} {g : α → AV} {hs} {hg} {hr} : (Fun.flatIf f dec enc hde pre g hs hg hr).Nat := by
  intro args k
  simp only [Fun.flatIf]
  cases dec args with
  | none => rfl
  | some a => simp only []; cases pre a <;> rfl
theorem onStr_th {x : AV} {s s' : ByteArray → Ans} {k : Fin → St → Ans} (h : ∀ b, s b = thS (s' b) k) : onStr x s = thS (onStr x s') k := by
  unfold onStr
  split
  · exact h _
  · rfl
def dec1s : List AV → Option ByteArray
  | [x] => match x with
    | .str s => some s
    | _ => none
  | _ => none
theorem dec1s_enc : ∀ l a, dec1s l = some a → l = [.str a] := by
  intro l a h
  unfold dec1s at h
  split at h
  · split at h
    · cases h; rfl
    · cases h
  · cases h
/-! ### Numbers that aren't looked into -/
noncomputable def hideI (x : AV) : AV :=
  match x with
  | .int k n => .int k (opq n)
  | x => x
theorem hideI_eq (x : AV) : hideI x = x := by
  unfold hideI
  split
  · rw [opq_eq]
  · rfl
noncomputable def PSim.hide (y : PSim P) : PSim P where
  oper := y.oper
  plain := y.plain
  xs := y.xs
  f ev k := y.f ev fun r => k (hideI r)
  congr ev ev' k h := y.congr ev ev' _ h
  sound ev k fin h g w a st he hs := by
    obtain ⟨r, h1, h2⟩ := y.sound ev _ fin h g w a st he hs
    exact ⟨r, by rw [hideI_eq] at h1; exact h1, h2⟩
theorem PSim.hide_nat {y : PSim P} (h : y.Nat) : y.hide.Nat := fun ev k => by
  show y.f ev (fun r => k (hideI r)) = thenA (y.f ev fun r => retA (hideI r)) k
  rw [h ev (fun r => k (hideI r)), h ev (fun r => retA (hideI r))]
  cases y.f ev retA with
  | none => rfl
  | some x =>
    obtain ⟨f, s⟩ := x
    cases f with
    | ret r => simp only [thenA, retA, hideI_eq]
    | pan r => rfl
/-! ### Texts by words -/
/-- A text's bytes. -/
def strL (s : ByteArray) : List Nat := s.data.toList.map UInt8.toNat
theorem strL_lt (s : ByteArray) : ∀ x ∈ strL s, x < 256 := by
  intro x hx
  obtain ⟨c, _, rfl⟩ := List.mem_map.mp hx
  exact c.toNat_lt
theorem strL_size (s : ByteArray) : s.size = (strL s).length := by simp [strL]
theorem strL_strB {l : List Nat} (h : ∀ x ∈ l, x < 256) : strL (strB l) = l := by
  simp only [strL, strB, List.map_map]
  conv => rhs; rw [← List.map_id l]
  refine List.map_congr_left fun x hx => ?_
  show (UInt8.ofNat x).toNat = x
  exact UInt8.toNat_ofNat_of_lt' (h x hx)
theorem strB_strL (s : ByteArray) : strB (strL s) = s := by
  have : (strL s).map (fun n => UInt8.ofNat n) = s.data.toList := by
    simp only [strL, List.map_map]
    conv => rhs; rw [← List.map_id s.data.toList]
    refine List.map_congr_left fun x hx => ?_
    show UInt8.ofNat x.toNat = x
    simp
  cases s with
  | mk d => simp only [strB, this]
theorem strL_inj {a b : ByteArray} (h : strL a = strL b) : a = b := by rw [← strB_strL a, h, strB_strL]
theorem strL_append (a b : ByteArray) : strL (a ++ b) = strL a ++ strL b := by simp [strL]
theorem strL_extract (s : ByteArray) (l h : Nat) : strL (s.extract l h) = ((strL s).take h).drop l := by
  simp [strL, List.map_take, List.map_drop, List.extract_eq_take_drop, List.drop_take]
noncomputable def inT (s : ByteArray) (j : Int) : Bool := cdec (0 ≤ j ∧ j.toNat < (strL s).length)
theorem inT_iff {s : ByteArray} {j : Int} : inT s j = true ↔ 0 ≤ j ∧ j.toNat < (strL s).length := cdec_iff
noncomputable def atT (s : ByteArray) (j : Int) : Int := opq (((strL s).getD j.toNat 0 : Nat) : Int)
noncomputable def astrW (x i : AV) (k : AV → Ans) : Ans := onStr x fun s => onInt i fun _ j => branch (.bool (inT s j)) (k (.int .u8 (atT s j))) none
theorem branch_some {b : Bool} {y n : Ans} {fin : Fin × St} (h : branch (.bool b) y n = some fin) : (b = true ∧ y = some fin) ∨ (b = false ∧ n = some fin) := by
  cases b
  · exact .inr ⟨rfl, h⟩
  · exact .inl ⟨rfl, h⟩
noncomputable def opIndexStrW (dst : Option Tmp) (T : TypeId) (x i : Operand) (hT : P.underlying T = some .string) (ty : TypeId) (pos : String) (after : Array Edge) : PSim P :=
  (opIndexStr dst T x i hT ty pos after).by' (fun ev k => astrW (ev x) (ev i) k) (fun ev ev' k h => by rw [h x (by simp [opIndexStr, PSim.quiet]), h i (by simp [opIndexStr, PSim.quiet])]) fun ev k fin h => by
    obtain ⟨s, h1, h2⟩ := onStr_some h
    obtain ⟨kd, j, h3, h4⟩ := onInt_some h2
    rcases branch_some h4 with ⟨h5, h6⟩ | ⟨_, h6⟩
    · obtain ⟨h7, h8⟩ := inT_iff.mp h5
      show astr (ev x) (ev i) k = some fin
      have e : s[j.toNat]? = some (s.data.toList[j.toNat]'(by simpa [strL] using h8)) := by
        have h9 : j.toNat < s.size := by rw [strL_size]; exact h8
        rw [getElem?_pos s j.toNat h9]
        rfl
      rw [h1, h3]
      simp only [astr, if_pos h7, e]
      rw [← h6, atT, opq_eq]
      congr 2
      have h9 : j.toNat < s.data.toList.length := by simpa [strL] using h8
      simp [strL, List.getD_eq_getElem?_getD, List.getElem?_eq_getElem h9]
    · cases h6
noncomputable def inSl (s : ByteArray) (l h : Int) : Bool := cdec (0 ≤ l ∧ l ≤ h ∧ h ≤ (strL s).length)
theorem inSl_iff {s : ByteArray} {l h : Int} : inSl s l h = true ↔ 0 ≤ l ∧ l ≤ h ∧ h ≤ (strL s).length := cdec_iff
noncomputable def subT (s : ByteArray) (l h : Int) : ByteArray := opq (s.extract l.toNat h.toNat)
theorem subT_list (s : ByteArray) (l h : Int) : strL (subT s l h) = ((strL s).take h.toNat).drop l.toNat := by rw [subT, opq_eq, strL_extract]
noncomputable def aslW (x : AV) (lo hi : Option AV) (k : AV → Ans) : Ans :=
  onStr x fun s => match hi with
    | none => match lo with
      | none => none
      | some l => onInt l fun _ l => branch (.bool (inSl s l s.size)) (k (.str (subT s l s.size))) none
    | some h => onInt h fun _ h => match lo with
      | none => branch (.bool (inSl s 0 h)) (k (.str (subT s 0 h))) none
      | some l => onInt l fun _ l => branch (.bool (inSl s l h)) (k (.str (subT s l h))) none
noncomputable def opSliceStrW (dst : Option Tmp) (T : TypeId) (x : Operand) (lo hi : Option Operand) (hT : P.underlying T = some .string) (ty : TypeId) (pos : String) (after : Array Edge) : PSim P :=
  (opSliceStr dst T x lo hi hT ty pos after).by' (fun ev k => aslW (ev x) (lo.map ev) (hi.map ev) k) (fun ev ev' k h => by
    have h' : ∀ o ∈ sliceOps x lo hi none, ev o = ev' o := h
    rw [h' x sliceOps_x, map_evO h' (o := lo) sliceOps_lo, map_evO h' (o := hi) sliceOps_hi]) fun ev k fin h => by
    obtain ⟨s, h1, h2⟩ := onStr_some h
    show asliceStr (ev x) (lo.map ev) (hi.map ev) none k = some fin
    rw [h1]
    have hsz : (s.size : Int).toNat = s.size := Int.toNat_natCast _
    cases hh : hi.map ev with
    | none =>
      rw [hh] at h2
      cases hl : lo.map ev with
      | none => rw [hl] at h2; cases h2
      | some l =>
        rw [hl] at h2
        obtain ⟨kd, j, h3, h4⟩ := onInt_some h2
        rcases branch_some h4 with ⟨h5, h6⟩ | ⟨_, h6⟩
        · obtain ⟨h7, h8, h9⟩ := inSl_iff.mp h5
          rw [h3]
          simp only [asliceStr, abounds, bnd]
          rw [if_pos ⟨h7, by omega⟩, ← h6, subT, opq_eq, hsz]
        · cases h6
    | some hv =>
      rw [hh] at h2
      obtain ⟨kd, j, h3, h4⟩ := onInt_some h2
      rw [h3]
      cases hl : lo.map ev with
      | none =>
        rw [hl] at h4
        rcases branch_some h4 with ⟨h5, h6⟩ | ⟨_, h6⟩
        · obtain ⟨h7, h8, h9⟩ := inSl_iff.mp h5
          have := strL_size s
          simp only [asliceStr, abounds, bnd]
          rw [if_pos ⟨by omega, by omega⟩, ← h6, subT, opq_eq]
          rfl
        · cases h6
      | some l =>
        rw [hl] at h4
        obtain ⟨kd', i, h3', h4'⟩ := onInt_some h4
        rcases branch_some h4' with ⟨h5, h6⟩ | ⟨_, h6⟩
        · obtain ⟨h7, h8, h9⟩ := inSl_iff.mp h5
          have := strL_size s
          rw [h3']
          simp only [asliceStr, abounds, bnd]
          rw [if_pos ⟨by omega, by omega⟩, if_pos ⟨h7, by omega⟩, ← h6, subT, opq_eq]
        · cases h6
noncomputable def catOk (a b : ByteArray) : Bool := cdec ((strL a).length + (strL b).length ≤ 9223372036854775807)
noncomputable def catT (a b : ByteArray) : ByteArray := opq (a ++ b)
theorem catT_list (a b : ByteArray) : strL (catT a b) = strL a ++ strL b := by rw [catT, opq_eq, strL_append]
noncomputable def acatW (x y : AV) (k : AV → Ans) : Ans := onStr x fun a => onStr y fun b => branch (.bool (catOk a b)) (k (.str (catT a b))) none
noncomputable def opCatW (dst : Option Tmp) (T : TypeId) (x y : Operand) (T' : TypeId) (ty : TypeId) (pos : String) (after : Array Edge) : PSim P :=
  (opBinS dst .add T x y T' ty pos after).by' (fun ev k => acatW (ev x) (ev y) k) (fun ev ev' k h => by rw [h x (by simp [opBinS, PSim.quiet]), h y (by simp [opBinS, PSim.quiet])]) fun ev k fin h => by
    obtain ⟨a, h1, h2⟩ := onStr_some h
    obtain ⟨b, h3, h4⟩ := onStr_some h2
    rcases branch_some h4 with ⟨h5, h6⟩ | ⟨_, h6⟩
    · have h7 := cdec_iff.mp h5
      show abinS .add (ev x) (ev y) k = some fin
      rw [h1, h3]
      have h8 := strL_size a
      have h9 := strL_size b
      have hmax : IntKind.i64.max = 9223372036854775807 := rfl
      show (if ((a.size + b.size : Nat) : Int) > IntKind.i64.max then none else k (.str (a ++ b))) = some fin
      rw [if_neg (by rw [hmax]; omega), ← h6, catT, opq_eq]
    · cases h6
theorem branch_nat {b : Bool} {y y' : Ans} {K : AV → Ans} (h : y = thenA y' K) : branch (.bool b) y none = thenA (branch (.bool b) y' none) K := by
  cases b
  · rfl
  · exact h
theorem opIndexStrW_nat {dst : Option Tmp} {T : TypeId} {x i : Operand} {hT : P.underlying T = some .string} {ty : TypeId} {pos : String} {after : Array Edge} : (opIndexStrW (P := P) dst T x i hT ty pos after).Nat := fun ev k =>
  show astrW (ev x) (ev i) k = thenA (astrW (ev x) (ev i) retA) k from onStr_nat fun _ => onInt_nat fun _ _ => branch_nat rfl
theorem opCatW_nat {dst : Option Tmp} {T : TypeId} {x y : Operand} {T' : TypeId} {ty : TypeId} {pos : String} {after : Array Edge} : (opCatW (P := P) dst T x y T' ty pos after).Nat := fun ev k =>
  show acatW (ev x) (ev y) k = thenA (acatW (ev x) (ev y) retA) k from onStr_nat fun _ => onStr_nat fun _ => branch_nat rfl
theorem opSliceStrW_nat {dst : Option Tmp} {T : TypeId} {x : Operand} {lo hi : Option Operand} {hT : P.underlying T = some .string} {ty : TypeId} {pos : String} {after : Array Edge} : (opSliceStrW (P := P) dst T x lo hi hT ty pos after).Nat := fun ev k => by
  show aslW (ev x) (lo.map ev) (hi.map ev) k = thenA (aslW (ev x) (lo.map ev) (hi.map ev) retA) k
  refine onStr_nat fun s => ?_
  cases hi.map ev with
  | none => cases lo.map ev with
    | none => rfl
    | some l => exact onInt_nat fun _ _ => branch_nat rfl
  | some h =>
    refine onInt_nat fun _ _ => ?_
    cases lo.map ev with
    | none => exact branch_nat rfl
    | some l => exact onInt_nat fun _ _ => branch_nat rfl
/-! ### Answers of many parts that bear no memory -/
mutual
def FlatD : AV → Prop
  | .agg cs => FlatDL cs
  | .tup cs => FlatDL cs
  | .bool _ => True
  | .int _ _ => True
  | .str _ => True
  | .nilptr => True
  | .nilsl => True
  | .nilmap => True
  | .nilfn => True
  | .nilif => True
  | _ => False
def FlatDL : List AV → Prop
  | [] => True
  | x :: l => FlatD x ∧ FlatDL l
end
mutual
theorem FlatD.any {g g' : Gh} {w w' : World} : ∀ (a : AV) (v : Value), FlatD a → Rel g w a v → Rel g' w' a v
  | .agg cs, _, s, ⟨vs, r1, r2, r3⟩ => ⟨vs, r1, FlatDL.any cs vs.toList s r2, r3⟩
  | .tup cs, _, s, ⟨vs, r1, r2⟩ => ⟨vs, r1, FlatDL.any cs vs.toList s r2⟩
  | .bool _, _, _, r => r
  | .int _ _, _, _, r => r
  | .str _, _, _, r => r
  | .nilptr, _, _, r => r
  | .nilsl, _, _, r => r
  | .nilmap, _, _, r => r
  | .nilfn, _, _, r => r
  | .nilif, _, _, r => r
  | .ptr _ _, _, s, _ => s.elim
  | .eptr _, _, s, _ => s.elim
  | .sl _ _ _, _, s, _ => s.elim
  | .lg _ _ _, _, s, _ => s.elim
  | .ms _ _ _ _ _, _, s, _ => s.elim
  | .mp _, _, s, _ => s.elim
  | .fn _ _ _, _, s, _ => s.elim
  | .ifc _ _, _, s, _ => s.elim
  | .dead, _, s, _ => s.elim
  | .ns _ _ _, _, s, _ => s.elim
  | .vs _ _ _ _, _, s, _ => s.elim
  | .vp _ _ _, _, s, _ => s.elim
  | .tp _ _ _, _, s, _ => s.elim
theorem FlatDL.any {g g' : Gh} {w w' : World} : ∀ (l : List AV) (vs : List Value), FlatDL l → RelAll g w l vs → RelAll g' w' l vs
  | [], _, _, r => r
  | x :: l, _, ⟨s1, s2⟩, ⟨v, vr, r1, r2, r3⟩ => ⟨v, vr, r1, FlatD.any x v s1 r2, FlatDL.any l vr s2 r3⟩
end
theorem sealedD {id : FuncId} {args : List AV} {r : AV} {st' : St} (h : CallsTo P id args ⟨[], []⟩ (.ret r, st')) (hs : ScopedL 0 0 args) (hr : FlatD r) (st : St) : CallsTo P id args st (.ret r, st) := by
  intro g w vals hv hst
  refine (h g0 w vals (RelAll.toZero args vals.toList hs hv) (StRel.zero w hst.glob.toZero)).mono fun e w' ⟨g', h1, h2, h3⟩ => ?_
  obtain ⟨v, rfl, hv'⟩ := h1
  have hb := h3.below
  obtain ⟨k1, k2⟩ := kept hst hb.os hb.tape hb.output hb.size hb.block
  exact ⟨_, ⟨v, rfl, FlatD.any _ _ hr hv'⟩, k1, k2⟩
/-- A function whose answer bears no memory, shown at the empty state. -/
def Fun.flatD {α : Type} (f : Fun P) (dec : List AV → Option α) (enc : α → List AV) (hde : ∀ l a, dec l = some a → l = enc a) (pre : α → Bool) (g : α → AV)
    (hs : ∀ a, ScopedL 0 0 (enc a)) (hg : ∀ a, FlatD (g a)) (hrun : ∀ a, pre a = true → ∃ F st', f.run F (enc a) ⟨[], []⟩ = some (.ret (g a), st')) : POrc P where
  id := f.id
  fn := f.fn
  hf := f.hf
  hname := f.hname
  hb := by rw [f.hbody]; rfl
  F args k := match dec args with
    | some a => match pre a with
      | true => k (g a)
      | false => none
    | none => none
  sound k args fin h := by
    split at h
    · rename_i a hd
      split at h
      · rename_i hp
        obtain ⟨F, st', hF⟩ := hrun a hp
        rw [← hde args a hd] at hF
        exact ⟨g a, h, fun st => sealedD (f.sound hF) (by rw [hde args a hd]; exact hs a) (hg a) st⟩
      · cases h
    · cases h
end
end Go.V

/- Callees shown at the empty state, their answers read as less. -/
set_option linter.unusedVariables false
set_option linter.unusedSimpArgs false
namespace Go.V
section
variable {P : Program}

/-- A function that makes what it answers, shown at the empty state; its answer is read as less (g') than it is (g). -/
def Fun.seenAs {α : Type} (f : Fun P) (dec : List AV → Option α) (enc : α → List AV) (hde : ∀ l a, dec l = some a → l = enc a) (pre : α → Bool) (g' : α → AV)
    (h : ∀ a, pre a = true → ScopedL 0 0 (enc a) ∧ ∃ r F r' st', frz r' = r ∧ Scoped 0 0 r ∧ f.run F (enc a) ⟨[], []⟩ = some (.ret r', st') ∧ ∀ g w v, Rel g w r v → Rel g w (g' a) v) : POrc P where
  id := f.id
  fn := f.fn
  hf := f.hf
  hname := f.hname
  hb := by rw [f.hbody]; rfl
  F args k := match dec args with
    | some a => match pre a with
      | true => k (g' a)
      | false => none
    | none => none
  sound k args fin h' := by
    split at h'
    · rename_i a hd
      split at h'
      · rename_i hp
        obtain ⟨h1, r, F, r', st', h2, h3, h4, h5⟩ := h a hp
        subst h2
        rw [← hde args a hd] at h4 h1
        refine ⟨g' a, h', fun st gh w vals hr hs => ?_⟩
        refine (framed (f.sound h4) h1 h3 st gh w vals hr hs).mono fun e w' ⟨g2, k1, k2, k3⟩ => ?_
        obtain ⟨v, rfl, hv⟩ := k1
        exact ⟨g2, ⟨v, rfl, h5 _ _ _ hv⟩, k2, k3⟩
      · cases h'
    · cases h'
/-- The same, its arguments read as less first (enc2). -/
def Fun.seenAs2 {α : Type} (f : Fun P) (dec : List AV → Option α) (enc enc2 : α → List AV) (hde : ∀ l a, dec l = some a → l = enc a) (pre : α → Bool) (g' : α → AV)
    (h : ∀ a, pre a = true → (∀ g w vals, RelAll g w (enc a) vals → RelAll g w (enc2 a) vals) ∧ ScopedL 0 0 (enc2 a) ∧ ∃ r F r' st', frz r' = r ∧ Scoped 0 0 r ∧ f.run F (enc2 a) ⟨[], []⟩ = some (.ret r', st') ∧ ∀ g w v, Rel g w r v → Rel g w (g' a) v) : POrc P where
  id := f.id
  fn := f.fn
  hf := f.hf
  hname := f.hname
  hb := by rw [f.hbody]; rfl
  F args k := match dec args with
    | some a => match pre a with
      | true => k (g' a)
      | false => none
    | none => none
  sound k args fin h' := by
    split at h'
    · rename_i a hd
      split at h'
      · rename_i hp
        obtain ⟨h0, h1, r, F, r', st', h2, h3, h4, h5⟩ := h a hp
        subst h2
        refine ⟨g' a, h', fun st gh w vals hr hs => ?_⟩
        rw [hde args a hd] at hr
        refine (framed (f.sound h4) h1 h3 st gh w vals (h0 _ _ _ hr) hs).mono fun e w' ⟨g2, k1, k2, k3⟩ => ?_
        obtain ⟨v, rfl, hv⟩ := k1
        exact ⟨g2, ⟨v, rfl, h5 _ _ _ hv⟩, k2, k3⟩
      · cases h'
    · cases h'
/-- A slice read as one that never changes, maybe nil. -/
def nsOf (sz : Nat) (x : AV) : AV :=
  match x with
  | .nilsl => .ns true sz []
  | .sl s f l => match Nat.beq s sz with
    | true => .ns false sz l
    | false => x
  | .lg t s l => match Nat.beq s sz with
    | true => .ns false sz l
    | false => x
  | x => x
theorem nsOf_rel {sz : Nat} {g : Gh} {w : World} {x : AV} {v : Value} (h : Rel g w x v) : Rel g w (nsOf sz x) v := by
  unfold nsOf
  split
  · exact .inl ⟨rfl, rfl, h⟩
  · split
    · rename_i h1
      rw [← Nat.eq_of_beq_eq_true h1]
      obtain ⟨b, off, sp, cap, r1, r2, r3, rs, r4⟩ := h
      exact .inr ⟨rfl, b, off, sp, cap, r1, r2, rs, r4⟩
    · exact h
  · split
    · rename_i h1
      rw [← Nat.eq_of_beq_eq_true h1]
      have h2 : Rel g w (.sl _ false _) v := frz1_rel (x := .lg _ _ _) h
      obtain ⟨b, off, sp, cap, r1, r2, r3, rs, r4⟩ := h2
      exact .inr ⟨rfl, b, off, sp, cap, r1, r2, rs, r4⟩
    · exact h
  · exact h
theorem nsOf_all {sz : Nat} {g : Gh} {w : World} : ∀ {xs : List AV} {vs : List Value}, RelAll g w xs vs → RelAll g w (xs.map (nsOf sz)) vs
  | [], _, h => h
  | x :: xs, _, ⟨v, vr, e, h1, h2⟩ => ⟨v, vr, e, nsOf_rel h1, nsOf_all h2⟩
/-- A callee that reads such slices, of any. -/
def POrc.asNs (O : POrc P) (sz : _root_.Nat) : POrc P where
  id := O.id
  fn := O.fn
  hf := O.hf
  hname := O.hname
  hb := O.hb
  F args k := O.F (args.map (nsOf sz)) k
  sound k args fin h := by
    obtain ⟨r, h1, h2⟩ := O.sound _ _ _ h
    exact ⟨r, h1, fun st g w vals hr hs => h2 st g w vals (nsOf_all hr) hs⟩
end
theorem ns_of_sl {g : Gh} {w : World} {s : Nat} {f : Bool} {l : List (List AV)} {v : Value} (h : Rel g w (.sl s f l) v) : Rel g w (.ns false s l) v := by
  obtain ⟨b, off, sp, cap, r1, r2, r3, rs, r4⟩ := h
  exact .inr ⟨rfl, b, off, sp, cap, r1, r2, rs, r4⟩
theorem ns_of_nil {g : Gh} {w : World} {s : Nat} {v : Value} (h : Rel g w .nilsl v) : Rel g w (.ns true s []) v := .inl ⟨rfl, rfl, h⟩
theorem tup2_mono {g : Gh} {w : World} {x x' y : AV} {v : Value} (hx : ∀ v, Rel g w x v → Rel g w x' v) (h : Rel g w (.tup [x, y]) v) : Rel g w (.tup [x', y]) v := by
  obtain ⟨vs, h1, v1, vr, h2, h3, h4⟩ := h
  exact ⟨vs, h1, v1, vr, h2, hx _ h3, h4⟩
/-- A slice's two readings. -/
def nsSl (z : Bool) (sz : Nat) (l : List (List AV)) : AV := match z with
  | true => .nilsl
  | false => .sl sz false l
theorem nsSl_rel {g : Gh} {w : World} {z : Bool} {sz : Nat} {l : List (List AV)} {v : Value} (h : Rel g w (.ns z sz l) v) : Rel g w (nsSl z sz l) v := by
  rcases h with ⟨rfl, rfl, h⟩ | ⟨rfl, b, off, sp, cap, r1, r2, rs, r4⟩
  · exact h
  · exact ⟨b, off, sp, cap, r1, r2, fun h => (by cases h), rs, r4⟩
end Go.V

/- Package-level variables: operations that read them. -/
set_option linter.unusedVariables false
set_option linter.unusedSimpArgs false
namespace Go.V
section
variable {P : Program}

def findG (n : Nat) : List (Nat × List AV) → Option (List AV)
  | [] => none
  | x :: r => match Nat.beq x.1 n with
    | true => some x.2
    | false => findG n r
theorem findG_mem {n : Nat} : ∀ {l : List (Nat × List AV)} {cs : List AV}, findG n l = some cs → (n, cs) ∈ l
  | [], cs, h => by cases h
  | x :: r, cs, h => by
    simp only [findG] at h
    split at h
    · rename_i h1
      cases h
      obtain rfl := Nat.eq_of_beq_eq_true h1
      exact List.mem_cons_self
    · exact List.mem_cons_of_mem _ (findG_mem h)
/-- What operands say, the package-level variables among them. -/
def evG (ev : Operand → AV) (o : Operand) : AV :=
  match o with
  | .global n => match findG n globs with
    | some cs => .eptr cs
    | none => .dead
  | o => ev o
theorem EvR.glob {g : Gh} {w : World} {ev : Operand → AV} {a : Act} {xs : List Operand} (h : EvR g w ev a xs) (hG : Globs g w) : EvR g w (evG ev) a xs := by
  intro x hx
  unfold evG
  split
  · rename_i n
    split
    · rename_i cs hc
      exact ⟨n, 0, rfl, hG _ (findG_mem hc)⟩
    · trivial
  · exact h x hx
theorem evG_congr {ev ev' : Operand → AV} {xs : List Operand} (h : ∀ o ∈ xs, ev o = ev' o) : ∀ o ∈ xs, evG ev o = evG ev' o := by
  intro o ho
  unfold evG
  split
  · rfl
  · exact h o ho
def PSim.glob (x : PSim P) : PSim P :=
  ⟨x.oper, x.plain, x.xs, fun ev k => x.f (evG ev) k, fun ev ev' k h => x.congr _ _ _ (evG_congr h), fun ev k fin h g w a st he hs => x.sound (evG ev) k fin h g w a st (he.glob hs.glob) hs⟩
def QSim.glob (x : QSim P) : QSim P :=
  ⟨x.oper, x.plain, x.xs, fun ev st k => x.f (evG ev) st k, fun ev ev' st k h => x.congr _ _ _ _ (evG_congr h), fun ev st k fin h g w a he hs => x.sound (evG ev) st k fin h g w a (he.glob hs.glob) hs⟩
theorem PSim.glob_nat {x : PSim P} (h : x.Nat) : x.glob.Nat := fun ev k => h _ _
theorem QSim.glob_nat {x : QSim P} (h : x.Nat) : x.glob.Nat := fun ev st k => h _ _ _
/-- All text constants among operands are this one. -/
def constOk (s : ByteArray) (xs : List Operand) : Bool := xs.all fun o => match o with
  | .const v => match v with
    | .string t => t.data.toList == s.data.toList
    | _ => true
  | _ => true
def evN (nm : ByteArray) (ev : Operand → AV) (o : Operand) : AV :=
  match o with
  | .const v => match v with
    | .string _ => .str nm
    | v => ev (.const v)
  | o => ev o
/-- The same, a text constant under a name. -/
def PSim.named (x : PSim P) (nm s : ByteArray) (hn : nm = s) (hx : constOk s x.xs = true) : PSim P :=
  ⟨x.oper, x.plain, x.xs, fun ev k => x.f (evN nm ev) k, fun ev ev' k h => x.congr _ _ _ fun o ho => by
    unfold evN
    split
    · split
      · rfl
      · exact h _ ho
    · exact h _ ho, fun ev k fin h g w a st he hs => x.sound (evN nm ev) k fin h g w a st (fun o ho => by
    have hc := List.all_eq_true.mp hx o ho
    unfold evN
    split
    · split
      · rename_i t
        simp only [beq_iff_eq] at hc
        have : t = s := by
          have := Array.toList_inj.mp hc
          cases t; cases s; simp only at this; rw [this]
        show Value.string t = Value.string nm
        rw [hn, this]
      · exact he _ ho
    · exact he _ ho) hs⟩
theorem PSim.named_nat {x : PSim P} {nm s : ByteArray} {hn : nm = s} {hx : constOk s x.xs = true} (h : x.Nat) : (x.named nm s hn hx).Nat := fun ev k => h _ _
end
end Go.V

/- The functions' pieces, as told by gen.py. -/
set_option linter.unusedVariables false
set_option maxRecDepth 20000
namespace Go.Proofs.YtcfedmheblbdnaaDoor.V
open Go Go.V Go.RowKit

theorem fl78_0 : fieldB Tryd.prog 78 0 0 1 false = true := by kernel_rfl
theorem sz76 : (Tryd.prog.info? 76).map (·.size) = some 1 := by kernel_rfl
theorem sz78 : (Tryd.prog.info? 78).map (·.size) = some 2 := by kernel_rfl
theorem mixed : Tryd.prog.follows .mixedOrders = true := by kernel_rfl

/-! ### 73: (*strings.Builder).copyCheck (76); results ; slots: 0 b, 1 b -/
noncomputable def f73_b : Sim Tryd.prog :=
 (.seq (.live [0, 6] (.region 0 [
 ⟨(opMove (some 2) (.tmp 0) 76 "builder.go:33" #[]).op, none⟩,
 ⟨(opNilCheck (some 3) (.tmp 2) 0 "builder.go:33" #[eD 0]).op, none⟩,
 ⟨(opFieldAddr (some 4) 78 (.tmp 3) 0 0 1 false fl78_0 (by decide) 0 "builder.go:33" #[eD 1]).op, none⟩,
 ⟨(opLoadT (.one .any) (some 5) 76 (.tmp 4) (.pointer 78) Tryd.underlying76 1 sz76 (by kernel_rfl) 76 "builder.go:33" #[eD 2]).op, none⟩,
 ⟨(opEq (some 6) 76 (.pointer 78) Tryd.underlying76 (.tmp 5) (.const (Value.pointer none)) (.inl rfl) 76 4 "builder.go:33" #[eD 3]).op, none⟩
 ] (by kernel_rfl)))
 (.cond (.tmp 6)
 (.live [] (.region 1 [
 ⟨(opMove (some 7) (.tmp 0) 76 "builder.go:39" #[]).op, none⟩,
 ⟨(opMove (some 8) (.tmp 0) 76 "builder.go:39" #[]).op, none⟩,
 ⟨(opConvPU 78 2 (by decide) (some 9) 76 109 (.tmp 8) 78 Tryd.underlying76 Tryd.underlying109 2 sz78 (by decide) 109 "builder.go:39" #[eD 1]).op, none⟩,
 ⟨(opExtId 88 Tryd.f88 Tryd.func88 (by kernel_rfl) (by kernel_rfl) (by kernel_rfl) (by kernel_rfl) (some 10) (.tmp 9) #[109] 109 "builder.go:39" #[eD 2]).op, none⟩,
 ⟨(opConvUP 78 2 (some 11) 109 76 (.tmp 10) 78 Tryd.underlying109 Tryd.underlying76 2 sz78 (by kernel_rfl) 76 "builder.go:39" #[eD 3]).op, none⟩,
 ⟨(opNilCheck (some 12) (.tmp 7) 0 "builder.go:39" #[eD 0, eP 0, eP 1, eP 2, eP 3, eP 4]).op, none⟩,
 ⟨(opFieldAddr (some 13) 78 (.tmp 12) 0 0 1 false fl78_0 (by decide) 0 "builder.go:39" #[eD 5, eP 0, eP 1, eP 2, eP 3, eP 4]).op, none⟩,
 ⟨(opStore none 76 (.tmp 13) (.tmp 11) 1 sz76 0 "builder.go:39" #[eD 6, eD 4, eC 3, eP 0, eP 1, eP 2, eP 3, eP 4]).op, none⟩
 ] (by kernel_rfl)))
 (.seq (.live [19] (.region 2 [
 ⟨(opMove (some 14) (.tmp 0) 76 "builder.go:40" #[]).op, none⟩,
 ⟨(opNilCheck (some 15) (.tmp 14) 0 "builder.go:40" #[eD 0]).op, none⟩,
 ⟨(opFieldAddr (some 16) 78 (.tmp 15) 0 0 1 false fl78_0 (by decide) 0 "builder.go:40" #[eD 1]).op, none⟩,
 ⟨(opLoadT (.one .any) (some 17) 76 (.tmp 16) (.pointer 78) Tryd.underlying76 1 sz76 (by kernel_rfl) 76 "builder.go:40" #[eD 2]).op, none⟩,
 ⟨(opMove (some 18) (.tmp 0) 76 "builder.go:40" #[]).op, none⟩,
 ⟨(opNeP (some 19) 76 78 Tryd.underlying76 2 sz78 (.tmp 17) (.tmp 18) 76 4 "builder.go:40" #[eD 3, eD 4]).op, none⟩
 ] (by kernel_rfl)))
 (.cond (.tmp 19)
 (.refuse "(*strings.Builder).copyCheck builder.go:41: unsupported: a written strings.Builder's value in another place: whether the library's copy check passes hangs on where the compiler lays the two")
 .skip))))

noncomputable def f73 : Fun Tryd.prog where
 id := 73
 fn := Tryd.f73
 hf := Tryd.func73
 hname := by kernel_rfl
 body := f73_b
 hbody := by kernel_rfl
 res := []
 hres := by kernel_rfl
 n := 20
 hn := by kernel_rfl

/-! ### 89: internal/stringslite.IndexByte (9, 5); results 4; slots: 0 s, 1 c, 2 s, 3 c -/
noncomputable def f89_b : Sim Tryd.prog :=
 (.seq (.live [0, 1] (.region 0 [
 ⟨(opAssign (some 4) (.const (Value.int IntKind.i64 0)) 3 "strings.go:24" #[]).op, none⟩
 ] (by kernel_rfl)))
 (.seq (.live [4] (.region 1 [
 ⟨(opMove (some 5) (.tmp 0) 9 "strings.go:25" #[]).op, none⟩,
 ⟨(opMove (some 6) (.tmp 1) 5 "strings.go:25" #[]).op, none⟩,
 ⟨(opExtIdx 98 Tryd.f98 Tryd.func98 (by kernel_rfl) (by kernel_rfl) (by kernel_rfl) (by kernel_rfl) (some 7) (.tmp 5) (.tmp 6) #[9, 5] 3 "strings.go:25" #[eD 0, eD 1]).op, none⟩,
 ⟨(opAssign (some 4) (.tmp 7) 3 "strings.go:25" #[eD 2, eC 2, eP 0, eP 1, eP 2]).op, none⟩
 ] (by kernel_rfl)))
 (.live [4] .ret)))

noncomputable def f89 : Fun Tryd.prog where
 id := 89
 fn := Tryd.f89
 hf := Tryd.func89
 hname := by kernel_rfl
 body := f89_b
 hbody := by kernel_rfl
 res := [rTmp 4]
 hres := by kernel_rfl
 n := 8
 hn := by kernel_rfl

end Go.Proofs.YtcfedmheblbdnaaDoor.V

/- The functions' pieces, as told by gen.py. -/
set_option linter.unusedVariables false
set_option maxRecDepth 20000
namespace Go.Proofs.YtcfedmheblbdnaaDoor.V
open Go Go.V Go.RowKit

theorem fl78_1 : fieldB Tryd.prog 78 1 1 1 false = true := by kernel_rfl
theorem sz46 : (Tryd.prog.info? 46).map (·.size) = some 1 := by kernel_rfl
theorem ze5 : (Tryd.prog.info? 5).bind (·.zero) = some (.int .u8 0) := by kernel_rfl
theorem by5 : (Tryd.prog.info? 5).map (·.bytes) = some 1 := by kernel_rfl
theorem sz5 : (Tryd.prog.info? 5).map (·.size) = some 1 := by kernel_rfl
theorem el46 : ElemOf Tryd.prog 46 5 1 1 (.int .u8 0) := ⟨Tryd.underlying46, sz5, by5, ze5, by kernel_rfl, by decide⟩

/-! ### 56: (*strings.Builder).WriteByte (76, 5); results 4; slots: 0 b, 1 c, 2 b, 3 c -/
noncomputable def f56_b : Sim Tryd.prog :=
 (.seq (.live [0, 1] (.region 0 [
 ⟨(opAssign (some 4) (.const Value.nilIface) 73 "builder.go:95" #[]).op, none⟩
 ] (by kernel_rfl)))
 (.seq (.live [0, 1] (.region 1 [
 ⟨(opMove (some 5) (.tmp 0) 76 "builder.go:96" #[]).op, none⟩,
 ⟨opCall (f73.orc 0) (some 6) [(.tmp 5)] #[76] 0 "builder.go:96" #[eD 0], none⟩
 ] (by kernel_rfl)))
 (.seq (.live [] (.region 2 [
 ⟨(opMove (some 7) (.tmp 0) 76 "builder.go:97" #[]).op, none⟩,
 ⟨(opMove (some 8) (.tmp 0) 76 "builder.go:97" #[]).op, none⟩,
 ⟨(opNilCheck (some 9) (.tmp 8) 0 "builder.go:97" #[eD 1]).op, none⟩,
 ⟨(opFieldAddr (some 10) 78 (.tmp 9) 1 1 1 false fl78_1 (by decide) 0 "builder.go:97" #[eD 2]).op, none⟩,
 ⟨(opLoadT (.one .any) (some 11) 46 (.tmp 10) (.slice 5) Tryd.underlying46 1 sz46 (by kernel_rfl) 46 "builder.go:97" #[eD 3]).op, none⟩,
 ⟨(opMove (some 12) (.tmp 1) 5 "builder.go:97" #[]).op, none⟩,
 ⟨(opBuildSlice (some 13) 46 1 [(0, (.tmp 12))] 5 1 1 (.int .u8 0) el46 (by kernel_rfl) (by decide) 46 "builder.go:97" #[eD 5]).op, none⟩,
 ⟨(opAppendR (some (.tmp 10)) 1 (some 14) (.tmp 11) (.tmp 13) 46 46 5 1 1 (.int .u8 0) el46 (.slice 5) Tryd.underlying46 rfl 46 "builder.go:97" #[eD 4, eD 6]).op, none⟩,
 ⟨(opNilCheck (some 15) (.tmp 7) 0 "builder.go:97" #[eD 0, eP 0, eP 1, eP 2, eP 3, eP 4, eP 5, eP 6, eP 7]).op, none⟩,
 ⟨(opFieldAddr (some 16) 78 (.tmp 15) 1 1 1 false fl78_1 (by decide) 0 "builder.go:97" #[eD 8, eP 0, eP 1, eP 2, eP 3, eP 4, eP 5, eP 6, eP 7]).op, none⟩,
 ⟨(opStore none 46 (.tmp 16) (.tmp 14) 1 sz46 0 "builder.go:97" #[eD 9, eD 7, eC 7, eP 0, eP 1, eP 2, eP 3, eP 4, eP 5, eP 6, eP 7]).op, none⟩
 ] (by kernel_rfl)))
 (.seq (.live [4] (.region 3 [
 ⟨(opAssign (some 4) (.const Value.nilIface) 73 "builder.go:98" #[]).op, none⟩
 ] (by kernel_rfl)))
 (.live [4] .ret)))))

noncomputable def f56 : Fun Tryd.prog where
 id := 56
 fn := Tryd.f56
 hf := Tryd.func56
 hname := by kernel_rfl
 body := f56_b
 hbody := by kernel_rfl
 res := [rTmp 4]
 hres := by kernel_rfl
 n := 17
 hn := by kernel_rfl

/-! ### 57: (*strings.Builder).WriteString (76, 9); results 4, 5; slots: 0 b, 1 s, 2 b, 3 s -/
noncomputable def f57_b : Sim Tryd.prog :=
 (.seq (.live [0, 1] (.region 0 [
 ⟨(opAssign (some 4) (.const (Value.int IntKind.i64 0)) 3 "builder.go:112" #[]).op, none⟩,
 ⟨(opAssign (some 5) (.const Value.nilIface) 73 "builder.go:112" #[eC 0]).op, none⟩
 ] (by kernel_rfl)))
 (.seq (.live [0, 1] (.region 1 [
 ⟨(opMove (some 6) (.tmp 0) 76 "builder.go:113" #[]).op, none⟩,
 ⟨opCall (f73.orc 0) (some 7) [(.tmp 6)] #[76] 0 "builder.go:113" #[eD 0], none⟩
 ] (by kernel_rfl)))
 (.seq (.live [1] (.region 2 [
 ⟨(opMove (some 8) (.tmp 0) 76 "builder.go:114" #[]).op, none⟩,
 ⟨(opMove (some 9) (.tmp 0) 76 "builder.go:114" #[]).op, none⟩,
 ⟨(opNilCheck (some 10) (.tmp 9) 0 "builder.go:114" #[eD 1]).op, none⟩,
 ⟨(opFieldAddr (some 11) 78 (.tmp 10) 1 1 1 false fl78_1 (by decide) 0 "builder.go:114" #[eD 2]).op, none⟩,
 ⟨(opLoadT (.one .any) (some 12) 46 (.tmp 11) (.slice 5) Tryd.underlying46 1 sz46 (by kernel_rfl) 46 "builder.go:114" #[eD 3]).op, none⟩,
 ⟨(opMove (some 13) (.tmp 1) 9 "builder.go:114" #[]).op, none⟩,
 ⟨(opAppendR (some (.tmp 11)) 1 (some 14) (.tmp 12) (.tmp 13) 46 9 5 1 1 (.int .u8 0) el46 .string Tryd.underlying9 rfl 46 "builder.go:114" #[eD 4, eD 5]).op, none⟩,
 ⟨(opNilCheck (some 15) (.tmp 8) 0 "builder.go:114" #[eD 0, eP 0, eP 1, eP 2, eP 3, eP 4, eP 5, eP 6]).op, none⟩,
 ⟨(opFieldAddr (some 16) 78 (.tmp 15) 1 1 1 false fl78_1 (by decide) 0 "builder.go:114" #[eD 7, eP 0, eP 1, eP 2, eP 3, eP 4, eP 5, eP 6]).op, none⟩,
 ⟨(opStore none 46 (.tmp 16) (.tmp 14) 1 sz46 0 "builder.go:114" #[eD 8, eD 6, eC 6, eP 0, eP 1, eP 2, eP 3, eP 4, eP 5, eP 6]).op, none⟩
 ] (by kernel_rfl)))
 (.seq (.live [4, 5] (.region 3 [
 ⟨(opMove (some 17) (.tmp 1) 9 "builder.go:115" #[]).op, none⟩,
 ⟨(opLen (some 18) (.tmp 17) 9 .string Tryd.underlying9 3 "builder.go:115" #[eD 0]).op, none⟩,
 ⟨(opAssign (some 4) (.tmp 18) 3 "builder.go:115" #[eD 1, eP 0, eP 1]).op, none⟩,
 ⟨(opAssign (some 5) (.const Value.nilIface) 73 "builder.go:115" #[eC 2, eP 0, eP 1, eP 2]).op, none⟩
 ] (by kernel_rfl)))
 (.live [4, 5] .ret)))))

noncomputable def f57 : Fun Tryd.prog where
 id := 57
 fn := Tryd.f57
 hf := Tryd.func57
 hname := by kernel_rfl
 body := f57_b
 hbody := by kernel_rfl
 res := [rTmp 4, rTmp 5]
 hres := by kernel_rfl
 n := 19
 hn := by kernel_rfl

/-! ### 58: (*strings.Builder).String (76); results 2; slots: 0 b, 1 b -/
noncomputable def f58_b : Sim Tryd.prog :=
 (.seq (.live [0] (.region 0 [
 ⟨(opAssign (some 2) (.const (Value.string { data := #[] })) 9 "builder.go:46" #[]).op, none⟩
 ] (by kernel_rfl)))
 (.seq (.live [2] (.draw 1 [
 ⟨.p (opMove (some 3) (.tmp 0) 76 "builder.go:47" #[]), none⟩,
 ⟨.p (opNilCheck (some 4) (.tmp 3) 0 "builder.go:47" #[eD 0]), none⟩,
 ⟨.pn (opFieldAddr (some 5) 78 (.tmp 4) 1 1 1 false fl78_1 (by decide) 0 "builder.go:47" #[eD 1]) opFieldAddr_nat, none⟩,
 ⟨.qn (opLoadT (.one .any) (some 6) 46 (.tmp 5) (.slice 5) Tryd.underlying46 1 sz46 (by kernel_rfl) 46 "builder.go:47" #[eD 2]) opLoadT_nat, none⟩,
 ⟨.pn (opSliceData (some 7) (.tmp 6) #[46] 93 "builder.go:47" #[eD 3]) opSliceData_nat, none⟩,
 ⟨.p (opMove (some 8) (.tmp 0) 76 "builder.go:47" #[]), none⟩,
 ⟨.p (opNilCheck (some 9) (.tmp 8) 0 "builder.go:47" #[eD 5]), none⟩,
 ⟨.pn (opFieldAddr (some 10) 78 (.tmp 9) 1 1 1 false fl78_1 (by decide) 0 "builder.go:47" #[eD 6]) opFieldAddr_nat, none⟩,
 ⟨.qn (opLoadT (.one .any) (some 11) 46 (.tmp 10) (.slice 5) Tryd.underlying46 1 sz46 (by kernel_rfl) 46 "builder.go:47" #[eD 7]) opLoadT_nat, none⟩,
 ⟨.p (opLen (some 12) (.tmp 11) 46 (.slice 5) Tryd.underlying46 3 "builder.go:47" #[eD 8]), none⟩,
 ⟨.mn (opUString (some 13) (.tmp 7) (.tmp 12) (.tmp 7) 93 3 5 Tryd.underlying93 (by kernel_rfl) (by intro E h; simpa [okE] using h) 9 "builder.go:47" #[eD 4, eD 9]) opUString_nat, none⟩,
 ⟨.p (opAssign (some 2) (.tmp 13) 9 "builder.go:47" #[eD 10, eP 0, eP 1, eP 2, eP 3, eP 4, eP 5, eP 6, eP 7, eP 8, eP 9, eP 10]), none⟩
 ] mixed (by kernel_rfl)))
 (.live [2] .ret)))

noncomputable def f58 : Fun Tryd.prog where
 id := 58
 fn := Tryd.f58
 hf := Tryd.func58
 hname := by kernel_rfl
 body := f58_b
 hbody := by kernel_rfl
 res := [rTmp 2]
 hres := by kernel_rfl
 n := 14
 hn := by kernel_rfl

end Go.Proofs.YtcfedmheblbdnaaDoor.V

/- What the functions' runs come to; the right sides were printed by a tool, Lean checks them. -/
set_option linter.unusedVariables false
set_option maxRecDepth 100000
namespace Go.Proofs.YtcfedmheblbdnaaDoor.V
open Go Go.V Go.RowKit

theorem wb0_run (F v : Nat) (c : Int) :
 (f56.run F [.tp 0 78 2, .int .u8 c] ⟨[.cells [.nilptr, .nilsl], .nov v], []⟩ : Ans) =
 branch (AV.bool (apOk 1 1))
 (some
 (Fin.ret AV.nilif,
 St.mk
 [Ob.cells [AV.tp 0 78 2, AV.vs 1 (v + 1) 1 1],
 Ob.vec (v + 1) (catC [] 0 [[AV.int IntKind.u8 c]])]
 []))
 none := by kernel_rfl

theorem wb1_run (F v : Nat) (c : Int) :
 (f56.run F [.tp 0 78 2, .int .u8 c] ⟨[.cells [.tp 0 78 2, .nilsl], .nov v], []⟩ : Ans) =
 branch (AV.bool (apOk 1 1))
 (some
 (Fin.ret AV.nilif,
 St.mk
 [Ob.cells [AV.tp 0 78 2, AV.vs 1 (v + 1) 1 1],
 Ob.vec (v + 1) (catC [] 0 [[AV.int IntKind.u8 c]])]
 []))
 none := by kernel_rfl

theorem wb2_run (F v n : Nat) (c : Int) (cs : List AV) :
 (f56.run F [.tp 0 78 2, .int .u8 c] ⟨[.cells [.tp 0 78 2, .vs 1 v 1 n], .vec v cs], []⟩ : Ans) =
 branch (AV.bool (v.beq v && (inC cs 0 (mulN n 1) && apOk (n + 1) 1)))
 (some
 (Fin.ret AV.nilif,
 St.mk
 [Ob.cells [AV.tp 0 78 2, AV.vs 1 (v + 1) 1 (n + 1)],
 Ob.vec (v + 1) (catC cs (mulN n 1) [[AV.int IntKind.u8 c]])]
 []))
 none := by kernel_rfl

theorem ws0_run (F v : Nat) (s : ByteArray) :
 (f57.run F [.tp 0 78 2, .str s] ⟨[.cells [.nilptr, .nilsl], .nov v], []⟩ : Ans) =
 branch
 (AV.bool (apOk (List.map (fun (c : UInt8) => [AV.int IntKind.u8 (↑c.toNat : Int)]) s.data.toList).length 1))
 (branch
 (AV.bool ((List.map (fun (c : UInt8) => [AV.int IntKind.u8 (↑c.toNat : Int)]) s.data.toList).length.beq 0))
 (some
 (Fin.ret (AV.tup [AV.int IntKind.i64 (↑s.size : Int), AV.nilif]),
 St.mk [Ob.cells [AV.tp 0 78 2, AV.nilsl], Ob.nov v] []))
 (some
 (Fin.ret (AV.tup [AV.int IntKind.i64 (↑s.size : Int), AV.nilif]),
 St.mk
 [Ob.cells
 [AV.tp 0 78 2,
 AV.vs 1 (v + 1) 1
 (List.map (fun (c : UInt8) => [AV.int IntKind.u8 (↑c.toNat : Int)]) s.data.toList).length],
 Ob.vec (v + 1)
 (catC [] 0 (List.map (fun (c : UInt8) => [AV.int IntKind.u8 (↑c.toNat : Int)]) s.data.toList))]
 [])))
 none := by kernel_rfl

theorem ws1_run (F v : Nat) (s : ByteArray) :
 (f57.run F [.tp 0 78 2, .str s] ⟨[.cells [.tp 0 78 2, .nilsl], .nov v], []⟩ : Ans) =
 branch
 (AV.bool (apOk (List.map (fun (c : UInt8) => [AV.int IntKind.u8 (↑c.toNat : Int)]) s.data.toList).length 1))
 (branch
 (AV.bool ((List.map (fun (c : UInt8) => [AV.int IntKind.u8 (↑c.toNat : Int)]) s.data.toList).length.beq 0))
 (some
 (Fin.ret (AV.tup [AV.int IntKind.i64 (↑s.size : Int), AV.nilif]),
 St.mk [Ob.cells [AV.tp 0 78 2, AV.nilsl], Ob.nov v] []))
 (some
 (Fin.ret (AV.tup [AV.int IntKind.i64 (↑s.size : Int), AV.nilif]),
 St.mk
 [Ob.cells
 [AV.tp 0 78 2,
 AV.vs 1 (v + 1) 1
 (List.map (fun (c : UInt8) => [AV.int IntKind.u8 (↑c.toNat : Int)]) s.data.toList).length],
 Ob.vec (v + 1)
 (catC [] 0 (List.map (fun (c : UInt8) => [AV.int IntKind.u8 (↑c.toNat : Int)]) s.data.toList))]
 [])))
 none := by kernel_rfl

theorem ws2_run (F v n : Nat) (s : ByteArray) (cs : List AV) :
 (f57.run F [.tp 0 78 2, .str s] ⟨[.cells [.tp 0 78 2, .vs 1 v 1 n], .vec v cs], []⟩ : Ans) =
 branch
 (AV.bool
 (v.beq v &&
 (inC cs 0 (mulN n 1) &&
 apOk (n + (List.map (fun (c : UInt8) => [AV.int IntKind.u8 (↑c.toNat : Int)]) s.data.toList).length)
 1)))
 (some
 (Fin.ret (AV.tup [AV.int IntKind.i64 (↑s.size : Int), AV.nilif]),
 St.mk
 [Ob.cells
 [AV.tp 0 78 2,
 AV.vs 1 (v + 1) 1
 (n + (List.map (fun (c : UInt8) => [AV.int IntKind.u8 (↑c.toNat : Int)]) s.data.toList).length)],
 Ob.vec (v + 1)
 (catC cs (mulN n 1)
 (List.map (fun (c : UInt8) => [AV.int IntKind.u8 (↑c.toNat : Int)]) s.data.toList))]
 []))
 none := by kernel_rfl

theorem st0_run (F v : Nat) :
 (f58.run F [.tp 0 78 2] ⟨[.cells [.nilptr, .nilsl], .nov v], []⟩ : Ans) =
 some (Fin.ret (AV.str ByteArray.empty), St.mk [Ob.cells [AV.nilptr, AV.nilsl], Ob.nov v] []) := by kernel_rfl

theorem st1_run (F v : Nat) :
 (f58.run F [.tp 0 78 2] ⟨[.cells [.tp 0 78 2, .nilsl], .nov v], []⟩ : Ans) =
 some (Fin.ret (AV.str ByteArray.empty), St.mk [Ob.cells [AV.tp 0 78 2, AV.nilsl], Ob.nov v] []) := by kernel_rfl

theorem st2_run (F v n : Nat) (cs : List AV) :
 (f58.run F [.tp 0 78 2] ⟨[.cells [.tp 0 78 2, .vs 1 v 1 n.succ], .vec v cs], []⟩ : Ans) =
 branch
 (AV.bool
 (true &&
 (tyAt [Ob.cells [AV.tp 0 78 2, AV.vs 1 v 1 n.succ], Ob.vec v cs] 1
 v ||
 false)))
 (branch (AV.bool (v.beq v && uOk (↑n.succ : Int) cs.length))
 (onSome (bytesC cs) none fun (o : List Nat) =>
 some
 (Fin.ret (AV.str (strB o)),
 St.mk
 [Ob.cells [AV.tp 0 78 2, AV.vs 1 v 1 n.succ],
 Ob.nov (v + 1)]
 []))
 none)
 none := by kernel_rfl

end Go.Proofs.YtcfedmheblbdnaaDoor.V

/- Values: strings.Builder, as data: what its methods do. -/
set_option linter.unusedVariables false
namespace Go.Proofs.YtcfedmheblbdnaaDoor.V
open Go Go.V Go.RowKit

/-- A builder: fresh, used without a byte, with bytes, given up. -/
inductive Bd where
  | fresh (v : Nat)
  | idle (v : Nat)
  | has (v : Nat) (l : List Nat)
  | spent (v n : Nat)
def Bd.obs : Bd → List Ob
  | .fresh v => [.cells [.nilptr, .nilsl], .nov v]
  | .idle v => [.cells [.tp 0 78 2, .nilsl], .nov v]
  | .has v l => [.cells [.tp 0 78 2, .vs 1 v 1 l.length], .vec v (bC l)]
  | .spent v n => [.cells [.tp 0 78 2, .vs 1 v 1 n], .nov (v + 1)]
def Bd.Ok : Bd → Prop
  | .has _ l => l ≠ [] ∧ ∀ x ∈ l, x < 256
  | _ => True
def Bd.bytes : Bd → List Nat
  | .has _ l => l
  | _ => []
def Bd.live : Bd → Bool
  | .spent _ _ => false
  | _ => true
def Bd.ver : Bd → Nat
  | .fresh v => v
  | .idle v => v
  | .has v _ => v
  | .spent v _ => v
/-- Bytes more. -/
def Bd.put (X : Bd) (bs : List Nat) : Bd :=
  match X with
  | .fresh v => match bs with
    | [] => .idle v
    | b :: bs => .has (v + 1) (b :: bs)
  | .idle v => match bs with
    | [] => .idle v
    | b :: bs => .has (v + 1) (b :: bs)
  | .has v l => .has (v + 1) (l ++ bs)
  | .spent v n => .spent v n
def Bd.out : Bd → Bd
  | .has v l => .spent v l.length
  | X => X
theorem bC_inj : ∀ {l m : List Nat}, bC l = bC m → l = m
  | [], [], _ => rfl
  | [], _ :: _, h => by cases h
  | _ :: _, [], h => by cases h
  | x :: l, y :: m, h => by
    simp only [bC, List.map_cons, List.cons.injEq, AV.int.injEq, true_and] at h
    rw [bC_inj (l := l) (m := m) h.2, show x = y by omega]
theorem bC_near (n : Nat) : ∀ l : List Nat, NearL n (bC l)
  | [] => trivial
  | _ :: l => ⟨trivial, bC_near n l⟩
theorem bC_append (a b : List Nat) : bC (a ++ b) = bC a ++ bC b := by simp [bC]
def BdA : ADT Bd where
  m := 2
  p := 0
  hp := by omega
  obs := Bd.obs
  Ok := Bd.Ok
  len x := by cases x <;> rfl
  near x hx o ho := by
    cases x <;> simp only [Bd.obs, List.mem_cons, List.not_mem_nil, or_false] at ho <;> rcases ho with rfl | rfl
    · exact ⟨trivial, trivial, trivial⟩
    · trivial
    · exact ⟨by show 0 < 2; omega, trivial, trivial⟩
    · trivial
    · exact ⟨by show 0 < 2; omega, by show 1 < 2; omega, trivial⟩
    · exact bC_near 2 _
    · exact ⟨by show 0 < 2; omega, by show 1 < 2; omega, trivial⟩
    · trivial
  inj x y hx hy h := by
    cases x <;> cases y <;> simp [Bd.obs] at h
    · subst h; rfl
    · subst h; rfl
    · obtain ⟨⟨rfl, _⟩, h2⟩ := h
      rw [bC_inj h2.2]
    · obtain ⟨rfl, rfl⟩ := h.1
      rfl
theorem Bd.Ok.put {X : Bd} (h : X.Ok) {bs : List Nat} (hb : ∀ x ∈ bs, x < 256) : (X.put bs).Ok := by
  cases X with
  | fresh v => cases bs with
    | nil => trivial
    | cons b bs => exact ⟨by simp, hb⟩
  | idle v => cases bs with
    | nil => trivial
    | cons b bs => exact ⟨by simp, hb⟩
  | has v l =>
    refine ⟨by simp [h.1], fun x hx => ?_⟩
    rcases List.mem_append.mp hx with hx | hx
    · exact h.2 x hx
    · exact hb x hx
  | spent v n => trivial
theorem Bd.put_bytes {X : Bd} (h : X.live = true) (bs : List Nat) : (X.put bs).bytes = X.bytes ++ bs ∧ (X.put bs).live = true := by
  cases X with
  | fresh v => cases bs <;> exact ⟨rfl, rfl⟩
  | idle v => cases bs <;> exact ⟨rfl, rfl⟩
  | has v l => exact ⟨rfl, rfl⟩
  | spent v n => cases h
theorem Bd.Ok.out {X : Bd} (h : X.Ok) : X.out.Ok := by cases X <;> first | trivial | exact h

theorem catC_nil (r : List (List AV)) : catC [] 0 r = r.flatten := by rw [catC, opq_eq]; simp
theorem catC_end {l : List Nat} {n : Nat} (h : n = l.length) (r : List (List AV)) : catC (bC l) (mulN n 1) r = bC l ++ r.flatten := by
  subst h
  rw [catC, opq_eq, mulN, opq_eq, Nat.mul_one, List.take_of_length_le (by rw [bC_length]; exact Nat.le_refl _)]
theorem strL_rows (s : ByteArray) : List.map (fun (c : UInt8) => [AV.int IntKind.u8 (↑c.toNat : Int)]) s.data.toList = bR (strL s) := by simp [bR, strL]
theorem bR_flatten (l : List Nat) : (bR l).flatten = bC l := by
  induction l with
  | nil => rfl
  | cons x l ih => show [AV.int .u8 (x : Int)] ++ (bR l).flatten = _; rw [ih]; rfl
theorem wb_can {F : Nat} {X : Bd} (h : X.Ok) (hl : X.live = true) (hn : X.bytes.length < 1000000000) (c : Nat) :
    f56.run F [.tp 0 78 2, .int .u8 (c : Int)] ⟨X.obs, []⟩ = some (.ret .nilif, ⟨(X.put [c]).obs, []⟩) := by
  cases X with
  | fresh v => rw [Bd.obs, wb0_run, branch_of (by rw [apOk_iff]; omega), catC_nil]; rfl
  | idle v => rw [Bd.obs, wb1_run, branch_of (by rw [apOk_iff]; omega), catC_nil]; rfl
  | has v l =>
    simp only [Bd.bytes] at hn
    rw [Bd.obs, wb2_run, branch_of (by rw [Nat.beq_refl, show inC (bC l) 0 (mulN l.length 1) = true by rw [inC_iff, mulN, opq_eq, bC_length]; omega, show apOk (l.length + 1) 1 = true by rw [apOk_iff]; omega]; rfl), catC_end rfl]
    simp only [Bd.put, Bd.obs, bC_append, List.length_append, List.length_singleton]
    rfl
  | spent v n => cases hl
theorem ws_can {F : Nat} {X : Bd} (h : X.Ok) (hl : X.live = true) (s : ByteArray) (hn : X.bytes.length + (strL s).length < 1000000000) :
    f57.run F [.tp 0 78 2, .str s] ⟨X.obs, []⟩ = some (.ret (.tup [.int .i64 (s.size : Int), .nilif]), ⟨(X.put (strL s)).obs, []⟩) := by
  have hf := strL_rows s
  cases X with
  | fresh v =>
    rw [Bd.obs, ws0_run, hf, branch_of (by rw [apOk_iff, bR_length]; omega)]
    cases hs : strL s with
    | nil => rw [branch_of (show ((bR []).length.beq 0) = true from rfl)]; rfl
    | cons x l => rw [branch_not (by rw [bR_length]; rfl), catC_nil, bR_flatten]; simp only [Bd.put, Bd.obs, bR_length]
  | idle v =>
    rw [Bd.obs, ws1_run, hf, branch_of (by rw [apOk_iff, bR_length]; omega)]
    cases hs : strL s with
    | nil => rw [branch_of (show ((bR []).length.beq 0) = true from rfl)]; rfl
    | cons x l => rw [branch_not (by rw [bR_length]; rfl), catC_nil, bR_flatten]; simp only [Bd.put, Bd.obs, bR_length]
  | has v l =>
    simp only [Bd.bytes] at hn
    rw [Bd.obs, ws2_run, hf, branch_of (by rw [Nat.beq_refl, show inC (bC l) 0 (mulN l.length 1) = true by rw [inC_iff, mulN, opq_eq, bC_length]; omega, show apOk (l.length + (bR (strL s)).length) 1 = true by rw [apOk_iff, bR_length]; omega]; rfl), catC_end rfl, bR_flatten, bR_length]
    simp only [Bd.put, Bd.obs, bC_append, List.length_append]
  | spent v n => cases hl
theorem st_can {F : Nat} {X : Bd} (h : X.Ok) (hl : X.live = true) (hn : X.bytes.length < 1000000000) :
    f58.run F [.tp 0 78 2] ⟨X.obs, []⟩ = some (.ret (.str (strB X.bytes)), ⟨X.out.obs, []⟩) := by
  cases X with
  | fresh v => rw [Bd.obs, st0_run]; rfl
  | idle v => rw [Bd.obs, st1_run]; rfl
  | has v l =>
    simp only [Bd.bytes] at hn ⊢
    obtain ⟨n, hn'⟩ : ∃ n, l.length = n.succ := ⟨l.length - 1, by have := List.length_pos_iff.mpr h.1; omega⟩
    rw [Bd.obs, hn', st2_run, branch_of (show (true && (tyAt [Ob.cells [AV.tp 0 78 2, AV.vs 1 v 1 n.succ], Ob.vec v (bC l)] 1 v || false)) = true by
      show ((Nat.beq 1 1 && (Nat.beq v v && Nat.beq 1 1)) || false) = true
      simp), branch_of (by rw [Nat.beq_refl, show uOk (n.succ : Int) (bC l).length = true by rw [uOk_iff, bC_length]; omega]; rfl), bytesC_bC h.2]
    simp only [Bd.out, Bd.obs, hn']
    rfl
  | spent v n => cases hl

/-! ### The methods as callees -/
noncomputable def onB (x : AV) (st : St) (k : Nat → Bd → Ans) : Ans :=
  match x with
  | .tp j E n => match Nat.beq E 78 && Nat.beq n 2 with
    | true => BdA.on (.ptr j 0) st k
    | false => none
  | _ => none
theorem onB_spec {x : AV} {st : St} {k : Nat → Bd → Ans} {fin : Fin × St} (h : onB x st k = some fin) : ∃ i X, x = .tp i 78 2 ∧ BdA.Here st i X ∧ k i X = some fin := by
  unfold onB at h
  split at h
  · split at h
    · rename_i hc
      rw [Bool.and_eq_true] at hc
      obtain rfl := Nat.eq_of_beq_eq_true hc.1
      obtain rfl := Nat.eq_of_beq_eq_true hc.2
      obtain ⟨i, X, h1, h2, h3⟩ := ADT.on_spec h
      cases h1
      exact ⟨_, _, rfl, h2, h3⟩
    · cases h
  · cases h
noncomputable def Bd.fits (X : Bd) (n : Nat) : Bool := cdec (X.live = true ∧ X.bytes.length + n < 1000000000)
theorem Bd.fits_iff {X : Bd} {n : Nat} : X.fits n = true ↔ X.live = true ∧ X.bytes.length + n < 1000000000 := cdec_iff
noncomputable def s56 : OrcS Tryd.prog := f56.by'
  (fun args st k => match args with
    | [x, c] => onB x st fun i X => onInt c fun kd c => ifT (decide (kd = .u8) && (cdec (0 ≤ c ∧ c < 256) && X.fits 1)) (k (.ret .nilif) (BdA.pl st i (X.put [c.toNat])))
    | _ => none)
  fun args st k fin h => by
    split at h
    · rename_i x c
      obtain ⟨i, X, rfl, hd, g1⟩ := onB_spec h
      obtain ⟨kd, c, g2, rfl⟩ := onInt_spec g1
      obtain ⟨hk, g3⟩ := ifT_spec g2
      simp only [Bool.and_eq_true, decide_eq_true_eq, cdec_iff, Bd.fits_iff] at hk
      obtain ⟨rfl, ⟨c0, c1⟩, hl, hn⟩ := hk
      obtain ⟨c, rfl⟩ := Int.eq_ofNat_of_zero_le c0
      have hrun := wb_can (F := 0) hd.ok hl (by omega) c
      rw [← List.append_nil (Bd.obs _)] at hrun
      have := ADT.placed (A := BdA) (f := f56) (r := .nilif) (args0 := [.tp 0 78 2, .int .u8 (c : Int)]) (xs := []) (x := X) (y := X.put [c]) (by rw [List.append_nil] at hrun ⊢; exact hrun) (hd.ok.put (by intro x hx; simp at hx; omega)) ⟨by show 0 < 2; omega, trivial, trivial⟩ trivial hd
      exact ⟨_, _, g3, this⟩
    · cases h
noncomputable def s57 : OrcS Tryd.prog := f57.by'
  (fun args st k => match args with
    | [x, y] => onB x st fun i X => onStr y fun s => ifT (X.fits (strL s).length) (k (.ret (.tup [.int .i64 (s.size : Int), .nilif])) (BdA.pl st i (X.put (strL s))))
    | _ => none)
  fun args st k fin h => by
    split at h
    · rename_i x y
      obtain ⟨i, X, rfl, hd, g1⟩ := onB_spec h
      obtain ⟨s, rfl, g2⟩ := onStr_some g1
      obtain ⟨hk, g3⟩ := ifT_spec g2
      simp only [Bd.fits_iff] at hk
      have hrun := ws_can (F := 0) hd.ok hk.1 s hk.2
      have := ADT.placed (A := BdA) (f := f57) (r := .tup [.int .i64 (s.size : Int), .nilif]) (args0 := [.tp 0 78 2, .str s]) (xs := []) (x := X) (y := X.put (strL s)) (by rw [List.append_nil]; exact hrun) (hd.ok.put (strL_lt s)) ⟨by show 0 < 2; omega, trivial, trivial⟩ ⟨trivial, trivial, trivial⟩ hd
      exact ⟨_, _, g3, this⟩
    · cases h
noncomputable def s58 : OrcS Tryd.prog := f58.by'
  (fun args st k => match args with
    | [x] => onB x st fun i X => ifT (X.fits 0) (k (.ret (.str (strB X.bytes))) (BdA.pl st i X.out))
    | _ => none)
  fun args st k fin h => by
    split at h
    · rename_i x
      obtain ⟨i, X, rfl, hd, g1⟩ := onB_spec h
      obtain ⟨hk, g2⟩ := ifT_spec g1
      simp only [Bd.fits_iff] at hk
      have hrun := st_can (F := 0) hd.ok hk.1 (by omega)
      have := ADT.placed (A := BdA) (f := f58) (r := .str (strB X.bytes)) (args0 := [.tp 0 78 2]) (xs := []) (x := X) (y := X.out) (by rw [List.append_nil]; exact hrun) hd.ok.out ⟨by show 0 < 2; omega, trivial⟩ trivial hd
      exact ⟨_, _, g2, this⟩
    · cases h
theorem onB_th {x : AV} {st : St} {s s' : Nat → Bd → Ans} {k : Fin → St → Ans} (h : ∀ i y, s i y = thS (s' i y) k) : onB x st s = thS (onB x st s') k := by
  unfold onB
  split
  · split
    · exact ADT.on_th h
    · rfl
  · rfl
theorem s57_nat : s57.NatS := by
  intro args st k
  show s57.sem args st k = thS (s57.sem args st (fun r st' => some (r, st'))) k
  simp only [s57, Fun.by']
  split
  · exact onB_th fun i X => onStr_th fun s => ifT_th rfl
  · rfl
end Go.Proofs.YtcfedmheblbdnaaDoor.V

/- The functions' pieces, as told by gen.py. -/
set_option linter.unusedVariables false
set_option maxRecDepth 20000
namespace Go.Proofs.YtcfedmheblbdnaaDoor.V
open Go Go.V Go.RowKit


/-! ### 78: strings.IndexByte (9, 5); results 4; slots: 0 s, 1 c, 2 s, 3 c -/
noncomputable def f78_b : Sim Tryd.prog :=
 (.seq (.live [0, 1] (.region 0 [
 ⟨(opAssign (some 4) (.const (Value.int IntKind.i64 0)) 3 "strings.go:102" #[]).op, none⟩
 ] (by kernel_rfl)))
 (.seq (.live [4] (.region 1 [
 ⟨(opMove (some 5) (.tmp 0) 9 "strings.go:103" #[]).op, none⟩,
 ⟨(opMove (some 6) (.tmp 1) 5 "strings.go:103" #[]).op, none⟩,
 ⟨opCall (f89.orc 0) (some 7) [(.tmp 5), (.tmp 6)] #[9, 5] 3 "strings.go:103" #[eD 0, eD 1], none⟩,
 ⟨(opAssign (some 4) (.tmp 7) 3 "strings.go:103" #[eD 2, eC 2, eP 0, eP 1, eP 2]).op, none⟩
 ] (by kernel_rfl)))
 (.live [4] .ret)))

noncomputable def f78 : Fun Tryd.prog where
 id := 78
 fn := Tryd.f78
 hf := Tryd.func78
 hname := by kernel_rfl
 body := f78_b
 hbody := by kernel_rfl
 res := [rTmp 4]
 hres := by kernel_rfl
 n := 8
 hn := by kernel_rfl

end Go.Proofs.YtcfedmheblbdnaaDoor.V

/- The functions' pieces, as told by gen.py. -/
set_option linter.unusedVariables false
set_option maxRecDepth 20000
namespace Go.Proofs.YtcfedmheblbdnaaDoor.V
open Go Go.V Go.RowKit


/-! ### 69: interlock/value.digit (5); results 2; slots: 0 c, 1 c -/
noncomputable def f69_b : Sim Tryd.prog :=
 (.seq (.live [0] (.region 0 [
 ⟨(opAssign (some 2) (.const (Value.int IntKind.i64 0)) 3 "value.go:153" #[]).op, none⟩
 ] (by kernel_rfl)))
 (.seq (.live [2] (.region 1 [
 ⟨(opMove (some 3) (.tmp 0) 5 "value.go:153" #[]).op, none⟩,
 ⟨opCall (f78.orc 0) (some 4) [(.const (Value.string { data := #[48, 49, 50, 51, 52, 53, 54, 55, 56, 57, 97, 98, 99, 100, 101, 102] })), (.tmp 3)] #[9, 5] 3 "value.go:153" #[eD 0], none⟩,
 ⟨(opAssign (some 2) (.tmp 4) 3 "value.go:153" #[eD 1, eC 1, eP 0, eP 1]).op, none⟩
 ] (by kernel_rfl)))
 (.live [2] .ret)))

noncomputable def f69 : Fun Tryd.prog where
 id := 69
 fn := Tryd.f69
 hf := Tryd.func69
 hname := by kernel_rfl
 body := f69_b
 hbody := by kernel_rfl
 res := [rTmp 2]
 hres := by kernel_rfl
 n := 5
 hn := by kernel_rfl

end Go.Proofs.YtcfedmheblbdnaaDoor.V

/- What the functions' runs come to; the right sides were printed by a tool, Lean checks them. -/
set_option linter.unusedVariables false
set_option maxRecDepth 100000
namespace Go.Proofs.YtcfedmheblbdnaaDoor.V
open Go Go.V Go.RowKit

theorem dig_run (F : Nat) (c : Int) (st : St) :
 (f69.run F [.int .u8 c] st : Ans) =
 some
 (Fin.ret
 (AV.int IntKind.i64
 (idxB
 (ByteArray.mk
 #[(48 : UInt8), (49 : UInt8), (50 : UInt8), (51 : UInt8), (52 : UInt8), (53 : UInt8), (54 : UInt8),
 (55 : UInt8), (56 : UInt8), (57 : UInt8), (97 : UInt8), (98 : UInt8), (99 : UInt8), (100 : UInt8),
 (101 : UInt8), (102 : UInt8)])
 c)),
 st) := by kernel_rfl

end Go.Proofs.YtcfedmheblbdnaaDoor.V

/- Values: a digit to the base 16. -/
set_option linter.unusedVariables false
namespace Go.Proofs.YtcfedmheblbdnaaDoor.V
open Go Go.V Go.RowKit

def hexB : ByteArray := ⟨#[48, 49, 50, 51, 52, 53, 54, 55, 56, 57, 97, 98, 99, 100, 101, 102]⟩
/-- The number of a digit; below 0: it is none. -/
def digH (c : Nat) : Int := bif Nat.ble 48 c && Nat.ble c 57 then (c : Int) - 48 else bif Nat.ble 97 c && Nat.ble c 102 then (c : Int) - 87 else -1
theorem dig_all : (List.range 256).all (fun c => decide (idxB hexB (c : Int) = digH c)) = true := by kernel_rfl
theorem dig_eq {c : Nat} (h : c < 256) : idxB hexB (c : Int) = digH c := by
  have := List.all_eq_true.mp dig_all c (List.mem_range.mpr h)
  exact of_decide_eq_true this
noncomputable def digO (c : Int) : Int := opq (digH c.toNat)
def dec1c : List AV → Option Int
  | [.int .u8 c] => some c
  | _ => none
theorem dec1c_enc : ∀ l a, dec1c l = some a → l = [.int .u8 a] := by
  intro l a h
  unfold dec1c at h
  split at h
  · cases h; rfl
  · cases h
noncomputable def p69 : POrc Tryd.prog := f69.flatIf dec1c (fun c => [.int .u8 c]) dec1c_enc (fun c => cdec (0 ≤ c ∧ c < 256)) (fun c => .int .i64 (digO c)) (fun _ => ⟨trivial, trivial⟩) (fun _ => trivial) fun c hc => ⟨0, ⟨[], []⟩, by
  obtain ⟨h0, h1⟩ := cdec_iff.mp hc
  obtain ⟨c, rfl⟩ := Int.eq_ofNat_of_zero_le h0
  rw [dig_run, digO, opq_eq, Int.toNat_natCast, ← dig_eq (by omega)]; rfl⟩
theorem p69_nat : p69.Nat := flatIf_nat
end Go.Proofs.YtcfedmheblbdnaaDoor.V

/- The functions' pieces, as told by gen.py. -/
set_option linter.unusedVariables false
set_option maxRecDepth 20000
namespace Go.Proofs.YtcfedmheblbdnaaDoor.V
open Go Go.V Go.RowKit

theorem ze78 : (Tryd.prog.info? 78).bind (·.zero) = some (.agg #[(.pointer none), (.slice none 0 0)]) := by kernel_rfl

/-! ### 34: interlock/value.quoted (9); results 2; slots: 0 s, 1 s, 3 b, 4 i, 5 c -/
/-- A loop's round; at its head live: 0 s, 3 b, 8 , 9  -/
noncomputable def f34_l0 : Sim Tryd.prog :=
 (.seq (.live [0, 3, 8, 9, 10] (.region 4 [
 ⟨(opBin (some 10) .lss 3 (.tmp 9) (.tmp 8) 3 4 "value.go:126" #[]).op, none⟩
 ] (by kernel_rfl)))
 (.seq (.cond (.tmp 10)
 .skip
 (.live [3] (.exit 0)))
 (.seq (.block 1 (.seq (.live [0, 3, 4, 8, 9] (.region 5 [
 ⟨(opMove (some 11) (.tmp 9) 3 "value.go:126" #[]).op, none⟩,
 ⟨(opAssign (some 4) (.tmp 11) 3 "value.go:126" #[eD 0, eP 0]).op, none⟩
 ] (by kernel_rfl)))
 (.seq (.live [0, 3, 5, 8, 9] (.region 6 [
 ⟨(opMove (some 12) (.tmp 0) 9 "value.go:127" #[]).op, none⟩,
 ⟨(opMove (some 13) (.tmp 4) 3 "value.go:127" #[]).op, none⟩,
 ⟨(PSim.hide (opIndexStrW (some 14) 9 (.tmp 12) (.tmp 13) Tryd.underlying9 5 "value.go:127" #[eD 0, eD 1])).op, none⟩,
 ⟨(opAssign (some 5) (.tmp 14) 5 "value.go:127" #[eD 2, eP 0, eP 1, eP 2]).op, none⟩
 ] (by kernel_rfl)))
 (.block 2 (.seq (.live [0, 3, 5, 8, 9, 17] (.region 8 [
 ⟨(opMove (some 18) (.tmp 5) 5 "value.go:128" #[]).op, none⟩,
 ⟨(opBin (some 19) .lss 5 (.tmp 18) (.const (Value.int IntKind.u8 32)) 5 4 "value.go:128" #[eD 0]).op, none⟩,
 ⟨(opMove (some 20) (.tmp 19) 4 "value.go:128" #[eD 1]).op, none⟩,
 ⟨(opMove (some 21) (.tmp 5) 5 "value.go:128" #[eG 2]).op, (some (2, 20, false))⟩,
 ⟨(opBin (some 22) .gtr 5 (.tmp 21) (.const (Value.int IntKind.u8 126)) 5 4 "value.go:128" #[eD 3, eG 2]).op, (some (2, 20, false))⟩,
 ⟨(opPick (some 23) (.tmp 20) (.const (Value.bool true)) (.tmp 22) 4 "value.go:128" #[eD 2, eD 4]).op, none⟩,
 ⟨(opMove (some 24) (.tmp 23) 4 "value.go:128" #[eD 5, eC 2]).op, none⟩,
 ⟨(opMove (some 25) (.tmp 5) 5 "value.go:128" #[eG 6]).op, (some (6, 24, false))⟩,
 ⟨(opBin (some 26) .eql 5 (.tmp 25) (.const (Value.int IntKind.u8 34)) 5 4 "value.go:128" #[eD 7, eG 6]).op, (some (6, 24, false))⟩,
 ⟨(opPick (some 27) (.tmp 24) (.const (Value.bool true)) (.tmp 26) 4 "value.go:128" #[eD 6, eD 8]).op, none⟩,
 ⟨(opMove (some 28) (.tmp 27) 4 "value.go:128" #[eD 9, eC 6]).op, none⟩,
 ⟨(opMove (some 29) (.tmp 5) 5 "value.go:128" #[eG 10]).op, (some (10, 28, false))⟩,
 ⟨(opBin (some 30) .eql 5 (.tmp 29) (.const (Value.int IntKind.u8 92)) 5 4 "value.go:128" #[eD 11, eG 10]).op, (some (10, 28, false))⟩,
 ⟨(opPick (some 31) (.tmp 28) (.const (Value.bool true)) (.tmp 30) 4 "value.go:128" #[eD 10, eD 12]).op, none⟩,
 ⟨(opAssign (some 17) (.tmp 31) 4 "value.go:128" #[eD 13, eC 10]).op, none⟩
 ] (by kernel_rfl)))
 (.cond (.tmp 17)
 (.live [0, 3, 8, 9] (.draw 9 [
 ⟨.p (opMove (some 32) (.tmp 5) 5 "value.go:129" #[]), none⟩,
 ⟨.pn (PSim.hide (opBin (some 33) .shr 5 (.tmp 32) (.const (Value.int IntKind.u64 4)) 80 5 "value.go:129" #[eD 0])) (PSim.hide_nat opBin_nat), none⟩,
 ⟨.p (opMove (some 34) (.tmp 5) 5 "value.go:129" #[]), none⟩,
 ⟨.pn (PSim.hide (opBin (some 35) .shr 5 (.tmp 34) (.const (Value.int IntKind.u64 4)) 80 5 "value.go:129" #[eD 2])) (PSim.hide_nat opBin_nat), none⟩,
 ⟨.pn (PSim.hide (opBin (some 36) .add 5 (.tmp 35) (.const (Value.int IntKind.u8 1)) 5 5 "value.go:129" #[eD 3])) (PSim.hide_nat opBin_nat), none⟩,
 ⟨.pn (opSliceStrW (some 37) 9 (.const (Value.string { data := #[48, 49, 50, 51, 52, 53, 54, 55, 56, 57, 97, 98, 99, 100, 101, 102] })) (some (.tmp 33)) (some (.tmp 36)) Tryd.underlying9 9 "value.go:129" #[eD 1, eD 4]) opSliceStrW_nat, none⟩,
 ⟨.pn (opCatW (some 38) 9 (.const (Value.string { data := #[92] })) (.tmp 37) 9 9 "value.go:129" #[eD 5]) opCatW_nat, none⟩,
 ⟨.p (opMove (some 39) (.tmp 5) 5 "value.go:129" #[]), none⟩,
 ⟨.pn (PSim.hide (opBin (some 40) .and 5 (.tmp 39) (.const (Value.int IntKind.u8 15)) 5 5 "value.go:129" #[eD 7])) (PSim.hide_nat opBin_nat), none⟩,
 ⟨.p (opMove (some 41) (.tmp 5) 5 "value.go:129" #[]), none⟩,
 ⟨.pn (PSim.hide (opBin (some 42) .and 5 (.tmp 41) (.const (Value.int IntKind.u8 15)) 5 5 "value.go:129" #[eD 9])) (PSim.hide_nat opBin_nat), none⟩,
 ⟨.pn (PSim.hide (opBin (some 43) .add 5 (.tmp 42) (.const (Value.int IntKind.u8 1)) 5 5 "value.go:129" #[eD 10])) (PSim.hide_nat opBin_nat), none⟩,
 ⟨.pn (opSliceStrW (some 44) 9 (.const (Value.string { data := #[48, 49, 50, 51, 52, 53, 54, 55, 56, 57, 97, 98, 99, 100, 101, 102] })) (some (.tmp 40)) (some (.tmp 43)) Tryd.underlying9 9 "value.go:129" #[eD 8, eD 11]) opSliceStrW_nat, none⟩,
 ⟨.pn (opCatW (some 45) 9 (.tmp 38) (.tmp 44) 9 9 "value.go:129" #[eD 6, eD 12]) opCatW_nat, none⟩,
 ⟨.mn (opCallM (s57) (some 46) [(.tmp 3), (.tmp 45)] #[78, 9] 74 "value.go:129" #[eD 13]) (opCallM_nat s57_nat), none⟩
 ] mixed (by kernel_rfl)))
 (.live [0, 3, 8, 9] (.region 7 [
 ⟨(opMove (some 15) (.tmp 5) 5 "value.go:131" #[]).op, none⟩,
 ⟨opCall (s56).orc (some 16) [(.tmp 3), (.tmp 15)] #[78, 5] 73 "value.go:131" #[eD 0], none⟩
 ] (by kernel_rfl)))))))))
 (.live [0, 3, 8, 9] (.region 10 [
 ⟨(opBin (some 47) .add 3 (.tmp 9) (.const (Value.int IntKind.i64 1)) 3 3 "value.go:126" #[]).op, none⟩,
 ⟨(opMove (some 9) (.tmp 47) 3 "value.go:126" #[eD 0]).op, none⟩
 ] (by kernel_rfl))))))

/-- What follows a loop. -/
noncomputable def f34_r0 : Sim Tryd.prog :=
 (.seq (.live [2] (.region 11 [
 ⟨opCall (s58).orc (some 48) [(.tmp 3)] #[78] 9 "value.go:134" #[], none⟩,
 ⟨(opCatW (some 49) 9 (.tmp 48) (.const (Value.string { data := #[34] })) 9 9 "value.go:134" #[eD 0]).op, none⟩,
 ⟨(opAssign (some 2) (.tmp 49) 9 "value.go:134" #[eD 1, eC 0, eP 0, eP 1]).op, none⟩
 ] (by kernel_rfl)))
 (.live [2] .ret))

noncomputable def f34_b : Sim Tryd.prog :=
 (.seq (.live [0] (.region 0 [
 ⟨(opAssign (some 2) (.const (Value.string { data := #[] })) 9 "value.go:123" #[]).op, none⟩
 ] (by kernel_rfl)))
 (.seq (.live [0, 3] (.region 1 [
 ⟨(MSim.ph (opAllocT 2 (some 3) 78 (.agg #[(.pointer none), (.slice none 0 0)]) ze78 (by kernel_rfl) 0 "value.go:124" #[]) 1).op, none⟩
 ] (by kernel_rfl)))
 (.seq (.live [0, 3] (.region 2 [
 ⟨opCall (s56).orc (some 6) [(.tmp 3), (.const (Value.int IntKind.u8 34))] #[78, 5] 73 "value.go:125" #[], none⟩
 ] (by kernel_rfl)))
 (.seq (.seq (.live [0, 3, 8, 9] (.region 3 [
 ⟨(opMove (some 7) (.tmp 0) 9 "value.go:126" #[]).op, none⟩,
 ⟨(opLen (some 8) (.tmp 7) 9 .string Tryd.underlying9 3 "value.go:126" #[eD 0]).op, none⟩,
 ⟨(opMove (some 9) (.const (Value.int IntKind.i64 0)) 3 "value.go:126" #[]).op, none⟩
 ] (by kernel_rfl)))
 (.block 0 (.loop [0, 3, 8, 9] f34_l0)))
 f34_r0))))

noncomputable def f34 : Fun Tryd.prog where
 id := 34
 fn := Tryd.f34
 hf := Tryd.func34
 hname := by kernel_rfl
 body := f34_b
 hbody := by kernel_rfl
 res := [rTmp 2]
 hres := by kernel_rfl
 n := 50
 hn := by kernel_rfl

/-! ### 52: interlock/value.unquoted (9); results 2, 3; slots: 0 s, 1 s, 4 b, 5 c -/
/-- A loop's round; at its head live: 0 s, 4 b -/
noncomputable def f52_l0 : Sim Tryd.prog :=
 (.seq (.seq (.live [0, 4, 8] (.region 2 [
 ⟨(opMove (some 6) (.tmp 0) 9 "value.go:158" #[]).op, none⟩,
 ⟨(opLen (some 7) (.tmp 6) 9 .string Tryd.underlying9 3 "value.go:158" #[eD 0]).op, none⟩,
 ⟨(opBin (some 8) .gtr 3 (.tmp 7) (.const (Value.int IntKind.i64 0)) 3 4 "value.go:158" #[eD 1]).op, none⟩
 ] (by kernel_rfl)))
 (.cond (.tmp 8)
 .skip
 (.live [4] (.exit 0))))
 (.block 1 (.seq (.live [0, 4, 5] (.region 3 [
 ⟨(opMove (some 9) (.tmp 0) 9 "value.go:159" #[]).op, none⟩,
 ⟨(PSim.hide (opIndexStrW (some 10) 9 (.tmp 9) (.const (Value.int IntKind.i64 0)) Tryd.underlying9 5 "value.go:159" #[eD 0])).op, none⟩,
 ⟨(opAssign (some 5) (.tmp 10) 5 "value.go:159" #[eD 1, eP 0, eP 1]).op, none⟩
 ] (by kernel_rfl)))
 (.seq (.live [0, 4, 5] (.region 4 [
 ⟨(opMove (some 11) (.tmp 0) 9 "value.go:160" #[]).op, none⟩,
 ⟨(opSliceStrW (some 12) 9 (.tmp 11) (some (.const (Value.int IntKind.i64 1))) none Tryd.underlying9 9 "value.go:160" #[eD 0]).op, none⟩,
 ⟨(opAssign (some 0) (.tmp 12) 9 "value.go:160" #[eD 1, eP 0, eP 1]).op, none⟩
 ] (by kernel_rfl)))
 (.seq (.seq (.live [0, 4, 5, 14] (.region 5 [
 ⟨(opMove (some 13) (.tmp 5) 5 "value.go:161" #[]).op, none⟩,
 ⟨(opBin (some 14) .eql 5 (.tmp 13) (.const (Value.int IntKind.u8 92)) 5 4 "value.go:161" #[eD 0]).op, none⟩
 ] (by kernel_rfl)))
 (.cond (.tmp 14)
 (.seq (.seq (.live [0, 4, 29] (.region 6 [
 ⟨(opMove (some 15) (.tmp 0) 9 "value.go:162" #[]).op, none⟩,
 ⟨(opLen (some 16) (.tmp 15) 9 .string Tryd.underlying9 3 "value.go:162" #[eD 0]).op, none⟩,
 ⟨(opBin (some 17) .lss 3 (.tmp 16) (.const (Value.int IntKind.i64 2)) 3 4 "value.go:162" #[eD 1]).op, none⟩,
 ⟨(opMove (some 18) (.tmp 17) 4 "value.go:162" #[eD 2]).op, none⟩,
 ⟨(opMove (some 19) (.tmp 0) 9 "value.go:162" #[eG 3]).op, (some (3, 18, false))⟩,
 ⟨(PSim.hide (opIndexStrW (some 20) 9 (.tmp 19) (.const (Value.int IntKind.i64 0)) Tryd.underlying9 5 "value.go:162" #[eD 4, eG 3])).op, (some (3, 18, false))⟩,
 ⟨(opCallP p69 (some 21) [(.tmp 20)] #[5] 3 "value.go:162" #[eD 5, eC 3, eG 3]).op, (some (3, 18, false))⟩,
 ⟨(opBin (some 22) .lss 3 (.tmp 21) (.const (Value.int IntKind.i64 0)) 3 4 "value.go:162" #[eD 6, eG 3]).op, (some (3, 18, false))⟩,
 ⟨(opPick (some 23) (.tmp 18) (.const (Value.bool true)) (.tmp 22) 4 "value.go:162" #[eD 3, eD 7]).op, none⟩,
 ⟨(opMove (some 24) (.tmp 23) 4 "value.go:162" #[eD 8, eC 6]).op, none⟩,
 ⟨(opMove (some 25) (.tmp 0) 9 "value.go:162" #[eG 9]).op, (some (9, 24, false))⟩,
 ⟨(PSim.hide (opIndexStrW (some 26) 9 (.tmp 25) (.const (Value.int IntKind.i64 1)) Tryd.underlying9 5 "value.go:162" #[eD 10, eG 9])).op, (some (9, 24, false))⟩,
 ⟨(opCallP p69 (some 27) [(.tmp 26)] #[5] 3 "value.go:162" #[eD 11, eC 9, eG 9]).op, (some (9, 24, false))⟩,
 ⟨(opBin (some 28) .lss 3 (.tmp 27) (.const (Value.int IntKind.i64 0)) 3 4 "value.go:162" #[eD 12, eG 9]).op, (some (9, 24, false))⟩,
 ⟨(opPick (some 29) (.tmp 24) (.const (Value.bool true)) (.tmp 28) 4 "value.go:162" #[eD 9, eD 13]).op, none⟩
 ] (by kernel_rfl)))
 (.cond (.tmp 29)
 (.seq (.live [2, 3] (.region 7 [
 ⟨(opAssign (some 2) (.const (Value.string { data := #[] })) 9 "value.go:163" #[]).op, none⟩,
 ⟨(opAssign (some 3) (.const (Value.bool false)) 4 "value.go:163" #[eC 0, eP 0]).op, none⟩
 ] (by kernel_rfl)))
 (.live [2, 3] .ret))
 .skip))
 (.seq (.live [0, 4, 5] (.draw 8 [
 ⟨.p (opMove (some 30) (.tmp 0) 9 "value.go:165" #[]), none⟩,
 ⟨.pn (PSim.hide (opIndexStrW (some 31) 9 (.tmp 30) (.const (Value.int IntKind.i64 0)) Tryd.underlying9 5 "value.go:165" #[eD 0])) (PSim.hide_nat opIndexStrW_nat), none⟩,
 ⟨.pn (opCallP p69 (some 32) [(.tmp 31)] #[5] 3 "value.go:165" #[eD 1]) (opCallP_nat p69_nat), none⟩,
 ⟨.pn (PSim.hide (opBin (some 33) .shl 3 (.tmp 32) (.const (Value.int IntKind.u64 4)) 80 3 "value.go:165" #[eD 2])) (PSim.hide_nat opBin_nat), none⟩,
 ⟨.p (opMove (some 34) (.tmp 0) 9 "value.go:165" #[]), none⟩,
 ⟨.pn (PSim.hide (opIndexStrW (some 35) 9 (.tmp 34) (.const (Value.int IntKind.i64 1)) Tryd.underlying9 5 "value.go:165" #[eD 4])) (PSim.hide_nat opIndexStrW_nat), none⟩,
 ⟨.pn (opCallP p69 (some 36) [(.tmp 35)] #[5] 3 "value.go:165" #[eD 5, eC 2]) (opCallP_nat p69_nat), none⟩,
 ⟨.pn (PSim.hide (opBin (some 37) .or 3 (.tmp 33) (.tmp 36) 3 3 "value.go:165" #[eD 3, eD 6])) (PSim.hide_nat opBin_nat), none⟩,
 ⟨.pn (PSim.hide (opConvInt (some 38) 3 5 (.tmp 37) (.int .i64) Tryd.underlying3 .u8 Tryd.underlying5 5 "value.go:165" #[eD 7])) (PSim.hide_nat opConvInt_nat), none⟩,
 ⟨.p (opAssign (some 5) (.tmp 38) 5 "value.go:165" #[eD 8, eC 6, eP 0, eP 1, eP 2, eP 3, eP 4, eP 5, eP 6, eP 7, eP 8]), none⟩
 ] mixed (by kernel_rfl)))
 (.live [0, 4, 5] (.region 9 [
 ⟨(opMove (some 39) (.tmp 0) 9 "value.go:166" #[]).op, none⟩,
 ⟨(opSliceStrW (some 40) 9 (.tmp 39) (some (.const (Value.int IntKind.i64 2))) none Tryd.underlying9 9 "value.go:166" #[eD 0]).op, none⟩,
 ⟨(opAssign (some 0) (.tmp 40) 9 "value.go:166" #[eD 1, eP 0, eP 1]).op, none⟩
 ] (by kernel_rfl)))))
 .skip))
 (.live [0, 4] (.region 10 [
 ⟨(opMove (some 41) (.tmp 5) 5 "value.go:168" #[]).op, none⟩,
 ⟨opCall (s56).orc (some 42) [(.tmp 4), (.tmp 41)] #[78, 5] 73 "value.go:168" #[eD 0], none⟩
 ] (by kernel_rfl))))))))

/-- What follows a loop. -/
noncomputable def f52_r0 : Sim Tryd.prog :=
 (.seq (.live [2, 3] (.region 11 [
 ⟨opCall (s58).orc (some 43) [(.tmp 4)] #[78] 9 "value.go:170" #[], none⟩,
 ⟨(opAssign (some 2) (.tmp 43) 9 "value.go:170" #[eD 0, eC 0, eP 0]).op, none⟩,
 ⟨(opAssign (some 3) (.const (Value.bool true)) 4 "value.go:170" #[eC 1, eP 0, eP 1]).op, none⟩
 ] (by kernel_rfl)))
 (.live [2, 3] .ret))

noncomputable def f52_b : Sim Tryd.prog :=
 (.seq (.live [0] (.region 0 [
 ⟨(opAssign (some 2) (.const (Value.string { data := #[] })) 9 "value.go:156" #[]).op, none⟩,
 ⟨(opAssign (some 3) (.const (Value.bool false)) 4 "value.go:156" #[eC 0]).op, none⟩
 ] (by kernel_rfl)))
 (.seq (.live [0, 4] (.region 1 [
 ⟨(MSim.ph (opAllocT 2 (some 4) 78 (.agg #[(.pointer none), (.slice none 0 0)]) ze78 (by kernel_rfl) 0 "value.go:157" #[]) 1).op, none⟩
 ] (by kernel_rfl)))
 (.seq (.block 0 (.loop [0, 4] f52_l0))
 f52_r0)))

noncomputable def f52 : Fun Tryd.prog where
 id := 52
 fn := Tryd.f52
 hf := Tryd.func52
 hname := by kernel_rfl
 body := f52_b
 hbody := by kernel_rfl
 res := [rTmp 2, rTmp 3]
 hres := by kernel_rfl
 n := 44
 hn := by kernel_rfl

end Go.Proofs.YtcfedmheblbdnaaDoor.V
