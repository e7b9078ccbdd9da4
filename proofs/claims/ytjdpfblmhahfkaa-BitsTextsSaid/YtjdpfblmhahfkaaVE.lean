/- What a law's arguments are, as abstract values: read off their reading. -/
import Derived.Test.YtjdpfblmhahfkaaVC
import Derived.ChangeArms
import Derived.DataReads
import Derived.SizedLaws
import Derived.WideShapes
import Derived.ChangeShapes
set_option linter.unusedVariables false
set_option linter.unusedSimpArgs false
namespace Go.V
open Go.WideShapes

/-- A shape of values. -/
inductive Ty where
  | bool
  | int (k : IntKind)
  | str
  | sl (e : Ty) (bytes : Nat)
  | st (fs : List Ty)

mutual
def Ty.size : Ty → Nat
  | .bool => 1
  | .int _ => 1
  | .str => 1
  | .sl _ _ => 1
  | .st fs => Ty.sizes fs
def Ty.sizes : List Ty → Nat
  | [] => 0
  | y :: r => y.size + Ty.sizes r
end

mutual
/-- A type of the program has this shape. -/
def Ty.ok (P : Program) : Ty → TypeId → Bool
  | .bool, t => match P.underlying t with
    | some .bool => true
    | _ => false
  | .int k, t => match P.underlying t with
    | some (.int k') => decide (k' = k)
    | _ => false
  | .str, t => match P.underlying t with
    | some .string => true
    | _ => false
  | .sl e b, t => match P.underlying t with
    | some (.slice u) => Nat.beq (P.cellsOf u) e.size && (Nat.blt 0 e.size && (Nat.beq (P.bytesOf u) b && e.ok P u))
    | _ => false
  | .st fs, t => match P.underlying t with
    | some (.struct F) => Nat.beq (P.cellsOf t) (Ty.sizes fs) && Ty.oks P fs F.toList 0
    | _ => false
def Ty.oks (P : Program) : List Ty → List Field → Nat → Bool
  | [], [], _ => true
  | y :: r, f :: F, o => Nat.beq f.offset o && (Nat.beq (P.cellsOf f.type) y.size && (y.ok P f.type && Ty.oks P r F (o + y.size)))
  | _, _, _ => false
end

mutual
/-- Cells of this shape. -/
def Ty.Shape : Ty → List AV → Prop
  | .bool, as => ∃ b, as = [.bool b]
  | .int k, as => ∃ n, as = [.int k n] ∧ (Lit.int k n).wf = true
  | .str, as => ∃ s : ByteArray, as = [.str s] ∧ s.size ≤ reachBytes
  | .sl e b, as => as = [.nilsl] ∨ ∃ l, as = [.sl e.size false l] ∧ l.length * b ≤ reachBytes ∧ l.length ≤ maxLen ∧ ∀ r ∈ l, e.Shape r
  | .st fs, as => Ty.Shapes fs as
def Ty.Shapes : List Ty → List AV → Prop
  | [], as => as = []
  | y :: r, as => ∃ a b, as = a ++ b ∧ y.Shape a ∧ Ty.Shapes r b
end

section
variable {P : Program} {H : Type} {enc : TypeId × Value → H} {W : World} {base : Nat} {spare : Nat → Bool} {held : Bool}

theorem RelCells.ofCells : ∀ (as : List AV) (cs : List Value) (b off : Nat), RelAll g0 W as cs → (∀ u ∈ cs, u.oneCell' = true) → (∀ i u, cs[i]? = some u → W.cell? ⟨b, off + i, none⟩ = some u) → RelCells g0 W as b off
  | [], _, _, _, _, _, _ => trivial
  | a :: as, _, b, off, ⟨v, vr, rfl, h1, h2⟩, h3, h4 => by
    refine ⟨⟨v, by simpa using h4 0 v rfl, trivial, h3 v (by simp), h1⟩, RelCells.ofCells as vr b (off + 1) h2 (fun u hu => h3 u (by simp [hu])) fun i u hu => ?_⟩
    have := h4 (i + 1) u (by simpa using hu)
    rwa [show off + (i + 1) = off + 1 + i by omega] at this

theorem cell_spot {a : Addr} {u : Value} (h : W.cell? a = some u) : a.spot = none := by
  unfold World.cell? at h
  split at h
  · split at h
    · cases h
    · rename_i hs; cases hsp : a.spot with
      | none => rfl
      | some s => rw [hsp] at hs; simp at hs
  · cases h

/-- Rows, one by one. -/
theorem rows_of_reads {sz : Nat} (hsz : 0 < sz) {Q : List AV → Prop} {b off : Nat} : ∀ (n k : Nat), (∀ i, i < n → ∃ as cs, RelAll g0 W as cs ∧ as.length = sz ∧ Q as ∧ (∀ u ∈ cs, u.oneCell' = true) ∧ ∀ j u, cs[j]? = some u → W.cell? ⟨b, off + (k + i) * sz + j, none⟩ = some u) →
    ∃ l, l.length = n ∧ (∀ r ∈ l, Q r) ∧ RelRows g0 W sz l b (off + k * sz)
  | 0, k, _ => ⟨[], rfl, by simp, trivial⟩
  | n + 1, k, h => by
    obtain ⟨l, h1, h2, h3⟩ := rows_of_reads hsz (b := b) (off := off) (Q := Q) n (k + 1) fun i hi => by
      have := h (i + 1) (by omega)
      rwa [show k + (i + 1) = k + 1 + i by omega] at this
    obtain ⟨as, cs, k1, k2, k3, k4, k5⟩ := h 0 (by omega)
    refine ⟨as :: l, by simp [h1], fun r hr => ?_, k2, RelCells.ofCells as cs b _ k1 k4 (by simpa using k5), ?_⟩
    · rcases List.mem_cons.mp hr with rfl | hr
      · exact k3
      · exact h2 r hr
    · rw [show off + k * sz + sz = off + (k + 1) * sz by rw [Nat.add_mul]; omega]; exact h3

mutual
theorem Ty.read : ∀ (y : Ty) (t : TypeId) (cs : List Value) (x : DataW H × List MemPlace) (fuel : Nat), y.ok P t = true → DataW.trod enc P W base spare held fuel t cs = some x → (∀ n ∈ x.1.weights P t, n ≤ reachBytes) →
    ∃ as, RelAll g0 W as cs ∧ y.Shape as ∧ as.length = y.size ∧ ∀ u ∈ cs, u.oneCell' = true
  | .bool, t, cs, x, fuel, hk, h, hw => by
    unfold Ty.ok at hk
    split at hk
    · rename_i ht
      obtain ⟨b, rfl, _⟩ := DataW.trod_bool ht h
      exact ⟨[.bool b], ⟨_, _, rfl, rfl, rfl⟩, ⟨b, rfl⟩, rfl, by simp [Value.oneCell']⟩
    · cases hk
  | .int k, t, cs, x, fuel, hk, h, hw => by
    unfold Ty.ok at hk
    split at hk
    · rename_i k' ht
      obtain rfl : k' = k := by simpa using hk
      obtain ⟨n, rfl, _, hwf⟩ := DataW.trod_int ht h
      exact ⟨[.int k' n], ⟨_, _, rfl, rfl, rfl⟩, ⟨n, rfl, hwf⟩, rfl, by simp [Value.oneCell']⟩
    · cases hk
  | .str, t, cs, x, fuel, hk, h, hw => by
    unfold Ty.ok at hk
    split at hk
    · rename_i ht
      obtain ⟨s, rfl, rfl, _⟩ := DataW.trod_string ht h
      refine ⟨[.str s], ⟨_, _, rfl, rfl, rfl⟩, ⟨s, rfl, ?_⟩, rfl, by simp [Value.oneCell']⟩
      have := hw s.data.toList.length (by simp [DataW.weights])
      simpa using this
    · cases hk
  | .sl e b, t, cs, x, fuel, hk, h, hw => by
    unfold Ty.ok at hk
    split at hk
    · rename_i u ht
      simp only [Bool.and_eq_true] at hk
      obtain ⟨hc, h0, hb, he⟩ := hk
      have hc : P.cellsOf u = e.size := by simpa using hc
      have h0 : 0 < e.size := by simpa using h0
      have hb : P.bytesOf u = b := by simpa using hb
      rcases DataW.trod_slice ht h with ⟨rfl, _⟩ | ⟨a, len, cap, elems, rest, n, _, rfl, rfl, _, hl, hm, hlen, hel, hsp, hns⟩
      · exact ⟨[.nilsl], ⟨_, _, rfl, rfl, rfl⟩, .inl rfl, rfl, by simp [Value.oneCell']⟩
      · have hws : ∀ (i : Nat) (y : DataW H × List MemPlace), elems[i]? = some y → ∀ m ∈ y.1.weights P u, m ≤ reachBytes := by
          intro i y hy m hm'
          refine hw m ?_
          simp only [DataW.weights, ht]
          refine List.mem_cons_of_mem _ (List.mem_append_left _ ?_)
          have : y.1 ∈ elems.map (·.1) := List.mem_map.mpr ⟨y, List.mem_of_getElem? hy, rfl⟩
          clear hw hel hsp hns
          generalize elems.map (·.1) = ds at this
          induction ds with
          | nil => simp at this
          | cons d ds ih =>
            simp only [DataW.weightsAll]
            rcases List.mem_cons.mp this with rfl | h'
            · exact List.mem_append_left _ hm'
            · exact List.mem_append_right _ (ih h')
        have hsize : len * b ≤ reachBytes := by
          have := hw ((elems.map (·.1)).length * P.bytesOf u + (rest.map (·.1)).length * P.bytesOf u) (by
            simp only [DataW.weights, ht]
            rw [← Nat.add_mul]
            exact List.mem_cons_self)
          rw [hb, List.length_map, hlen] at this
          omega
        obtain ⟨bl, off, sp⟩ := a
        have hspot : sp = none ∨ len = 0 := by
          rcases Nat.eq_zero_or_pos len with h1 | h1
          · exact .inr h1
          · have h2 := hel 0 h1
            rw [List.getElem?_eq_getElem (by omega)] at h2
            obtain ⟨ci, k1, k2⟩ := Option.bind_eq_some_iff.mp h2
            obtain ⟨_, k4, k5⟩ := World.cells?_some k1
            have k6 := k5 0 (by omega)
            rw [List.getElem?_eq_getElem (by omega)] at k6
            have := cell_spot k6
            simp [Addr.add] at this
            exact .inl this
        have hrow : ∀ i, i < len → ∃ as cs, RelAll g0 W as cs ∧ as.length = e.size ∧ e.Shape as ∧ (∀ u ∈ cs, u.oneCell' = true) ∧ ∀ j u, cs[j]? = some u → W.cell? ⟨bl, off + (0 + i) * e.size + j, none⟩ = some u := by
          intro i hi
          have h2 := hel i hi
          rw [List.getElem?_eq_getElem (by omega)] at h2
          obtain ⟨ci, k1, k2⟩ := Option.bind_eq_some_iff.mp h2
          obtain ⟨as, r1, r2, r3, r4⟩ := Ty.read e u ci _ n he k2 (hws i _ (List.getElem?_eq_getElem (by omega)))
          obtain ⟨_, k4, k5⟩ := World.cells?_some k1
          obtain rfl : sp = none := hspot.resolve_right (by omega)
          refine ⟨as, ci, r1, r3, r2, r4, fun j v hj => ?_⟩
          have := k5 j (by rw [← k4]; exact getElem?_lt hj)
          rw [hj, hc, add_none, add_none] at this
          rw [Nat.zero_add]; exact this
        obtain ⟨l, l1, l2, l3⟩ := rows_of_reads h0 len 0 hrow
        refine ⟨[.sl e.size false l], ⟨_, _, rfl, ⟨bl, off, sp, cap, by rw [l1], by omega, (fun h => by cases h), ?_, by simpa using l3⟩, rfl⟩, .inr ⟨l, rfl, by rw [l1]; exact hsize, by omega, l2⟩, rfl, by simp [Value.oneCell']⟩
        rcases hspot with h1 | h1
        · exact .inl h1
        · exact .inr (List.eq_nil_of_length_eq_zero (by omega))
    · cases hk
  | .st fs, t, cs, x, fuel, hk, h, hw => by
    unfold Ty.ok at hk
    split at hk
    · rename_i F ht
      simp only [Bool.and_eq_true] at hk
      obtain ⟨hc, hos⟩ := hk
      have hc : P.cellsOf t = Ty.sizes fs := by simpa using hc
      obtain ⟨xs, n, _, rfl, hl, hxl, hel⟩ := DataW.trod_struct ht h
      obtain ⟨as, r1, r2, r3, r4⟩ := Ty.reads fs F.toList 0 cs n xs hos (fun i f hf => hel i f (by simpa using hf)) (by simpa using hxl) (by omega) (fun m hm => hw m (by simpa [DataW.weights, ht] using hm))
      exact ⟨as, by simpa using r1, r2, r3, by simpa using r4⟩
    · cases hk
theorem Ty.reads : ∀ (ys : List Ty) (F : List Field) (o : Nat) (cs : List Value) (n : Nat) (xs : List (DataW H × List MemPlace)), Ty.oks P ys F o = true →
    (∀ (i : Nat) f, F[i]? = some f → DataW.trod enc P W base spare held n f.type ((cs.drop f.offset).take (P.cellsOf f.type)) = xs[i]?) → xs.length = F.length → cs.length = o + Ty.sizes ys →
    (∀ m ∈ DataW.weightsEach P (F.map (·.type)) (xs.map (·.1)), m ≤ reachBytes) →
    ∃ as, RelAll g0 W as (cs.drop o) ∧ Ty.Shapes ys as ∧ as.length = Ty.sizes ys ∧ ∀ u ∈ cs.drop o, u.oneCell' = true
  | [], [], o, cs, n, xs, hk, hel, hxl, hl, hw => by
    have : cs.drop o = [] := List.drop_eq_nil_of_le (by simp [Ty.sizes] at hl; omega)
    exact ⟨[], this, rfl, rfl, by simp [this]⟩
  | [], _ :: _, o, cs, n, xs, hk, hel, hxl, hl, hw => by simp [Ty.oks] at hk
  | _ :: _, [], o, cs, n, xs, hk, hel, hxl, hl, hw => by simp [Ty.oks] at hk
  | y :: ys, f :: F, o, cs, n, [], hk, hel, hxl, hl, hw => by simp at hxl
  | y :: ys, f :: F, o, cs, n, x :: xs, hk, hel, hxl, hl, hw => by
    simp only [Ty.oks, Bool.and_eq_true] at hk
    obtain ⟨h1, h2, h3, h4⟩ := hk
    have h1 : f.offset = o := by simpa using h1
    have h2 : P.cellsOf f.type = y.size := by simpa using h2
    have hx := hel 0 f rfl
    rw [h1, h2] at hx
    obtain ⟨as, r1, r2, r3, r4⟩ := Ty.read y f.type _ x n h3 hx (fun m hm => hw m (by simp only [List.map_cons, DataW.weightsEach]; exact List.mem_append_left _ hm))
    obtain ⟨bs, s1, s2, s3, s4⟩ := Ty.reads ys F (o + y.size) cs n xs h4 (fun i g hg => by have := hel (i + 1) g (by simpa using hg); simpa using this) (by simpa using hxl) (by rw [hl, Ty.sizes]; omega) (fun m hm => hw m (by simp only [List.map_cons, DataW.weightsEach]; exact List.mem_append_right _ hm))
    have hsplit : cs.drop o = (cs.drop o).take y.size ++ cs.drop (o + y.size) := by
      rw [← List.drop_drop, List.take_append_drop]
    refine ⟨as ++ bs, by rw [hsplit]; exact RelAll.append _ _ _ _ r1 s1, ⟨as, bs, rfl, r2, s2⟩, by rw [List.length_append, r3, s3, Ty.sizes], fun u hu => ?_⟩
    rw [hsplit] at hu
    rcases List.mem_append.mp hu with hu | hu
    · exact r4 u hu
    · exact s4 u hu
end

/-- An argument. -/
def Ty.AV' : Ty → List AV → AV
  | .st _, as => .agg as
  | _, as => as.headD .dead

theorem Ty.arg {y : Ty} {t : TypeId} {v : Value} {d : DataW H} {ps : List MemPlace} {r : Reach} {b0 : Nat} (hk : y.ok P t = true) (hval : Value.okWide P W r b0 t v) (h : DataW.Trod enc P W base spare held t v d ps) (hw : ∀ n ∈ d.weights P t, n ≤ reachBytes) :
    ∃ as, y.Shape as ∧ Rel g0 W (y.AV' as) v := by
  obtain ⟨fuel, hf⟩ := h
  obtain ⟨as, r1, r2, r3, r4⟩ := Ty.read y t _ _ fuel hk hf hw
  refine ⟨as, r2, ?_⟩
  cases y with
  | st fs =>
    unfold Ty.ok at hk
    split at hk
    · rename_i F ht
      obtain ⟨cs, rfl, hcs⟩ := okWide_struct ht hval
      exact ⟨cs, rfl, by simpa [Value.cells] using r1, by simpa [Value.cells] using r4⟩
    · cases hk
  | bool =>
    obtain ⟨b, rfl⟩ := r2
    unfold Ty.ok at hk
    split at hk
    · rename_i ht
      obtain ⟨u, rfl⟩ := okWide_bool ht hval
      obtain ⟨w, wr, e, k1, _⟩ := r1
      simp [Value.cells] at e
      rw [← e.1] at k1; exact k1
    · cases hk
  | int k =>
    obtain ⟨b, rfl, _⟩ := r2
    unfold Ty.ok at hk
    split at hk
    · rename_i ht
      obtain ⟨u, rfl⟩ := okWide_int ht hval
      obtain ⟨w, wr, e, k1, _⟩ := r1
      simp [Value.cells] at e
      rw [← e.1] at k1; exact k1
    · cases hk
  | str =>
    obtain ⟨b, rfl, _⟩ := r2
    unfold Ty.ok at hk
    split at hk
    · rename_i ht
      obtain ⟨u, rfl⟩ := okWide_string ht hval
      obtain ⟨w, wr, e, k1, _⟩ := r1
      simp [Value.cells] at e
      rw [← e.1] at k1; exact k1
    · cases hk
  | sl e b =>
    unfold Ty.ok at hk
    split at hk
    · rename_i u ht
      obtain ⟨a, n, c, rfl⟩ := okWide_slice ht hval
      rcases r2 with rfl | ⟨l, rfl, _⟩
      all_goals
        obtain ⟨w, wr, e', k1, _⟩ := r1
        simp [Value.cells] at e'
        rw [← e'.1] at k1; exact k1
    · cases hk
end
end Go.V
