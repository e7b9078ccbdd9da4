/- Merged out of 23 texts: what the claim's code comes to, and why. -/
import Derived.ChangeArms
import Derived.DataReads
import Derived.SizedLaws
import Derived.WideShapes
import Derived.ChangeShapes
import Derived.Test.YtnmglmkkeghnaaaX4
/- What a law's arguments are, as abstract values: read off their reading. -/
set_option linter.unusedVariables false
set_option linter.unusedSimpArgs false
namespace Go.V
open Go.WideShapes

/-- A shape of values. -/
inductive Ty where
  | bool
  | int (k : IntKind)
  | str
  | sl (e : Ty) (bytes : Nat)
  | st (fs : List Ty)

mutual
def Ty.size : Ty → Nat
  | .bool => 1
  | .int _ => 1
  | .str => 1
  | .sl _ _ => 1
  | .st fs => Ty.sizes fs
def Ty.sizes : List Ty → Nat
  | [] => 0
  | y :: r => y.size + Ty.sizes r
end

mutual
/-- A type of the program has this shape. -/
def Ty.ok (P : Program) : Ty → TypeId → Bool
  | .bool, t => match P.underlying t with
    | some .bool => true
    | _ => false
  | .int k, t => match P.underlying t with
    | some (.int k') => decide (k' = k)
    | _ => false
  | .str, t => match P.underlying t with
    | some .string => true
    | _ => false
  | .sl e b, t => match P.underlying t with
    | some (.slice u) => Nat.beq (P.cellsOf u) e.size && (Nat.blt 0 e.size && (Nat.beq (P.bytesOf u) b && e.ok P u))
    | _ => false
  | .st fs, t => match P.underlying t with
    | some (.struct F) => Nat.beq (P.cellsOf t) (Ty.sizes fs) && Ty.oks P fs F.toList 0
    | _ => false
def Ty.oks (P : Program) : List Ty → List Field → Nat → Bool
  | [], [], _ => true
  | y :: r, f :: F, o => Nat.beq f.offset o && (Nat.beq (P.cellsOf f.type) y.size && (y.ok P f.type && Ty.oks P r F (o + y.size)))
  | _, _, _ => false
end

mutual
/-- Cells of this shape. -/
def Ty.Shape : Ty → List AV → Prop
  | .bool, ays => ∃ b, ays = [.bool b]
  | .int k, ays => ∃ n, ays = [.int k n] ∧ (Lit.int k n).wf = true
  | .str, ays => ∃ s : ByteArray, ays = [.str s] ∧ s.size ≤ reachBytes
  | .sl e b, ays => ays = [.nilsl] ∨ ∃ l, ays = [.sl e.size false l] ∧ l.length * b ≤ reachBytes ∧ l.length ≤ maxLen ∧ ∀ r ∈ l, e.Shape r
  | .st fs, ays => Ty.Shapes fs ays
def Ty.Shapes : List Ty → List AV → Prop
  | [], ays => ays = []
  | y :: r, ays => ∃ a b, ays = a ++ b ∧ y.Shape a ∧ Ty.Shapes r b
end

section
variable {P : Program} {H : Type} {enc : TypeId × Value → H} {W : World} {base : Nat} {spare : Nat → Bool} {held : Bool}

theorem RelCells.ofCells : ∀ (ays : List AV) (cs : List Value) (b off : Nat), RelAll g0 W ays cs → (∀ u ∈ cs, u.oneCell' = true) → (∀ i u, cs[i]? = some u → W.cell? ⟨b, off + i, none⟩ = some u) → RelCells g0 W ays b off
  | [], _, _, _, _, _, _ => trivial
  | a :: ays, _, b, off, ⟨v, vr, rfl, h1, h2⟩, h3, h4 => by
    refine ⟨⟨v, by simpa using h4 0 v rfl, trivial, h3 v (by simp), h1⟩, RelCells.ofCells ays vr b (off + 1) h2 (fun u hu => h3 u (by simp [hu])) fun i u hu => ?_⟩
    have := h4 (i + 1) u (by simpa using hu)
    rwa [show off + (i + 1) = off + 1 + i by omega] at this

theorem cell_spot {a : Addr} {u : Value} (h : W.cell? a = some u) : a.spot = none := by
  unfold World.cell? at h
  split at h
  · split at h
    · cases h
    · rename_i hs; cases hsp : a.spot with
      | none => rfl
      | some s => rw [hsp] at hs; simp at hs
  · cases h

/-- Rows, one by one. -/
theorem rows_of_reads {sz : Nat} (hsz : 0 < sz) {Q : List AV → Prop} {b off : Nat} : ∀ (n k : Nat), (∀ i, i < n → ∃ ays cs, RelAll g0 W ays cs ∧ ays.length = sz ∧ Q ays ∧ (∀ u ∈ cs, u.oneCell' = true) ∧ ∀ j u, cs[j]? = some u → W.cell? ⟨b, off + (k + i) * sz + j, none⟩ = some u) →
    ∃ l, l.length = n ∧ (∀ r ∈ l, Q r) ∧ RelRows g0 W sz l b (off + k * sz)
  | 0, k, _ => ⟨[], rfl, by simp, trivial⟩
  | n + 1, k, h => by
    obtain ⟨l, h1, h2, h3⟩ := rows_of_reads hsz (b := b) (off := off) (Q := Q) n (k + 1) fun i hi => by
      have := h (i + 1) (by omega)
      rwa [show k + (i + 1) = k + 1 + i by omega] at this
    obtain ⟨ays, cs, k1, k2, k3, k4, k5⟩ := h 0 (by omega)
    refine ⟨ays :: l, by simp [h1], fun r hr => ?_, k2, RelCells.ofCells ays cs b _ k1 k4 (by simpa using k5), ?_⟩
    · rcases List.mem_cons.mp hr with rfl | hr
      · exact k3
      · exact h2 r hr
    · rw [show off + k * sz + sz = off + (k + 1) * sz by rw [Nat.add_mul]; omega]; exact h3

mutual
theorem Ty.read : ∀ (y : Ty) (t : TypeId) (cs : List Value) (x : DataW H × List MemPlace) (fuel : Nat), y.ok P t = true → DataW.trod enc P W base spare held fuel t cs = some x → (∀ n ∈ x.1.weights P t, n ≤ reachBytes) →
    ∃ ays, RelAll g0 W ays cs ∧ y.Shape ays ∧ ays.length = y.size ∧ ∀ u ∈ cs, u.oneCell' = true
  | .bool, t, cs, x, fuel, hk, h, hw => by
    unfold Ty.ok at hk
    split at hk
    · rename_i ht
      obtain ⟨b, rfl, _⟩ := DataW.trod_bool ht h
      exact ⟨[.bool b], ⟨_, _, rfl, rfl, rfl⟩, ⟨b, rfl⟩, rfl, by simp [Value.oneCell']⟩
    · cases hk
  | .int k, t, cs, x, fuel, hk, h, hw => by
    unfold Ty.ok at hk
    split at hk
    · rename_i k' ht
      obtain rfl : k' = k := by simpa using hk
      obtain ⟨n, rfl, _, hwf⟩ := DataW.trod_int ht h
      exact ⟨[.int k' n], ⟨_, _, rfl, rfl, rfl⟩, ⟨n, rfl, hwf⟩, rfl, by simp [Value.oneCell']⟩
    · cases hk
  | .str, t, cs, x, fuel, hk, h, hw => by
    unfold Ty.ok at hk
    split at hk
    · rename_i ht
      obtain ⟨s, rfl, rfl, _⟩ := DataW.trod_string ht h
      refine ⟨[.str s], ⟨_, _, rfl, rfl, rfl⟩, ⟨s, rfl, ?_⟩, rfl, by simp [Value.oneCell']⟩
      have := hw s.data.toList.length (by simp [DataW.weights])
      simpa using this
    · cases hk
  | .sl e b, t, cs, x, fuel, hk, h, hw => by
    unfold Ty.ok at hk
    split at hk
    · rename_i u ht
      simp only [Bool.and_eq_true] at hk
      obtain ⟨hc, h0, hb, he⟩ := hk
      have hc : P.cellsOf u = e.size := by simpa using hc
      have h0 : 0 < e.size := by simpa using h0
      have hb : P.bytesOf u = b := by simpa using hb
      rcases DataW.trod_slice ht h with ⟨rfl, _⟩ | ⟨a, len, cap, elems, rest, n, _, rfl, rfl, _, hl, hm, hlen, hel, hsp, hns⟩
      · exact ⟨[.nilsl], ⟨_, _, rfl, rfl, rfl⟩, .inl rfl, rfl, by simp [Value.oneCell']⟩
      · have hws : ∀ (i : Nat) (y : DataW H × List MemPlace), elems[i]? = some y → ∀ m ∈ y.1.weights P u, m ≤ reachBytes := by
          intro i y hy m hm'
          refine hw m ?_
          simp only [DataW.weights, ht]
          refine List.mem_cons_of_mem _ (List.mem_append_left _ ?_)
          have : y.1 ∈ elems.map (·.1) := List.mem_map.mpr ⟨y, List.mem_of_getElem? hy, rfl⟩
          clear hw hel hsp hns
          generalize elems.map (·.1) = ds at this
          induction ds with
          | nil => simp at this
          | cons d ds ih =>
            simp only [DataW.weightsAll]
            rcases List.mem_cons.mp this with rfl | h'
            · exact List.mem_append_left _ hm'
            · exact List.mem_append_right _ (ih h')
        have hsize : len * b ≤ reachBytes := by
          have := hw ((elems.map (·.1)).length * P.bytesOf u + (rest.map (·.1)).length * P.bytesOf u) (by
            simp only [DataW.weights, ht]
            rw [← Nat.add_mul]
            exact List.mem_cons_self)
          rw [hb, List.length_map, hlen] at this
          omega
        obtain ⟨bl, off, sp⟩ := a
        have hspot : sp = none ∨ len = 0 := by
          rcases Nat.eq_zero_or_pos len with h1 | h1
          · exact .inr h1
          · have h2 := hel 0 h1
            rw [List.getElem?_eq_getElem (by omega)] at h2
            obtain ⟨ci, k1, k2⟩ := Option.bind_eq_some_iff.mp h2
            obtain ⟨_, k4, k5⟩ := World.cells?_some k1
            have k6 := k5 0 (by omega)
            rw [List.getElem?_eq_getElem (by omega)] at k6
            have := cell_spot k6
            simp [Addr.add] at this
            exact .inl this
        have hrow : ∀ i, i < len → ∃ ays cs, RelAll g0 W ays cs ∧ ays.length = e.size ∧ e.Shape ays ∧ (∀ u ∈ cs, u.oneCell' = true) ∧ ∀ j u, cs[j]? = some u → W.cell? ⟨bl, off + (0 + i) * e.size + j, none⟩ = some u := by
          intro i hi
          have h2 := hel i hi
          rw [List.getElem?_eq_getElem (by omega)] at h2
          obtain ⟨ci, k1, k2⟩ := Option.bind_eq_some_iff.mp h2
          obtain ⟨ays, r1, r2, r3, r4⟩ := Ty.read e u ci _ n he k2 (hws i _ (List.getElem?_eq_getElem (by omega)))
          obtain ⟨_, k4, k5⟩ := World.cells?_some k1
          obtain rfl : sp = none := hspot.resolve_right (by omega)
          refine ⟨ays, ci, r1, r3, r2, r4, fun j v hj => ?_⟩
          have := k5 j (by rw [← k4]; exact getElem?_lt hj)
          rw [hj, hc, add_none, add_none] at this
          rw [Nat.zero_add]; exact this
        obtain ⟨l, l1, l2, l3⟩ := rows_of_reads h0 len 0 hrow
        refine ⟨[.sl e.size false l], ⟨_, _, rfl, ⟨bl, off, sp, cap, by rw [l1], by omega, (fun h => by cases h), ?_, by simpa using l3⟩, rfl⟩, .inr ⟨l, rfl, by rw [l1]; exact hsize, by omega, l2⟩, rfl, by simp [Value.oneCell']⟩
        rcases hspot with h1 | h1
        · exact .inl h1
        · exact .inr (List.eq_nil_of_length_eq_zero (by omega))
    · cases hk
  | .st fs, t, cs, x, fuel, hk, h, hw => by
    unfold Ty.ok at hk
    split at hk
    · rename_i F ht
      simp only [Bool.and_eq_true] at hk
      obtain ⟨hc, hos⟩ := hk
      have hc : P.cellsOf t = Ty.sizes fs := by simpa using hc
      obtain ⟨xs, n, _, rfl, hl, hxl, hel⟩ := DataW.trod_struct ht h
      obtain ⟨ays, r1, r2, r3, r4⟩ := Ty.reads fs F.toList 0 cs n xs hos (fun i f hf => hel i f (by simpa using hf)) (by simpa using hxl) (by omega) (fun m hm => hw m (by simpa [DataW.weights, ht] using hm))
      exact ⟨ays, by simpa using r1, r2, r3, by simpa using r4⟩
    · cases hk
theorem Ty.reads : ∀ (ys : List Ty) (F : List Field) (o : Nat) (cs : List Value) (n : Nat) (xs : List (DataW H × List MemPlace)), Ty.oks P ys F o = true →
    (∀ (i : Nat) f, F[i]? = some f → DataW.trod enc P W base spare held n f.type ((cs.drop f.offset).take (P.cellsOf f.type)) = xs[i]?) → xs.length = F.length → cs.length = o + Ty.sizes ys →
    (∀ m ∈ DataW.weightsEach P (F.map (·.type)) (xs.map (·.1)), m ≤ reachBytes) →
    ∃ ays, RelAll g0 W ays (cs.drop o) ∧ Ty.Shapes ys ays ∧ ays.length = Ty.sizes ys ∧ ∀ u ∈ cs.drop o, u.oneCell' = true
  | [], [], o, cs, n, xs, hk, hel, hxl, hl, hw => by
    have : cs.drop o = [] := List.drop_eq_nil_of_le (by simp [Ty.sizes] at hl; omega)
    exact ⟨[], this, rfl, rfl, by simp [this]⟩
  | [], _ :: _, o, cs, n, xs, hk, hel, hxl, hl, hw => by simp [Ty.oks] at hk
  | _ :: _, [], o, cs, n, xs, hk, hel, hxl, hl, hw => by simp [Ty.oks] at hk
  | y :: ys, f :: F, o, cs, n, [], hk, hel, hxl, hl, hw => by simp at hxl
  | y :: ys, f :: F, o, cs, n, x :: xs, hk, hel, hxl, hl, hw => by
    simp only [Ty.oks, Bool.and_eq_true] at hk
    obtain ⟨h1, h2, h3, h4⟩ := hk
    have h1 : f.offset = o := by simpa using h1
    have h2 : P.cellsOf f.type = y.size := by simpa using h2
    have hx := hel 0 f rfl
    rw [h1, h2] at hx
    obtain ⟨ays, r1, r2, r3, r4⟩ := Ty.read y f.type _ x n h3 hx (fun m hm => hw m (by simp only [List.map_cons, DataW.weightsEach]; exact List.mem_append_left _ hm))
    obtain ⟨bs, s1, s2, s3, s4⟩ := Ty.reads ys F (o + y.size) cs n xs h4 (fun i g hg => by have := hel (i + 1) g (by simpa using hg); simpa using this) (by simpa using hxl) (by rw [hl, Ty.sizes]; omega) (fun m hm => hw m (by simp only [List.map_cons, DataW.weightsEach]; exact List.mem_append_right _ hm))
    have hsplit : cs.drop o = (cs.drop o).take y.size ++ cs.drop (o + y.size) := by
      rw [← List.drop_drop, List.take_append_drop]
    refine ⟨ays ++ bs, by rw [hsplit]; exact RelAll.append _ _ _ _ r1 s1, ⟨ays, bs, rfl, r2, s2⟩, by rw [List.length_append, r3, s3, Ty.sizes], fun u hu => ?_⟩
    rw [hsplit] at hu
    rcases List.mem_append.mp hu with hu | hu
    · exact r4 u hu
    · exact s4 u hu
end

/-- An argument. -/
def Ty.AV' : Ty → List AV → AV
  | .st _, ays => .agg ays
  | _, ays => ays.headD .dead

theorem Ty.arg {y : Ty} {t : TypeId} {v : Value} {d : DataW H} {ps : List MemPlace} {r : Reach} {b0 : Nat} (hk : y.ok P t = true) (hval : Value.okWide P W r b0 t v) (h : DataW.Trod enc P W base spare held t v d ps) (hw : ∀ n ∈ d.weights P t, n ≤ reachBytes) :
    ∃ ays, y.Shape ays ∧ Rel g0 W (y.AV' ays) v := by
  obtain ⟨fuel, hf⟩ := h
  obtain ⟨ays, r1, r2, r3, r4⟩ := Ty.read y t _ _ fuel hk hf hw
  refine ⟨ays, r2, ?_⟩
  cases y with
  | st fs =>
    unfold Ty.ok at hk
    split at hk
    · rename_i F ht
      obtain ⟨cs, rfl, hcs⟩ := okWide_struct ht hval
      exact ⟨cs, rfl, by simpa [Value.cells] using r1, by simpa [Value.cells] using r4⟩
    · cases hk
  | bool =>
    obtain ⟨b, rfl⟩ := r2
    unfold Ty.ok at hk
    split at hk
    · rename_i ht
      obtain ⟨u, rfl⟩ := okWide_bool ht hval
      obtain ⟨w, wr, e, k1, _⟩ := r1
      simp [Value.cells] at e
      rw [← e.1] at k1; exact k1
    · cases hk
  | int k =>
    obtain ⟨b, rfl, _⟩ := r2
    unfold Ty.ok at hk
    split at hk
    · rename_i ht
      obtain ⟨u, rfl⟩ := okWide_int ht hval
      obtain ⟨w, wr, e, k1, _⟩ := r1
      simp [Value.cells] at e
      rw [← e.1] at k1; exact k1
    · cases hk
  | str =>
    obtain ⟨b, rfl, _⟩ := r2
    unfold Ty.ok at hk
    split at hk
    · rename_i ht
      obtain ⟨u, rfl⟩ := okWide_string ht hval
      obtain ⟨w, wr, e, k1, _⟩ := r1
      simp [Value.cells] at e
      rw [← e.1] at k1; exact k1
    · cases hk
  | sl e b =>
    unfold Ty.ok at hk
    split at hk
    · rename_i u ht
      obtain ⟨a, n, c, rfl⟩ := okWide_slice ht hval
      rcases r2 with rfl | ⟨l, rfl, _⟩
      all_goals
        obtain ⟨w, wr, e', k1, _⟩ := r1
        simp [Value.cells] at e'
        rw [← e'.1] at k1; exact k1
    · cases hk
end
end Go.V

/- Cond: CondSides is true. -/
set_option linter.unusedVariables false
namespace Go.Proofs.Ytnmglmkkeghnaaa.V
open Go Go.V Go.RowKit

theorem bI_or (b : Bool) : bI b = 0 ∨ bI b = 1 := by cases b <;> simp [bI]
theorem tru1_or (o : Int) (x v : Va) : tru1 o x v = -1 ∨ tru1 o x v = 0 ∨ tru1 o x v = 1 := by
  unfold tru1
  cases o == 5 <;> cases o == 6 <;> cases canV x v <;> cases o == 1 <;> cases o == 2 <;> cases o == 3 <;> cases o == 4 <;> simp only [cond_true, cond_false, Bool.not_true, Bool.not_false] <;> first | exact .inl rfl | exact .inl trivial | exact .inr (bI_or _)
theorem truF_or (c : Cd) (cols r : List (List AV)) : truF c cols r = -1 ∨ truF c cols r = 0 ∨ truF c cols r = 1 := by
  unfold truF
  split
  · exact .inl rfl
  · rename_i j hj
    by_cases h : (j : Int) ≥ r.length
    · simp only [decide_eq_true h, cond_true]; exact .inl trivial
    · simp only [decide_eq_false h, cond_false]; exact tru1_or _ _ _
/-- An operation and its other side. -/
theorem tru1_flip {o o' : Int} (h : (o = 1 ∧ o' = 2) ∨ (o = 2 ∧ o' = 1) ∨ (o = 5 ∧ o' = 6) ∨ (o = 6 ∧ o' = 5)) (x v : Va) :
    (tru1 o x v = -1 ∧ tru1 o' x v = -1) ∨ (tru1 o x v = 0 ∧ tru1 o' x v = 1) ∨ (tru1 o x v = 1 ∧ tru1 o' x v = 0) := by
  rcases h with ⟨rfl, rfl⟩ | ⟨rfl, rfl⟩ | ⟨rfl, rfl⟩ | ⟨rfl, rfl⟩
  · simp only [tru1]
    cases canV x v with
    | false => exact .inl ⟨rfl, rfl⟩
    | true =>
      simp only [cond_true, bne]
      cases ordV x v == 0
      · exact .inr (.inl ⟨rfl, rfl⟩)
      · exact .inr (.inr ⟨rfl, rfl⟩)
  · simp only [tru1]
    cases canV x v with
    | false => exact .inl ⟨rfl, rfl⟩
    | true =>
      simp only [cond_true, bne]
      cases ordV x v == 0
      · exact .inr (.inr ⟨rfl, rfl⟩)
      · exact .inr (.inl ⟨rfl, rfl⟩)
  · simp only [tru1, bne]
    cases x.1 == 0
    · exact .inr (.inl ⟨rfl, rfl⟩)
    · exact .inr (.inr ⟨rfl, rfl⟩)
  · simp only [tru1, bne]
    cases x.1 == 0
    · exact .inr (.inr ⟨rfl, rfl⟩)
    · exact .inr (.inl ⟨rfl, rfl⟩)
theorem truF_flip {o o' : Int} (h : (o = 1 ∧ o' = 2) ∨ (o = 2 ∧ o' = 1) ∨ (o = 5 ∧ o' = 6) ∨ (o = 6 ∧ o' = 5)) (c : ByteArray) (v : Va) (cols r : List (List AV)) :
    (truF (c, o, v) cols r = -1 ∧ truF (c, o', v) cols r = -1) ∨ (truF (c, o, v) cols r = 0 ∧ truF (c, o', v) cols r = 1) ∨ (truF (c, o, v) cols r = 1 ∧ truF (c, o', v) cols r = 0) := by
  unfold truF
  simp only
  cases place cols c with
  | none => exact .inl ⟨rfl, rfl⟩
  | some j =>
    simp only
    by_cases hj : (j : Int) ≥ r.length
    · simp only [decide_eq_true hj, cond_true]; exact .inl ⟨trivial, trivial⟩
    · simp only [decide_eq_false hj, cond_false]; exact tru1_flip h _ _

theorem frz_br (sz : Nat) (b : Br) : frz (Br.av' sz b) = Br.av' sz b := by cases b <;> rfl
theorem dTri_one (l : List (List AV)) (f : Bool) (bx b : Br) : dTri [.sl 5 f l, Br.av' 3 bx, Br.av' 3 b] = some (.sl f l, bx, b) := by
  show (match brN 5 (.sl 5 f l), brN 3 (Br.av' 3 bx), brN 3 (Br.av' 3 b) with
    | some a, some b, some c => some (a, b, c)
    | _, _, _ => none) = _
  rw [brN_av, brN_av]; rfl
theorem dTr_one (c s : ByteArray) (o k n : Int) (bx b : Br) : dTr [.agg [.str c, .int .i64 o, .int .i64 k, .int .i64 n, .str s], Br.av' 3 bx, Br.av' 3 b] = some ((c, o, k, n, s), bx, b) := by
  cases bx <;> cases b <;> rfl
theorem isRow_vals (ts : List LT) (cs : List AV) (h : isLTs ts cs = true) (hl : cs.length = ts.length) : isRow ts cs = true := by
  simp [isRow, h, hl]
/-- A law's columns, rows, conditions. -/
theorem great_ok {a : Tri} (h : triRows a = true) (hg : greatF a = false) : triOk a = true ∧ okC a.2.1 = true ∧ okV a.2.2 = true ∧ okL a.1 = true := by
  simp only [triRows, Bool.and_eq_true] at h
  simp only [greatF, Bool.or_eq_false_iff] at hg
  obtain ⟨h1, h2, h3⟩ := h
  have hm : ∀ b : Br, many b = false → decide (b.list.length ≤ 1000000) = true := fun b h => by
    have := of_decide_eq_false h
    exact decide_eq_true (by omega)
  have k1 : okL a.1 = true := by simp only [okL, h1, hm _ hg.1, Bool.and_self]
  have k2 : okC a.2.1 = true := by simp only [okC, h2, hm _ hg.2.1, Bool.and_self]
  have k3 : okV a.2.2 = true := by simp only [okV, h3, hm _ hg.2.2.1, Bool.and_self]
  exact ⟨by simp only [triOk, k1, k2, k3, Bool.and_self], k2, k3, k1⟩
theorem holds_one (c s : ByteArray) (o k n : Int) (cols r : List (List AV)) : holdsF [[.str c, .int .i64 o, .int .i64 k, .int .i64 n, .str s]] cols r = (truF (c, o, k, n, s) cols r == 1) := by
  show (!((truF (c, o, k, n, s) cols r != 1) || false)) = _
  simp [bne]
theorem refuses_one (c s : ByteArray) (o k n : Int) (cols r : List (List AV)) : refusesF [[.str c, .int .i64 o, .int .i64 k, .int .i64 n, .str s]] cols r = (truF (c, o, k, n, s) cols r == 0) := by
  show ((truF (c, o, k, n, s) cols r == 0) || false) = _
  simp

theorem sides_true (c s : ByteArray) (o k n : Int) (bx b : Br) (h : triRows (.sl true [[.str c, .int .i64 o, .int .i64 k, .int .i64 n, .str s]], bx, b) = true) : ∃ st, f3.run 20 [.agg [.str c, .int .i64 o, .int .i64 k, .int .i64 n, .str s], Br.av' 3 bx, Br.av' 3 b] ⟨[], []⟩ = some (.ret (.bool true), st) := by
  rw [sides_run]
  simp only [frz_br, dTri_one, dTr_one, onSome]
  rw [branch_of h]
  cases hg : greatF (.sl true [[.str c, .int .i64 o, .int .i64 k, .int .i64 n, .str s]], bx, b) with
  | true => exact ⟨_, rfl⟩
  | false =>
    obtain ⟨k1, k2, k3, k4⟩ := great_ok h hg
    simp only at k2 k3
    have k5 : (okC bx && okV b) = true := by rw [k2, k3]; rfl
    rw [branch_not rfl]
    simp only [k1, k5, branch_true, Br.list, holds_one, refuses_one]
    by_cases h1 : o = 1
    · subst h1
      rcases truF_flip (o := 1) (o' := 2) (by simp) c (k, n, s) bx.list b.list with ⟨e1, e2⟩ | ⟨e1, e2⟩ | ⟨e1, e2⟩ <;> (simp only [Br.list] at e1 e2; simp only [e1, e2]; exact ⟨_, rfl⟩)
    by_cases h2 : o = 2
    · subst h2
      rcases truF_flip (o := 2) (o' := 1) (by simp) c (k, n, s) bx.list b.list with ⟨e1, e2⟩ | ⟨e1, e2⟩ | ⟨e1, e2⟩ <;> (simp only [Br.list] at e1 e2; simp only [e1, e2]; exact ⟨_, rfl⟩)
    by_cases h5 : o = 5
    · subst h5
      rcases truF_flip (o := 5) (o' := 6) (by simp) c (k, n, s) bx.list b.list with ⟨e1, e2⟩ | ⟨e1, e2⟩ | ⟨e1, e2⟩ <;> (simp only [Br.list] at e1 e2; simp only [e1, e2]; exact ⟨_, rfl⟩)
    by_cases h6 : o = 6
    · subst h6
      rcases truF_flip (o := 6) (o' := 5) (by simp) c (k, n, s) bx.list b.list with ⟨e1, e2⟩ | ⟨e1, e2⟩ | ⟨e1, e2⟩ <;> (simp only [Br.list] at e1 e2; simp only [e1, e2]; exact ⟨_, rfl⟩)
    rw [branch_not (show (o == 1) = false by simpa using h1), branch_not (show (o == 2) = false by simpa using h2), branch_not (show (o == 5) = false by simpa using h5), branch_not (show (o == 6) = false by simpa using h6)]
    have hself : (o != o) = false := by simp
    simp only [hself]
    rcases truF_or (c, o, k, n, s) bx.list b.list with e | e | e <;> (simp only [Br.list] at e; simp only [e]; exact ⟨_, rfl⟩)

theorem tri_shape {ts : List LT} {tys : List Ty} {e : Nat} {bytes : Nat} {xs : List AV} (hsz : (Ty.st tys).size = e) (hrow : ∀ r, Ty.Shape (.st tys) r → isRow ts r = true) (h : Ty.Shape (.sl (.st tys) bytes) xs) : ∃ b : Br, xs = [Br.av' e b] ∧ b.list.all (isRow ts) = true := by
  rcases h with h | ⟨l, h1, h2, h3, h4⟩
  · exact ⟨.nil, h, rfl⟩
  · refine ⟨.sl false l, by rw [h1, hsz]; rfl, List.all_eq_true.mpr fun r hr => hrow r (h4 r hr)⟩
theorem col_shape (r : List AV) (h : Ty.Shape (.st [.str, .int .i64, .bool]) r) : isRow tCol r = true := by
  obtain ⟨a, b, rfl, ⟨s, rfl, _⟩, a2, b2, rfl, ⟨k, rfl, _⟩, a3, b3, rfl, ⟨t, rfl⟩, rfl⟩ := h
  rfl
theorem va_shape (r : List AV) (h : Ty.Shape (.st [.int .i64, .int .i64, .str]) r) : isRow tVa r = true := by
  obtain ⟨a, b, rfl, ⟨k, rfl, _⟩, a2, b2, rfl, ⟨n, rfl, _⟩, a3, b3, rfl, ⟨s, rfl, _⟩, rfl⟩ := h
  rfl
end Go.Proofs.Ytnmglmkkeghnaaa.V

/- Cond: the laws' arguments; CondSides. -/
set_option linter.unusedVariables false
namespace Go.Proofs.Ytnmglmkkeghnaaa.V
open Go Go.V Go.RowKit

abbrev yVa : Ty := .st [.int .i64, .int .i64, .str]
abbrev yCd : Ty := .st [.str, .int .i64, yVa]
abbrev yCol : Ty := .st [.str, .int .i64, .bool]
theorem cd_shape (r : List AV) (h : Ty.Shape yCd r) : ∃ c o k n s, r = [.str c, .int .i64 o, .int .i64 k, .int .i64 n, .str s] := by
  obtain ⟨a, b, rfl, ⟨s, rfl, _⟩, a2, b2, rfl, ⟨o, rfl, _⟩, a3, b3, rfl, h3, rfl⟩ := h
  obtain ⟨a, b, rfl, ⟨k, rfl, _⟩, a2, b2, rfl, ⟨n, rfl, _⟩, a3, b3, rfl, ⟨t, rfl, _⟩, rfl⟩ := h3
  exact ⟨s, o, k, n, t, rfl⟩
theorem cds_shape (r : List AV) (h : Ty.Shape yCd r) : isRow tCd r = true := by
  obtain ⟨c, o, k, n, s, rfl⟩ := cd_shape r h
  rfl
theorem cols_shape {xs : List AV} (h : Ty.Shape (.sl yCol 32) xs) : ∃ b : Br, xs = [Br.av' 3 b] ∧ b.list.all isCol = true := tri_shape (ts := tCol) rfl col_shape h
theorem vals_shape {xs : List AV} (h : Ty.Shape (.sl yVa 32) xs) : ∃ b : Br, xs = [Br.av' 3 b] ∧ b.list.all (isRow tVa) = true := tri_shape (ts := tVa) rfl va_shape h
theorem conds_shape {xs : List AV} (h : Ty.Shape (.sl yCd 56) xs) : ∃ b : Br, xs = [Br.av' 5 b] ∧ b.list.all (isRow tCd) = true := tri_shape (ts := tCd) rfl cds_shape h
theorem av_br (y : Ty) (n sz : Nat) (b : Br) : Ty.AV' (.sl y n) [Br.av' sz b] = Br.av' sz b := rfl
theorem sides_law (as0 as1 as2 : List AV) (sh0 : Ty.Shape (.st [.str, .int .i64, .st [.int .i64, .int .i64, .str]]) as0) (sh1 : Ty.Shape (.sl (.st [.str, .int .i64, .bool]) 32) as1) (sh2 : Ty.Shape (.sl (.st [.int .i64, .int .i64, .str]) 32) as2) :
    ∃ F st, f3.run F [Ty.AV' (.st [.str, .int .i64, .st [.int .i64, .int .i64, .str]]) as0, Ty.AV' (.sl (.st [.str, .int .i64, .bool]) 32) as1, Ty.AV' (.sl (.st [.int .i64, .int .i64, .str]) 32) as2] ⟨[], []⟩ = some (.ret (.bool true), st) := by
  obtain ⟨c, o, k, n, s, rfl⟩ := cd_shape _ sh0
  obtain ⟨bx, rfl, hx⟩ := cols_shape sh1
  obtain ⟨b, rfl, hb⟩ := vals_shape sh2
  exact ⟨20, sides_true c s o k n bx b (by simp only [triRows, Br.list] at hx hb ⊢; rw [hx, hb]; rfl)⟩
end Go.Proofs.Ytnmglmkkeghnaaa.V

/- The functions' pieces, as told by gen.py. -/
set_option linter.unusedVariables false
set_option maxRecDepth 20000
namespace Go.Proofs.Ytnmglmkkeghnaaa.V
open Go Go.V Go.RowKit


/-! ### 5: interlock/interlocklaw12.CondNull (25, 26); results 4; slots: 0 c, 1 cols, 2 c, 3 cols, 5 r, 6 _, 7 ok, 8 t -/
noncomputable def f5_b : Sim Try.prog :=
  (.seq (.live [1, 2] (.region 0 [
    ⟨(opBoxF (some 2) 25 (.tmp 0) 0 "law.go:137" #[]).op, none⟩,
    ⟨(opAssign (some 4) (.const (Value.bool false)) 4 "law.go:137" #[]).op, none⟩
  ] (by kernel_rfl)))
  (.seq (.seq (.live [1, 2, 10] (.region 1 [
    ⟨(opCallP p7 (some 9) [] #[] 4 "law.go:138" #[]).op, none⟩,
    ⟨(opNot (some 10) 4 (.tmp 9) 4 "law.go:138" #[{ on := 0, ground := Ground.data }]).op, none⟩
  ] (by kernel_rfl)))
  (.cond (.tmp 10)
    (.seq (.live [4] (.region 2 [
      ⟨(opAssign (some 4) (.const (Value.bool false)) 4 "law.go:139" #[]).op, none⟩
    ] (by kernel_rfl)))
    (.live [4] .ret))
    .skip))
  (.seq (.seq (.live [1, 2, 14] (.region 3 [
    ⟨(opLoadT (.agg [.str, (.int .i64), (.int .i64), (.int .i64), .str]) (some 11) 25 (.tmp 2) d25 ud25 5 sz25 (by kernel_rfl) 25 "law.go:141" #[]).op, none⟩,
    ⟨(opBuildSlice (some 12) 31 1 [(0, (.tmp 11))] 25 5 56 (.agg #[(.string ⟨#[]⟩), (.int .i64 0), (.int .i64 0), (.int .i64 0), (.string ⟨#[]⟩)]) el31 (by kernel_rfl) (by decide) 31 "law.go:141" #[{ on := 0, ground := Ground.data }]).op, none⟩,
    ⟨(opMove (some 13) (.tmp 1) 26 "law.go:141" #[]).op, none⟩,
    ⟨(opCallP p8 (some 14) [(.tmp 12), (.tmp 13), (.const (Value.slice none 0 0))] #[31, 26, 28] 4 "law.go:141" #[{ on := 1, ground := Ground.data }, { on := 2, ground := Ground.data }]).op, none⟩
  ] (by kernel_rfl)))
  (.cond (.tmp 14)
    (.seq (.live [4] (.region 4 [
      ⟨(opAssign (some 4) (.const (Value.bool true)) 4 "law.go:142" #[]).op, none⟩
    ] (by kernel_rfl)))
    (.live [4] .ret))
    .skip))
  (.seq (.live [1, 2, 5] (.region 5 [
    ⟨(opMove (some 15) (.tmp 1) 26 "law.go:144" #[]).op, none⟩,
    ⟨(opLen (some 16) (.tmp 15) 26 (.slice 42) Try.underlying26 3 "law.go:144" #[{ on := 0, ground := Ground.data }]).op, none⟩,
    ⟨(opMakeF (some 17) 28 (.tmp 16) 23 3 32 (.agg #[(.int .i64 0), (.int .i64 0), (.string ⟨#[]⟩)]) el28 [AV.int .i64 0, AV.int .i64 0, AV.str ByteArray.empty] (by kernel_rfl) (by kernel_rfl) (by kernel_rfl) 28 "law.go:144" #[{ on := 1, ground := Ground.data }, { on := 1, ground := Ground.data }]).op, none⟩,
    ⟨(opAssign (some 5) (.tmp 17) 28 "law.go:144" #[{ on := 2, ground := Ground.data }, { on := 0, ground := Ground.phase }, { on := 1, ground := Ground.phase }, { on := 2, ground := Ground.phase }]).op, none⟩
  ] (by kernel_rfl)))
  (.seq (.live [1, 2, 5, 7] (.region 6 [
    ⟨(opMove (some 19) (.tmp 1) 26 "law.go:145" #[]).op, none⟩,
    ⟨(opFieldAddr (some 20) 25 (.tmp 2) 0 0 1 false fl25_0 (by decide) 0 "law.go:145" #[]).op, none⟩,
    ⟨(opLoadT (.one .str) (some 21) 9 (.tmp 20) .string Try.underlying9 1 sz9 (by kernel_rfl) 9 "law.go:145" #[{ on := 1, ground := Ground.data }]).op, none⟩,
    ⟨(opCallP p13 (some 22) [(.tmp 19), (.tmp 21)] #[26, 9] 36 "law.go:145" #[{ on := 0, ground := Ground.data }, { on := 2, ground := Ground.data }]).op, none⟩,
    ⟨(opMove (some 18) (.tmp 22) 36 "law.go:145" #[{ on := 3, ground := Ground.data }]).op, none⟩,
    ⟨(opExtract (some 23) (.tmp 18) 0 3 "law.go:145" #[{ on := 4, ground := Ground.data }]).op, none⟩,
    ⟨(opExtract (some 24) (.tmp 18) 1 4 "law.go:145" #[{ on := 4, ground := Ground.data }, { on := 7, ground := (Ground.gcOnly Departure.lateStores) }]).op, none⟩,
    ⟨(opAssign (some 6) (.tmp 23) 3 "law.go:145" #[{ on := 5, ground := Ground.data }, { on := 3, ground := Ground.chain }, { on := 0, ground := Ground.phase }, { on := 1, ground := Ground.phase }, { on := 2, ground := Ground.phase }, { on := 3, ground := Ground.phase }, { on := 4, ground := Ground.phase }, { on := 5, ground := Ground.phase }, { on := 6, ground := (Ground.textOnly Departure.lateStores) }]).op, none⟩,
    ⟨(opAssign (some 7) (.tmp 24) 4 "law.go:145" #[{ on := 6, ground := Ground.data }, { on := 7, ground := Ground.chain }, { on := 0, ground := Ground.phase }, { on := 1, ground := Ground.phase }, { on := 2, ground := Ground.phase }, { on := 3, ground := Ground.phase }, { on := 4, ground := Ground.phase }, { on := 5, ground := Ground.phase }, { on := 6, ground := Ground.phase }, { on := 7, ground := Ground.phase }]).op, none⟩
  ] (by kernel_rfl)))
  (.seq (.live [1, 2, 5, 7, 8] (.region 7 [
    ⟨(opLoadT (.agg [.str, (.int .i64), (.int .i64), (.int .i64), .str]) (some 25) 25 (.tmp 2) d25 ud25 5 sz25 (by kernel_rfl) 25 "law.go:146" #[]).op, none⟩,
    ⟨(opMove (some 26) (.tmp 1) 26 "law.go:146" #[]).op, none⟩,
    ⟨(opMove (some 27) (.tmp 5) 28 "law.go:146" #[]).op, none⟩,
    ⟨(opCallP p9 (some 28) [(.tmp 25), (.tmp 26), (.tmp 27)] #[25, 26, 28] 3 "law.go:146" #[{ on := 0, ground := Ground.data }, { on := 1, ground := Ground.data }, { on := 2, ground := Ground.data }]).op, none⟩,
    ⟨(opAssign (some 8) (.tmp 28) 3 "law.go:146" #[{ on := 3, ground := Ground.data }, { on := 3, ground := Ground.chain }, { on := 0, ground := Ground.phase }, { on := 1, ground := Ground.phase }, { on := 2, ground := Ground.phase }, { on := 3, ground := Ground.phase }]).op, none⟩
  ] (by kernel_rfl)))
  (.seq (.seq (.live [1, 2, 5, 8, 30] (.region 8 [
    ⟨(opMove (some 29) (.tmp 7) 4 "law.go:147" #[]).op, none⟩,
    ⟨(opNot (some 30) 4 (.tmp 29) 4 "law.go:147" #[{ on := 0, ground := Ground.data }]).op, none⟩
  ] (by kernel_rfl)))
  (.cond (.tmp 30)
    (.seq (.live [4] (.region 9 [
      ⟨(opMove (some 31) (.tmp 8) 3 "law.go:148" #[]).op, none⟩,
      ⟨(opBin (some 32) .eql 3 (.tmp 31) (.const (Value.int IntKind.i64 (-1))) 3 4 "law.go:148" #[{ on := 0, ground := Ground.data }]).op, none⟩,
      ⟨(opAssign (some 4) (.tmp 32) 4 "law.go:148" #[{ on := 1, ground := Ground.data }, { on := 0, ground := Ground.phase }, { on := 1, ground := Ground.phase }]).op, none⟩
    ] (by kernel_rfl)))
    (.live [4] .ret))
    .skip))
  (.seq (.seq (.live [1, 2, 5, 8, 34] (.region 10 [
    ⟨(opFieldAddr (some 33) 25 (.tmp 2) 1 1 1 false fl25_1 (by decide) 0 "law.go:150" #[]).op, none⟩,
    ⟨(opLoadT (.one (.int .i64)) (some 34) 3 (.tmp 33) (.int .i64) Try.underlying3 1 sz3 (by kernel_rfl) 3 "law.go:150" #[{ on := 0, ground := Ground.data }]).op, none⟩
  ] (by kernel_rfl)))
  (.block 0 (.seq (.live [1, 2, 5, 8, 34, 35] (.region 11 [
      ⟨(opBin (some 36) .eql 3 (.tmp 34) (.const (Value.int IntKind.i64 5)) 3 4 "law.go:151" #[]).op, none⟩,
      ⟨(opAssign (some 35) (.tmp 36) 4 "law.go:151" #[{ on := 0, ground := Ground.data }]).op, none⟩
    ] (by kernel_rfl)))
    (.cond (.tmp 35)
      (.seq (.live [4] (.region 12 [
        ⟨(opMove (some 37) (.tmp 8) 3 "law.go:152" #[]).op, none⟩,
        ⟨(opBin (some 38) .eql 3 (.tmp 37) (.const (Value.int IntKind.i64 1)) 3 4 "law.go:152" #[{ on := 0, ground := Ground.data }]).op, none⟩,
        ⟨(opAssign (some 4) (.tmp 38) 4 "law.go:152" #[{ on := 1, ground := Ground.data }, { on := 0, ground := Ground.phase }, { on := 1, ground := Ground.phase }]).op, none⟩
      ] (by kernel_rfl)))
      (.live [4] .ret))
      (.seq (.live [1, 2, 5, 8, 39] (.region 13 [
        ⟨(opBin (some 40) .eql 3 (.tmp 34) (.const (Value.int IntKind.i64 6)) 3 4 "law.go:153" #[]).op, none⟩,
        ⟨(opAssign (some 39) (.tmp 40) 4 "law.go:153" #[{ on := 0, ground := Ground.data }]).op, none⟩
      ] (by kernel_rfl)))
      (.cond (.tmp 39)
        (.seq (.live [4] (.region 14 [
          ⟨(opMove (some 41) (.tmp 8) 3 "law.go:154" #[]).op, none⟩,
          ⟨(opBin (some 42) .eql 3 (.tmp 41) (.const (Value.int IntKind.i64 0)) 3 4 "law.go:154" #[{ on := 0, ground := Ground.data }]).op, none⟩,
          ⟨(opAssign (some 4) (.tmp 42) 4 "law.go:154" #[{ on := 1, ground := Ground.data }, { on := 0, ground := Ground.phase }, { on := 1, ground := Ground.phase }]).op, none⟩
        ] (by kernel_rfl)))
        (.live [4] .ret))
        .skip))))))
  (.seq (.live [4] (.region 15 [
    ⟨(opMove (some 43) (.tmp 8) 3 "law.go:156" #[]).op, none⟩,
    ⟨(opBin (some 44) .eql 3 (.tmp 43) (.const (Value.int IntKind.i64 (-1))) 3 4 "law.go:156" #[{ on := 0, ground := Ground.data }]).op, none⟩,
    ⟨(opMove (some 45) (.tmp 44) 4 "law.go:156" #[{ on := 1, ground := Ground.data }]).op, none⟩,
    ⟨(opLoadT (.agg [.str, (.int .i64), (.int .i64), (.int .i64), .str]) (some 46) 25 (.tmp 2) d25 ud25 5 sz25 (by kernel_rfl) 25 "law.go:156" #[{ on := 2, ground := Ground.guard }]).op, (some (2, 45, true))⟩,
    ⟨(opBuildSlice (some 47) 31 1 [(0, (.tmp 46))] 25 5 56 (.agg #[(.string ⟨#[]⟩), (.int .i64 0), (.int .i64 0), (.int .i64 0), (.string ⟨#[]⟩)]) el31 (by kernel_rfl) (by decide) 31 "law.go:156" #[{ on := 3, ground := Ground.data }, { on := 2, ground := Ground.guard }]).op, (some (2, 45, true))⟩,
    ⟨(opMove (some 48) (.tmp 1) 26 "law.go:156" #[{ on := 2, ground := Ground.guard }]).op, (some (2, 45, true))⟩,
    ⟨(opMove (some 49) (.tmp 5) 28 "law.go:156" #[{ on := 2, ground := Ground.guard }]).op, (some (2, 45, true))⟩,
    ⟨(opCallP p11 (some 50) [(.tmp 47), (.tmp 48), (.tmp 49)] #[31, 26, 28] 4 "law.go:156" #[{ on := 4, ground := Ground.data }, { on := 5, ground := Ground.data }, { on := 6, ground := Ground.data }, { on := 2, ground := Ground.chain }, { on := 2, ground := Ground.guard }]).op, (some (2, 45, true))⟩,
    ⟨(opNot (some 51) 4 (.tmp 50) 4 "law.go:156" #[{ on := 7, ground := Ground.data }, { on := 2, ground := Ground.guard }]).op, (some (2, 45, true))⟩,
    ⟨(opPick (some 52) (.tmp 45) (.tmp 51) (.const (Value.bool false)) 4 "law.go:156" #[{ on := 2, ground := Ground.data }, { on := 8, ground := Ground.data }]).op, none⟩,
    ⟨(opAssign (some 4) (.tmp 52) 4 "law.go:156" #[{ on := 9, ground := Ground.data }, { on := 7, ground := Ground.chain }, { on := 0, ground := Ground.phase }, { on := 1, ground := Ground.phase }, { on := 2, ground := Ground.phase }, { on := 3, ground := Ground.phase }, { on := 4, ground := Ground.phase }, { on := 5, ground := Ground.phase }, { on := 6, ground := Ground.phase }, { on := 7, ground := Ground.phase }, { on := 8, ground := Ground.phase }, { on := 9, ground := Ground.phase }]).op, none⟩
  ] (by kernel_rfl)))
  (.live [4] .ret))))))))))

noncomputable def f5 : Fun Try.prog where
  id := 5
  fn := Try.f5
  hf := Try.func5
  hname := by kernel_rfl
  body := f5_b
  hbody := by kernel_rfl
  res := [rTmp 4]
  hres := by kernel_rfl
  n := 53
  hn := by kernel_rfl

end Go.Proofs.Ytnmglmkkeghnaaa.V

/- What the functions' runs come to; the right sides were printed by a tool, Lean checks them. -/
set_option linter.unusedVariables false
set_option maxRecDepth 100000
namespace Go.Proofs.Ytnmglmkkeghnaaa.V
open Go Go.V Go.RowKit

theorem null_run (c s : ByteArray) (o k n : Int) (f : Bool) (l : List (List AV)) :
    (f5.run 20 [.agg [.str c, .int .i64 o, .int .i64 k, .int .i64 n, .str s], .sl 3 f l] ⟨[], []⟩ : Ans) =
    branch
      (AV.bool
        (triRows
          (Br.sl true [[AV.str c, AV.int IntKind.i64 o, AV.int IntKind.i64 k, AV.int IntKind.i64 n, AV.str s]], Br.sl f l,
            Br.nil)))
      (branch
        (AV.bool
          (greatF
            (Br.sl true [[AV.str c, AV.int IntKind.i64 o, AV.int IntKind.i64 k, AV.int IntKind.i64 n, AV.str s]], Br.sl f l,
              Br.nil)))
        (some (Fin.ret (AV.bool true), St.mk [] []))
        (branch
          (AV.bool
            (true &&
              ((32 * (↑l.length : Int).toNat).ble 281474976710656 && (↑l.length : Int).toNat.ble 9223372036854775807)))
          (branch (AV.bool (okC (Br.sl f l)))
            (branch
              (AV.bool
                (okC (Br.sl f l) &&
                  okV
                    (Br.sl true
                      (List.replicate (↑l.length : Int).toNat
                        [AV.int IntKind.i64 0, AV.int IntKind.i64 0, AV.str ByteArray.empty]))))
              (branch (AV.bool !(place l c).isSome)
                (some
                  (Fin.ret
                      (AV.bool
                        (truF (c, o, k, n, s) l
                            (List.replicate (↑l.length : Int).toNat
                              [AV.int IntKind.i64 0, AV.int IntKind.i64 0, AV.str ByteArray.empty]) ==
                          -1)),
                    St.mk [] []))
                (branch (AV.bool (o == 5))
                  (some
                    (Fin.ret
                        (AV.bool
                          (truF (c, o, k, n, s) l
                              (List.replicate (↑l.length : Int).toNat
                                [AV.int IntKind.i64 0, AV.int IntKind.i64 0, AV.str ByteArray.empty]) ==
                            1)),
                      St.mk [] []))
                  (branch (AV.bool (o == 6))
                    (some
                      (Fin.ret
                          (AV.bool
                            (truF (c, o, k, n, s) l
                                (List.replicate (↑l.length : Int).toNat
                                  [AV.int IntKind.i64 0, AV.int IntKind.i64 0, AV.str ByteArray.empty]) ==
                              0)),
                        St.mk [] []))
                    (branch
                      (AV.bool
                        (truF (c, o, k, n, s) l
                            (List.replicate (↑l.length : Int).toNat
                              [AV.int IntKind.i64 0, AV.int IntKind.i64 0, AV.str ByteArray.empty]) ==
                          -1))
                      (branch
                        (AV.bool
                          (triOk
                            (Br.sl true
                                [[AV.str c, AV.int IntKind.i64 o, AV.int IntKind.i64 k, AV.int IntKind.i64 n, AV.str s]],
                              Br.sl f l,
                              Br.sl true
                                (List.replicate (↑l.length : Int).toNat
                                  [AV.int IntKind.i64 0, AV.int IntKind.i64 0, AV.str ByteArray.empty]))))
                        (some
                          (Fin.ret
                              (AV.bool
                                !refusesF
                                    [[AV.str c, AV.int IntKind.i64 o, AV.int IntKind.i64 k, AV.int IntKind.i64 n, AV.str s]]
                                    l
                                    (List.replicate (↑l.length : Int).toNat
                                      [AV.int IntKind.i64 0, AV.int IntKind.i64 0, AV.str ByteArray.empty])),
                            St.mk [] []))
                        none)
                      (some (Fin.ret (AV.bool false), St.mk [] []))))))
              none)
            none)
          none))
      none := by kernel_rfl

theorem null_nil (c s : ByteArray) (o k n : Int) :
    (f5.run 20 [.agg [.str c, .int .i64 o, .int .i64 k, .int .i64 n, .str s], .nilsl] ⟨[], []⟩ : Ans) =
    branch
      (AV.bool
        (greatF
          (Br.sl true [[AV.str c, AV.int IntKind.i64 o, AV.int IntKind.i64 k, AV.int IntKind.i64 n, AV.str s]], Br.nil,
            Br.nil)))
      (some (Fin.ret (AV.bool true), St.mk [] [])) (some (Fin.ret (AV.bool true), St.mk [] [])) := by kernel_rfl

end Go.Proofs.Ytnmglmkkeghnaaa.V

/- Cond: CondNull is true. -/
set_option linter.unusedVariables false
namespace Go.Proofs.Ytnmglmkkeghnaaa.V
open Go Go.V Go.RowKit

abbrev zVa : List AV := [AV.int IntKind.i64 0, AV.int IntKind.i64 0, AV.str ByteArray.empty]
theorem canV_null (x v : Va) (h : x.1 = 0) : canV x v = false := by
  obtain ⟨k, n, s⟩ := x
  simp only at h
  subst h
  simp [canV]
theorem truF_null (c : ByteArray) (o : Int) (v : Va) (l : List (List AV)) : truF (c, o, v) l (List.replicate l.length zVa) = (match place l c with
    | none => -1
    | some _ => bif o == 5 then 1 else bif o == 6 then 0 else -1) := by
  unfold truF
  cases hp : place l c with
  | none => rfl
  | some j =>
    obtain ⟨_, h2, _⟩ := idxFrom_some (l := l) hp
    have hj : j < l.length := by omega
    have hr : V.rowAt (List.replicate l.length zVa) (j : Int) = zVa := by rw [rowAt_nat (by simpa using hj)]; simp
    simp only [List.length_replicate, vaAt, hr]
    rw [show decide ((j : Int) ≥ l.length) = false from decide_eq_false (by omega), cond_false]
    simp only [tru1]
    rw [canV_null _ _ rfl]
    cases o == 5
    · cases o == 6 <;> rfl
    · rfl
theorem okV_null (f : Bool) (n : Nat) (h : n ≤ 1000000) : okV (.sl f (List.replicate n zVa)) = true := by
  simp only [okV, Br.list, List.length_replicate, Bool.and_eq_true]
  refine ⟨List.all_eq_true.mpr fun r hr => ?_, decide_eq_true h⟩
  rw [List.eq_of_mem_replicate hr]; rfl
theorem null_true (c s : ByteArray) (o k n : Int) (b : Br) (h : b.list.all isCol = true) : ∃ st, f5.run 20 [.agg [.str c, .int .i64 o, .int .i64 k, .int .i64 n, .str s], Br.av' 3 b] ⟨[], []⟩ = some (.ret (.bool true), st) := by
  cases b with
  | nil =>
    show ∃ st, f5.run 20 [.agg [.str c, .int .i64 o, .int .i64 k, .int .i64 n, .str s], .nilsl] ⟨[], []⟩ = _
    rw [null_nil]
    generalize greatF _ = g
    cases g <;> exact ⟨_, rfl⟩
  | sl f l =>
    show ∃ st, f5.run 20 [.agg [.str c, .int .i64 o, .int .i64 k, .int .i64 n, .str s], .sl 3 f l] ⟨[], []⟩ = _
    have ht : triRows (.sl true [[.str c, .int .i64 o, .int .i64 k, .int .i64 n, .str s]], .sl f l, .nil) = true := by
      simp only [triRows, Br.list] at h ⊢; rw [h]; rfl
    rw [null_run, branch_of ht]
    cases hg : greatF (.sl true [[.str c, .int .i64 o, .int .i64 k, .int .i64 n, .str s]], .sl f l, .nil) with
    | true => exact ⟨_, rfl⟩
    | false =>
      obtain ⟨k1, k2, k3, k4⟩ := great_ok ht hg
      simp only at k2 k4
      have hl : l.length ≤ 1000000 := (okC_spec k2).2
      rw [branch_not rfl]
      simp only [Int.toNat_natCast]
      rw [branch_of (show (true && ((32 * l.length).ble 281474976710656 && l.length.ble 9223372036854775807)) = true by
        rw [Nat.ble_eq_true_of_le (by omega), Nat.ble_eq_true_of_le (by omega)]; rfl)]
      have hv := okV_null true l.length hl
      rw [branch_of k2, branch_of (show (okC (.sl f l) && okV (.sl true (List.replicate l.length zVa))) = true by rw [k2, hv]; rfl), truF_null]
      have e := truF_null c o (k, n, s) l
      cases hp : place l c with
      | none => exact ⟨_, rfl⟩
      | some j =>
        rw [hp] at e
        simp only at e
        rw [branch_not (show (!(some j : Option Nat).isSome) = false from rfl)]
        simp only
        cases h5 : o == 5 with
        | true => exact ⟨_, rfl⟩
        | false =>
          rw [branch_not rfl]
          cases h6 : o == 6 with
          | true => exact ⟨_, rfl⟩
          | false =>
            rw [h5, h6] at e
            simp only [cond_false] at e
            rw [branch_not rfl, branch_of (show ((bif false then (1 : Int) else bif false then 0 else -1) == -1) = true from rfl),
              branch_of (show triOk (.sl true [[.str c, .int .i64 o, .int .i64 k, .int .i64 n, .str s]], .sl f l, .sl true (List.replicate l.length zVa)) = true by simp only [triOk, k4, k2, hv, Bool.and_self]), refuses_one, e]
            exact ⟨_, rfl⟩
theorem null_law (as0 as1 : List AV) (sh0 : Ty.Shape (.st [.str, .int .i64, .st [.int .i64, .int .i64, .str]]) as0) (sh1 : Ty.Shape (.sl (.st [.str, .int .i64, .bool]) 32) as1) :
    ∃ F st, f5.run F [Ty.AV' (.st [.str, .int .i64, .st [.int .i64, .int .i64, .str]]) as0, Ty.AV' (.sl (.st [.str, .int .i64, .bool]) 32) as1] ⟨[], []⟩ = some (.ret (.bool true), st) := by
  obtain ⟨c, o, k, n, s, rfl⟩ := cd_shape _ sh0
  obtain ⟨bx, rfl, hx⟩ := cols_shape sh1
  exact ⟨20, null_true c s o k n bx hx⟩
end Go.Proofs.Ytnmglmkkeghnaaa.V

/- The functions' pieces, as told by gen.py. -/
set_option linter.unusedVariables false
set_option maxRecDepth 20000
namespace Go.Proofs.Ytnmglmkkeghnaaa.V
open Go Go.V Go.RowKit


/-! ### 12: interlock/interlockref00.CopyConds (31); results 2; slots: 0 l, 1 l, 3 out -/
noncomputable def f12_b : Sim Try.prog :=
  (.seq (.live [0] (.region 0 [
    ⟨(opAssign (some 2) (.const (Value.slice none 0 0)) 31 "ref.go:188" #[]).op, none⟩
  ] (by kernel_rfl)))
  (.seq (.live [0, 3] (.region 1 [
    ⟨(opBuildSlice (some 4) 31 0 [] 25 5 56 (.agg #[(.string ⟨#[]⟩), (.int .i64 0), (.int .i64 0), (.int .i64 0), (.string ⟨#[]⟩)]) el31 (by kernel_rfl) (by decide) 31 "ref.go:189" #[]).op, none⟩,
    ⟨(opAssign (some 3) (.tmp 4) 31 "ref.go:189" #[{ on := 0, ground := Ground.data }, { on := 0, ground := Ground.phase }]).op, none⟩
  ] (by kernel_rfl)))
  (.seq (.live [3] (.region 2 [
    ⟨(opMove (some 5) (.tmp 3) 31 "ref.go:190" #[]).op, none⟩,
    ⟨(opMove (some 6) (.tmp 0) 31 "ref.go:190" #[]).op, none⟩,
    ⟨(opAppend (some 7) (.tmp 5) (.tmp 6) 31 31 25 5 56 (.agg #[(.string ⟨#[]⟩), (.int .i64 0), (.int .i64 0), (.int .i64 0), (.string ⟨#[]⟩)]) el31 (.slice 25) Try.underlying31 rfl 31 "ref.go:190" #[{ on := 0, ground := Ground.data }, { on := 1, ground := Ground.data }]).op, none⟩,
    ⟨(opAssign (some 3) (.tmp 7) 31 "ref.go:190" #[{ on := 2, ground := Ground.data }, { on := 2, ground := Ground.chain }, { on := 0, ground := Ground.phase }, { on := 1, ground := Ground.phase }, { on := 2, ground := Ground.phase }]).op, none⟩
  ] (by kernel_rfl)))
  (.seq (.live [2] (.region 3 [
    ⟨(opMove (some 8) (.tmp 3) 31 "ref.go:191" #[]).op, none⟩,
    ⟨(opAssign (some 2) (.tmp 8) 31 "ref.go:191" #[{ on := 0, ground := Ground.data }, { on := 0, ground := Ground.phase }]).op, none⟩
  ] (by kernel_rfl)))
  (.live [2] .ret)))))

noncomputable def f12 : Fun Try.prog where
  id := 12
  fn := Try.f12
  hf := Try.func12
  hname := by kernel_rfl
  body := f12_b
  hbody := by kernel_rfl
  res := [rTmp 2]
  hres := by kernel_rfl
  n := 9
  hn := by kernel_rfl

end Go.Proofs.Ytnmglmkkeghnaaa.V

/- What the functions' runs come to; the right sides were printed by a tool, Lean checks them. -/
set_option linter.unusedVariables false
set_option maxRecDepth 100000
namespace Go.Proofs.Ytnmglmkkeghnaaa.V
open Go Go.V Go.RowKit

theorem cc_run (F : Nat) (f : Bool) (l : List (List AV)) (st : St) :
    (f12.run F [.sl 5 f l] st : Ans) =
    onCons l (some (Fin.ret (AV.sl 5 true []), st)) fun (x : List AV) (l : List (List AV)) =>
      if (0 + (x :: l).length) * 56 ≤ 140737488355328 then
        some (Fin.ret (AV.lg st.tk.length 5 (x :: l)), St.mk st.objs (st.tk ++ [(5, (x :: l).length)]))
      else none := by kernel_rfl

theorem cc_nil (F : Nat) (st : St) :
    (f12.run F.succ [.nilsl] st : Ans) =
    some (Fin.ret (AV.sl 5 true []), st) := by kernel_rfl

end Go.Proofs.Ytnmglmkkeghnaaa.V

/- Cond: copies of conditions, as a callee. -/
set_option linter.unusedVariables false
namespace Go.Proofs.Ytnmglmkkeghnaaa.V
open Go Go.V Go.RowKit
noncomputable def q12 : OrcS Try.prog := f12.cps
  (fun args st k => match args with
    | [z] => match brN 5 z with
      | some .nil => k (.ret (.sl 5 true [])) st
      | some (.sl f l) => match l with
        | [] => k (.ret (.sl 5 true [])) st
        | x :: r => match Nat.ble ((r.length + 1) * 56) 140737488355328 with
          | true => k (.ret (.lg st.tk.length 5 (x :: r))) ⟨st.objs, st.tk ++ [(5, (x :: r).length)]⟩
          | false => none
      | none => none
    | _ => none)
  fun args st k fin h => by
    split at h
    · rename_i z
      split at h
      · rename_i h1
        have := brN_eq h1
        subst this
        exact ⟨_, _, h, Nat.succ 0, cc_nil 0 st⟩
      · rename_i f l h1
        have := brN_eq h1
        subst this
        split at h
        · exact ⟨_, _, h, 0, cc_run 0 f [] st⟩
        · rename_i x r
          split at h
          · rename_i hb
            refine ⟨_, _, h, 0, (cc_run 0 f (x :: r) st).trans ?_⟩
            have := Nat.le_of_ble_eq_true hb
            rw [onCons_cons, if_pos (by simp only [List.length_cons]; omega)]
          · cases h
      · cases h
    · cases h
theorem q12_nat : q12.NatS := by
  intro args st k
  unfold q12 Fun.cps
  simp only []
  split
  · split
    · rfl
    · split
      · rfl
      · split <;> rfl
    · rfl
  · rfl
end Go.Proofs.Ytnmglmkkeghnaaa.V

/- append: what goes on does not sway its answer. -/
set_option linter.unusedVariables false
namespace Go.V
section
variable {P : Program}
theorem aappend_nat (sz bytes : Nat) (s x : AV) (st : St) (k : AV → St → Ans) : aappend sz bytes s x st k = thenM (aappend sz bytes s x st retM) k := by
  unfold aappend
  split
  · rfl
  · split
    · split
      · rfl
      · split <;> rfl
    · split
      · split
        · rfl
        · split
          · split <;> rfl
          · rfl
      · rfl
    · split
      · split <;> rfl
      · rfl
    · rfl
theorem opAppend_nat {dst : Option Tmp} {s x : Operand} {T X e sz bytes : Nat} {z : Value} {hT : ElemOf P T e sz bytes z} {dx : TypeDesc} {hX : P.underlying X = some dx} {hdx : isSeq dx = true} {ty : TypeId} {pos : String} {after : Array Edge} : (opAppend (P := P) dst s x T X e sz bytes z hT dx hX hdx ty pos after).NatM :=
  fun ev st k => aappend_nat _ _ _ _ _ _
end
end Go.V

/- The functions' pieces, as told by gen.py. -/
set_option linter.unusedVariables false
set_option maxRecDepth 20000
namespace Go.Proofs.Ytnmglmkkeghnaaa.V
open Go Go.V Go.RowKit


/-! ### 4: interlock/interlocklaw12.CondMore (31, 25, 26, 28); results 8; slots: 0 l, 1 c, 2 cols, 3 r, 4 l, 5 c, 6 cols, 7 r, 9 more, 10 back, 11 i -/
/-- A loop's round; at its head live: 0 l, 2 cols, 3 r, 9 more, 10 back, 11 i -/
noncomputable def f4_l0 : Sim Try.prog :=
  (.seq (.seq (.live [0, 2, 3, 9, 10, 11, 32] (.region 8 [
    ⟨(opMove (some 31) (.tmp 11) 3 "law.go:106" #[]).op, none⟩,
    ⟨(opBin (some 32) .geq 3 (.tmp 31) (.const (Value.int IntKind.i64 0)) 3 4 "law.go:106" #[{ on := 0, ground := Ground.data }]).op, none⟩
  ] (by kernel_rfl)))
  (.cond (.tmp 32)
    .skip
    (.live [0, 2, 3, 9, 10] (.exit 0))))
  (.seq (.block 1 (.live [0, 2, 3, 9, 10, 11] (.region 10 [
      ⟨(opMove (some 35) (.tmp 10) 31 "law.go:107" #[]).op, none⟩,
      ⟨(opMove (some 36) (.tmp 9) 31 "law.go:107" #[]).op, none⟩,
      ⟨(opMove (some 37) (.tmp 11) 3 "law.go:107" #[]).op, none⟩,
      ⟨(opIndexAddrT (some 38) 31 (.tmp 36) (.tmp 37) 25 5 Try.underlying31 sz25 0 "law.go:107" #[{ on := 1, ground := Ground.data }, { on := 2, ground := Ground.data }]).op, none⟩,
      ⟨(opLoadT (.agg [.str, (.int .i64), (.int .i64), (.int .i64), .str]) (some 39) 25 (.tmp 38) d25 ud25 5 sz25 (by kernel_rfl) 25 "law.go:107" #[{ on := 3, ground := Ground.data }]).op, none⟩,
      ⟨(opBuildSlice (some 40) 31 1 [(0, (.tmp 39))] 25 5 56 (.agg #[(.string ⟨#[]⟩), (.int .i64 0), (.int .i64 0), (.int .i64 0), (.string ⟨#[]⟩)]) el31 (by kernel_rfl) (by decide) 31 "law.go:107" #[{ on := 4, ground := Ground.data }]).op, none⟩,
      ⟨(opAppend (some 41) (.tmp 35) (.tmp 40) 31 31 25 5 56 (.agg #[(.string ⟨#[]⟩), (.int .i64 0), (.int .i64 0), (.int .i64 0), (.string ⟨#[]⟩)]) el31 (.slice 25) Try.underlying31 rfl 31 "law.go:107" #[{ on := 0, ground := Ground.data }, { on := 5, ground := Ground.data }]).op, none⟩,
      ⟨(opAssign (some 10) (.tmp 41) 31 "law.go:107" #[{ on := 6, ground := Ground.data }, { on := 6, ground := Ground.chain }, { on := 0, ground := Ground.phase }, { on := 1, ground := Ground.phase }, { on := 2, ground := Ground.phase }, { on := 3, ground := Ground.phase }, { on := 4, ground := Ground.phase }, { on := 5, ground := Ground.phase }, { on := 6, ground := Ground.phase }]).op, none⟩
    ] (by kernel_rfl))))
  (.live [0, 2, 3, 9, 10, 11] (.region 9 [
    ⟨(opMove (some 33) (.tmp 11) 3 "law.go:106" #[]).op, none⟩,
    ⟨(opBin (some 34) .sub 3 (.tmp 33) (.const (Value.int IntKind.i64 1)) 3 3 "law.go:106" #[{ on := 0, ground := Ground.data }]).op, none⟩,
    ⟨(opAssign (some 11) (.tmp 34) 3 "law.go:106" #[{ on := 1, ground := Ground.data }, { on := 0, ground := Ground.phase }, { on := 1, ground := Ground.phase }]).op, none⟩
  ] (by kernel_rfl)))))

/-- What follows a loop. -/
noncomputable def f4_r0 : Sim Try.prog :=
  (.seq (.seq (.live [2, 3, 9, 10, 65] (.region 11 [
    ⟨(opMove (some 42) (.tmp 9) 31 "law.go:109" #[]).op, none⟩,
    ⟨(opMove (some 43) (.tmp 2) 26 "law.go:109" #[]).op, none⟩,
    ⟨(opMove (some 44) (.tmp 3) 28 "law.go:109" #[]).op, none⟩,
    ⟨(opCallP p10 (some 45) [(.tmp 42), (.tmp 43), (.tmp 44)] #[31, 26, 28] 4 "law.go:109" #[{ on := 0, ground := Ground.data }, { on := 1, ground := Ground.data }, { on := 2, ground := Ground.data }]).op, none⟩,
    ⟨(opMove (some 46) (.tmp 45) 4 "law.go:109" #[{ on := 3, ground := Ground.data }, { on := 3, ground := Ground.chain }]).op, none⟩,
    ⟨(opMove (some 47) (.tmp 0) 31 "law.go:109" #[{ on := 4, ground := Ground.guard }]).op, (some (4, 46, true))⟩,
    ⟨(opMove (some 48) (.tmp 2) 26 "law.go:109" #[{ on := 4, ground := Ground.guard }]).op, (some (4, 46, true))⟩,
    ⟨(opMove (some 49) (.tmp 3) 28 "law.go:109" #[{ on := 4, ground := Ground.guard }]).op, (some (4, 46, true))⟩,
    ⟨(opCallP p10 (some 50) [(.tmp 47), (.tmp 48), (.tmp 49)] #[31, 26, 28] 4 "law.go:109" #[{ on := 5, ground := Ground.data }, { on := 6, ground := Ground.data }, { on := 7, ground := Ground.data }, { on := 4, ground := Ground.chain }, { on := 4, ground := Ground.guard }]).op, (some (4, 46, true))⟩,
    ⟨(opNot (some 51) 4 (.tmp 50) 4 "law.go:109" #[{ on := 8, ground := Ground.data }, { on := 4, ground := Ground.guard }]).op, (some (4, 46, true))⟩,
    ⟨(opPick (some 52) (.tmp 46) (.tmp 51) (.const (Value.bool false)) 4 "law.go:109" #[{ on := 4, ground := Ground.data }, { on := 9, ground := Ground.data }]).op, none⟩,
    ⟨(opMove (some 53) (.tmp 52) 4 "law.go:109" #[{ on := 10, ground := Ground.data }, { on := 8, ground := Ground.chain }]).op, none⟩,
    ⟨(opMove (some 54) (.tmp 0) 31 "law.go:109" #[{ on := 11, ground := Ground.guard }]).op, (some (11, 53, false))⟩,
    ⟨(opMove (some 55) (.tmp 2) 26 "law.go:109" #[{ on := 11, ground := Ground.guard }]).op, (some (11, 53, false))⟩,
    ⟨(opMove (some 56) (.tmp 3) 28 "law.go:109" #[{ on := 11, ground := Ground.guard }]).op, (some (11, 53, false))⟩,
    ⟨(opCallP p11 (some 57) [(.tmp 54), (.tmp 55), (.tmp 56)] #[31, 26, 28] 4 "law.go:109" #[{ on := 12, ground := Ground.data }, { on := 13, ground := Ground.data }, { on := 14, ground := Ground.data }, { on := 11, ground := Ground.chain }, { on := 11, ground := Ground.guard }]).op, (some (11, 53, false))⟩,
    ⟨(opMove (some 58) (.tmp 57) 4 "law.go:109" #[{ on := 15, ground := Ground.data }, { on := 15, ground := Ground.chain }, { on := 11, ground := Ground.guard }]).op, (some (11, 53, false))⟩,
    ⟨(opMove (some 59) (.tmp 9) 31 "law.go:109" #[{ on := 16, ground := Ground.guard }]).op, (some (16, 58, true))⟩,
    ⟨(opMove (some 60) (.tmp 2) 26 "law.go:109" #[{ on := 16, ground := Ground.guard }]).op, (some (16, 58, true))⟩,
    ⟨(opMove (some 61) (.tmp 3) 28 "law.go:109" #[{ on := 16, ground := Ground.guard }]).op, (some (16, 58, true))⟩,
    ⟨(opCallP p11 (some 62) [(.tmp 59), (.tmp 60), (.tmp 61)] #[31, 26, 28] 4 "law.go:109" #[{ on := 17, ground := Ground.data }, { on := 18, ground := Ground.data }, { on := 19, ground := Ground.data }, { on := 16, ground := Ground.chain }, { on := 16, ground := Ground.guard }]).op, (some (16, 58, true))⟩,
    ⟨(opNot (some 63) 4 (.tmp 62) 4 "law.go:109" #[{ on := 20, ground := Ground.data }, { on := 16, ground := Ground.guard }]).op, (some (16, 58, true))⟩,
    ⟨(opPick (some 64) (.tmp 58) (.tmp 63) (.const (Value.bool false)) 4 "law.go:109" #[{ on := 16, ground := Ground.data }, { on := 21, ground := Ground.data }, { on := 11, ground := Ground.guard }]).op, (some (11, 53, false))⟩,
    ⟨(opPick (some 65) (.tmp 53) (.const (Value.bool true)) (.tmp 64) 4 "law.go:109" #[{ on := 11, ground := Ground.data }, { on := 22, ground := Ground.data }]).op, none⟩
  ] (by kernel_rfl)))
  (.cond (.tmp 65)
    (.seq (.live [8] (.region 12 [
      ⟨(opAssign (some 8) (.const (Value.bool false)) 4 "law.go:110" #[]).op, none⟩
    ] (by kernel_rfl)))
    (.live [8] .ret))
    .skip))
  (.seq (.live [8] (.region 13 [
    ⟨(opMove (some 66) (.tmp 2) 26 "law.go:112" #[]).op, none⟩,
    ⟨(opMove (some 67) (.tmp 3) 28 "law.go:112" #[]).op, none⟩,
    ⟨(opCallP p10 (some 68) [(.const (Value.slice none 0 0)), (.tmp 66), (.tmp 67)] #[31, 26, 28] 4 "law.go:112" #[{ on := 0, ground := Ground.data }, { on := 1, ground := Ground.data }]).op, none⟩,
    ⟨(opMove (some 69) (.tmp 68) 4 "law.go:112" #[{ on := 2, ground := Ground.data }, { on := 2, ground := Ground.chain }]).op, none⟩,
    ⟨(opMove (some 70) (.tmp 2) 26 "law.go:112" #[{ on := 3, ground := Ground.guard }]).op, (some (3, 69, true))⟩,
    ⟨(opMove (some 71) (.tmp 3) 28 "law.go:112" #[{ on := 3, ground := Ground.guard }]).op, (some (3, 69, true))⟩,
    ⟨(opCallP p11 (some 72) [(.const (Value.slice none 0 0)), (.tmp 70), (.tmp 71)] #[31, 26, 28] 4 "law.go:112" #[{ on := 4, ground := Ground.data }, { on := 5, ground := Ground.data }, { on := 3, ground := Ground.chain }, { on := 3, ground := Ground.guard }]).op, (some (3, 69, true))⟩,
    ⟨(opNot (some 73) 4 (.tmp 72) 4 "law.go:112" #[{ on := 6, ground := Ground.data }, { on := 3, ground := Ground.guard }]).op, (some (3, 69, true))⟩,
    ⟨(opPick (some 74) (.tmp 69) (.tmp 73) (.const (Value.bool false)) 4 "law.go:112" #[{ on := 3, ground := Ground.data }, { on := 7, ground := Ground.data }]).op, none⟩,
    ⟨(opMove (some 75) (.tmp 74) 4 "law.go:112" #[{ on := 8, ground := Ground.data }, { on := 6, ground := Ground.chain }]).op, none⟩,
    ⟨(opMove (some 76) (.tmp 9) 31 "law.go:112" #[{ on := 9, ground := Ground.guard }]).op, (some (9, 75, true))⟩,
    ⟨(opMove (some 77) (.tmp 2) 26 "law.go:112" #[{ on := 9, ground := Ground.guard }]).op, (some (9, 75, true))⟩,
    ⟨(opMove (some 78) (.tmp 3) 28 "law.go:112" #[{ on := 9, ground := Ground.guard }]).op, (some (9, 75, true))⟩,
    ⟨(opCallP p10 (some 79) [(.tmp 76), (.tmp 77), (.tmp 78)] #[31, 26, 28] 4 "law.go:112" #[{ on := 10, ground := Ground.data }, { on := 11, ground := Ground.data }, { on := 12, ground := Ground.data }, { on := 9, ground := Ground.chain }, { on := 9, ground := Ground.guard }]).op, (some (9, 75, true))⟩,
    ⟨(opMove (some 80) (.tmp 10) 31 "law.go:112" #[{ on := 9, ground := Ground.guard }]).op, (some (9, 75, true))⟩,
    ⟨(opMove (some 81) (.tmp 2) 26 "law.go:112" #[{ on := 9, ground := Ground.guard }]).op, (some (9, 75, true))⟩,
    ⟨(opMove (some 82) (.tmp 3) 28 "law.go:112" #[{ on := 9, ground := Ground.guard }]).op, (some (9, 75, true))⟩,
    ⟨(opCallP p10 (some 83) [(.tmp 80), (.tmp 81), (.tmp 82)] #[31, 26, 28] 4 "law.go:112" #[{ on := 14, ground := Ground.data }, { on := 15, ground := Ground.data }, { on := 16, ground := Ground.data }, { on := 13, ground := Ground.chain }, { on := 9, ground := Ground.guard }]).op, (some (9, 75, true))⟩,
    ⟨(opEq (some 84) 4 .bool Try.underlying4 (.tmp 79) (.tmp 83) (.inr rfl) 4 4 "law.go:112" #[{ on := 13, ground := Ground.data }, { on := 17, ground := Ground.data }, { on := 9, ground := Ground.guard }]).op, (some (9, 75, true))⟩,
    ⟨(opPick (some 85) (.tmp 75) (.tmp 84) (.const (Value.bool false)) 4 "law.go:112" #[{ on := 9, ground := Ground.data }, { on := 18, ground := Ground.data }]).op, none⟩,
    ⟨(opMove (some 86) (.tmp 85) 4 "law.go:112" #[{ on := 19, ground := Ground.data }, { on := 17, ground := Ground.chain }]).op, none⟩,
    ⟨(opMove (some 87) (.tmp 9) 31 "law.go:112" #[{ on := 20, ground := Ground.guard }]).op, (some (20, 86, true))⟩,
    ⟨(opMove (some 88) (.tmp 2) 26 "law.go:112" #[{ on := 20, ground := Ground.guard }]).op, (some (20, 86, true))⟩,
    ⟨(opMove (some 89) (.tmp 3) 28 "law.go:112" #[{ on := 20, ground := Ground.guard }]).op, (some (20, 86, true))⟩,
    ⟨(opCallP p11 (some 90) [(.tmp 87), (.tmp 88), (.tmp 89)] #[31, 26, 28] 4 "law.go:112" #[{ on := 21, ground := Ground.data }, { on := 22, ground := Ground.data }, { on := 23, ground := Ground.data }, { on := 20, ground := Ground.chain }, { on := 20, ground := Ground.guard }]).op, (some (20, 86, true))⟩,
    ⟨(opMove (some 91) (.tmp 10) 31 "law.go:112" #[{ on := 20, ground := Ground.guard }]).op, (some (20, 86, true))⟩,
    ⟨(opMove (some 92) (.tmp 2) 26 "law.go:112" #[{ on := 20, ground := Ground.guard }]).op, (some (20, 86, true))⟩,
    ⟨(opMove (some 93) (.tmp 3) 28 "law.go:112" #[{ on := 20, ground := Ground.guard }]).op, (some (20, 86, true))⟩,
    ⟨(opCallP p11 (some 94) [(.tmp 91), (.tmp 92), (.tmp 93)] #[31, 26, 28] 4 "law.go:112" #[{ on := 25, ground := Ground.data }, { on := 26, ground := Ground.data }, { on := 27, ground := Ground.data }, { on := 24, ground := Ground.chain }, { on := 20, ground := Ground.guard }]).op, (some (20, 86, true))⟩,
    ⟨(opEq (some 95) 4 .bool Try.underlying4 (.tmp 90) (.tmp 94) (.inr rfl) 4 4 "law.go:112" #[{ on := 24, ground := Ground.data }, { on := 28, ground := Ground.data }, { on := 20, ground := Ground.guard }]).op, (some (20, 86, true))⟩,
    ⟨(opPick (some 96) (.tmp 86) (.tmp 95) (.const (Value.bool false)) 4 "law.go:112" #[{ on := 20, ground := Ground.data }, { on := 29, ground := Ground.data }]).op, none⟩,
    ⟨(opAssign (some 8) (.tmp 96) 4 "law.go:112" #[{ on := 30, ground := Ground.data }, { on := 28, ground := Ground.chain }, { on := 0, ground := Ground.phase }, { on := 1, ground := Ground.phase }, { on := 2, ground := Ground.phase }, { on := 3, ground := Ground.phase }, { on := 4, ground := Ground.phase }, { on := 5, ground := Ground.phase }, { on := 6, ground := Ground.phase }, { on := 7, ground := Ground.phase }, { on := 8, ground := Ground.phase }, { on := 9, ground := Ground.phase }, { on := 10, ground := Ground.phase }, { on := 11, ground := Ground.phase }, { on := 12, ground := Ground.phase }, { on := 13, ground := Ground.phase }, { on := 14, ground := Ground.phase }, { on := 15, ground := Ground.phase }, { on := 16, ground := Ground.phase }, { on := 17, ground := Ground.phase }, { on := 18, ground := Ground.phase }, { on := 19, ground := Ground.phase }, { on := 20, ground := Ground.phase }, { on := 21, ground := Ground.phase }, { on := 22, ground := Ground.phase }, { on := 23, ground := Ground.phase }, { on := 24, ground := Ground.phase }, { on := 25, ground := Ground.phase }, { on := 26, ground := Ground.phase }, { on := 27, ground := Ground.phase }, { on := 28, ground := Ground.phase }, { on := 29, ground := Ground.phase }, { on := 30, ground := Ground.phase }]).op, none⟩
  ] (by kernel_rfl)))
  (.live [8] .ret)))

noncomputable def f4_b : Sim Try.prog :=
  (.seq (.live [0, 2, 3, 5] (.region 0 [
    ⟨(opBoxF (some 5) 25 (.tmp 1) 0 "law.go:97" #[]).op, none⟩,
    ⟨(opAssign (some 8) (.const (Value.bool false)) 4 "law.go:97" #[]).op, none⟩
  ] (by kernel_rfl)))
  (.seq (.seq (.live [0, 2, 3, 5, 13] (.region 1 [
    ⟨(opCallP p7 (some 12) [] #[] 4 "law.go:98" #[]).op, none⟩,
    ⟨(opNot (some 13) 4 (.tmp 12) 4 "law.go:98" #[{ on := 0, ground := Ground.data }]).op, none⟩
  ] (by kernel_rfl)))
  (.cond (.tmp 13)
    (.seq (.live [8] (.region 2 [
      ⟨(opAssign (some 8) (.const (Value.bool false)) 4 "law.go:99" #[]).op, none⟩
    ] (by kernel_rfl)))
    (.live [8] .ret))
    .skip))
  (.seq (.seq (.live [0, 2, 3, 5, 21] (.draw 3 [
    ⟨.p (opMove (some 14) (.tmp 0) 31 "law.go:101" #[]), none⟩,
    ⟨.mn (opCallM (q12) (some 15) [(.tmp 14)] #[31] 31 "law.go:101" #[{ on := 0, ground := Ground.data }]) (opCallM_nat q12_nat), none⟩,
    ⟨.pn (opLoadTF (.agg [.str, (.int .i64), (.int .i64), (.int .i64), .str]) (some 16) 25 (.tmp 5) d25 ud25 5 sz25 (by kernel_rfl) 25 "law.go:101" #[]) opLoadTF_nat, none⟩,
    ⟨.p (opBuildSlice (some 17) 31 1 [(0, (.tmp 16))] 25 5 56 (.agg #[(.string ⟨#[]⟩), (.int .i64 0), (.int .i64 0), (.int .i64 0), (.string ⟨#[]⟩)]) el31 (by kernel_rfl) (by decide) 31 "law.go:101" #[{ on := 2, ground := Ground.data }]), none⟩,
    ⟨.mn (opAppend (some 18) (.tmp 15) (.tmp 17) 31 31 25 5 56 (.agg #[(.string ⟨#[]⟩), (.int .i64 0), (.int .i64 0), (.int .i64 0), (.string ⟨#[]⟩)]) el31 (.slice 25) Try.underlying31 rfl 31 "law.go:101" #[{ on := 1, ground := Ground.data }, { on := 3, ground := Ground.data }, { on := 1, ground := Ground.chain }]) opAppend_nat, none⟩,
    ⟨.p (opMove (some 19) (.tmp 2) 26 "law.go:101" #[]), none⟩,
    ⟨.p (opMove (some 20) (.tmp 3) 28 "law.go:101" #[]), none⟩,
    ⟨.pn (opCallP p8 (some 21) [(.tmp 18), (.tmp 19), (.tmp 20)] #[31, 26, 28] 4 "law.go:101" #[{ on := 4, ground := Ground.data }, { on := 5, ground := Ground.data }, { on := 6, ground := Ground.data }, { on := 4, ground := Ground.chain }]) (opCallP_nat p8_nat), none⟩
  ] mixed (by kernel_rfl)))
  (.cond (.tmp 21)
    (.seq (.live [8] (.region 4 [
      ⟨(opAssign (some 8) (.const (Value.bool true)) 4 "law.go:102" #[]).op, none⟩
    ] (by kernel_rfl)))
    (.live [8] .ret))
    .skip))
  (.seq (.live [0, 2, 3, 9] (.draw 5 [
    ⟨.p (opMove (some 22) (.tmp 0) 31 "law.go:104" #[]), none⟩,
    ⟨.mn (opCallM (q12) (some 23) [(.tmp 22)] #[31] 31 "law.go:104" #[{ on := 0, ground := Ground.data }]) (opCallM_nat q12_nat), none⟩,
    ⟨.pn (opLoadTF (.agg [.str, (.int .i64), (.int .i64), (.int .i64), .str]) (some 24) 25 (.tmp 5) d25 ud25 5 sz25 (by kernel_rfl) 25 "law.go:104" #[]) opLoadTF_nat, none⟩,
    ⟨.p (opBuildSlice (some 25) 31 1 [(0, (.tmp 24))] 25 5 56 (.agg #[(.string ⟨#[]⟩), (.int .i64 0), (.int .i64 0), (.int .i64 0), (.string ⟨#[]⟩)]) el31 (by kernel_rfl) (by decide) 31 "law.go:104" #[{ on := 2, ground := Ground.data }]), none⟩,
    ⟨.mn (opAppend (some 26) (.tmp 23) (.tmp 25) 31 31 25 5 56 (.agg #[(.string ⟨#[]⟩), (.int .i64 0), (.int .i64 0), (.int .i64 0), (.string ⟨#[]⟩)]) el31 (.slice 25) Try.underlying31 rfl 31 "law.go:104" #[{ on := 1, ground := Ground.data }, { on := 3, ground := Ground.data }, { on := 1, ground := Ground.chain }]) opAppend_nat, none⟩,
    ⟨.p (opAssign (some 9) (.tmp 26) 31 "law.go:104" #[{ on := 4, ground := Ground.data }, { on := 4, ground := Ground.chain }, { on := 0, ground := Ground.phase }, { on := 1, ground := Ground.phase }, { on := 2, ground := Ground.phase }, { on := 3, ground := Ground.phase }, { on := 4, ground := Ground.phase }]), none⟩
  ] mixed (by kernel_rfl)))
  (.seq (.live [0, 2, 3, 9, 10] (.region 6 [
    ⟨(opBuildSlice (some 27) 31 0 [] 25 5 56 (.agg #[(.string ⟨#[]⟩), (.int .i64 0), (.int .i64 0), (.int .i64 0), (.string ⟨#[]⟩)]) el31 (by kernel_rfl) (by decide) 31 "law.go:105" #[]).op, none⟩,
    ⟨(opAssign (some 10) (.tmp 27) 31 "law.go:105" #[{ on := 0, ground := Ground.data }, { on := 0, ground := Ground.phase }]).op, none⟩
  ] (by kernel_rfl)))
  (.seq (.seq (.live [0, 2, 3, 9, 10, 11] (.region 7 [
    ⟨(opMove (some 28) (.tmp 9) 31 "law.go:106" #[]).op, none⟩,
    ⟨(opLen (some 29) (.tmp 28) 31 (.slice 25) Try.underlying31 3 "law.go:106" #[{ on := 0, ground := Ground.data }]).op, none⟩,
    ⟨(opBin (some 30) .sub 3 (.tmp 29) (.const (Value.int IntKind.i64 1)) 3 3 "law.go:106" #[{ on := 1, ground := Ground.data }]).op, none⟩,
    ⟨(opAssign (some 11) (.tmp 30) 3 "law.go:106" #[{ on := 2, ground := Ground.data }, { on := 0, ground := Ground.phase }, { on := 1, ground := Ground.phase }, { on := 2, ground := Ground.phase }]).op, none⟩
  ] (by kernel_rfl)))
  (.block 0 (.loop [0, 2, 3, 9, 10, 11] f4_l0)))
  f4_r0))))))

noncomputable def f4 : Fun Try.prog where
  id := 4
  fn := Try.f4
  hf := Try.func4
  hname := by kernel_rfl
  body := f4_b
  hbody := by kernel_rfl
  res := [rTmp 8]
  hres := by kernel_rfl
  n := 97
  hn := by kernel_rfl

end Go.Proofs.Ytnmglmkkeghnaaa.V

/- What the functions' runs come to; the right sides were printed by a tool, Lean checks them. -/
set_option linter.unusedVariables false
set_option maxRecDepth 100000
namespace Go.Proofs.Ytnmglmkkeghnaaa.V
open Go Go.V Go.RowKit

theorem more_nil (F : Nat) (c s : ByteArray) (o k n : Int) (x y : AV) :
    (f4.run F [.nilsl, .agg [.str c, .int .i64 o, .int .i64 k, .int .i64 n, .str s], x, y] ⟨[], []⟩ : Ans) =
    onSome
      (dTri
        [AV.sl 5 false [[AV.str c, AV.int IntKind.i64 o, AV.int IntKind.i64 k, AV.int IntKind.i64 n, AV.str s]], frz x,
          frz y])
      none fun (o_1 : Tri) =>
      branch (AV.bool (triRows o_1))
        (branch (AV.bool (greatF o_1)) (some (Fin.ret (AV.bool true), St.mk [] [(5, 1)]))
          (loopRun (f4_l0.run F) [0, 2, 3, 9, 10, 11]
            (Cont.block 0 (Cont.then (f4_r0.run F (f4.leaveK Fun.done)) (f4.leaveK Fun.done))) F
            (Env.mk 97
              [(0, AV.nilsl), (2, x), (3, y),
                (9, AV.lg 1 5 [[AV.str c, AV.int IntKind.i64 o, AV.int IntKind.i64 k, AV.int IntKind.i64 n, AV.str s]]),
                (10, AV.sl 5 true []), (11, AV.int IntKind.i64 0)])
            (St.mk [] [(5, 1), (5, 1)])))
        none := by kernel_rfl

theorem more_emp (F : Nat) (f : Bool) (c s : ByteArray) (o k n : Int) (x y : AV) :
    (f4.run F [.sl 5 f [], .agg [.str c, .int .i64 o, .int .i64 k, .int .i64 n, .str s], x, y] ⟨[], []⟩ : Ans) =
    onSome
      (dTri
        [AV.sl 5 false [[AV.str c, AV.int IntKind.i64 o, AV.int IntKind.i64 k, AV.int IntKind.i64 n, AV.str s]], frz x,
          frz y])
      none fun (o_1 : Tri) =>
      branch (AV.bool (triRows o_1))
        (branch (AV.bool (greatF o_1)) (some (Fin.ret (AV.bool true), St.mk [] [(5, 1)]))
          (loopRun (f4_l0.run F) [0, 2, 3, 9, 10, 11]
            (Cont.block 0 (Cont.then (f4_r0.run F (f4.leaveK Fun.done)) (f4.leaveK Fun.done))) F
            (Env.mk 97
              [(0, AV.sl 5 f []), (2, x), (3, y),
                (9, AV.lg 1 5 [[AV.str c, AV.int IntKind.i64 o, AV.int IntKind.i64 k, AV.int IntKind.i64 n, AV.str s]]),
                (10, AV.sl 5 true []), (11, AV.int IntKind.i64 0)])
            (St.mk [] [(5, 1), (5, 1)])))
        none := by kernel_rfl

theorem more_cons (F : Nat) (f : Bool) (l0 : List AV) (l : List (List AV)) (c s : ByteArray) (o k n : Int) (x y : AV) :
    (f4.run F [.sl 5 f (l0 :: l), .agg [.str c, .int .i64 o, .int .i64 k, .int .i64 n, .str s], x, y] ⟨[], []⟩ : Ans) =
    branch (AV.bool (((l.length + 1) * 56).ble 140737488355328))
      (if some (5, (l0 :: l).length) = some (5, (l0 :: l).length) ∧ ((l0 :: l).length + 1) * 56 ≤ 140737488355328 then
        onSome
          (dTri
            [AV.sl 5 false
                (l0 :: l ++ [[AV.str c, AV.int IntKind.i64 o, AV.int IntKind.i64 k, AV.int IntKind.i64 n, AV.str s]]),
              frz x, frz y])
          none fun (o_1 : Tri) =>
          branch (AV.bool (triRows o_1))
            (branch (AV.bool (greatF o_1)) (some (Fin.ret (AV.bool true), St.mk [] [(5, (l0 :: l).length + 1)]))
              (branch (AV.bool (((l.length + 1) * 56).ble 140737488355328))
                (if
                    some (5, (l0 :: l).length) = some (5, (l0 :: l).length) ∧
                      ((l0 :: l).length + 1) * 56 ≤ 140737488355328 then
                  loopRun (f4_l0.run F) [0, 2, 3, 9, 10, 11]
                    (Cont.block 0 (Cont.then (f4_r0.run F (f4.leaveK Fun.done)) (f4.leaveK Fun.done))) F
                    (Env.mk 97
                      [(0, AV.sl 5 f (l0 :: l)), (2, x), (3, y),
                        (9,
                          AV.lg 1 5
                            (l0 :: l ++
                              [[AV.str c, AV.int IntKind.i64 o, AV.int IntKind.i64 k, AV.int IntKind.i64 n, AV.str s]])),
                        (10, AV.sl 5 true []),
                        (11,
                          AV.int IntKind.i64
                            (IntKind.i64.wrap
                              ((↑(l0 :: l ++
                                        [[AV.str c, AV.int IntKind.i64 o, AV.int IntKind.i64 k, AV.int IntKind.i64 n,
                                            AV.str s]]).length :
                                  Int) -
                                1)))])
                    (St.mk [] [(5, (l0 :: l).length + 1), (5, (l0 :: l).length + 1)])
                else none)
                none))
            none
      else none)
      none := by kernel_rfl

theorem mr_round (F m t u : Nat) (K : Cont) (z x y : AV) (i : Int) (L B : List (List AV)) (os : List Ob) (tk : List (Nat × Nat)) :
    (loopRun (f4_l0.run F) [0, 2, 3, 9, 10, 11] K m.succ (Env.mk 97 [(0, z), (2, x), (3, y), (9, .lg t 5 L), (10, .lg u 5 B), (11, .int .i64 i)]) ⟨os, tk⟩ : Ans) =
    branch (AV.bool (decide (i ≥ 0)))
      (branch (AV.bool (inR L i))
        (branch
          (AV.bool ((LD.agg [LT.str, LT.int IntKind.i64, LT.int IntKind.i64, LT.int IntKind.i64, LT.str]).is (V.rowAt L i)))
          (if tk[u]? = some (5, B.length) ∧ (B.length + 1) * 56 ≤ 140737488355328 then
            loopRun (f4_l0.run F) [0, 2, 3, 9, 10, 11] K m
              (Env.mk 97
                [(0, z), (2, x), (3, y), (9, AV.lg t 5 L),
                  (10,
                    AV.lg u 5
                      (B ++
                        [[AV.str (hdS (V.rowAt L i)), AV.int IntKind.i64 (hdI (V.rowAt L i).tail),
                            AV.int IntKind.i64 (hdI (V.rowAt L i).tail.tail),
                            AV.int IntKind.i64 (hdI (V.rowAt L i).tail.tail.tail),
                            AV.str (hdS (V.rowAt L i).tail.tail.tail.tail)]])),
                  (11, AV.int IntKind.i64 (IntKind.i64.wrap (i - 1)))])
              (St.mk os (tk.set u (5, B.length + 1)))
          else none)
          none)
        none)
      (K (AX.exit 0) (Env.mk 97 [(0, z), (2, x), (3, y), (9, AV.lg t 5 L), (10, AV.lg u 5 B)]) (St.mk os tk)) := by kernel_rfl

theorem mr_first (F m t : Nat) (K : Cont) (z x y : AV) (i : Int) (L : List (List AV)) (os : List Ob) (tk : List (Nat × Nat)) :
    (loopRun (f4_l0.run F) [0, 2, 3, 9, 10, 11] K m.succ (Env.mk 97 [(0, z), (2, x), (3, y), (9, .lg t 5 L), (10, .sl 5 true []), (11, .int .i64 i)]) ⟨os, tk⟩ : Ans) =
    branch (AV.bool (decide (i ≥ 0)))
      (branch (AV.bool (inR L i))
        (branch
          (AV.bool ((LD.agg [LT.str, LT.int IntKind.i64, LT.int IntKind.i64, LT.int IntKind.i64, LT.str]).is (V.rowAt L i)))
          (loopRun (f4_l0.run F) [0, 2, 3, 9, 10, 11] K m
            (Env.mk 97
              [(0, z), (2, x), (3, y), (9, AV.lg t 5 L),
                (10,
                  AV.lg tk.length 5
                    [[AV.str (hdS (V.rowAt L i)), AV.int IntKind.i64 (hdI (V.rowAt L i).tail),
                        AV.int IntKind.i64 (hdI (V.rowAt L i).tail.tail),
                        AV.int IntKind.i64 (hdI (V.rowAt L i).tail.tail.tail),
                        AV.str (hdS (V.rowAt L i).tail.tail.tail.tail)]]),
                (11, AV.int IntKind.i64 (IntKind.i64.wrap (i - 1)))])
            (St.mk os (tk ++ [(5, 1)])))
          none)
        none)
      (K (AX.exit 0) (Env.mk 97 [(0, z), (2, x), (3, y), (9, AV.lg t 5 L), (10, AV.sl 5 true [])]) (St.mk os tk)) := by kernel_rfl

theorem mr_out (F t u : Nat) (z x y : AV) (L B : List (List AV)) (st : St) :
    ((Cont.block 0 (Cont.then (f4_r0.run F (f4.leaveK Fun.done)) (f4.leaveK Fun.done))) (.exit 0) (Env.mk 97 [(0, z), (2, x), (3, y), (9, .lg t 5 L), (10, .lg u 5 B)]) st : Ans) =
    onSome (dTri [AV.sl 5 false L, frz x, frz y]) none fun (o : Tri) =>
      branch (AV.bool (triOk o))
        (branch (AV.bool (holdsF o.fst.list o.snd.fst.list o.snd.snd.list))
          (onSome (dTri [frz z, frz x, frz y]) none fun (o : Tri) =>
            branch (AV.bool (triOk o))
              (branch (AV.bool !holdsF o.fst.list o.snd.fst.list o.snd.snd.list) (some (Fin.ret (AV.bool false), st))
                (onSome (dTri [frz z, frz x, frz y]) none fun (o : Tri) =>
                  branch (AV.bool (triOk o))
                    (branch (AV.bool (refusesF o.fst.list o.snd.fst.list o.snd.snd.list))
                      (onSome (dTri [AV.sl 5 false L, frz x, frz y]) none fun (o : Tri) =>
                        branch (AV.bool (triOk o))
                          (branch (AV.bool !refusesF o.fst.list o.snd.fst.list o.snd.snd.list)
                            (some (Fin.ret (AV.bool false), st))
                            (onSome (dTri [AV.nilsl, frz x, frz y]) none fun (o : Tri) =>
                              branch (AV.bool (triOk o))
                                (branch (AV.bool (holdsF o.fst.list o.snd.fst.list o.snd.snd.list))
                                  (onSome (dTri [AV.nilsl, frz x, frz y]) none fun (o : Tri) =>
                                    branch (AV.bool (triOk o))
                                      (branch (AV.bool !refusesF o.fst.list o.snd.fst.list o.snd.snd.list)
                                        (onSome (dTri [AV.sl 5 false L, frz x, frz y]) none fun (o : Tri) =>
                                          branch (AV.bool (triOk o))
                                            (onSome (dTri [AV.sl 5 false B, frz x, frz y]) none fun (o_1 : Tri) =>
                                              branch (AV.bool (triOk o_1))
                                                (branch
                                                  (AV.bool
                                                    (holdsF o.fst.list o.snd.fst.list o.snd.snd.list ==
                                                      holdsF o_1.fst.list o_1.snd.fst.list o_1.snd.snd.list))
                                                  (onSome (dTri [AV.sl 5 false L, frz x, frz y]) none fun (o : Tri) =>
                                                    branch (AV.bool (triOk o))
                                                      (onSome (dTri [AV.sl 5 false B, frz x, frz y]) none fun (o_2 : Tri) =>
                                                        branch (AV.bool (triOk o_2))
                                                          (some
                                                            (Fin.ret
                                                                (AV.bool
                                                                  (refusesF o.fst.list o.snd.fst.list o.snd.snd.list ==
                                                                    refusesF o_2.fst.list o_2.snd.fst.list
                                                                      o_2.snd.snd.list)),
                                                              st))
                                                          none)
                                                      none)
                                                  (some (Fin.ret (AV.bool false), st)))
                                                none)
                                            none)
                                        (some (Fin.ret (AV.bool false), st)))
                                      none)
                                  (some (Fin.ret (AV.bool false), st)))
                                none))
                          none)
                      (onSome (dTri [AV.nilsl, frz x, frz y]) none fun (o : Tri) =>
                        branch (AV.bool (triOk o))
                          (branch (AV.bool (holdsF o.fst.list o.snd.fst.list o.snd.snd.list))
                            (onSome (dTri [AV.nilsl, frz x, frz y]) none fun (o : Tri) =>
                              branch (AV.bool (triOk o))
                                (branch (AV.bool !refusesF o.fst.list o.snd.fst.list o.snd.snd.list)
                                  (onSome (dTri [AV.sl 5 false L, frz x, frz y]) none fun (o : Tri) =>
                                    branch (AV.bool (triOk o))
                                      (onSome (dTri [AV.sl 5 false B, frz x, frz y]) none fun (o_1 : Tri) =>
                                        branch (AV.bool (triOk o_1))
                                          (branch
                                            (AV.bool
                                              (holdsF o.fst.list o.snd.fst.list o.snd.snd.list ==
                                                holdsF o_1.fst.list o_1.snd.fst.list o_1.snd.snd.list))
                                            (onSome (dTri [AV.sl 5 false L, frz x, frz y]) none fun (o : Tri) =>
                                              branch (AV.bool (triOk o))
                                                (onSome (dTri [AV.sl 5 false B, frz x, frz y]) none fun (o_2 : Tri) =>
                                                  branch (AV.bool (triOk o_2))
                                                    (some
                                                      (Fin.ret
                                                          (AV.bool
                                                            (refusesF o.fst.list o.snd.fst.list o.snd.snd.list ==
                                                              refusesF o_2.fst.list o_2.snd.fst.list o_2.snd.snd.list)),
                                                        st))
                                                    none)
                                                none)
                                            (some (Fin.ret (AV.bool false), st)))
                                          none)
                                      none)
                                  (some (Fin.ret (AV.bool false), st)))
                                none)
                            (some (Fin.ret (AV.bool false), st)))
                          none))
                    none))
              none)
          (onSome (dTri [frz z, frz x, frz y]) none fun (o : Tri) =>
            branch (AV.bool (triOk o))
              (branch (AV.bool (refusesF o.fst.list o.snd.fst.list o.snd.snd.list))
                (onSome (dTri [AV.sl 5 false L, frz x, frz y]) none fun (o : Tri) =>
                  branch (AV.bool (triOk o))
                    (branch (AV.bool !refusesF o.fst.list o.snd.fst.list o.snd.snd.list)
                      (some (Fin.ret (AV.bool false), st))
                      (onSome (dTri [AV.nilsl, frz x, frz y]) none fun (o : Tri) =>
                        branch (AV.bool (triOk o))
                          (branch (AV.bool (holdsF o.fst.list o.snd.fst.list o.snd.snd.list))
                            (onSome (dTri [AV.nilsl, frz x, frz y]) none fun (o : Tri) =>
                              branch (AV.bool (triOk o))
                                (branch (AV.bool !refusesF o.fst.list o.snd.fst.list o.snd.snd.list)
                                  (onSome (dTri [AV.sl 5 false L, frz x, frz y]) none fun (o : Tri) =>
                                    branch (AV.bool (triOk o))
                                      (onSome (dTri [AV.sl 5 false B, frz x, frz y]) none fun (o_1 : Tri) =>
                                        branch (AV.bool (triOk o_1))
                                          (branch
                                            (AV.bool
                                              (holdsF o.fst.list o.snd.fst.list o.snd.snd.list ==
                                                holdsF o_1.fst.list o_1.snd.fst.list o_1.snd.snd.list))
                                            (onSome (dTri [AV.sl 5 false L, frz x, frz y]) none fun (o : Tri) =>
                                              branch (AV.bool (triOk o))
                                                (onSome (dTri [AV.sl 5 false B, frz x, frz y]) none fun (o_2 : Tri) =>
                                                  branch (AV.bool (triOk o_2))
                                                    (some
                                                      (Fin.ret
                                                          (AV.bool
                                                            (refusesF o.fst.list o.snd.fst.list o.snd.snd.list ==
                                                              refusesF o_2.fst.list o_2.snd.fst.list o_2.snd.snd.list)),
                                                        st))
                                                    none)
                                                none)
                                            (some (Fin.ret (AV.bool false), st)))
                                          none)
                                      none)
                                  (some (Fin.ret (AV.bool false), st)))
                                none)
                            (some (Fin.ret (AV.bool false), st)))
                          none))
                    none)
                (onSome (dTri [AV.nilsl, frz x, frz y]) none fun (o : Tri) =>
                  branch (AV.bool (triOk o))
                    (branch (AV.bool (holdsF o.fst.list o.snd.fst.list o.snd.snd.list))
                      (onSome (dTri [AV.nilsl, frz x, frz y]) none fun (o : Tri) =>
                        branch (AV.bool (triOk o))
                          (branch (AV.bool !refusesF o.fst.list o.snd.fst.list o.snd.snd.list)
                            (onSome (dTri [AV.sl 5 false L, frz x, frz y]) none fun (o : Tri) =>
                              branch (AV.bool (triOk o))
                                (onSome (dTri [AV.sl 5 false B, frz x, frz y]) none fun (o_1 : Tri) =>
                                  branch (AV.bool (triOk o_1))
                                    (branch
                                      (AV.bool
                                        (holdsF o.fst.list o.snd.fst.list o.snd.snd.list ==
                                          holdsF o_1.fst.list o_1.snd.fst.list o_1.snd.snd.list))
                                      (onSome (dTri [AV.sl 5 false L, frz x, frz y]) none fun (o : Tri) =>
                                        branch (AV.bool (triOk o))
                                          (onSome (dTri [AV.sl 5 false B, frz x, frz y]) none fun (o_2 : Tri) =>
                                            branch (AV.bool (triOk o_2))
                                              (some
                                                (Fin.ret
                                                    (AV.bool
                                                      (refusesF o.fst.list o.snd.fst.list o.snd.snd.list ==
                                                        refusesF o_2.fst.list o_2.snd.fst.list o_2.snd.snd.list)),
                                                  st))
                                              none)
                                          none)
                                      (some (Fin.ret (AV.bool false), st)))
                                    none)
                                none)
                            (some (Fin.ret (AV.bool false), st)))
                          none)
                      (some (Fin.ret (AV.bool false), st)))
                    none))
              none))
        none := by kernel_rfl

end Go.Proofs.Ytnmglmkkeghnaaa.V

/- Cond: CondMore is true. -/
set_option linter.unusedVariables false
namespace Go.Proofs.Ytnmglmkkeghnaaa.V
open Go Go.V Go.RowKit

theorem dTri_av (a b c : Br) : dTri [Br.av' 5 a, Br.av' 3 b, Br.av' 3 c] = some (a, b, c) := by
  show (match brN 5 (Br.av' 5 a), brN 3 (Br.av' 3 b), brN 3 (Br.av' 3 c) with
    | some a, some b, some c => some (a, b, c)
    | _, _, _ => none) = _
  rw [brN_av, brN_av, brN_av]
theorem dTri_nil (b c : Br) : dTri [.nilsl, Br.av' 3 b, Br.av' 3 c] = some (.nil, b, c) := dTri_av .nil b c
noncomputable def moreK (F : Nat) : Cont := Cont.block 0 (Cont.then (f4_r0.run F (f4.leaveK Fun.done)) (f4.leaveK Fun.done))
theorem row_again {r : List AV} (h : isRow tCd r = true) : [AV.str (hdS r), AV.int IntKind.i64 (hdI r.tail), AV.int IntKind.i64 (hdI r.tail.tail), AV.int IntKind.i64 (hdI r.tail.tail.tail), AV.str (hdS r.tail.tail.tail.tail)] = r :=
  (isRow_eq h).symm
theorem mr_loop (F t u : Nat) (K : Cont) (z x y : AV) (L : List (List AV)) (hL : ∀ r ∈ L, isRow tCd r = true) (hl : L.length ≤ 100) : ∀ (j m : Nat) (B : List (List AV)) (tk : List (Nat × Nat)), j ≤ L.length → j < m → B.length + j ≤ 100 → tk[u]? = some (5, B.length) →
    ∃ tk', loopRun (f4_l0.run F) [0, 2, 3, 9, 10, 11] K m (Env.mk 97 [(0, z), (2, x), (3, y), (9, .lg t 5 L), (10, .lg u 5 B), (11, .int .i64 ((j : Int) - 1))]) ⟨[], tk⟩ = K (.exit 0) (Env.mk 97 [(0, z), (2, x), (3, y), (9, .lg t 5 L), (10, .lg u 5 (B ++ (L.take j).reverse))]) ⟨[], tk'⟩
  | j, 0, B, tk, hj, hm, hB, ht => by omega
  | 0, m + 1, B, tk, hj, hm, hB, ht => by
    refine ⟨tk, ?_⟩
    rw [show m + 1 = m.succ from rfl, mr_round, branch_not (decide_eq_false (by omega))]
    simp
  | j + 1, m + 1, B, tk, hj, hm, hB, ht => by
    have hlt : j < L.length := by omega
    have hr := hL _ (List.getElem_mem hlt)
    have e0 : ((j + 1 : Nat) : Int) - 1 = (j : Int) := by omega
    obtain ⟨tk', ih⟩ := mr_loop F t u K z x y L hL hl j m (B ++ [L[j]]) (tk.set u (5, B.length + 1)) (by omega) (by omega) (by simp; omega) (by
      rw [List.getElem?_set_self (getElem?_lt ht)]; simp)
    refine ⟨tk', ?_⟩
    rw [e0, show m + 1 = m.succ from rfl, mr_round, branch_of (decide_eq_true (by omega)), branch_of (inR_nat hlt), rowAt_nat hlt, branch_of (isCd_is hr), row_again hr, if_pos ⟨ht, by omega⟩, wrapS (by omega) (by omega), ih]
    rw [List.take_succ_eq_append_getElem hlt, List.reverse_append, List.reverse_singleton, List.append_assoc]
theorem holds_app (a : List (List AV)) (c : List AV) (cols r : List (List AV)) : holdsF (a ++ [c]) cols r = (holdsF a cols r && !(isW 19 (truF (cdAt c) cols r))) := by
  simp [holdsF, List.any_append, Bool.not_or]
theorem refuses_app (a : List (List AV)) (c : List AV) (cols r : List (List AV)) : refusesF (a ++ [c]) cols r = (refusesF a cols r || isW 20 (truF (cdAt c) cols r)) := by
  simp [refusesF, List.any_append]
theorem holds_rev (a cols r : List (List AV)) : holdsF a.reverse cols r = holdsF a cols r := by simp [holdsF, List.any_reverse]
theorem refuses_rev (a cols r : List (List AV)) : refusesF a.reverse cols r = refusesF a cols r := by simp [refusesF, List.any_reverse]

theorem okL_of (f : Bool) {l : List (List AV)} (h : l.all (isRow tCd) = true) (hl : l.length ≤ 1000000) : okL (.sl f l) = true := by
  show (l.all (isRow tCd) && decide (l.length ≤ 1000000)) = true
  rw [h, decide_eq_true hl]; rfl
theorem list_sl (f : Bool) (l : List (List AV)) : (Br.sl f l).list = l := rfl
theorem list_nil : Br.nil.list = [] := rfl
theorem more_rest (F t u : Nat) (bz bx b : Br) (c : List AV) (st : St) (hc : isRow tCd c = true) (hz : okL bz = true) (hzl : bz.list.length < 1000) (hx : okC bx = true) (hb : okV b = true) :
    ∃ st', moreK F (.exit 0) (Env.mk 97 [(0, Br.av' 5 bz), (2, Br.av' 3 bx), (3, Br.av' 3 b), (9, .lg t 5 (bz.list ++ [c])), (10, .lg u 5 (bz.list ++ [c]).reverse)]) st = some (.ret (.bool true), st') := by
  obtain ⟨z1, z2⟩ := okL_spec hz
  have hall : (bz.list ++ [c]).all (isRow tCd) = true := by
    rw [List.all_append, List.all_eq_true.mpr z1]; simp [hc]
  have o1 : okL (.sl false (bz.list ++ [c])) = true := okL_of _ hall (by simp; omega)
  have o2 : okL (.sl false (bz.list ++ [c]).reverse) = true := okL_of _ (by rw [List.all_reverse, hall]) (by simp; omega)
  have t1 : triOk (.sl false (bz.list ++ [c]), bx, b) = true := by simp only [triOk, o1, hx, hb, Bool.and_self]
  have t2 : triOk (.sl false (bz.list ++ [c]).reverse, bx, b) = true := by simp only [triOk, o2, hx, hb, Bool.and_self]
  have t3 : triOk (bz, bx, b) = true := by simp only [triOk, hz, hx, hb, Bool.and_self]
  have t4 : triOk (.nil, bx, b) = true := by simp only [triOk, show okL .nil = true from rfl, hx, hb, Bool.and_self]
  have n1 : ∀ p q, holdsF [] p q = true := fun _ _ => rfl
  have n2 : ∀ p q, refusesF [] p q = false := fun _ _ => rfl
  generalize hL : bz.list ++ [c] = L at *
  rw [moreK, mr_out]
  simp only [frz_br, dTri_one, dTri_av, dTri_nil, onSome, t1, t2, t3, t4, branch_true, list_sl, list_nil, n1, n2, holds_rev, refuses_rev]
  rw [← hL]
  simp only [holds_app, refuses_app]
  generalize holdsF bz.list bx.list b.list = A1
  generalize refusesF bz.list bx.list b.list = A2
  generalize isW 19 (truF (cdAt c) bx.list b.list) = A3
  generalize isW 20 (truF (cdAt c) bx.list b.list) = A4
  cases A1 <;> cases A2 <;> cases A3 <;> cases A4 <;> exact ⟨_, rfl⟩
end Go.Proofs.Ytnmglmkkeghnaaa.V

/- Cond: CondMore is true: the whole. -/
set_option linter.unusedVariables false
namespace Go.Proofs.Ytnmglmkkeghnaaa.V
open Go Go.V Go.RowKit

theorem great_len {a : Tri} (hg : greatF a = false) : a.1.list.length ≤ 100 := by
  simp only [greatF, Bool.or_eq_false_iff] at hg
  have := of_decide_eq_false hg.1
  omega
theorem more_loop (F t : Nat) (z x y : AV) (l : List (List AV)) (c : List AV) (tk : List (Nat × Nat)) (hL : ∀ r ∈ l ++ [c], isRow tCd r = true) (hl : (l ++ [c]).length ≤ 100) (hF : 200 ≤ F) :
    ∃ tk', loopRun (f4_l0.run F) [0, 2, 3, 9, 10, 11] (moreK F) F (Env.mk 97 [(0, z), (2, x), (3, y), (9, .lg t 5 (l ++ [c])), (10, .sl 5 true []), (11, .int .i64 (((l ++ [c]).length : Int) - 1))]) ⟨[], tk⟩ = moreK F (.exit 0) (Env.mk 97 [(0, z), (2, x), (3, y), (9, .lg t 5 (l ++ [c])), (10, .lg tk.length 5 (l ++ [c]).reverse)]) ⟨[], tk'⟩ := by
  have hlt : l.length < (l ++ [c]).length := by simp
  have e0 : ((l ++ [c]).length : Int) - 1 = (l.length : Int) := by simp
  have hat : (l ++ [c])[l.length] = c := by simp
  have hr : isRow tCd c = true := hL c (by simp)
  obtain ⟨m, rfl⟩ : ∃ m, F = m + 1 := ⟨F - 1, by omega⟩
  have hl2 : l.length ≤ 99 := by simp at hl; omega
  obtain ⟨tk', ih⟩ := mr_loop (m + 1) t tk.length (moreK (m + 1)) z x y (l ++ [c]) hL hl l.length m [c] (tk ++ [(5, 1)]) (by omega) (by omega) (by simp; omega) (by simp)
  refine ⟨tk', ?_⟩
  rw [e0]
  have := mr_first (m + 1) m t (moreK (m + 1)) z x y l.length (l ++ [c]) [] tk
  rw [show m.succ = m + 1 from rfl] at this
  rw [this, branch_of (decide_eq_true (by omega)), branch_of (inR_nat hlt), rowAt_nat hlt, hat, branch_of (isCd_is hr), row_again hr, wrapS (by omega) (by omega), ih]
  simp
theorem more_true (bz bx b : Br) (c s : ByteArray) (o k n : Int) (hz : bz.list.all (isRow tCd) = true) (hzl : bz.list.length * 56 ≤ reachBytes) (hx : bx.list.all isCol = true) (hb : b.list.all (isRow tVa) = true) :
    ∃ st, f4.run 200 [Br.av' 5 bz, .agg [.str c, .int .i64 o, .int .i64 k, .int .i64 n, .str s], Br.av' 3 bx, Br.av' 3 b] ⟨[], []⟩ = some (.ret (.bool true), st) := by
  have hc : isRow tCd [AV.str c, .int .i64 o, .int .i64 k, .int .i64 n, .str s] = true := rfl
  have hall : (bz.list ++ [[AV.str c, AV.int IntKind.i64 o, AV.int IntKind.i64 k, AV.int IntKind.i64 n, AV.str s]]).all (isRow tCd) = true := by
    rw [List.all_append, hz]; rfl
  have hrows : triRows (.sl false (bz.list ++ [[AV.str c, AV.int IntKind.i64 o, AV.int IntKind.i64 k, AV.int IntKind.i64 n, AV.str s]]), bx, b) = true := by
    simp only [triRows, list_sl]
    rw [hall, hx, hb]; rfl
  have key : ∀ (L : List (List AV)) (z : AV) (i : Int), L = bz.list ++ [[AV.str c, AV.int IntKind.i64 o, AV.int IntKind.i64 k, AV.int IntKind.i64 n, AV.str s]] → z = Br.av' 5 bz → i = (L.length : Int) - 1 → greatF (.sl false L, bx, b) = false → ∀ tk, ∃ st, loopRun (f4_l0.run 200) [0, 2, 3, 9, 10, 11] (Cont.block 0 (Cont.then (f4_r0.run 200 (f4.leaveK Fun.done)) (f4.leaveK Fun.done))) 200 (Env.mk 97 [(0, z), (2, Br.av' 3 bx), (3, Br.av' 3 b), (9, .lg 1 5 L), (10, .sl 5 true []), (11, .int .i64 i)]) ⟨[], tk⟩ = some (.ret (.bool true), st) := by
    intro L z i hL hzz hi hg tk
    subst hL; subst hzz; subst hi
    obtain ⟨k1, k2, k3, k4⟩ := great_ok hrows hg
    have hlen := great_len hg
    simp only [list_sl] at hlen k2 k3
    have hlen2 : bz.list.length ≤ 99 := by simp at hlen; omega
    have hzo : okL bz = true := by
      show (bz.list.all (isRow tCd) && decide (bz.list.length ≤ 1000000)) = true
      rw [hz, decide_eq_true (by omega)]; rfl
    obtain ⟨tk', h⟩ := more_loop 200 1 (Br.av' 5 bz) (Br.av' 3 bx) (Br.av' 3 b) bz.list _ tk (fun r hr => List.all_eq_true.mp hall r hr) hlen (by omega)
    have h2 := more_rest 200 1 tk.length bz bx b _ ⟨[], tk'⟩ hc hzo (by omega) k2 k3
    rw [← h] at h2
    exact h2
  cases bz with
  | nil =>
    refine (more_nil 200 c s o k n (Br.av' 3 bx) (Br.av' 3 b)).symm ▸ ?_
    simp only [frz_br, dTri_one, onSome]
    have hrows' : triRows (.sl false [[AV.str c, AV.int IntKind.i64 o, AV.int IntKind.i64 k, AV.int IntKind.i64 n, AV.str s]], bx, b) = true := hrows
    rw [branch_of hrows']
    cases hg : greatF (.sl false [[AV.str c, AV.int IntKind.i64 o, AV.int IntKind.i64 k, AV.int IntKind.i64 n, AV.str s]], bx, b) with
    | true => rw [branch_of rfl]; exact ⟨_, rfl⟩
    | false => rw [branch_not rfl]; exact key _ _ _ rfl rfl rfl hg _
  | sl f l =>
    cases l with
    | nil =>
      refine (more_emp 200 f c s o k n (Br.av' 3 bx) (Br.av' 3 b)).symm ▸ ?_
      simp only [frz_br, dTri_one, onSome]
      have hrows' : triRows (.sl false [[AV.str c, AV.int IntKind.i64 o, AV.int IntKind.i64 k, AV.int IntKind.i64 n, AV.str s]], bx, b) = true := hrows
      rw [branch_of hrows']
      cases hg : greatF (.sl false [[AV.str c, AV.int IntKind.i64 o, AV.int IntKind.i64 k, AV.int IntKind.i64 n, AV.str s]], bx, b) with
      | true => rw [branch_of rfl]; exact ⟨_, rfl⟩
      | false => rw [branch_not rfl]; exact key _ _ _ rfl rfl rfl hg _
    | cons l0 l =>
      have hb1 : ((l.length + 1) * 56).ble 140737488355328 = true := by
        rw [list_sl] at hzl
        simp only [List.length_cons, reachBytes] at hzl
        exact Nat.ble_eq_true_of_le (by omega)
      have hlen0 : ((l0 :: l).length + 1) * 56 ≤ 140737488355328 := by
        rw [list_sl] at hzl
        simp only [List.length_cons, reachBytes] at hzl
        have e : (l0 :: l).length = l.length + 1 := rfl
        omega
      have hb2 : True ∧ ((l0 :: l).length + 1) * 56 ≤ 140737488355328 := And.intro trivial hlen0
      refine (more_cons 200 f l0 l c s o k n (Br.av' 3 bx) (Br.av' 3 b)).symm ▸ ?_
      simp only [frz_br, dTri_one, onSome]
      have hrows' : triRows (.sl false (l0 :: l ++ [[AV.str c, AV.int IntKind.i64 o, AV.int IntKind.i64 k, AV.int IntKind.i64 n, AV.str s]]), bx, b) = true := hrows
      rw [branch_of hb1, if_pos hb2, branch_of hrows']
      cases hg : greatF (.sl false (l0 :: l ++ [[AV.str c, AV.int IntKind.i64 o, AV.int IntKind.i64 k, AV.int IntKind.i64 n, AV.str s]]), bx, b) with
      | true => rw [branch_of rfl]; exact ⟨_, rfl⟩
      | false =>
        have hlen := great_len hg
        rw [list_sl] at hlen
        have e : IntKind.i64.wrap (((l0 :: l ++ [[AV.str c, AV.int IntKind.i64 o, AV.int IntKind.i64 k, AV.int IntKind.i64 n, AV.str s]]).length : Int) - 1) = ((l0 :: l ++ [[AV.str c, AV.int IntKind.i64 o, AV.int IntKind.i64 k, AV.int IntKind.i64 n, AV.str s]]).length : Int) - 1 := wrapS (by omega) (by omega)
        rw [branch_not rfl, branch_of hb1, if_pos hb2, e]
        exact key _ _ _ rfl rfl rfl hg _
theorem more_law (as0 as1 as2 as3 : List AV) (sh0 : Ty.Shape (.sl (.st [.str, .int .i64, .st [.int .i64, .int .i64, .str]]) 56) as0) (sh1 : Ty.Shape (.st [.str, .int .i64, .st [.int .i64, .int .i64, .str]]) as1) (sh2 : Ty.Shape (.sl (.st [.str, .int .i64, .bool]) 32) as2) (sh3 : Ty.Shape (.sl (.st [.int .i64, .int .i64, .str]) 32) as3) :
    ∃ F st, f4.run F [Ty.AV' (.sl (.st [.str, .int .i64, .st [.int .i64, .int .i64, .str]]) 56) as0, Ty.AV' (.st [.str, .int .i64, .st [.int .i64, .int .i64, .str]]) as1, Ty.AV' (.sl (.st [.str, .int .i64, .bool]) 32) as2, Ty.AV' (.sl (.st [.int .i64, .int .i64, .str]) 32) as3] ⟨[], []⟩ = some (.ret (.bool true), st) := by
  obtain ⟨c, o, k, n, s, rfl⟩ := cd_shape _ sh1
  obtain ⟨bx, rfl, hx⟩ := cols_shape sh2
  obtain ⟨b, rfl, hb⟩ := vals_shape sh3
  rcases sh0 with rfl | ⟨l, rfl, h2, h3, h4⟩
  · exact ⟨200, more_true .nil bx b c s o k n rfl (by simp [Br.list]) hx hb⟩
  · exact ⟨200, more_true (.sl false l) bx b c s o k n (List.all_eq_true.mpr fun r hr => cds_shape r (h4 r hr)) h2 hx hb⟩
end Go.Proofs.Ytnmglmkkeghnaaa.V

/- What the functions' runs come to; the right sides were printed by a tool, Lean checks them. -/
set_option linter.unusedVariables false
set_option maxRecDepth 100000
namespace Go.Proofs.Ytnmglmkkeghnaaa.V
open Go Go.V Go.RowKit

theorem eqo_run (F : Nat) (f : Bool) (l : List (List AV)) (s : ByteArray) (os : List Ob) (tk : List (Nat × Nat)) :
    ((f23 OsS).run F [.sl 5 f l, .fn (.func 24) [] [.ptr 0 0]] ⟨.cells [.str s] :: os, tk⟩ : Ans) =
    loopRun ((f23_l0 OsS).run F) [0, 1, 7, 8]
      (Cont.block 0 (Cont.then ((f23_r0 OsS).run F ((f23 OsS).leaveK Fun.done)) ((f23 OsS).leaveK Fun.done))) F
      (Env.mk 19
        [(0, AV.sl 5 f l), (1, AV.fn (Fn.func 24) [] [AV.ptr 0 0]), (7, AV.int IntKind.i64 (↑l.length : Int)),
          (8, AV.int IntKind.i64 0)])
      (St.mk (Ob.cells [AV.str s] :: os) tk) := by kernel_rfl

theorem eqo_nil (F : Nat) (s : ByteArray) (os : List Ob) (tk : List (Nat × Nat)) :
    ((f23 OsS).run F.succ [.nilsl, .fn (.func 24) [] [.ptr 0 0]] ⟨.cells [.str s] :: os, tk⟩ : Ans) =
    some (Fin.ret (AV.int IntKind.i64 (-1)), St.mk (Ob.cells [AV.str s] :: os) tk) := by kernel_rfl

theorem eqo_round (F m : Nat) (K : Cont) (f : Bool) (i : Int) (l : List (List AV)) (s : ByteArray) (os : List Ob) (tk : List (Nat × Nat)) :
    (loopRun ((f23_l0 OsS).run F) [0, 1, 7, 8] K m.succ (Env.mk 19 [(0, .sl 5 f l), (1, .fn (.func 24) [] [.ptr 0 0]), (7, .int .i64 l.length), (8, .int .i64 i)]) ⟨.cells [.str s] :: os, tk⟩ : Ans) =
    branch (AV.bool (decide (i < (↑l.length : Int))))
      (branch (AV.bool (inR l i))
        (branch
          (AV.bool ((LD.agg [LT.str, LT.int IntKind.i64, LT.int IntKind.i64, LT.int IntKind.i64, LT.str]).is (V.rowAt l i)))
          (branch (AV.bool (hdI (V.rowAt l i).tail == 1))
            (branch (AV.bool ((hdS (V.rowAt l i)).toList == s.toList))
              (K AX.ret (Env.mk 19 [(4, AV.int IntKind.i64 i)]) (St.mk (Ob.cells [AV.str s] :: os) tk))
              (loopRun ((f23_l0 OsS).run F) [0, 1, 7, 8] K m
                (Env.mk 19
                  [(0, AV.sl 5 f l), (1, AV.fn (Fn.func 24) [] [AV.ptr 0 0]), (7, AV.int IntKind.i64 (↑l.length : Int)),
                    (8, AV.int IntKind.i64 (IntKind.i64.wrap (i + 1)))])
                (St.mk (Ob.cells [AV.str s] :: os) tk)))
            (loopRun ((f23_l0 OsS).run F) [0, 1, 7, 8] K m
              (Env.mk 19
                [(0, AV.sl 5 f l), (1, AV.fn (Fn.func 24) [] [AV.ptr 0 0]), (7, AV.int IntKind.i64 (↑l.length : Int)),
                  (8, AV.int IntKind.i64 (IntKind.i64.wrap (i + 1)))])
              (St.mk (Ob.cells [AV.str s] :: os) tk)))
          none)
        none)
      (K (AX.exit 0) (Env.mk 19 []) (St.mk (Ob.cells [AV.str s] :: os) tk)) := by kernel_rfl

end Go.Proofs.Ytnmglmkkeghnaaa.V

/- Cond: the first condition that asks for an equal column, as a callee that reads its name. -/
set_option linter.unusedVariables false
namespace Go.Proofs.Ytnmglmkkeghnaaa.V
open Go Go.V Go.RowKit

theorem eqo_spec (b : Br) (s : ByteArray) (os : List Ob) (tk : List (Nat × Nat)) (h : okL b = true) : ∃ F, (f23 OsS).run F [Br.av' 5 b, .fn (.func 24) [] [.ptr 0 0]] ⟨.cells [.str s] :: os, tk⟩ = some (.ret (.int .i64 (idxI (idxFrom (eqTo s) b.list 0))), ⟨.cells [.str s] :: os, tk⟩) := by
  obtain ⟨h1, h2⟩ := okL_spec h
  cases b with
  | nil => exact ⟨1, eqo_nil 0 s os tk⟩
  | sl f l =>
    simp only [Br.list] at h1 h2
    refine ⟨l.length + 1, ?_⟩
    refine (eqo_run (l.length + 1) f l s os tk).trans ?_
    have := find_loop (R := fun m i => loopRun ((f23_l0 OsS).run (l.length + 1)) [0, 1, 7, 8] (Cont.block 0 (Cont.then ((f23_r0 OsS).run (l.length + 1) ((f23 OsS).leaveK Fun.done)) ((f23 OsS).leaveK Fun.done))) m (Env.mk 19 [(0, .sl 5 f l), (1, .fn (.func 24) [] [.ptr 0 0]), (7, .int .i64 l.length), (8, .int .i64 (i : Nat))]) ⟨.cells [.str s] :: os, tk⟩)
      (l := l) (p := eqTo s) (ok := fun r => (LD.agg [LT.str, LT.int .i64, LT.int .i64, LT.int .i64, LT.str]).is r) (found := fun i => some (.ret (.int .i64 (i : Nat)), ⟨.cells [.str s] :: os, tk⟩)) (out := some (.ret (.int .i64 (-1)), ⟨.cells [.str s] :: os, tk⟩))
      (fun m i hi => by
        rw [show m + 1 = m.succ from rfl, eqo_round, ix_ret, ix_out]
        by_cases hlt : i < l.length
        · rw [show IntKind.i64.wrap ((i : Int) + 1) = ((i + 1 : Nat) : Int) by rw [wrapS (by omega) (by omega)]; omega]
          simp only [eqTo]
          cases hdI (V.rowAt l i).tail == 1 <;> rfl
        · rw [branch_not (decide_eq_false (by omega)), branch_not (decide_eq_false (by omega))])
      (fun r hr => isCd_is (h1 r hr)) l.length 0 (l.length + 1) (by omega) (by omega)
    refine this.trans ?_
    rw [List.drop_zero]
    simp only [Br.list]
    cases idxFrom (eqTo s) l 0 <;> rfl
noncomputable def q23e : OrcQ Try.prog := (f23 OsS).ask
  (fun args st k => match args with
    | [z, .fn (.func 24) [] [.ptr 0 0]] => match st.objs with
      | .cells [.str s] :: os => match brN 5 z with
        | some b => match okL b with
          | true => k (.int .i64 (idxI (idxFrom (eqTo s) b.list 0)))
          | false => none
        | none => none
      | _ => none
    | _ => none)
  fun args st k fin h => by
    obtain ⟨objs, tk⟩ := st
    split at h
    · split at h
      · rename_i s os ho
        split at h
        · rename_i b hb
          split at h
          · rename_i hok
            simp only at ho
            subst ho
            have := brN_eq hb
            subst this
            obtain ⟨F, hF⟩ := eqo_spec b s os tk hok
            exact ⟨_, h, F, hF⟩
          · cases h
        · cases h
      · cases h
    · cases h
theorem q23e_nat : q23e.NatQ := by
  intro args st k
  unfold q23e Fun.ask
  simp only []
  split
  · split
    · split
      · split <;> rfl
      · rfl
    · rfl
  · rfl
end Go.Proofs.Ytnmglmkkeghnaaa.V

/- Callees that make and change objects of their own, shown at the empty state: their answers, frozen, hold at every state. -/
set_option linter.unusedVariables false
set_option linter.unusedSimpArgs false
namespace Go.V
section
variable {P : Program}

mutual
theorem Rel.toProt {g g2 : Gh} {w : World} (hp : ∀ b off u, w.cell? ⟨b, off, none⟩ = some u → g.prot b off → g2.prot b off) : ∀ (a : AV) (v : Value), Scoped 0 0 a → Rel g w a v → Rel g2 w a v
  | .bool _, _, _, r => r
  | .int _ _, _, _, r => r
  | .str _, _, _, r => r
  | .nilptr, _, _, r => r
  | .nilsl, _, _, r => r
  | .nilmap, _, _, r => r
  | .nilfn, _, _, r => r
  | .nilif, _, _, r => r
  | .ptr k off, _, s, _ => absurd s (Nat.not_lt_zero _)
  | .eptr cs, _, s, ⟨b, off, r1, r2⟩ => ⟨b, off, r1, RelCells.toProt hp cs b off s r2⟩
  | .sl sz full l, _, s, ⟨b, off, sp, cap, r1, r2, r3, rs, r4⟩ => ⟨b, off, sp, cap, r1, r2, r3, rs, RelRows.toProt hp sz l b off s r4⟩
  | .lg t sz l, _, ⟨s, _⟩, _ => absurd s (Nat.not_lt_zero _)
  | .ms k sz off n cap, _, s, _ => absurd s (Nat.not_lt_zero _)
  | .mp k, _, s, _ => absurd s (Nat.not_lt_zero _)
  | .fn f a c, _, ⟨s1, s2⟩, ⟨va, vc, r1, r2, r3⟩ => ⟨va, vc, r1, RelAll.toProt hp a va.toList s1 r2, RelAll.toProt hp c vc.toList s2 r3⟩
  | .ifc t a, _, s, ⟨u, r1, r2⟩ => ⟨u, r1, Rel.toProt hp a u s r2⟩
  | .agg cs, _, s, ⟨vs, r1, r2, r3⟩ => ⟨vs, r1, RelAll.toProt hp cs vs.toList s r2, r3⟩
  | .tup cs, _, s, ⟨vs, r1, r2⟩ => ⟨vs, r1, RelAll.toProt hp cs vs.toList s r2⟩
  | .dead, _, _, _ => trivial
theorem RelAll.toProt {g g2 : Gh} {w : World} (hp : ∀ b off u, w.cell? ⟨b, off, none⟩ = some u → g.prot b off → g2.prot b off) : ∀ (ays : List AV) (vs : List Value), ScopedL 0 0 ays → RelAll g w ays vs → RelAll g2 w ays vs
  | [], _, _, r => r
  | a :: ays, _, ⟨s1, s2⟩, ⟨v, vr, r1, r2, r3⟩ => ⟨v, vr, r1, Rel.toProt hp a v s1 r2, RelAll.toProt hp ays vr s2 r3⟩
theorem RelCells.toProt {g g2 : Gh} {w : World} (hp : ∀ b off u, w.cell? ⟨b, off, none⟩ = some u → g.prot b off → g2.prot b off) : ∀ (ays : List AV) (b off : Nat), ScopedL 0 0 ays → RelCells g w ays b off → RelCells g2 w ays b off
  | [], _, _, _, _ => trivial
  | a :: ays, b, off, ⟨s1, s2⟩, ⟨⟨u, r1, r2, r5, r3⟩, r4⟩ => ⟨⟨u, r1, hp b off u r1 r2, r5, Rel.toProt hp a u s1 r3⟩, RelCells.toProt hp ays b (off + 1) s2 r4⟩
theorem RelRows.toProt {g g2 : Gh} {w : World} (hp : ∀ b off u, w.cell? ⟨b, off, none⟩ = some u → g.prot b off → g2.prot b off) (sz : Nat) : ∀ (l : List (List AV)) (b off : Nat), ScopedR 0 0 l → RelRows g w sz l b off → RelRows g2 w sz l b off
  | [], _, _, _, _ => trivial
  | x :: l, b, off, ⟨s1, s2⟩, ⟨r1, r2, r3⟩ => ⟨r1, RelCells.toProt hp x b off s1 r2, RelRows.toProt hp sz l b (off + sz) s2 r3⟩
end

/-- The picture of a callee to which all objects are somebody else's. -/
def Gh.away (g : Gh) (size : Nat) : Gh := ⟨fun b => if b < size then .part (fun off => g.prot b off) else .solid, [], []⟩
theorem away_st (g : Gh) (w : World) : StRel (g.away w.heap.size) ⟨[], []⟩ w := by
  refine ⟨rfl, rfl, fun k b o hk _ => by simp [Gh.away] at hk, fun b k hb hk => ?_, fun b t hb hk => ?_⟩
  · simp only [Gh.away] at hk; rw [if_pos hb] at hk; cases hk
  · simp only [Gh.away] at hk; rw [if_pos hb] at hk; cases hk

theorem framed {id : FuncId} {args : List AV} {r : AV} {st' : St} (h : CallsTo P id args ⟨[], []⟩ (.ret r, st')) (hs : ScopedL 0 0 args) (hr : Scoped 0 0 (frz r)) (st : St) : CallsTo P id args st (.ret (frz r), st) := by
  intro g w vals hv hst
  have hv1 : RelAll (g.away w.heap.size) w args vals.toList := RelAll.toProt (fun b off u hc hp => by
    obtain ⟨C, E, fz, hb, _⟩ := cell_some hc
    have hlt := lt_of_block hb
    unfold Gh.prot
    simp only [Gh.away]
    rw [if_pos hlt]
    exact hp) args vals.toList hs hv
  refine (h (g.away w.heap.size) w vals hv1 (away_st g w)).mono fun e w' ⟨g', h1, h2, h3⟩ => ?_
  obtain ⟨v, rfl, hv'⟩ := h1
  have hold : ∀ b, b < w.heap.size → g'.kind b = .part (fun off => g.prot b off) ∧ w'.heap[b]? = w.heap[b]? := fun b hb =>
    h3.part b hb (by simp only [Gh.away]; rw [if_pos hb])
  have hE : Ev g w ⟨fun b => if b < w.heap.size then g.kind b else .solid, g.objs, g.tk⟩ w' := by
    refine ⟨h3.os, h3.tape, h3.output, h3.size, fun b hb' hk => ⟨by simp only; rw [if_pos hb'], (hold b hb').2⟩, fun b t hb' hk => ⟨by simp only; rw [if_pos hb']; exact hk, fun C E fz hC => ⟨C, by rw [(hold b hb').2]; exact hC, rfl, fun _ _ => rfl⟩⟩, fun b k hb' hk => .inl (by simp only; rw [if_pos hb']; exact hk), fun _ _ h => h, tk_refl _⟩
  refine ⟨⟨fun b => if b < w.heap.size then g.kind b else .solid, g.objs, g.tk⟩, ⟨v, rfl, ?_⟩, ⟨hst.tk, hst.len, fun k b o hk ho => ?_, fun b k hb' hk => ?_, fun b t hb' hk => ?_⟩, hE⟩
  · refine Rel.toProt (fun b off u hc hp => ?_) (frz r) v hr (frz_rel hv')
    by_cases hb : b < w.heap.size
    · unfold Gh.prot at hp
      rw [(hold b hb).1] at hp
      have hp : g.prot b off := hp
      unfold Gh.prot at hp ⊢
      simp only
      rw [if_pos hb]
      exact hp
    · unfold Gh.prot
      simp only
      rw [if_neg hb]
      trivial
  · obtain ⟨p1, p2⟩ := hst.obj k b o hk ho
    exact ⟨Nat.lt_of_lt_of_le p1 h3.size, p2.keep hE (hold b p1).2 (by simp only; rw [if_pos p1])⟩
  · simp only at hk
    split at hk
    · rename_i hlt; exact hst.back b k hlt hk
    · cases hk
  · simp only at hk
    split at hk
    · rename_i hlt; exact hst.rowlt b t hlt hk
    · cases hk

/-- A function shown at the empty state, as a callee: its answers are told by what goes on. -/
def Fun.far (f : Fun P) (sem : List AV → (AV → Ans) → Ans)
    (hs : ∀ args k fin, sem args k = some fin → ∃ r, k r = some fin ∧ ScopedL 0 0 args ∧ Scoped 0 0 r ∧ ∃ F r' st', frz r' = r ∧ f.run F args ⟨[], []⟩ = some (.ret r', st')) : POrc P where
  id := f.id
  fn := f.fn
  hf := f.hf
  hname := f.hname
  hb := by rw [f.hbody]; rfl
  F := sem
  sound k args fin h := by
    obtain ⟨r, h1, h2, h3, F, r', st', h4, h5⟩ := hs args k fin h
    subst h4
    exact ⟨_, h1, fun st => framed (f.sound h5) h2 h3 st⟩
end
end Go.V

/- The functions' pieces, as told by gen.py. -/
set_option linter.unusedVariables false
set_option maxRecDepth 20000
namespace Go.Proofs.Ytnmglmkkeghnaaa.V
open Go Go.V Go.RowKit

theorem ze9 : (Try.prog.info? 9).bind (·.zero) = some (.string ⟨#[]⟩) := by kernel_rfl

/-! ### 14: interlock/cond.Equals (31, 43); results 4, 5; slots: 0 l, 1 names, 2 l, 3 names, 6 out, 7 _, 8 n, 9 i -/
/-- A loop's round; at its head live: 0 l, 1 names, 6 out, 10 , 11 , 12  -/
noncomputable def f14_l0 : Sim Try.prog :=
  (.seq (.live [0, 1, 6, 10, 11, 12, 13] (.region 3 [
    ⟨(opBin (some 13) .lss 3 (.tmp 12) (.tmp 11) 3 0 "cond.go:109" #[]).op, none⟩
  ] (by kernel_rfl)))
  (.seq (.cond (.tmp 13)
    .skip
    (.live [1, 6] (.exit 0)))
  (.seq (.block 1 (.seq (.live [0, 1, 6, 8, 10, 11, 12] (.region 4 [
      ⟨(opIndexAddrT (some 14) 43 (.tmp 10) (.tmp 12) 9 1 Try.underlying43 sz9 0 "cond.go:109" #[]).op, none⟩,
      ⟨(opLoadT (.one .str) (some 15) 9 (.tmp 14) .string Try.underlying9 1 sz9 (by kernel_rfl) 9 "cond.go:109" #[{ on := 0, ground := Ground.data }]).op, none⟩,
      ⟨(opAlloc (some 8) 9 (.string ⟨#[]⟩) ze9 0 "cond.go:109" #[]).op, none⟩,
      ⟨(opStore none 9 (.tmp 8) (.tmp 15) 1 sz9 0 "cond.go:109" #[{ on := 2, ground := Ground.data }, { on := 1, ground := Ground.data }, { on := 0, ground := Ground.phase }, { on := 1, ground := Ground.phase }, { on := 2, ground := Ground.phase }]).op, none⟩
    ] (by kernel_rfl)))
    (.seq (.live [0, 1, 6, 9, 10, 11, 12] (.region 5 [
      ⟨(opMove (some 16) (.tmp 0) 31 "cond.go:110" #[]).op, none⟩,
      ⟨(opMakeFunc (some 17) (Fn.func 24) #[] #[(.tmp 8)] 53 "cond.go:110" #[]).op, none⟩,
      ⟨(opCallQ q23e (some 18) [(.tmp 16), (.tmp 17)] #[31, 53] 3 "cond.go:110" #[{ on := 0, ground := Ground.data }, { on := 1, ground := Ground.data }]).op, none⟩,
      ⟨(opAssign (some 9) (.tmp 18) 3 "cond.go:110" #[{ on := 2, ground := Ground.data }, { on := 2, ground := Ground.chain }, { on := 0, ground := Ground.phase }, { on := 1, ground := Ground.phase }, { on := 2, ground := Ground.phase }]).op, none⟩
    ] (by kernel_rfl)))
    (.seq (.seq (.live [0, 1, 6, 9, 10, 11, 12, 20] (.region 6 [
      ⟨(opMove (some 19) (.tmp 9) 3 "cond.go:111" #[]).op, none⟩,
      ⟨(opBin (some 20) .lss 3 (.tmp 19) (.const (Value.int IntKind.i64 0)) 3 4 "cond.go:111" #[{ on := 0, ground := Ground.data }]).op, none⟩
    ] (by kernel_rfl)))
    (.cond (.tmp 20)
      (.seq (.live [4, 5] (.region 7 [
        ⟨(opAssign (some 4) (.const (Value.slice none 0 0)) 28 "cond.go:112" #[]).op, none⟩,
        ⟨(opAssign (some 5) (.const (Value.bool false)) 4 "cond.go:112" #[{ on := 0, ground := Ground.chain }, { on := 0, ground := Ground.phase }]).op, none⟩
      ] (by kernel_rfl)))
      (.live [4, 5] .ret))
      .skip))
    (.live [0, 1, 6, 10, 11, 12] (.region 8 [
      ⟨(opMove (some 21) (.tmp 6) 28 "cond.go:114" #[]).op, none⟩,
      ⟨(opMove (some 22) (.tmp 0) 31 "cond.go:114" #[]).op, none⟩,
      ⟨(opMove (some 23) (.tmp 9) 3 "cond.go:114" #[]).op, none⟩,
      ⟨(opIndexAddrT (some 24) 31 (.tmp 22) (.tmp 23) 25 5 Try.underlying31 sz25 0 "cond.go:114" #[{ on := 1, ground := Ground.data }, { on := 2, ground := Ground.data }]).op, none⟩,
      ⟨(opFieldAddr (some 25) 25 (.tmp 24) 2 2 3 true fl25_2 (by decide) 0 "cond.go:114" #[{ on := 3, ground := Ground.data }]).op, none⟩,
      ⟨(opLoadT (.agg [(.int .i64), (.int .i64), .str]) (some 26) 23 (.tmp 25) d23 ud23 3 sz23 (by kernel_rfl) 23 "cond.go:114" #[{ on := 4, ground := Ground.data }]).op, none⟩,
      ⟨(opBuildSlice (some 27) 28 1 [(0, (.tmp 26))] 23 3 32 (.agg #[(.int .i64 0), (.int .i64 0), (.string ⟨#[]⟩)]) el28 (by kernel_rfl) (by decide) 28 "cond.go:114" #[{ on := 5, ground := Ground.data }]).op, none⟩,
      ⟨(opAppend (some 28) (.tmp 21) (.tmp 27) 28 28 23 3 32 (.agg #[(.int .i64 0), (.int .i64 0), (.string ⟨#[]⟩)]) el28 (.slice 23) Try.underlying28 rfl 28 "cond.go:114" #[{ on := 0, ground := Ground.data }, { on := 6, ground := Ground.data }]).op, none⟩,
      ⟨(opAssign (some 6) (.tmp 28) 28 "cond.go:114" #[{ on := 7, ground := Ground.data }, { on := 7, ground := Ground.chain }, { on := 0, ground := Ground.phase }, { on := 1, ground := Ground.phase }, { on := 2, ground := Ground.phase }, { on := 3, ground := Ground.phase }, { on := 4, ground := Ground.phase }, { on := 5, ground := Ground.phase }, { on := 6, ground := Ground.phase }, { on := 7, ground := Ground.phase }]).op, none⟩
    ] (by kernel_rfl)))))))
  (.live [0, 1, 6, 10, 11, 12] (.region 9 [
    ⟨(opBin (some 29) .add 3 (.tmp 12) (.const (Value.int IntKind.i64 1)) 3 3 "cond.go:109" #[]).op, none⟩,
    ⟨(opMove (some 12) (.tmp 29) 3 "cond.go:109" #[{ on := 0, ground := Ground.data }]).op, none⟩
  ] (by kernel_rfl))))))

/-- What follows a loop. -/
noncomputable def f14_r0 : Sim Try.prog :=
  (.seq (.live [4, 5] (.region 10 [
    ⟨(opMove (some 30) (.tmp 6) 28 "cond.go:116" #[]).op, none⟩,
    ⟨(opMove (some 31) (.tmp 1) 43 "cond.go:116" #[]).op, none⟩,
    ⟨(opLen (some 32) (.tmp 31) 43 (.slice 9) Try.underlying43 3 "cond.go:116" #[{ on := 1, ground := Ground.data }]).op, none⟩,
    ⟨(opBin (some 33) .gtr 3 (.tmp 32) (.const (Value.int IntKind.i64 0)) 3 4 "cond.go:116" #[{ on := 2, ground := Ground.data }, { on := 4, ground := (Ground.gcOnly Departure.lateStores) }]).op, none⟩,
    ⟨(opAssign (some 4) (.tmp 30) 28 "cond.go:116" #[{ on := 0, ground := Ground.data }, { on := 0, ground := Ground.phase }, { on := 1, ground := (Ground.textOnly Departure.lateStores) }, { on := 2, ground := (Ground.textOnly Departure.lateStoresUnsure) }, { on := 3, ground := (Ground.textOnly Departure.lateStores) }]).op, none⟩,
    ⟨(opAssign (some 5) (.tmp 33) 4 "cond.go:116" #[{ on := 3, ground := Ground.data }, { on := 4, ground := Ground.chain }, { on := 0, ground := Ground.phase }, { on := 1, ground := Ground.phase }, { on := 2, ground := Ground.phase }, { on := 3, ground := Ground.phase }, { on := 4, ground := Ground.phase }]).op, none⟩
  ] (by kernel_rfl)))
  (.live [4, 5] .ret))

noncomputable def f14_b : Sim Try.prog :=
  (.seq (.live [0, 1] (.region 0 [
    ⟨(opAssign (some 4) (.const (Value.slice none 0 0)) 28 "cond.go:107" #[]).op, none⟩,
    ⟨(opAssign (some 5) (.const (Value.bool false)) 4 "cond.go:107" #[{ on := 0, ground := Ground.chain }]).op, none⟩
  ] (by kernel_rfl)))
  (.seq (.live [0, 1, 6] (.region 1 [
    ⟨(opAssign (some 6) (.const (Value.slice none 0 0)) 28 "cond.go:108" #[]).op, none⟩
  ] (by kernel_rfl)))
  (.seq (.seq (.live [0, 1, 6, 10, 11, 12] (.region 2 [
    ⟨(opMove (some 10) (.tmp 1) 43 "cond.go:109" #[]).op, none⟩,
    ⟨(opLen (some 11) (.tmp 10) 43 (.slice 9) Try.underlying43 3 "cond.go:109" #[{ on := 0, ground := Ground.data }]).op, none⟩,
    ⟨(opMove (some 12) (.const (Value.int IntKind.i64 0)) 3 "cond.go:109" #[]).op, none⟩
  ] (by kernel_rfl)))
  (.block 0 (.loop [0, 1, 6, 10, 11, 12] f14_l0)))
  f14_r0)))

noncomputable def f14 : Fun Try.prog where
  id := 14
  fn := Try.f14
  hf := Try.func14
  hname := by kernel_rfl
  body := f14_b
  hbody := by kernel_rfl
  res := [rTmp 4, rTmp 5]
  hres := by kernel_rfl
  n := 34
  hn := by kernel_rfl

end Go.Proofs.Ytnmglmkkeghnaaa.V

/- What the functions' runs come to; the right sides were printed by a tool, Lean checks them. -/
set_option linter.unusedVariables false
set_option maxRecDepth 100000
namespace Go.Proofs.Ytnmglmkkeghnaaa.V
open Go Go.V Go.RowKit

theorem eqs_sl (g f : Bool) (l : List (List AV)) (s : ByteArray) :
    (f14.run 5 [.sl 5 g l, .sl 1 f [[.str s]]] ⟨[], []⟩ : Ans) =
    branch (AV.bool (okL (Br.sl g l)))
      (branch (AV.bool (decide (idxI (idxFrom (eqTo (hdS (V.rowAt [[AV.str s]] 0))) l 0) < 0)))
        (some (Fin.ret (AV.tup [AV.nilsl, AV.bool false]), St.mk [Ob.cells [AV.str s]] []))
        (branch (AV.bool (inR l (idxI (idxFrom (eqTo (hdS (V.rowAt [[AV.str s]] 0))) l 0))))
          (branch
            (AV.bool
              ((LD.agg [LT.int IntKind.i64, LT.int IntKind.i64, LT.str]).is
                (List.drop 2 (V.rowAt l (idxI (idxFrom (eqTo (hdS (V.rowAt [[AV.str s]] 0))) l 0))))))
            (some
              (Fin.ret
                  (AV.tup
                    [AV.lg 0 3
                        [[AV.int IntKind.i64
                              (hdI (List.drop 2 (V.rowAt l (idxI (idxFrom (eqTo (hdS (V.rowAt [[AV.str s]] 0))) l 0))))),
                            AV.int IntKind.i64
                              (hdI
                                (List.drop 2 (V.rowAt l (idxI (idxFrom (eqTo (hdS (V.rowAt [[AV.str s]] 0))) l 0)))).tail),
                            AV.str
                              (hdS
                                (List.drop 2
                                      (V.rowAt l (idxI (idxFrom (eqTo (hdS (V.rowAt [[AV.str s]] 0))) l 0)))).tail.tail)]],
                      AV.bool true]),
                St.mk [Ob.cells [AV.str s]] [(3, 1)]))
            none)
          none))
      none := by kernel_rfl

theorem eqs_nil (f : Bool) (s : ByteArray) :
    (f14.run 5 [.nilsl, .sl 1 f [[.str s]]] ⟨[], []⟩ : Ans) =
    some (Fin.ret (AV.tup [AV.nilsl, AV.bool false]), St.mk [Ob.cells [AV.str s]] []) := by kernel_rfl

end Go.Proofs.Ytnmglmkkeghnaaa.V

/- Cond: what one column must be equal to, as a callee. -/
set_option linter.unusedVariables false
namespace Go.Proofs.Ytnmglmkkeghnaaa.V
open Go Go.V Go.RowKit

/-- A condition's value, as a row. -/
def vRow (r : List AV) : List AV := [.int .i64 (hdI (List.drop 2 r)), .int .i64 (hdI (List.drop 2 r).tail), .str (hdS (List.drop 2 r).tail.tail)]
theorem cd_va {r : List AV} (h : isRow tCd r = true) : (LD.agg [LT.int .i64, LT.int .i64, LT.str]).is (List.drop 2 r) = true := by
  rw [isRow_eq h]; rfl
def eqsSem : List AV → (AV → Ans) → Ans := fun args k => match args with
  | [z, .sl 1 f [[.str s]]] => match brN 5 z with
    | some b => match okL b with
      | true => match idxFrom (eqTo s) b.list 0 with
        | none => k (.tup [.nilsl, .bool false])
        | some j => k (.tup [.sl 3 false [vRow (V.rowAt b.list (j : Nat))], .bool true])
      | false => none
    | none => none
  | _ => none
noncomputable def p14 : POrc Try.prog := f14.far eqsSem fun args k fin h => by
  unfold eqsSem at h
  split at h
  · rename_i z f s
    split at h
    · rename_i b hb
      have := brN_eq hb
      subst this
      split at h
      · rename_i hok
        obtain ⟨h1, h2⟩ := okL_spec hok
        have hsc : ScopedL 0 0 [Br.av' 5 b, .sl 1 f [[.str s]]] := ⟨scoped_br (ts := tCd) rfl h1 5, ⟨⟨trivial, trivial⟩, trivial⟩, trivial⟩
        cases b with
        | nil =>
          exact ⟨_, h, hsc, ⟨trivial, trivial, trivial⟩, 5, _, _, rfl, eqs_nil f s⟩
        | sl g l =>
          have hrun := (eqs_sl g f l s).trans (by rw [branch_of hok])
          simp only [Br.list] at h h1 h2
          have e0 : hdS (V.rowAt [[AV.str s]] 0) = s := rfl
          rw [e0] at hrun
          split at h
          · rename_i hi
            rw [hi] at hrun
            exact ⟨_, h, hsc, ⟨trivial, trivial, trivial⟩, 5, _, _, rfl, hrun⟩
          · rename_i j hi
            obtain ⟨_, hj, _⟩ := idxFrom_some hi
            have hj : j < l.length := by omega
            rw [hi] at hrun
            have e1 : idxI (some j) = (j : Int) := rfl
            rw [e1, branch_not (decide_eq_false (by omega)), branch_of (inR_nat hj), branch_of (by rw [rowAt_nat hj]; exact cd_va (h1 _ (List.getElem_mem hj)))] at hrun
            exact ⟨_, h, hsc, ⟨⟨⟨trivial, trivial, trivial, trivial⟩, trivial⟩, trivial, trivial⟩, 5, _, _, rfl, hrun⟩
      · cases h
    · cases h
  · cases h
theorem p14_nat : p14.Nat := by
  intro args k
  show eqsSem args k = thenA (eqsSem args retA) k
  unfold eqsSem
  split
  · split
    · split
      · split <;> rfl
      · rfl
    · rfl
  · rfl
end Go.Proofs.Ytnmglmkkeghnaaa.V

/- The functions' pieces, as told by gen.py. -/
set_option linter.unusedVariables false
set_option maxRecDepth 20000
namespace Go.Proofs.Ytnmglmkkeghnaaa.V
open Go Go.V Go.RowKit

theorem by9 : (Try.prog.info? 9).map (·.bytes) = some 16 := by kernel_rfl
theorem el43 : ElemOf Try.prog 43 9 1 16 (.string ⟨#[]⟩) := ⟨Try.underlying43, sz9, by9, ze9, by kernel_rfl, by decide⟩

/-! ### 6: interlock/interlocklaw12.CondEquals (31, 26, 28); results 6; slots: 0 l, 1 cols, 2 r, 3 l, 4 cols, 5 r, 7 i, 8 v, 9 ok, 10 k, 11 is -/
/-- A loop's round; at its head live: 0 l, 1 cols, 2 r, 7 i -/
noncomputable def f6_l0 : Sim Try.prog :=
  (.seq (.seq (.live [0, 1, 2, 7, 28] (.region 6 [
    ⟨(opMove (some 25) (.tmp 7) 3 "law.go:123" #[]).op, none⟩,
    ⟨(opMove (some 26) (.tmp 1) 26 "law.go:123" #[]).op, none⟩,
    ⟨(opLen (some 27) (.tmp 26) 26 (.slice 42) Try.underlying26 3 "law.go:123" #[{ on := 1, ground := Ground.data }]).op, none⟩,
    ⟨(opBin (some 28) .lss 3 (.tmp 25) (.tmp 27) 3 4 "law.go:123" #[{ on := 0, ground := Ground.data }, { on := 2, ground := Ground.data }]).op, none⟩
  ] (by kernel_rfl)))
  (.cond (.tmp 28)
    .skip
    (.live [] (.exit 0))))
  (.seq (.block 1 (.seq (.live [0, 1, 2, 7, 8, 9] (.region 8 [
      ⟨(opMove (some 32) (.tmp 0) 31 "law.go:124" #[]).op, none⟩,
      ⟨(opMove (some 33) (.tmp 1) 26 "law.go:124" #[]).op, none⟩,
      ⟨(opMove (some 34) (.tmp 7) 3 "law.go:124" #[]).op, none⟩,
      ⟨(opIndexAddrT (some 35) 26 (.tmp 33) (.tmp 34) 42 3 Try.underlying26 sz42 0 "law.go:124" #[{ on := 1, ground := Ground.data }, { on := 2, ground := Ground.data }]).op, none⟩,
      ⟨(opFieldAddr (some 36) 42 (.tmp 35) 0 0 1 false fl42_0 (by decide) 0 "law.go:124" #[{ on := 3, ground := Ground.data }]).op, none⟩,
      ⟨(opLoadT (.one .str) (some 37) 9 (.tmp 36) .string Try.underlying9 1 sz9 (by kernel_rfl) 9 "law.go:124" #[{ on := 4, ground := Ground.data }]).op, none⟩,
      ⟨(opBuildSlice (some 38) 43 1 [(0, (.tmp 37))] 9 1 16 (.string ⟨#[]⟩) el43 (by kernel_rfl) (by decide) 43 "law.go:124" #[{ on := 5, ground := Ground.data }]).op, none⟩,
      ⟨(opCallP p14 (some 39) [(.tmp 32), (.tmp 38)] #[31, 43] 39 "law.go:124" #[{ on := 0, ground := Ground.data }, { on := 6, ground := Ground.data }]).op, none⟩,
      ⟨(opMove (some 31) (.tmp 39) 39 "law.go:124" #[{ on := 7, ground := Ground.data }]).op, none⟩,
      ⟨(opExtract (some 40) (.tmp 31) 0 28 "law.go:124" #[{ on := 8, ground := Ground.data }]).op, none⟩,
      ⟨(opExtract (some 41) (.tmp 31) 1 4 "law.go:124" #[{ on := 8, ground := Ground.data }, { on := 11, ground := (Ground.gcOnly Departure.lateStores) }]).op, none⟩,
      ⟨(opAssign (some 8) (.tmp 40) 28 "law.go:124" #[{ on := 9, ground := Ground.data }, { on := 7, ground := Ground.chain }, { on := 0, ground := Ground.phase }, { on := 1, ground := Ground.phase }, { on := 2, ground := Ground.phase }, { on := 3, ground := Ground.phase }, { on := 4, ground := Ground.phase }, { on := 5, ground := Ground.phase }, { on := 6, ground := Ground.phase }, { on := 7, ground := Ground.phase }, { on := 8, ground := Ground.phase }, { on := 9, ground := Ground.phase }, { on := 10, ground := (Ground.textOnly Departure.lateStores) }]).op, none⟩,
      ⟨(opAssign (some 9) (.tmp 41) 4 "law.go:124" #[{ on := 10, ground := Ground.data }, { on := 11, ground := Ground.chain }, { on := 0, ground := Ground.phase }, { on := 1, ground := Ground.phase }, { on := 2, ground := Ground.phase }, { on := 3, ground := Ground.phase }, { on := 4, ground := Ground.phase }, { on := 5, ground := Ground.phase }, { on := 6, ground := Ground.phase }, { on := 7, ground := Ground.phase }, { on := 8, ground := Ground.phase }, { on := 9, ground := Ground.phase }, { on := 10, ground := Ground.phase }, { on := 11, ground := Ground.phase }]).op, none⟩
    ] (by kernel_rfl)))
    (.seq (.live [0, 1, 2, 7, 8, 9, 10, 11] (.region 9 [
      ⟨(opMove (some 43) (.tmp 1) 26 "law.go:125" #[]).op, none⟩,
      ⟨(opMove (some 44) (.tmp 1) 26 "law.go:125" #[]).op, none⟩,
      ⟨(opMove (some 45) (.tmp 7) 3 "law.go:125" #[]).op, none⟩,
      ⟨(opIndexAddrT (some 46) 26 (.tmp 44) (.tmp 45) 42 3 Try.underlying26 sz42 0 "law.go:125" #[{ on := 1, ground := Ground.data }, { on := 2, ground := Ground.data }]).op, none⟩,
      ⟨(opFieldAddr (some 47) 42 (.tmp 46) 0 0 1 false fl42_0 (by decide) 0 "law.go:125" #[{ on := 3, ground := Ground.data }]).op, none⟩,
      ⟨(opLoadT (.one .str) (some 48) 9 (.tmp 47) .string Try.underlying9 1 sz9 (by kernel_rfl) 9 "law.go:125" #[{ on := 4, ground := Ground.data }]).op, none⟩,
      ⟨(opCallP p13 (some 49) [(.tmp 43), (.tmp 48)] #[26, 9] 36 "law.go:125" #[{ on := 0, ground := Ground.data }, { on := 5, ground := Ground.data }]).op, none⟩,
      ⟨(opMove (some 42) (.tmp 49) 36 "law.go:125" #[{ on := 6, ground := Ground.data }]).op, none⟩,
      ⟨(opExtract (some 50) (.tmp 42) 0 3 "law.go:125" #[{ on := 7, ground := Ground.data }]).op, none⟩,
      ⟨(opExtract (some 51) (.tmp 42) 1 4 "law.go:125" #[{ on := 7, ground := Ground.data }, { on := 10, ground := (Ground.gcOnly Departure.lateStores) }]).op, none⟩,
      ⟨(opAssign (some 10) (.tmp 50) 3 "law.go:125" #[{ on := 8, ground := Ground.data }, { on := 6, ground := Ground.chain }, { on := 0, ground := Ground.phase }, { on := 1, ground := Ground.phase }, { on := 2, ground := Ground.phase }, { on := 3, ground := Ground.phase }, { on := 4, ground := Ground.phase }, { on := 5, ground := Ground.phase }, { on := 6, ground := Ground.phase }, { on := 7, ground := Ground.phase }, { on := 8, ground := Ground.phase }, { on := 9, ground := (Ground.textOnly Departure.lateStores) }]).op, none⟩,
      ⟨(opAssign (some 11) (.tmp 51) 4 "law.go:125" #[{ on := 9, ground := Ground.data }, { on := 10, ground := Ground.chain }, { on := 0, ground := Ground.phase }, { on := 1, ground := Ground.phase }, { on := 2, ground := Ground.phase }, { on := 3, ground := Ground.phase }, { on := 4, ground := Ground.phase }, { on := 5, ground := Ground.phase }, { on := 6, ground := Ground.phase }, { on := 7, ground := Ground.phase }, { on := 8, ground := Ground.phase }, { on := 9, ground := Ground.phase }, { on := 10, ground := Ground.phase }]).op, none⟩
    ] (by kernel_rfl)))
    (.seq (.seq (.live [0, 1, 2, 7, 8, 9, 10, 53] (.region 10 [
      ⟨(opMove (some 52) (.tmp 11) 4 "law.go:126" #[]).op, none⟩,
      ⟨(opNot (some 53) 4 (.tmp 52) 4 "law.go:126" #[{ on := 0, ground := Ground.data }]).op, none⟩
    ] (by kernel_rfl)))
    (.cond (.tmp 53)
      (.seq (.live [6] (.region 11 [
        ⟨(opAssign (some 6) (.const (Value.bool false)) 4 "law.go:127" #[]).op, none⟩
      ] (by kernel_rfl)))
      (.live [6] .ret))
      .skip))
    (.seq (.live [0, 1, 2, 7, 75] (.draw 12 [
      ⟨.p (opMove (some 54) (.tmp 9) 4 "law.go:129" #[]), none⟩,
      ⟨.p (opMove (some 55) (.tmp 54) 4 "law.go:129" #[{ on := 0, ground := Ground.data }]), none⟩,
      ⟨.p (opMove (some 56) (.tmp 8) 28 "law.go:129" #[{ on := 1, ground := Ground.guard }]), (some (1, 55, true))⟩,
      ⟨.p (opLen (some 57) (.tmp 56) 28 (.slice 23) Try.underlying28 3 "law.go:129" #[{ on := 2, ground := Ground.data }, { on := 1, ground := Ground.guard }]), (some (1, 55, true))⟩,
      ⟨.pn (opBin (some 58) .neq 3 (.tmp 57) (.const (Value.int IntKind.i64 1)) 3 4 "law.go:129" #[{ on := 3, ground := Ground.data }, { on := 1, ground := Ground.guard }]) opBin_nat, (some (1, 55, true))⟩,
      ⟨.p (opMove (some 59) (.tmp 58) 4 "law.go:129" #[{ on := 4, ground := Ground.data }, { on := 1, ground := Ground.chain }, { on := 1, ground := Ground.guard }]), (some (1, 55, true))⟩,
      ⟨.p (opMove (some 60) (.tmp 10) 3 "law.go:129" #[{ on := 5, ground := Ground.guard }]), (some (5, 59, false))⟩,
      ⟨.p (opMove (some 61) (.tmp 2) 28 "law.go:129" #[{ on := 5, ground := Ground.guard }]), (some (5, 59, false))⟩,
      ⟨.p (opLen (some 62) (.tmp 61) 28 (.slice 23) Try.underlying28 3 "law.go:129" #[{ on := 7, ground := Ground.data }, { on := 5, ground := Ground.guard }]), (some (5, 59, false))⟩,
      ⟨.pn (opBin (some 63) .geq 3 (.tmp 60) (.tmp 62) 3 4 "law.go:129" #[{ on := 6, ground := Ground.data }, { on := 8, ground := Ground.data }, { on := 5, ground := Ground.guard }]) opBin_nat, (some (5, 59, false))⟩,
      ⟨.p (opPick (some 64) (.tmp 59) (.const (Value.bool true)) (.tmp 63) 4 "law.go:129" #[{ on := 5, ground := Ground.data }, { on := 9, ground := Ground.data }, { on := 1, ground := Ground.guard }]), (some (1, 55, true))⟩,
      ⟨.p (opMove (some 65) (.tmp 64) 4 "law.go:129" #[{ on := 10, ground := Ground.data }, { on := 5, ground := Ground.chain }, { on := 1, ground := Ground.guard }]), (some (1, 55, true))⟩,
      ⟨.p (opMove (some 66) (.tmp 2) 28 "law.go:129" #[{ on := 11, ground := Ground.guard }]), (some (11, 65, false))⟩,
      ⟨.p (opMove (some 67) (.tmp 10) 3 "law.go:129" #[{ on := 11, ground := Ground.guard }]), (some (11, 65, false))⟩,
      ⟨.pn (opIndexAddrT (some 68) 28 (.tmp 66) (.tmp 67) 23 3 Try.underlying28 sz23 0 "law.go:129" #[{ on := 12, ground := Ground.data }, { on := 13, ground := Ground.data }, { on := 11, ground := Ground.guard }]) opIndexAddrT_nat, (some (11, 65, false))⟩,
      ⟨.qn (opLoadT (.agg [(.int .i64), (.int .i64), .str]) (some 69) 23 (.tmp 68) d23 ud23 3 sz23 (by kernel_rfl) 23 "law.go:129" #[{ on := 14, ground := Ground.data }, { on := 11, ground := Ground.guard }]) opLoadT_nat, (some (11, 65, false))⟩,
      ⟨.p (opMove (some 70) (.tmp 8) 28 "law.go:129" #[{ on := 11, ground := Ground.guard }]), (some (11, 65, false))⟩,
      ⟨.pn (opIndexAddrT (some 71) 28 (.tmp 70) (.const (Value.int IntKind.i64 0)) 23 3 Try.underlying28 sz23 0 "law.go:129" #[{ on := 16, ground := Ground.data }, { on := 11, ground := Ground.guard }]) opIndexAddrT_nat, (some (11, 65, false))⟩,
      ⟨.qn (opLoadT (.agg [(.int .i64), (.int .i64), .str]) (some 72) 23 (.tmp 71) d23 ud23 3 sz23 (by kernel_rfl) 23 "law.go:129" #[{ on := 17, ground := Ground.data }, { on := 11, ground := Ground.guard }]) opLoadT_nat, (some (11, 65, false))⟩,
      ⟨.pn (opNeS (some 73) 23 [(0, 0), (1, 0), (2, 2)] eq23 (.tmp 69) (.tmp 72) 23 4 "law.go:129" #[{ on := 15, ground := Ground.data }, { on := 18, ground := Ground.data }, { on := 11, ground := Ground.guard }]) opNeS_nat, (some (11, 65, false))⟩,
      ⟨.p (opPick (some 74) (.tmp 65) (.const (Value.bool true)) (.tmp 73) 4 "law.go:129" #[{ on := 11, ground := Ground.data }, { on := 19, ground := Ground.data }, { on := 1, ground := Ground.guard }]), (some (1, 55, true))⟩,
      ⟨.p (opPick (some 75) (.tmp 55) (.tmp 74) (.const (Value.bool false)) 4 "law.go:129" #[{ on := 1, ground := Ground.data }, { on := 20, ground := Ground.data }]), none⟩
    ] mixed (by kernel_rfl)))
    (.cond (.tmp 75)
      (.seq (.live [6] (.region 13 [
        ⟨(opAssign (some 6) (.const (Value.bool false)) 4 "law.go:130" #[]).op, none⟩
      ] (by kernel_rfl)))
      (.live [6] .ret))
      .skip))))))
  (.live [0, 1, 2, 7] (.region 7 [
    ⟨(opMove (some 29) (.tmp 7) 3 "law.go:123" #[]).op, none⟩,
    ⟨(opBin (some 30) .add 3 (.tmp 29) (.const (Value.int IntKind.i64 1)) 3 3 "law.go:123" #[{ on := 0, ground := Ground.data }]).op, none⟩,
    ⟨(opAssign (some 7) (.tmp 30) 3 "law.go:123" #[{ on := 1, ground := Ground.data }, { on := 0, ground := Ground.phase }, { on := 1, ground := Ground.phase }]).op, none⟩
  ] (by kernel_rfl)))))

/-- What follows a loop. -/
noncomputable def f6_r0 : Sim Try.prog :=
  (.seq (.live [6] (.region 14 [
    ⟨(opAssign (some 6) (.const (Value.bool true)) 4 "law.go:133" #[]).op, none⟩
  ] (by kernel_rfl)))
  (.live [6] .ret))

noncomputable def f6_b : Sim Try.prog :=
  (.seq (.live [0, 1, 2] (.region 0 [
    ⟨(opAssign (some 6) (.const (Value.bool false)) 4 "law.go:116" #[]).op, none⟩
  ] (by kernel_rfl)))
  (.seq (.seq (.live [0, 1, 2, 13] (.region 1 [
    ⟨(opCallP p7 (some 12) [] #[] 4 "law.go:117" #[]).op, none⟩,
    ⟨(opNot (some 13) 4 (.tmp 12) 4 "law.go:117" #[{ on := 0, ground := Ground.data }]).op, none⟩
  ] (by kernel_rfl)))
  (.cond (.tmp 13)
    (.seq (.live [6] (.region 2 [
      ⟨(opAssign (some 6) (.const (Value.bool false)) 4 "law.go:118" #[]).op, none⟩
    ] (by kernel_rfl)))
    (.live [6] .ret))
    .skip))
  (.seq (.seq (.live [0, 1, 2, 24] (.region 3 [
    ⟨(opMove (some 14) (.tmp 0) 31 "law.go:120" #[]).op, none⟩,
    ⟨(opMove (some 15) (.tmp 1) 26 "law.go:120" #[]).op, none⟩,
    ⟨(opMove (some 16) (.tmp 2) 28 "law.go:120" #[]).op, none⟩,
    ⟨(opCallP p8 (some 17) [(.tmp 14), (.tmp 15), (.tmp 16)] #[31, 26, 28] 4 "law.go:120" #[{ on := 0, ground := Ground.data }, { on := 1, ground := Ground.data }, { on := 2, ground := Ground.data }]).op, none⟩,
    ⟨(opMove (some 18) (.tmp 17) 4 "law.go:120" #[{ on := 3, ground := Ground.data }, { on := 3, ground := Ground.chain }]).op, none⟩,
    ⟨(opMove (some 19) (.tmp 0) 31 "law.go:120" #[{ on := 4, ground := Ground.guard }]).op, (some (4, 18, false))⟩,
    ⟨(opMove (some 20) (.tmp 1) 26 "law.go:120" #[{ on := 4, ground := Ground.guard }]).op, (some (4, 18, false))⟩,
    ⟨(opMove (some 21) (.tmp 2) 28 "law.go:120" #[{ on := 4, ground := Ground.guard }]).op, (some (4, 18, false))⟩,
    ⟨(opCallP p10 (some 22) [(.tmp 19), (.tmp 20), (.tmp 21)] #[31, 26, 28] 4 "law.go:120" #[{ on := 5, ground := Ground.data }, { on := 6, ground := Ground.data }, { on := 7, ground := Ground.data }, { on := 4, ground := Ground.chain }, { on := 4, ground := Ground.guard }]).op, (some (4, 18, false))⟩,
    ⟨(opNot (some 23) 4 (.tmp 22) 4 "law.go:120" #[{ on := 8, ground := Ground.data }, { on := 4, ground := Ground.guard }]).op, (some (4, 18, false))⟩,
    ⟨(opPick (some 24) (.tmp 18) (.const (Value.bool true)) (.tmp 23) 4 "law.go:120" #[{ on := 4, ground := Ground.data }, { on := 9, ground := Ground.data }]).op, none⟩
  ] (by kernel_rfl)))
  (.cond (.tmp 24)
    (.seq (.live [6] (.region 4 [
      ⟨(opAssign (some 6) (.const (Value.bool true)) 4 "law.go:121" #[]).op, none⟩
    ] (by kernel_rfl)))
    (.live [6] .ret))
    .skip))
  (.seq (.seq (.live [0, 1, 2, 7] (.region 5 [
    ⟨(opAssign (some 7) (.const (Value.int IntKind.i64 0)) 3 "law.go:123" #[]).op, none⟩
  ] (by kernel_rfl)))
  (.block 0 (.loop [0, 1, 2, 7] f6_l0)))
  f6_r0))))

noncomputable def f6 : Fun Try.prog where
  id := 6
  fn := Try.f6
  hf := Try.func6
  hname := by kernel_rfl
  body := f6_b
  hbody := by kernel_rfl
  res := [rTmp 6]
  hres := by kernel_rfl
  n := 76
  hn := by kernel_rfl

end Go.Proofs.Ytnmglmkkeghnaaa.V

/- What the functions' runs come to; the right sides were printed by a tool, Lean checks them. -/
set_option linter.unusedVariables false
set_option maxRecDepth 100000
namespace Go.Proofs.Ytnmglmkkeghnaaa.V
open Go Go.V Go.RowKit

theorem ce_run (F : Nat) (z x y : AV) :
    (f6.run F [z, x, y] ⟨[], []⟩ : Ans) =
    onSome (dTri [frz z, frz x, frz y]) none fun (o : Tri) =>
      branch (AV.bool (triRows o))
        (branch (AV.bool (greatF o)) (some (Fin.ret (AV.bool true), St.mk [] []))
          (onSome (dTri [frz z, frz x, frz y]) none fun (o : Tri) =>
            branch (AV.bool (triOk o))
              (branch (AV.bool !holdsF o.fst.list o.snd.fst.list o.snd.snd.list)
                (some (Fin.ret (AV.bool true), St.mk [] []))
                (loopRun (f6_l0.run F) [0, 1, 2, 7]
                  (Cont.block 0 (Cont.then (f6_r0.run F (f6.leaveK Fun.done)) (f6.leaveK Fun.done))) F
                  (Env.mk 76 [(0, z), (1, x), (2, y), (7, AV.int IntKind.i64 0)]) (St.mk [] [])))
              none))
        none := by kernel_rfl

theorem ce_round (F m : Nat) (K : Cont) (f g : Bool) (i : Int) (l r : List (List AV)) (z : AV) (st : St) :
    (loopRun (f6_l0.run F) [0, 1, 2, 7] K m.succ (Env.mk 76 [(0, z), (1, .sl 3 f l), (2, .sl 3 g r), (7, .int .i64 i)]) st : Ans) =
    branch (AV.bool (decide (i < (↑l.length : Int))))
      (branch (AV.bool (inR l i))
        (branch (AV.bool ((LD.one LT.str).is (List.drop 0 (V.rowAt l i))))
          (onSome (brN 5 z) none fun (o : Br) =>
            branch (AV.bool (okL o))
              (onSome (idxFrom (eqTo (hdS (List.drop 0 (V.rowAt l i)))) o.list 0)
                (branch (AV.bool (inR l i))
                  (branch (AV.bool ((LD.one LT.str).is (List.drop 0 (V.rowAt l i))))
                    (branch (AV.bool (okC (Br.sl f l)))
                      (branch (AV.bool !(place l (hdS (List.drop 0 (V.rowAt l i)))).isSome)
                        (K AX.ret (Env.mk 76 [(6, AV.bool false)]) st)
                        (loopRun (f6_l0.run F) [0, 1, 2, 7] K m
                          (Env.mk 76
                            [(0, z), (1, AV.sl 3 f l), (2, AV.sl 3 g r),
                              (7, AV.int IntKind.i64 (IntKind.i64.wrap (i + 1)))])
                          st))
                      none)
                    none)
                  none)
                fun (o_1 : Nat) =>
                branch (AV.bool (inR l i))
                  (branch (AV.bool ((LD.one LT.str).is (List.drop 0 (V.rowAt l i))))
                    (branch (AV.bool (okC (Br.sl f l)))
                      (branch (AV.bool !(place l (hdS (List.drop 0 (V.rowAt l i)))).isSome)
                        (K AX.ret (Env.mk 76 [(6, AV.bool false)]) st)
                        (branch (AV.bool (decide (natI (place l (hdS (List.drop 0 (V.rowAt l i)))) ≥ (↑r.length : Int))))
                          (K AX.ret (Env.mk 76 [(6, AV.bool false)]) st)
                          (branch (AV.bool (inR r (natI (place l (hdS (List.drop 0 (V.rowAt l i)))))))
                            (branch
                              (AV.bool
                                ((LD.agg [LT.int IntKind.i64, LT.int IntKind.i64, LT.str]).is
                                  (V.rowAt r (natI (place l (hdS (List.drop 0 (V.rowAt l i))))))))
                              (branch
                                (AV.bool
                                  !(hdI (V.rowAt r (natI (place l (hdS (List.drop 0 (V.rowAt l i)))))) ==
                                        hdI (List.drop 2 (V.rowAt o.list (↑o_1 : Int))) &&
                                      (hdI (V.rowAt r (natI (place l (hdS (List.drop 0 (V.rowAt l i)))))).tail ==
                                          hdI (List.drop 2 (V.rowAt o.list (↑o_1 : Int))).tail &&
                                        ((hdS
                                                (V.rowAt r
                                                      (natI
                                                        (place l (hdS (List.drop 0 (V.rowAt l i)))))).tail.tail).toList ==
                                            (hdS (List.drop 2 (V.rowAt o.list (↑o_1 : Int))).tail.tail).toList &&
                                          true))))
                                (K AX.ret (Env.mk 76 [(6, AV.bool false)]) st)
                                (loopRun (f6_l0.run F) [0, 1, 2, 7] K m
                                  (Env.mk 76
                                    [(0, z), (1, AV.sl 3 f l), (2, AV.sl 3 g r),
                                      (7, AV.int IntKind.i64 (IntKind.i64.wrap (i + 1)))])
                                  st))
                              none)
                            none)))
                      none)
                    none)
                  none)
              none)
          none)
        none)
      (K (AX.exit 0) (Env.mk 76 []) st) := by kernel_rfl

theorem ce_roundn (F m : Nat) (K : Cont) (f : Bool) (i : Int) (l : List (List AV)) (z : AV) (st : St) :
    (loopRun (f6_l0.run F) [0, 1, 2, 7] K m.succ (Env.mk 76 [(0, z), (1, .sl 3 f l), (2, .nilsl), (7, .int .i64 i)]) st : Ans) =
    branch (AV.bool (decide (i < (↑l.length : Int))))
      (branch (AV.bool (inR l i))
        (branch (AV.bool ((LD.one LT.str).is (List.drop 0 (V.rowAt l i))))
          (onSome (brN 5 z) none fun (o : Br) =>
            branch (AV.bool (okL o))
              (onSome (idxFrom (eqTo (hdS (List.drop 0 (V.rowAt l i)))) o.list 0)
                (branch (AV.bool (inR l i))
                  (branch (AV.bool ((LD.one LT.str).is (List.drop 0 (V.rowAt l i))))
                    (branch (AV.bool (okC (Br.sl f l)))
                      (branch (AV.bool !(place l (hdS (List.drop 0 (V.rowAt l i)))).isSome)
                        (K AX.ret (Env.mk 76 [(6, AV.bool false)]) st)
                        (loopRun (f6_l0.run F) [0, 1, 2, 7] K m
                          (Env.mk 76
                            [(0, z), (1, AV.sl 3 f l), (2, AV.nilsl), (7, AV.int IntKind.i64 (IntKind.i64.wrap (i + 1)))])
                          st))
                      none)
                    none)
                  none)
                fun (o : Nat) =>
                branch (AV.bool (inR l i))
                  (branch (AV.bool ((LD.one LT.str).is (List.drop 0 (V.rowAt l i))))
                    (branch (AV.bool (okC (Br.sl f l)))
                      (branch (AV.bool !(place l (hdS (List.drop 0 (V.rowAt l i)))).isSome)
                        (K AX.ret (Env.mk 76 [(6, AV.bool false)]) st)
                        (branch (AV.bool (decide (natI (place l (hdS (List.drop 0 (V.rowAt l i)))) ≥ 0)))
                          (K AX.ret (Env.mk 76 [(6, AV.bool false)]) st) none))
                      none)
                    none)
                  none)
              none)
          none)
        none)
      (K (AX.exit 0) (Env.mk 76 []) st) := by kernel_rfl

theorem ce_nil (F m : Nat) (K : Cont) (z y : AV) (st : St) :
    (loopRun (f6_l0.run F) [0, 1, 2, 7] K m.succ (Env.mk 76 [(0, z), (1, .nilsl), (2, y), (7, .int .i64 0)]) st : Ans) =
    K (AX.exit 0) (Env.mk 76 []) st := by kernel_rfl

theorem ce_out (F : Nat) (st : St) :
    ((Cont.block 0 (Cont.then (f6_r0.run F (f6.leaveK Fun.done)) (f6.leaveK Fun.done))) (.exit 0) (Env.mk 76 []) st : Ans) =
    some (Fin.ret (AV.bool true), st) := by kernel_rfl

end Go.Proofs.Ytnmglmkkeghnaaa.V

/- Cond: CondEquals is true. -/
set_option linter.unusedVariables false
namespace Go.Proofs.Ytnmglmkkeghnaaa.V
open Go Go.V Go.RowKit

theorem cmpI_zero {a b : Int} (h : cmpI a b = 0) : a = b := by
  unfold cmpI at h
  split at h
  · omega
  · split at h <;> omega
theorem cmpS_zero {a b : ByteArray} (h : cmpS a b = 0) : (a.toList == b.toList) = true := by
  unfold cmpS at h
  cases h1 : Op.bytesLess a.toList b.toList with
  | true => rw [h1] at h; simp at h
  | false =>
    rw [h1] at h
    cases h2 : a.toList == b.toList with
    | true => rfl
    | false => rw [h2] at h; simp at h
theorem orF_zero {a b c : Int} (h : orF a b c = 0) : a = 0 ∧ b = 0 ∧ c = 0 := by
  unfold orF at h
  split at h
  · omega
  · split at h <;> omega
theorem ordV_zero {a b : Va} (h : ordV a b = 0) : (a.1 == b.1 && (a.2.1 == b.2.1 && (a.2.2.toList == b.2.2.toList && true))) = true := by
  obtain ⟨h1, h2, h3⟩ := orF_zero h
  rw [cmpI_zero h1, cmpI_zero h2, cmpS_zero h3]
  simp
theorem tru1_one {x v : Va} (h : tru1 1 x v = 1) : ordV x v = 0 := by
  simp only [tru1] at h
  cases hc : canV x v with
  | false => rw [hc] at h; exact absurd h (show ¬ ((-1 : Int) = 1) by decide)
  | true =>
    rw [hc] at h
    simp only [cond_true] at h
    cases ho : ordV x v == 0 with
    | true => exact eq_of_beq ho
    | false => rw [ho] at h; exact absurd h (show ¬ ((0 : Int) = 1) by decide)
theorem place_congr {l : List (List AV)} {a b : ByteArray} (h : (a.toList == b.toList) = true) : place l a = place l b := by
  have : named a = named b := by
    funext r
    unfold named
    rw [eq_of_beq h]
  unfold place
  rw [this]
theorem cd_row {r : List AV} (h : isRow tCd r = true) : ∃ a o k n s, r = [.str a, .int .i64 o, .int .i64 k, .int .i64 n, .str s] := ⟨_, _, _, _, _, isRow_eq h⟩
theorem place_own {l : List (List AV)} {i : Nat} (hi : i < l.length) : ∃ j, place l (hdS (List.drop 0 l[i])) = some j := by
  cases h : place l (hdS (List.drop 0 l[i])) with
  | some j => exact ⟨j, rfl⟩
  | none =>
    have := idxFrom_none.mp h l[i] (List.getElem_mem hi)
    simp [named] at this
theorem holds_all {l cols r : List (List AV)} (h : holdsF l cols r = true) {j : Nat} (hj : j < l.length) : truF (cdAt l[j]) cols r = 1 := by
  simp only [holdsF, Bool.not_eq_true', List.any_eq_false] at h
  have := h l[j] (List.getElem_mem hj)
  simpa [isW] using this
/-- What a condition that holds asks for is so. -/
theorem asked {L cols r : List (List AV)} (hL : ∀ c ∈ L, isRow tCd c = true) (h : holdsF L cols r = true) {s : ByteArray} {j : Nat} (hj : idxFrom (eqTo s) L 0 = some j) {k : Nat} (hk : place cols s = some k) :
    k < r.length ∧ (hdI (V.rowAt r (k : Int)) == hdI (List.drop 2 (V.rowAt L (j : Int))) && (hdI (V.rowAt r (k : Int)).tail == hdI (List.drop 2 (V.rowAt L (j : Int))).tail && ((hdS (V.rowAt r (k : Int)).tail.tail).toList == (hdS (List.drop 2 (V.rowAt L (j : Int))).tail.tail).toList && true))) = true := by
  obtain ⟨_, hjl, hfit⟩ := idxFrom_some hj
  have hjl : j < L.length := by omega
  have hfit := hfit (by omega)
  simp only [Nat.sub_zero] at hfit
  have ht := holds_all h hjl
  rw [rowAt_nat hjl]
  obtain ⟨a, o, kk, n, t, hr⟩ := cd_row (hL _ (List.getElem_mem hjl))
  rw [hr] at hfit ht ⊢
  simp only [eqTo, hdI, hdS, List.tail_cons, Bool.and_eq_true] at hfit
  obtain ⟨h1, h2⟩ := hfit
  obtain rfl : o = 1 := eq_of_beq h1
  have hp : place cols a = some k := (place_congr h2).trans hk
  have ht : truF (a, 1, kk, n, t) cols r = 1 := ht
  unfold truF at ht
  simp only [hp] at ht
  by_cases hlen : (k : Int) ≥ r.length
  · rw [decide_eq_true hlen] at ht; exact absurd ht (show ¬ ((-1 : Int) = 1) by decide)
  · rw [decide_eq_false hlen, cond_false] at ht
    exact ⟨by omega, ordV_zero (tru1_one ht)⟩
theorem ce_step (F m : Nat) (K : Cont) (f : Bool) (i : Nat) (l : List (List AV)) (bz b : Br) (st : St) (hi : i < l.length) (hx : okC (.sl f l) = true) (hz : okL bz = true) (hv : okV b = true) (hH : holdsF bz.list l b.list = true) :
    loopRun (f6_l0.run F) [0, 1, 2, 7] K m.succ (Env.mk 76 [(0, Br.av' 5 bz), (1, .sl 3 f l), (2, Br.av' 3 b), (7, .int .i64 (i : Nat))]) st = loopRun (f6_l0.run F) [0, 1, 2, 7] K m (Env.mk 76 [(0, Br.av' 5 bz), (1, .sl 3 f l), (2, Br.av' 3 b), (7, .int .i64 ((i + 1 : Nat) : Int))]) st := by
  have hlen : l.length ≤ 1000000 := (okC_spec hx).2
  have hcol := (okC_spec hx).1 _ (List.getElem_mem hi)
  have hin := inR_nat hi
  have hs := col_s0 hcol
  have hw : IntKind.i64.wrap ((i : Int) + 1) = ((i + 1 : Nat) : Int) := by rw [wrapS (by omega) (by omega)]; omega
  obtain ⟨hz1, hz2⟩ := okL_spec hz
  obtain ⟨hv1, hv2⟩ := okV_spec hv
  obtain ⟨k, hk⟩ := place_own hi
  cases b with
  | nil =>
    refine (ce_roundn F m K f i l (Br.av' 5 bz) st).trans ?_
    rw [brN_av, rowAt_nat hi, hk, hw]
    simp only [onSome, branch_true, hin, hs, hx, hz]
    rw [branch_of (decide_eq_true (by omega))]
    cases hj : idxFrom (eqTo (hdS (List.drop 0 l[i]))) bz.list 0 with
    | none => simp only; rfl
    | some j =>
      have := (asked hz1 hH hj hk).1
      simp [Br.list] at this
  | sl g r =>
    refine (ce_round F m K f g i l r (Br.av' 5 bz) st).trans ?_
    rw [brN_av, rowAt_nat hi, hk, hw]
    simp only [onSome, branch_true, hin, hs, hx, hz]
    rw [branch_of (decide_eq_true (by omega))]
    cases hj : idxFrom (eqTo (hdS (List.drop 0 l[i]))) bz.list 0 with
    | none => simp only; rfl
    | some j =>
      obtain ⟨h1, h2⟩ := asked hz1 hH hj hk
      simp only [list_sl] at h1 h2 hv1
      simp only []
      rw [branch_not (show (!(some k : Option Nat).isSome) = false from rfl), branch_not (decide_eq_false (show ¬ natI (some k) ≥ (r.length : Int) by simp only [natI]; omega)), show natI (some k) = (k : Int) from rfl, branch_of (inR_nat h1), branch_of (by rw [rowAt_nat h1]; exact isVa_is (hv1 _ (List.getElem_mem h1))), h2]
      rfl
theorem ce_loop (F : Nat) (f : Bool) (l : List (List AV)) (bz b : Br) (st : St) (hx : okC (.sl f l) = true) (hz : okL bz = true) (hv : okV b = true) (hH : holdsF bz.list l b.list = true) : ∀ (k i m : Nat), i + k = l.length → k < m →
    loopRun (f6_l0.run F) [0, 1, 2, 7] (Cont.block 0 (Cont.then (f6_r0.run F (f6.leaveK Fun.done)) (f6.leaveK Fun.done))) m (Env.mk 76 [(0, Br.av' 5 bz), (1, .sl 3 f l), (2, Br.av' 3 b), (7, .int .i64 (i : Nat))]) st = some (.ret (.bool true), st)
  | k, i, 0, hi, hk => by omega
  | 0, i, m + 1, hi, hk => by
    have hlen : l.length ≤ 1000000 := (okC_spec hx).2
    cases b with
    | nil =>
      refine (ce_roundn F m _ f i l (Br.av' 5 bz) st).trans ?_
      rw [branch_not (decide_eq_false (by omega)), ce_out]
    | sl g r =>
      refine (ce_round F m _ f g i l r (Br.av' 5 bz) st).trans ?_
      rw [branch_not (decide_eq_false (by omega)), ce_out]
  | k + 1, i, m + 1, hi, hk => by
    rw [show m + 1 = m.succ from rfl, ce_step F m _ f i l bz b st (by omega) hx hz hv hH]
    exact ce_loop F f l bz b st hx hz hv hH k (i + 1) m (by omega) (by omega)
theorem equals_true (bz bx b : Br) (h : triRows (bz, bx, b) = true) : ∃ st, f6.run (bx.list.length + 1) [Br.av' 5 bz, Br.av' 3 bx, Br.av' 3 b] ⟨[], []⟩ = some (.ret (.bool true), st) := by
  rw [ce_run]
  simp only [frz_br, dTri_av, onSome]
  rw [branch_of h]
  cases hg : greatF (bz, bx, b) with
  | true => exact ⟨_, rfl⟩
  | false =>
    obtain ⟨k1, k2, k3, k4⟩ := great_ok h hg
    simp only at k2 k3 k4
    rw [branch_not rfl, branch_of k1]
    cases hH : holdsF bz.list bx.list b.list with
    | false => exact ⟨_, rfl⟩
    | true =>
      rw [branch_not (show (!true) = false from rfl)]
      cases bx with
      | nil => exact ⟨_, (ce_nil _ 0 _ (Br.av' 5 bz) (Br.av' 3 b) ⟨[], []⟩).trans (ce_out _ _)⟩
      | sl f l => exact ⟨_, ce_loop _ f l bz b ⟨[], []⟩ k2 k4 k3 hH l.length 0 (l.length + 1) (by omega) (by omega)⟩
theorem equals_law (as0 as1 as2 : List AV) (sh0 : Ty.Shape (.sl (.st [.str, .int .i64, .st [.int .i64, .int .i64, .str]]) 56) as0) (sh1 : Ty.Shape (.sl (.st [.str, .int .i64, .bool]) 32) as1) (sh2 : Ty.Shape (.sl (.st [.int .i64, .int .i64, .str]) 32) as2) :
    ∃ F st, f6.run F [Ty.AV' (.sl (.st [.str, .int .i64, .st [.int .i64, .int .i64, .str]]) 56) as0, Ty.AV' (.sl (.st [.str, .int .i64, .bool]) 32) as1, Ty.AV' (.sl (.st [.int .i64, .int .i64, .str]) 32) as2] ⟨[], []⟩ = some (.ret (.bool true), st) := by
  obtain ⟨bz, rfl, hz⟩ := conds_shape sh0
  obtain ⟨bx, rfl, hx⟩ := cols_shape sh1
  obtain ⟨b, rfl, hb⟩ := vals_shape sh2
  exact ⟨_, equals_true bz bx b (by simp only [triRows]; rw [hz, hx, hb]; rfl)⟩
end Go.Proofs.Ytnmglmkkeghnaaa.V
