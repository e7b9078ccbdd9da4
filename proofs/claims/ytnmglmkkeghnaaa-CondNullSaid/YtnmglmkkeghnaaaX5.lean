/- Merged out of 6 texts: what the claim's code comes to, and why. -/
import Derived.ChangeArms
import Derived.DataReads
import Derived.SizedLaws
import Derived.WideShapes
import Derived.ChangeShapes
import Derived.Test.YtnmglmkkeghnaaaX4
/- What a law's arguments are, as abstract values: read off their reading. -/
set_option linter.unusedVariables false
set_option linter.unusedSimpArgs false
namespace Go.V
open Go.WideShapes

/-- A shape of values. -/
inductive Ty where
  | bool
  | int (k : IntKind)
  | str
  | sl (e : Ty) (bytes : Nat)
  | st (fs : List Ty)

mutual
def Ty.size : Ty → Nat
  | .bool => 1
  | .int _ => 1
  | .str => 1
  | .sl _ _ => 1
  | .st fs => Ty.sizes fs
def Ty.sizes : List Ty → Nat
  | [] => 0
  | y :: r => y.size + Ty.sizes r
end

mutual
/-- A type of the program has this shape. -/
def Ty.ok (P : Program) : Ty → TypeId → Bool
  | .bool, t => match P.underlying t with
    | some .bool => true
    | _ => false
  | .int k, t => match P.underlying t with
    | some (.int k') => decide (k' = k)
    | _ => false
  | .str, t => match P.underlying t with
    | some .string => true
    | _ => false
  | .sl e b, t => match P.underlying t with
    | some (.slice u) => Nat.beq (P.cellsOf u) e.size && (Nat.blt 0 e.size && (Nat.beq (P.bytesOf u) b && e.ok P u))
    | _ => false
  | .st fs, t => match P.underlying t with
    | some (.struct F) => Nat.beq (P.cellsOf t) (Ty.sizes fs) && Ty.oks P fs F.toList 0
    | _ => false
def Ty.oks (P : Program) : List Ty → List Field → Nat → Bool
  | [], [], _ => true
  | y :: r, f :: F, o => Nat.beq f.offset o && (Nat.beq (P.cellsOf f.type) y.size && (y.ok P f.type && Ty.oks P r F (o + y.size)))
  | _, _, _ => false
end

mutual
/-- Cells of this shape. -/
def Ty.Shape : Ty → List AV → Prop
  | .bool, ays => ∃ b, ays = [.bool b]
  | .int k, ays => ∃ n, ays = [.int k n] ∧ (Lit.int k n).wf = true
  | .str, ays => ∃ s : ByteArray, ays = [.str s] ∧ s.size ≤ reachBytes
  | .sl e b, ays => ays = [.nilsl] ∨ ∃ l, ays = [.sl e.size false l] ∧ l.length * b ≤ reachBytes ∧ l.length ≤ maxLen ∧ ∀ r ∈ l, e.Shape r
  | .st fs, ays => Ty.Shapes fs ays
def Ty.Shapes : List Ty → List AV → Prop
  | [], ays => ays = []
  | y :: r, ays => ∃ a b, ays = a ++ b ∧ y.Shape a ∧ Ty.Shapes r b
end

section
variable {P : Program} {H : Type} {enc : TypeId × Value → H} {W : World} {base : Nat} {spare : Nat → Bool} {held : Bool}

theorem RelCells.ofCells : ∀ (ays : List AV) (cs : List Value) (b off : Nat), RelAll g0 W ays cs → (∀ u ∈ cs, u.oneCell' = true) → (∀ i u, cs[i]? = some u → W.cell? ⟨b, off + i, none⟩ = some u) → RelCells g0 W ays b off
  | [], _, _, _, _, _, _ => trivial
  | a :: ays, _, b, off, ⟨v, vr, rfl, h1, h2⟩, h3, h4 => by
    refine ⟨⟨v, by simpa using h4 0 v rfl, trivial, h3 v (by simp), h1⟩, RelCells.ofCells ays vr b (off + 1) h2 (fun u hu => h3 u (by simp [hu])) fun i u hu => ?_⟩
    have := h4 (i + 1) u (by simpa using hu)
    rwa [show off + (i + 1) = off + 1 + i by omega] at this

theorem cell_spot {a : Addr} {u : Value} (h : W.cell? a = some u) : a.spot = none := by
  unfold World.cell? at h
  split at h
  · split at h
    · cases h
    · rename_i hs; cases hsp : a.spot with
      | none => rfl
      | some s => rw [hsp] at hs; simp at hs
  · cases h

/-- Rows, one by one. -/
theorem rows_of_reads {sz : Nat} (hsz : 0 < sz) {Q : List AV → Prop} {b off : Nat} : ∀ (n k : Nat), (∀ i, i < n → ∃ ays cs, RelAll g0 W ays cs ∧ ays.length = sz ∧ Q ays ∧ (∀ u ∈ cs, u.oneCell' = true) ∧ ∀ j u, cs[j]? = some u → W.cell? ⟨b, off + (k + i) * sz + j, none⟩ = some u) →
    ∃ l, l.length = n ∧ (∀ r ∈ l, Q r) ∧ RelRows g0 W sz l b (off + k * sz)
  | 0, k, _ => ⟨[], rfl, by simp, trivial⟩
  | n + 1, k, h => by
    obtain ⟨l, h1, h2, h3⟩ := rows_of_reads hsz (b := b) (off := off) (Q := Q) n (k + 1) fun i hi => by
      have := h (i + 1) (by omega)
      rwa [show k + (i + 1) = k + 1 + i by omega] at this
    obtain ⟨ays, cs, k1, k2, k3, k4, k5⟩ := h 0 (by omega)
    refine ⟨ays :: l, by simp [h1], fun r hr => ?_, k2, RelCells.ofCells ays cs b _ k1 k4 (by simpa using k5), ?_⟩
    · rcases List.mem_cons.mp hr with rfl | hr
      · exact k3
      · exact h2 r hr
    · rw [show off + k * sz + sz = off + (k + 1) * sz by rw [Nat.add_mul]; omega]; exact h3

mutual
theorem Ty.read : ∀ (y : Ty) (t : TypeId) (cs : List Value) (x : DataW H × List MemPlace) (fuel : Nat), y.ok P t = true → DataW.trod enc P W base spare held fuel t cs = some x → (∀ n ∈ x.1.weights P t, n ≤ reachBytes) →
    ∃ ays, RelAll g0 W ays cs ∧ y.Shape ays ∧ ays.length = y.size ∧ ∀ u ∈ cs, u.oneCell' = true
  | .bool, t, cs, x, fuel, hk, h, hw => by
    unfold Ty.ok at hk
    split at hk
    · rename_i ht
      obtain ⟨b, rfl, _⟩ := DataW.trod_bool ht h
      exact ⟨[.bool b], ⟨_, _, rfl, rfl, rfl⟩, ⟨b, rfl⟩, rfl, by simp [Value.oneCell']⟩
    · cases hk
  | .int k, t, cs, x, fuel, hk, h, hw => by
    unfold Ty.ok at hk
    split at hk
    · rename_i k' ht
      obtain rfl : k' = k := by simpa using hk
      obtain ⟨n, rfl, _, hwf⟩ := DataW.trod_int ht h
      exact ⟨[.int k' n], ⟨_, _, rfl, rfl, rfl⟩, ⟨n, rfl, hwf⟩, rfl, by simp [Value.oneCell']⟩
    · cases hk
  | .str, t, cs, x, fuel, hk, h, hw => by
    unfold Ty.ok at hk
    split at hk
    · rename_i ht
      obtain ⟨s, rfl, rfl, _⟩ := DataW.trod_string ht h
      refine ⟨[.str s], ⟨_, _, rfl, rfl, rfl⟩, ⟨s, rfl, ?_⟩, rfl, by simp [Value.oneCell']⟩
      have := hw s.data.toList.length (by simp [DataW.weights])
      simpa using this
    · cases hk
  | .sl e b, t, cs, x, fuel, hk, h, hw => by
    unfold Ty.ok at hk
    split at hk
    · rename_i u ht
      simp only [Bool.and_eq_true] at hk
      obtain ⟨hc, h0, hb, he⟩ := hk
      have hc : P.cellsOf u = e.size := by simpa using hc
      have h0 : 0 < e.size := by simpa using h0
      have hb : P.bytesOf u = b := by simpa using hb
      rcases DataW.trod_slice ht h with ⟨rfl, _⟩ | ⟨a, len, cap, elems, rest, n, _, rfl, rfl, _, hl, hm, hlen, hel, hsp, hns⟩
      · exact ⟨[.nilsl], ⟨_, _, rfl, rfl, rfl⟩, .inl rfl, rfl, by simp [Value.oneCell']⟩
      · have hws : ∀ (i : Nat) (y : DataW H × List MemPlace), elems[i]? = some y → ∀ m ∈ y.1.weights P u, m ≤ reachBytes := by
          intro i y hy m hm'
          refine hw m ?_
          simp only [DataW.weights, ht]
          refine List.mem_cons_of_mem _ (List.mem_append_left _ ?_)
          have : y.1 ∈ elems.map (·.1) := List.mem_map.mpr ⟨y, List.mem_of_getElem? hy, rfl⟩
          clear hw hel hsp hns
          generalize elems.map (·.1) = ds at this
          induction ds with
          | nil => simp at this
          | cons d ds ih =>
            simp only [DataW.weightsAll]
            rcases List.mem_cons.mp this with rfl | h'
            · exact List.mem_append_left _ hm'
            · exact List.mem_append_right _ (ih h')
        have hsize : len * b ≤ reachBytes := by
          have := hw ((elems.map (·.1)).length * P.bytesOf u + (rest.map (·.1)).length * P.bytesOf u) (by
            simp only [DataW.weights, ht]
            rw [← Nat.add_mul]
            exact List.mem_cons_self)
          rw [hb, List.length_map, hlen] at this
          omega
        obtain ⟨bl, off, sp⟩ := a
        have hspot : sp = none ∨ len = 0 := by
          rcases Nat.eq_zero_or_pos len with h1 | h1
          · exact .inr h1
          · have h2 := hel 0 h1
            rw [List.getElem?_eq_getElem (by omega)] at h2
            obtain ⟨ci, k1, k2⟩ := Option.bind_eq_some_iff.mp h2
            obtain ⟨_, k4, k5⟩ := World.cells?_some k1
            have k6 := k5 0 (by omega)
            rw [List.getElem?_eq_getElem (by omega)] at k6
            have := cell_spot k6
            simp [Addr.add] at this
            exact .inl this
        have hrow : ∀ i, i < len → ∃ ays cs, RelAll g0 W ays cs ∧ ays.length = e.size ∧ e.Shape ays ∧ (∀ u ∈ cs, u.oneCell' = true) ∧ ∀ j u, cs[j]? = some u → W.cell? ⟨bl, off + (0 + i) * e.size + j, none⟩ = some u := by
          intro i hi
          have h2 := hel i hi
          rw [List.getElem?_eq_getElem (by omega)] at h2
          obtain ⟨ci, k1, k2⟩ := Option.bind_eq_some_iff.mp h2
          obtain ⟨ays, r1, r2, r3, r4⟩ := Ty.read e u ci _ n he k2 (hws i _ (List.getElem?_eq_getElem (by omega)))
          obtain ⟨_, k4, k5⟩ := World.cells?_some k1
          obtain rfl : sp = none := hspot.resolve_right (by omega)
          refine ⟨ays, ci, r1, r3, r2, r4, fun j v hj => ?_⟩
          have := k5 j (by rw [← k4]; exact getElem?_lt hj)
          rw [hj, hc, add_none, add_none] at this
          rw [Nat.zero_add]; exact this
        obtain ⟨l, l1, l2, l3⟩ := rows_of_reads h0 len 0 hrow
        refine ⟨[.sl e.size false l], ⟨_, _, rfl, ⟨bl, off, sp, cap, by rw [l1], by omega, (fun h => by cases h), ?_, by simpa using l3⟩, rfl⟩, .inr ⟨l, rfl, by rw [l1]; exact hsize, by omega, l2⟩, rfl, by simp [Value.oneCell']⟩
        rcases hspot with h1 | h1
        · exact .inl h1
        · exact .inr (List.eq_nil_of_length_eq_zero (by omega))
    · cases hk
  | .st fs, t, cs, x, fuel, hk, h, hw => by
    unfold Ty.ok at hk
    split at hk
    · rename_i F ht
      simp only [Bool.and_eq_true] at hk
      obtain ⟨hc, hos⟩ := hk
      have hc : P.cellsOf t = Ty.sizes fs := by simpa using hc
      obtain ⟨xs, n, _, rfl, hl, hxl, hel⟩ := DataW.trod_struct ht h
      obtain ⟨ays, r1, r2, r3, r4⟩ := Ty.reads fs F.toList 0 cs n xs hos (fun i f hf => hel i f (by simpa using hf)) (by simpa using hxl) (by omega) (fun m hm => hw m (by simpa [DataW.weights, ht] using hm))
      exact ⟨ays, by simpa using r1, r2, r3, by simpa using r4⟩
    · cases hk
theorem Ty.reads : ∀ (ys : List Ty) (F : List Field) (o : Nat) (cs : List Value) (n : Nat) (xs : List (DataW H × List MemPlace)), Ty.oks P ys F o = true →
    (∀ (i : Nat) f, F[i]? = some f → DataW.trod enc P W base spare held n f.type ((cs.drop f.offset).take (P.cellsOf f.type)) = xs[i]?) → xs.length = F.length → cs.length = o + Ty.sizes ys →
    (∀ m ∈ DataW.weightsEach P (F.map (·.type)) (xs.map (·.1)), m ≤ reachBytes) →
    ∃ ays, RelAll g0 W ays (cs.drop o) ∧ Ty.Shapes ys ays ∧ ays.length = Ty.sizes ys ∧ ∀ u ∈ cs.drop o, u.oneCell' = true
  | [], [], o, cs, n, xs, hk, hel, hxl, hl, hw => by
    have : cs.drop o = [] := List.drop_eq_nil_of_le (by simp [Ty.sizes] at hl; omega)
    exact ⟨[], this, rfl, rfl, by simp [this]⟩
  | [], _ :: _, o, cs, n, xs, hk, hel, hxl, hl, hw => by simp [Ty.oks] at hk
  | _ :: _, [], o, cs, n, xs, hk, hel, hxl, hl, hw => by simp [Ty.oks] at hk
  | y :: ys, f :: F, o, cs, n, [], hk, hel, hxl, hl, hw => by simp at hxl
  | y :: ys, f :: F, o, cs, n, x :: xs, hk, hel, hxl, hl, hw => by
    simp only [Ty.oks, Bool.and_eq_true] at hk
    obtain ⟨h1, h2, h3, h4⟩ := hk
    have h1 : f.offset = o := by simpa using h1
    have h2 : P.cellsOf f.type = y.size := by simpa using h2
    have hx := hel 0 f rfl
    rw [h1, h2] at hx
    obtain ⟨ays, r1, r2, r3, r4⟩ := Ty.read y f.type _ x n h3 hx (fun m hm => hw m (by simp only [List.map_cons, DataW.weightsEach]; exact List.mem_append_left _ hm))
    obtain ⟨bs, s1, s2, s3, s4⟩ := Ty.reads ys F (o + y.size) cs n xs h4 (fun i g hg => by have := hel (i + 1) g (by simpa using hg); simpa using this) (by simpa using hxl) (by rw [hl, Ty.sizes]; omega) (fun m hm => hw m (by simp only [List.map_cons, DataW.weightsEach]; exact List.mem_append_right _ hm))
    have hsplit : cs.drop o = (cs.drop o).take y.size ++ cs.drop (o + y.size) := by
      rw [← List.drop_drop, List.take_append_drop]
    refine ⟨ays ++ bs, by rw [hsplit]; exact RelAll.append _ _ _ _ r1 s1, ⟨ays, bs, rfl, r2, s2⟩, by rw [List.length_append, r3, s3, Ty.sizes], fun u hu => ?_⟩
    rw [hsplit] at hu
    rcases List.mem_append.mp hu with hu | hu
    · exact r4 u hu
    · exact s4 u hu
end

/-- An argument. -/
def Ty.AV' : Ty → List AV → AV
  | .st _, ays => .agg ays
  | _, ays => ays.headD .dead

theorem Ty.arg {y : Ty} {t : TypeId} {v : Value} {d : DataW H} {ps : List MemPlace} {r : Reach} {b0 : Nat} (hk : y.ok P t = true) (hval : Value.okWide P W r b0 t v) (h : DataW.Trod enc P W base spare held t v d ps) (hw : ∀ n ∈ d.weights P t, n ≤ reachBytes) :
    ∃ ays, y.Shape ays ∧ Rel g0 W (y.AV' ays) v := by
  obtain ⟨fuel, hf⟩ := h
  obtain ⟨ays, r1, r2, r3, r4⟩ := Ty.read y t _ _ fuel hk hf hw
  refine ⟨ays, r2, ?_⟩
  cases y with
  | st fs =>
    unfold Ty.ok at hk
    split at hk
    · rename_i F ht
      obtain ⟨cs, rfl, hcs⟩ := okWide_struct ht hval
      exact ⟨cs, rfl, by simpa [Value.cells] using r1, by simpa [Value.cells] using r4⟩
    · cases hk
  | bool =>
    obtain ⟨b, rfl⟩ := r2
    unfold Ty.ok at hk
    split at hk
    · rename_i ht
      obtain ⟨u, rfl⟩ := okWide_bool ht hval
      obtain ⟨w, wr, e, k1, _⟩ := r1
      simp [Value.cells] at e
      rw [← e.1] at k1; exact k1
    · cases hk
  | int k =>
    obtain ⟨b, rfl, _⟩ := r2
    unfold Ty.ok at hk
    split at hk
    · rename_i ht
      obtain ⟨u, rfl⟩ := okWide_int ht hval
      obtain ⟨w, wr, e, k1, _⟩ := r1
      simp [Value.cells] at e
      rw [← e.1] at k1; exact k1
    · cases hk
  | str =>
    obtain ⟨b, rfl, _⟩ := r2
    unfold Ty.ok at hk
    split at hk
    · rename_i ht
      obtain ⟨u, rfl⟩ := okWide_string ht hval
      obtain ⟨w, wr, e, k1, _⟩ := r1
      simp [Value.cells] at e
      rw [← e.1] at k1; exact k1
    · cases hk
  | sl e b =>
    unfold Ty.ok at hk
    split at hk
    · rename_i u ht
      obtain ⟨a, n, c, rfl⟩ := okWide_slice ht hval
      rcases r2 with rfl | ⟨l, rfl, _⟩
      all_goals
        obtain ⟨w, wr, e', k1, _⟩ := r1
        simp [Value.cells] at e'
        rw [← e'.1] at k1; exact k1
    · cases hk
end
end Go.V

/- Cond: CondSides is true. -/
set_option linter.unusedVariables false
namespace Go.Proofs.Ytnmglmkkeghnaaa.V
open Go Go.V Go.RowKit

theorem bI_or (b : Bool) : bI b = 0 ∨ bI b = 1 := by cases b <;> simp [bI]
theorem tru1_or (o : Int) (x v : Va) : tru1 o x v = -1 ∨ tru1 o x v = 0 ∨ tru1 o x v = 1 := by
  unfold tru1
  cases o == 5 <;> cases o == 6 <;> cases canV x v <;> cases o == 1 <;> cases o == 2 <;> cases o == 3 <;> cases o == 4 <;> simp only [cond_true, cond_false, Bool.not_true, Bool.not_false] <;> first | exact .inl rfl | exact .inl trivial | exact .inr (bI_or _)
theorem truF_or (c : Cd) (cols r : List (List AV)) : truF c cols r = -1 ∨ truF c cols r = 0 ∨ truF c cols r = 1 := by
  unfold truF
  split
  · exact .inl rfl
  · rename_i j hj
    by_cases h : (j : Int) ≥ r.length
    · simp only [decide_eq_true h, cond_true]; exact .inl trivial
    · simp only [decide_eq_false h, cond_false]; exact tru1_or _ _ _
/-- An operation and its other side. -/
theorem tru1_flip {o o' : Int} (h : (o = 1 ∧ o' = 2) ∨ (o = 2 ∧ o' = 1) ∨ (o = 5 ∧ o' = 6) ∨ (o = 6 ∧ o' = 5)) (x v : Va) :
    (tru1 o x v = -1 ∧ tru1 o' x v = -1) ∨ (tru1 o x v = 0 ∧ tru1 o' x v = 1) ∨ (tru1 o x v = 1 ∧ tru1 o' x v = 0) := by
  rcases h with ⟨rfl, rfl⟩ | ⟨rfl, rfl⟩ | ⟨rfl, rfl⟩ | ⟨rfl, rfl⟩
  · simp only [tru1]
    cases canV x v with
    | false => exact .inl ⟨rfl, rfl⟩
    | true =>
      simp only [cond_true, bne]
      cases ordV x v == 0
      · exact .inr (.inl ⟨rfl, rfl⟩)
      · exact .inr (.inr ⟨rfl, rfl⟩)
  · simp only [tru1]
    cases canV x v with
    | false => exact .inl ⟨rfl, rfl⟩
    | true =>
      simp only [cond_true, bne]
      cases ordV x v == 0
      · exact .inr (.inr ⟨rfl, rfl⟩)
      · exact .inr (.inl ⟨rfl, rfl⟩)
  · simp only [tru1, bne]
    cases x.1 == 0
    · exact .inr (.inl ⟨rfl, rfl⟩)
    · exact .inr (.inr ⟨rfl, rfl⟩)
  · simp only [tru1, bne]
    cases x.1 == 0
    · exact .inr (.inr ⟨rfl, rfl⟩)
    · exact .inr (.inl ⟨rfl, rfl⟩)
theorem truF_flip {o o' : Int} (h : (o = 1 ∧ o' = 2) ∨ (o = 2 ∧ o' = 1) ∨ (o = 5 ∧ o' = 6) ∨ (o = 6 ∧ o' = 5)) (c : ByteArray) (v : Va) (cols r : List (List AV)) :
    (truF (c, o, v) cols r = -1 ∧ truF (c, o', v) cols r = -1) ∨ (truF (c, o, v) cols r = 0 ∧ truF (c, o', v) cols r = 1) ∨ (truF (c, o, v) cols r = 1 ∧ truF (c, o', v) cols r = 0) := by
  unfold truF
  simp only
  cases place cols c with
  | none => exact .inl ⟨rfl, rfl⟩
  | some j =>
    simp only
    by_cases hj : (j : Int) ≥ r.length
    · simp only [decide_eq_true hj, cond_true]; exact .inl ⟨trivial, trivial⟩
    · simp only [decide_eq_false hj, cond_false]; exact tru1_flip h _ _

theorem frz_br (sz : Nat) (b : Br) : frz (Br.av' sz b) = Br.av' sz b := by cases b <;> rfl
theorem dTri_one (l : List (List AV)) (f : Bool) (bx b : Br) : dTri [.sl 5 f l, Br.av' 3 bx, Br.av' 3 b] = some (.sl f l, bx, b) := by
  show (match brN 5 (.sl 5 f l), brN 3 (Br.av' 3 bx), brN 3 (Br.av' 3 b) with
    | some a, some b, some c => some (a, b, c)
    | _, _, _ => none) = _
  rw [brN_av, brN_av]; rfl
theorem dTr_one (c s : ByteArray) (o k n : Int) (bx b : Br) : dTr [.agg [.str c, .int .i64 o, .int .i64 k, .int .i64 n, .str s], Br.av' 3 bx, Br.av' 3 b] = some ((c, o, k, n, s), bx, b) := by
  cases bx <;> cases b <;> rfl
theorem isRow_vals (ts : List LT) (cs : List AV) (h : isLTs ts cs = true) (hl : cs.length = ts.length) : isRow ts cs = true := by
  simp [isRow, h, hl]
/-- A law's columns, rows, conditions. -/
theorem great_ok {a : Tri} (h : triRows a = true) (hg : greatF a = false) : triOk a = true ∧ okC a.2.1 = true ∧ okV a.2.2 = true ∧ okL a.1 = true := by
  simp only [triRows, Bool.and_eq_true] at h
  simp only [greatF, Bool.or_eq_false_iff] at hg
  obtain ⟨h1, h2, h3⟩ := h
  have hm : ∀ b : Br, many b = false → decide (b.list.length ≤ 1000000) = true := fun b h => by
    have := of_decide_eq_false h
    exact decide_eq_true (by omega)
  have k1 : okL a.1 = true := by simp only [okL, h1, hm _ hg.1, Bool.and_self]
  have k2 : okC a.2.1 = true := by simp only [okC, h2, hm _ hg.2.1, Bool.and_self]
  have k3 : okV a.2.2 = true := by simp only [okV, h3, hm _ hg.2.2.1, Bool.and_self]
  exact ⟨by simp only [triOk, k1, k2, k3, Bool.and_self], k2, k3, k1⟩
theorem holds_one (c s : ByteArray) (o k n : Int) (cols r : List (List AV)) : holdsF [[.str c, .int .i64 o, .int .i64 k, .int .i64 n, .str s]] cols r = (truF (c, o, k, n, s) cols r == 1) := by
  show (!((truF (c, o, k, n, s) cols r != 1) || false)) = _
  simp [bne]
theorem refuses_one (c s : ByteArray) (o k n : Int) (cols r : List (List AV)) : refusesF [[.str c, .int .i64 o, .int .i64 k, .int .i64 n, .str s]] cols r = (truF (c, o, k, n, s) cols r == 0) := by
  show ((truF (c, o, k, n, s) cols r == 0) || false) = _
  simp

theorem sides_true (c s : ByteArray) (o k n : Int) (bx b : Br) (h : triRows (.sl true [[.str c, .int .i64 o, .int .i64 k, .int .i64 n, .str s]], bx, b) = true) : ∃ st, f3.run 20 [.agg [.str c, .int .i64 o, .int .i64 k, .int .i64 n, .str s], Br.av' 3 bx, Br.av' 3 b] ⟨[], []⟩ = some (.ret (.bool true), st) := by
  rw [sides_run]
  simp only [frz_br, dTri_one, dTr_one, onSome]
  rw [branch_of h]
  cases hg : greatF (.sl true [[.str c, .int .i64 o, .int .i64 k, .int .i64 n, .str s]], bx, b) with
  | true => exact ⟨_, rfl⟩
  | false =>
    obtain ⟨k1, k2, k3, k4⟩ := great_ok h hg
    simp only at k2 k3
    have k5 : (okC bx && okV b) = true := by rw [k2, k3]; rfl
    rw [branch_not rfl]
    simp only [k1, k5, branch_true, Br.list, holds_one, refuses_one]
    by_cases h1 : o = 1
    · subst h1
      rcases truF_flip (o := 1) (o' := 2) (by simp) c (k, n, s) bx.list b.list with ⟨e1, e2⟩ | ⟨e1, e2⟩ | ⟨e1, e2⟩ <;> (simp only [Br.list] at e1 e2; simp only [e1, e2]; exact ⟨_, rfl⟩)
    by_cases h2 : o = 2
    · subst h2
      rcases truF_flip (o := 2) (o' := 1) (by simp) c (k, n, s) bx.list b.list with ⟨e1, e2⟩ | ⟨e1, e2⟩ | ⟨e1, e2⟩ <;> (simp only [Br.list] at e1 e2; simp only [e1, e2]; exact ⟨_, rfl⟩)
    by_cases h5 : o = 5
    · subst h5
      rcases truF_flip (o := 5) (o' := 6) (by simp) c (k, n, s) bx.list b.list with ⟨e1, e2⟩ | ⟨e1, e2⟩ | ⟨e1, e2⟩ <;> (simp only [Br.list] at e1 e2; simp only [e1, e2]; exact ⟨_, rfl⟩)
    by_cases h6 : o = 6
    · subst h6
      rcases truF_flip (o := 6) (o' := 5) (by simp) c (k, n, s) bx.list b.list with ⟨e1, e2⟩ | ⟨e1, e2⟩ | ⟨e1, e2⟩ <;> (simp only [Br.list] at e1 e2; simp only [e1, e2]; exact ⟨_, rfl⟩)
    rw [branch_not (show (o == 1) = false by simpa using h1), branch_not (show (o == 2) = false by simpa using h2), branch_not (show (o == 5) = false by simpa using h5), branch_not (show (o == 6) = false by simpa using h6)]
    have hself : (o != o) = false := by simp
    simp only [hself]
    rcases truF_or (c, o, k, n, s) bx.list b.list with e | e | e <;> (simp only [Br.list] at e; simp only [e]; exact ⟨_, rfl⟩)

theorem tri_shape {ts : List LT} {tys : List Ty} {e : Nat} {bytes : Nat} {xs : List AV} (hsz : (Ty.st tys).size = e) (hrow : ∀ r, Ty.Shape (.st tys) r → isRow ts r = true) (h : Ty.Shape (.sl (.st tys) bytes) xs) : ∃ b : Br, xs = [Br.av' e b] ∧ b.list.all (isRow ts) = true := by
  rcases h with h | ⟨l, h1, h2, h3, h4⟩
  · exact ⟨.nil, h, rfl⟩
  · refine ⟨.sl false l, by rw [h1, hsz]; rfl, List.all_eq_true.mpr fun r hr => hrow r (h4 r hr)⟩
theorem col_shape (r : List AV) (h : Ty.Shape (.st [.str, .int .i64, .bool]) r) : isRow tCol r = true := by
  obtain ⟨a, b, rfl, ⟨s, rfl, _⟩, a2, b2, rfl, ⟨k, rfl, _⟩, a3, b3, rfl, ⟨t, rfl⟩, rfl⟩ := h
  rfl
theorem va_shape (r : List AV) (h : Ty.Shape (.st [.int .i64, .int .i64, .str]) r) : isRow tVa r = true := by
  obtain ⟨a, b, rfl, ⟨k, rfl, _⟩, a2, b2, rfl, ⟨n, rfl, _⟩, a3, b3, rfl, ⟨s, rfl, _⟩, rfl⟩ := h
  rfl
end Go.Proofs.Ytnmglmkkeghnaaa.V

/- Cond: the laws' arguments; CondSides. -/
set_option linter.unusedVariables false
namespace Go.Proofs.Ytnmglmkkeghnaaa.V
open Go Go.V Go.RowKit

abbrev yVa : Ty := .st [.int .i64, .int .i64, .str]
abbrev yCd : Ty := .st [.str, .int .i64, yVa]
abbrev yCol : Ty := .st [.str, .int .i64, .bool]
theorem cd_shape (r : List AV) (h : Ty.Shape yCd r) : ∃ c o k n s, r = [.str c, .int .i64 o, .int .i64 k, .int .i64 n, .str s] := by
  obtain ⟨a, b, rfl, ⟨s, rfl, _⟩, a2, b2, rfl, ⟨o, rfl, _⟩, a3, b3, rfl, h3, rfl⟩ := h
  obtain ⟨a, b, rfl, ⟨k, rfl, _⟩, a2, b2, rfl, ⟨n, rfl, _⟩, a3, b3, rfl, ⟨t, rfl, _⟩, rfl⟩ := h3
  exact ⟨s, o, k, n, t, rfl⟩
theorem cds_shape (r : List AV) (h : Ty.Shape yCd r) : isRow tCd r = true := by
  obtain ⟨c, o, k, n, s, rfl⟩ := cd_shape r h
  rfl
theorem cols_shape {xs : List AV} (h : Ty.Shape (.sl yCol 32) xs) : ∃ b : Br, xs = [Br.av' 3 b] ∧ b.list.all isCol = true := tri_shape (ts := tCol) rfl col_shape h
theorem vals_shape {xs : List AV} (h : Ty.Shape (.sl yVa 32) xs) : ∃ b : Br, xs = [Br.av' 3 b] ∧ b.list.all (isRow tVa) = true := tri_shape (ts := tVa) rfl va_shape h
theorem conds_shape {xs : List AV} (h : Ty.Shape (.sl yCd 56) xs) : ∃ b : Br, xs = [Br.av' 5 b] ∧ b.list.all (isRow tCd) = true := tri_shape (ts := tCd) rfl cds_shape h
theorem av_br (y : Ty) (n sz : Nat) (b : Br) : Ty.AV' (.sl y n) [Br.av' sz b] = Br.av' sz b := rfl
theorem sides_law (as0 as1 as2 : List AV) (sh0 : Ty.Shape (.st [.str, .int .i64, .st [.int .i64, .int .i64, .str]]) as0) (sh1 : Ty.Shape (.sl (.st [.str, .int .i64, .bool]) 32) as1) (sh2 : Ty.Shape (.sl (.st [.int .i64, .int .i64, .str]) 32) as2) :
    ∃ F st, f3.run F [Ty.AV' (.st [.str, .int .i64, .st [.int .i64, .int .i64, .str]]) as0, Ty.AV' (.sl (.st [.str, .int .i64, .bool]) 32) as1, Ty.AV' (.sl (.st [.int .i64, .int .i64, .str]) 32) as2] ⟨[], []⟩ = some (.ret (.bool true), st) := by
  obtain ⟨c, o, k, n, s, rfl⟩ := cd_shape _ sh0
  obtain ⟨bx, rfl, hx⟩ := cols_shape sh1
  obtain ⟨b, rfl, hb⟩ := vals_shape sh2
  exact ⟨20, sides_true c s o k n bx b (by simp only [triRows, Br.list] at hx hb ⊢; rw [hx, hb]; rfl)⟩
end Go.Proofs.Ytnmglmkkeghnaaa.V

/- The functions' pieces, as told by gen.py. -/
set_option linter.unusedVariables false
set_option maxRecDepth 20000
namespace Go.Proofs.Ytnmglmkkeghnaaa.V
open Go Go.V Go.RowKit


/-! ### 5: interlock/interlocklaw12.CondNull (25, 26); results 4; slots: 0 c, 1 cols, 2 c, 3 cols, 5 r, 6 _, 7 ok, 8 t -/
noncomputable def f5_b : Sim Try.prog :=
  (.seq (.live [1, 2] (.region 0 [
    ⟨(opBoxF (some 2) 25 (.tmp 0) 0 "law.go:137" #[]).op, none⟩,
    ⟨(opAssign (some 4) (.const (Value.bool false)) 4 "law.go:137" #[]).op, none⟩
  ] (by kernel_rfl)))
  (.seq (.seq (.live [1, 2, 10] (.region 1 [
    ⟨(opCallP p7 (some 9) [] #[] 4 "law.go:138" #[]).op, none⟩,
    ⟨(opNot (some 10) 4 (.tmp 9) 4 "law.go:138" #[{ on := 0, ground := Ground.data }]).op, none⟩
  ] (by kernel_rfl)))
  (.cond (.tmp 10)
    (.seq (.live [4] (.region 2 [
      ⟨(opAssign (some 4) (.const (Value.bool false)) 4 "law.go:139" #[]).op, none⟩
    ] (by kernel_rfl)))
    (.live [4] .ret))
    .skip))
  (.seq (.seq (.live [1, 2, 14] (.region 3 [
    ⟨(opLoadT (.agg [.str, (.int .i64), (.int .i64), (.int .i64), .str]) (some 11) 25 (.tmp 2) d25 ud25 5 sz25 (by kernel_rfl) 25 "law.go:141" #[]).op, none⟩,
    ⟨(opBuildSlice (some 12) 31 1 [(0, (.tmp 11))] 25 5 56 (.agg #[(.string ⟨#[]⟩), (.int .i64 0), (.int .i64 0), (.int .i64 0), (.string ⟨#[]⟩)]) el31 (by kernel_rfl) (by decide) 31 "law.go:141" #[{ on := 0, ground := Ground.data }]).op, none⟩,
    ⟨(opMove (some 13) (.tmp 1) 26 "law.go:141" #[]).op, none⟩,
    ⟨(opCallP p8 (some 14) [(.tmp 12), (.tmp 13), (.const (Value.slice none 0 0))] #[31, 26, 28] 4 "law.go:141" #[{ on := 1, ground := Ground.data }, { on := 2, ground := Ground.data }]).op, none⟩
  ] (by kernel_rfl)))
  (.cond (.tmp 14)
    (.seq (.live [4] (.region 4 [
      ⟨(opAssign (some 4) (.const (Value.bool true)) 4 "law.go:142" #[]).op, none⟩
    ] (by kernel_rfl)))
    (.live [4] .ret))
    .skip))
  (.seq (.live [1, 2, 5] (.region 5 [
    ⟨(opMove (some 15) (.tmp 1) 26 "law.go:144" #[]).op, none⟩,
    ⟨(opLen (some 16) (.tmp 15) 26 (.slice 42) Try.underlying26 3 "law.go:144" #[{ on := 0, ground := Ground.data }]).op, none⟩,
    ⟨(opMakeF (some 17) 28 (.tmp 16) 23 3 32 (.agg #[(.int .i64 0), (.int .i64 0), (.string ⟨#[]⟩)]) el28 [AV.int .i64 0, AV.int .i64 0, AV.str ByteArray.empty] (by kernel_rfl) (by kernel_rfl) (by kernel_rfl) 28 "law.go:144" #[{ on := 1, ground := Ground.data }, { on := 1, ground := Ground.data }]).op, none⟩,
    ⟨(opAssign (some 5) (.tmp 17) 28 "law.go:144" #[{ on := 2, ground := Ground.data }, { on := 0, ground := Ground.phase }, { on := 1, ground := Ground.phase }, { on := 2, ground := Ground.phase }]).op, none⟩
  ] (by kernel_rfl)))
  (.seq (.live [1, 2, 5, 7] (.region 6 [
    ⟨(opMove (some 19) (.tmp 1) 26 "law.go:145" #[]).op, none⟩,
    ⟨(opFieldAddr (some 20) 25 (.tmp 2) 0 0 1 false fl25_0 (by decide) 0 "law.go:145" #[]).op, none⟩,
    ⟨(opLoadT (.one .str) (some 21) 9 (.tmp 20) .string Try.underlying9 1 sz9 (by kernel_rfl) 9 "law.go:145" #[{ on := 1, ground := Ground.data }]).op, none⟩,
    ⟨(opCallP p13 (some 22) [(.tmp 19), (.tmp 21)] #[26, 9] 36 "law.go:145" #[{ on := 0, ground := Ground.data }, { on := 2, ground := Ground.data }]).op, none⟩,
    ⟨(opMove (some 18) (.tmp 22) 36 "law.go:145" #[{ on := 3, ground := Ground.data }]).op, none⟩,
    ⟨(opExtract (some 23) (.tmp 18) 0 3 "law.go:145" #[{ on := 4, ground := Ground.data }]).op, none⟩,
    ⟨(opExtract (some 24) (.tmp 18) 1 4 "law.go:145" #[{ on := 4, ground := Ground.data }, { on := 7, ground := (Ground.gcOnly Departure.lateStores) }]).op, none⟩,
    ⟨(opAssign (some 6) (.tmp 23) 3 "law.go:145" #[{ on := 5, ground := Ground.data }, { on := 3, ground := Ground.chain }, { on := 0, ground := Ground.phase }, { on := 1, ground := Ground.phase }, { on := 2, ground := Ground.phase }, { on := 3, ground := Ground.phase }, { on := 4, ground := Ground.phase }, { on := 5, ground := Ground.phase }, { on := 6, ground := (Ground.textOnly Departure.lateStores) }]).op, none⟩,
    ⟨(opAssign (some 7) (.tmp 24) 4 "law.go:145" #[{ on := 6, ground := Ground.data }, { on := 7, ground := Ground.chain }, { on := 0, ground := Ground.phase }, { on := 1, ground := Ground.phase }, { on := 2, ground := Ground.phase }, { on := 3, ground := Ground.phase }, { on := 4, ground := Ground.phase }, { on := 5, ground := Ground.phase }, { on := 6, ground := Ground.phase }, { on := 7, ground := Ground.phase }]).op, none⟩
  ] (by kernel_rfl)))
  (.seq (.live [1, 2, 5, 7, 8] (.region 7 [
    ⟨(opLoadT (.agg [.str, (.int .i64), (.int .i64), (.int .i64), .str]) (some 25) 25 (.tmp 2) d25 ud25 5 sz25 (by kernel_rfl) 25 "law.go:146" #[]).op, none⟩,
    ⟨(opMove (some 26) (.tmp 1) 26 "law.go:146" #[]).op, none⟩,
    ⟨(opMove (some 27) (.tmp 5) 28 "law.go:146" #[]).op, none⟩,
    ⟨(opCallP p9 (some 28) [(.tmp 25), (.tmp 26), (.tmp 27)] #[25, 26, 28] 3 "law.go:146" #[{ on := 0, ground := Ground.data }, { on := 1, ground := Ground.data }, { on := 2, ground := Ground.data }]).op, none⟩,
    ⟨(opAssign (some 8) (.tmp 28) 3 "law.go:146" #[{ on := 3, ground := Ground.data }, { on := 3, ground := Ground.chain }, { on := 0, ground := Ground.phase }, { on := 1, ground := Ground.phase }, { on := 2, ground := Ground.phase }, { on := 3, ground := Ground.phase }]).op, none⟩
  ] (by kernel_rfl)))
  (.seq (.seq (.live [1, 2, 5, 8, 30] (.region 8 [
    ⟨(opMove (some 29) (.tmp 7) 4 "law.go:147" #[]).op, none⟩,
    ⟨(opNot (some 30) 4 (.tmp 29) 4 "law.go:147" #[{ on := 0, ground := Ground.data }]).op, none⟩
  ] (by kernel_rfl)))
  (.cond (.tmp 30)
    (.seq (.live [4] (.region 9 [
      ⟨(opMove (some 31) (.tmp 8) 3 "law.go:148" #[]).op, none⟩,
      ⟨(opBin (some 32) .eql 3 (.tmp 31) (.const (Value.int IntKind.i64 (-1))) 3 4 "law.go:148" #[{ on := 0, ground := Ground.data }]).op, none⟩,
      ⟨(opAssign (some 4) (.tmp 32) 4 "law.go:148" #[{ on := 1, ground := Ground.data }, { on := 0, ground := Ground.phase }, { on := 1, ground := Ground.phase }]).op, none⟩
    ] (by kernel_rfl)))
    (.live [4] .ret))
    .skip))
  (.seq (.seq (.live [1, 2, 5, 8, 34] (.region 10 [
    ⟨(opFieldAddr (some 33) 25 (.tmp 2) 1 1 1 false fl25_1 (by decide) 0 "law.go:150" #[]).op, none⟩,
    ⟨(opLoadT (.one (.int .i64)) (some 34) 3 (.tmp 33) (.int .i64) Try.underlying3 1 sz3 (by kernel_rfl) 3 "law.go:150" #[{ on := 0, ground := Ground.data }]).op, none⟩
  ] (by kernel_rfl)))
  (.block 0 (.seq (.live [1, 2, 5, 8, 34, 35] (.region 11 [
      ⟨(opBin (some 36) .eql 3 (.tmp 34) (.const (Value.int IntKind.i64 5)) 3 4 "law.go:151" #[]).op, none⟩,
      ⟨(opAssign (some 35) (.tmp 36) 4 "law.go:151" #[{ on := 0, ground := Ground.data }]).op, none⟩
    ] (by kernel_rfl)))
    (.cond (.tmp 35)
      (.seq (.live [4] (.region 12 [
        ⟨(opMove (some 37) (.tmp 8) 3 "law.go:152" #[]).op, none⟩,
        ⟨(opBin (some 38) .eql 3 (.tmp 37) (.const (Value.int IntKind.i64 1)) 3 4 "law.go:152" #[{ on := 0, ground := Ground.data }]).op, none⟩,
        ⟨(opAssign (some 4) (.tmp 38) 4 "law.go:152" #[{ on := 1, ground := Ground.data }, { on := 0, ground := Ground.phase }, { on := 1, ground := Ground.phase }]).op, none⟩
      ] (by kernel_rfl)))
      (.live [4] .ret))
      (.seq (.live [1, 2, 5, 8, 39] (.region 13 [
        ⟨(opBin (some 40) .eql 3 (.tmp 34) (.const (Value.int IntKind.i64 6)) 3 4 "law.go:153" #[]).op, none⟩,
        ⟨(opAssign (some 39) (.tmp 40) 4 "law.go:153" #[{ on := 0, ground := Ground.data }]).op, none⟩
      ] (by kernel_rfl)))
      (.cond (.tmp 39)
        (.seq (.live [4] (.region 14 [
          ⟨(opMove (some 41) (.tmp 8) 3 "law.go:154" #[]).op, none⟩,
          ⟨(opBin (some 42) .eql 3 (.tmp 41) (.const (Value.int IntKind.i64 0)) 3 4 "law.go:154" #[{ on := 0, ground := Ground.data }]).op, none⟩,
          ⟨(opAssign (some 4) (.tmp 42) 4 "law.go:154" #[{ on := 1, ground := Ground.data }, { on := 0, ground := Ground.phase }, { on := 1, ground := Ground.phase }]).op, none⟩
        ] (by kernel_rfl)))
        (.live [4] .ret))
        .skip))))))
  (.seq (.live [4] (.region 15 [
    ⟨(opMove (some 43) (.tmp 8) 3 "law.go:156" #[]).op, none⟩,
    ⟨(opBin (some 44) .eql 3 (.tmp 43) (.const (Value.int IntKind.i64 (-1))) 3 4 "law.go:156" #[{ on := 0, ground := Ground.data }]).op, none⟩,
    ⟨(opMove (some 45) (.tmp 44) 4 "law.go:156" #[{ on := 1, ground := Ground.data }]).op, none⟩,
    ⟨(opLoadT (.agg [.str, (.int .i64), (.int .i64), (.int .i64), .str]) (some 46) 25 (.tmp 2) d25 ud25 5 sz25 (by kernel_rfl) 25 "law.go:156" #[{ on := 2, ground := Ground.guard }]).op, (some (2, 45, true))⟩,
    ⟨(opBuildSlice (some 47) 31 1 [(0, (.tmp 46))] 25 5 56 (.agg #[(.string ⟨#[]⟩), (.int .i64 0), (.int .i64 0), (.int .i64 0), (.string ⟨#[]⟩)]) el31 (by kernel_rfl) (by decide) 31 "law.go:156" #[{ on := 3, ground := Ground.data }, { on := 2, ground := Ground.guard }]).op, (some (2, 45, true))⟩,
    ⟨(opMove (some 48) (.tmp 1) 26 "law.go:156" #[{ on := 2, ground := Ground.guard }]).op, (some (2, 45, true))⟩,
    ⟨(opMove (some 49) (.tmp 5) 28 "law.go:156" #[{ on := 2, ground := Ground.guard }]).op, (some (2, 45, true))⟩,
    ⟨(opCallP p11 (some 50) [(.tmp 47), (.tmp 48), (.tmp 49)] #[31, 26, 28] 4 "law.go:156" #[{ on := 4, ground := Ground.data }, { on := 5, ground := Ground.data }, { on := 6, ground := Ground.data }, { on := 2, ground := Ground.chain }, { on := 2, ground := Ground.guard }]).op, (some (2, 45, true))⟩,
    ⟨(opNot (some 51) 4 (.tmp 50) 4 "law.go:156" #[{ on := 7, ground := Ground.data }, { on := 2, ground := Ground.guard }]).op, (some (2, 45, true))⟩,
    ⟨(opPick (some 52) (.tmp 45) (.tmp 51) (.const (Value.bool false)) 4 "law.go:156" #[{ on := 2, ground := Ground.data }, { on := 8, ground := Ground.data }]).op, none⟩,
    ⟨(opAssign (some 4) (.tmp 52) 4 "law.go:156" #[{ on := 9, ground := Ground.data }, { on := 7, ground := Ground.chain }, { on := 0, ground := Ground.phase }, { on := 1, ground := Ground.phase }, { on := 2, ground := Ground.phase }, { on := 3, ground := Ground.phase }, { on := 4, ground := Ground.phase }, { on := 5, ground := Ground.phase }, { on := 6, ground := Ground.phase }, { on := 7, ground := Ground.phase }, { on := 8, ground := Ground.phase }, { on := 9, ground := Ground.phase }]).op, none⟩
  ] (by kernel_rfl)))
  (.live [4] .ret))))))))))

noncomputable def f5 : Fun Try.prog where
  id := 5
  fn := Try.f5
  hf := Try.func5
  hname := by kernel_rfl
  body := f5_b
  hbody := by kernel_rfl
  res := [rTmp 4]
  hres := by kernel_rfl
  n := 53
  hn := by kernel_rfl

end Go.Proofs.Ytnmglmkkeghnaaa.V

/- What the functions' runs come to; the right sides were printed by a tool, Lean checks them. -/
set_option linter.unusedVariables false
set_option maxRecDepth 100000
namespace Go.Proofs.Ytnmglmkkeghnaaa.V
open Go Go.V Go.RowKit

theorem null_run (c s : ByteArray) (o k n : Int) (f : Bool) (l : List (List AV)) :
    (f5.run 20 [.agg [.str c, .int .i64 o, .int .i64 k, .int .i64 n, .str s], .sl 3 f l] ⟨[], []⟩ : Ans) =
    branch
      (AV.bool
        (triRows
          (Br.sl true [[AV.str c, AV.int IntKind.i64 o, AV.int IntKind.i64 k, AV.int IntKind.i64 n, AV.str s]], Br.sl f l,
            Br.nil)))
      (branch
        (AV.bool
          (greatF
            (Br.sl true [[AV.str c, AV.int IntKind.i64 o, AV.int IntKind.i64 k, AV.int IntKind.i64 n, AV.str s]], Br.sl f l,
              Br.nil)))
        (some (Fin.ret (AV.bool true), St.mk [] []))
        (branch
          (AV.bool
            (true &&
              ((32 * (↑l.length : Int).toNat).ble 281474976710656 && (↑l.length : Int).toNat.ble 9223372036854775807)))
          (branch (AV.bool (okC (Br.sl f l)))
            (branch
              (AV.bool
                (okC (Br.sl f l) &&
                  okV
                    (Br.sl true
                      (List.replicate (↑l.length : Int).toNat
                        [AV.int IntKind.i64 0, AV.int IntKind.i64 0, AV.str ByteArray.empty]))))
              (branch (AV.bool !(place l c).isSome)
                (some
                  (Fin.ret
                      (AV.bool
                        (truF (c, o, k, n, s) l
                            (List.replicate (↑l.length : Int).toNat
                              [AV.int IntKind.i64 0, AV.int IntKind.i64 0, AV.str ByteArray.empty]) ==
                          -1)),
                    St.mk [] []))
                (branch (AV.bool (o == 5))
                  (some
                    (Fin.ret
                        (AV.bool
                          (truF (c, o, k, n, s) l
                              (List.replicate (↑l.length : Int).toNat
                                [AV.int IntKind.i64 0, AV.int IntKind.i64 0, AV.str ByteArray.empty]) ==
                            1)),
                      St.mk [] []))
                  (branch (AV.bool (o == 6))
                    (some
                      (Fin.ret
                          (AV.bool
                            (truF (c, o, k, n, s) l
                                (List.replicate (↑l.length : Int).toNat
                                  [AV.int IntKind.i64 0, AV.int IntKind.i64 0, AV.str ByteArray.empty]) ==
                              0)),
                        St.mk [] []))
                    (branch
                      (AV.bool
                        (truF (c, o, k, n, s) l
                            (List.replicate (↑l.length : Int).toNat
                              [AV.int IntKind.i64 0, AV.int IntKind.i64 0, AV.str ByteArray.empty]) ==
                          -1))
                      (branch
                        (AV.bool
                          (triOk
                            (Br.sl true
                                [[AV.str c, AV.int IntKind.i64 o, AV.int IntKind.i64 k, AV.int IntKind.i64 n, AV.str s]],
                              Br.sl f l,
                              Br.sl true
                                (List.replicate (↑l.length : Int).toNat
                                  [AV.int IntKind.i64 0, AV.int IntKind.i64 0, AV.str ByteArray.empty]))))
                        (some
                          (Fin.ret
                              (AV.bool
                                !refusesF
                                    [[AV.str c, AV.int IntKind.i64 o, AV.int IntKind.i64 k, AV.int IntKind.i64 n, AV.str s]]
                                    l
                                    (List.replicate (↑l.length : Int).toNat
                                      [AV.int IntKind.i64 0, AV.int IntKind.i64 0, AV.str ByteArray.empty])),
                            St.mk [] []))
                        none)
                      (some (Fin.ret (AV.bool false), St.mk [] []))))))
              none)
            none)
          none))
      none := by kernel_rfl

theorem null_nil (c s : ByteArray) (o k n : Int) :
    (f5.run 20 [.agg [.str c, .int .i64 o, .int .i64 k, .int .i64 n, .str s], .nilsl] ⟨[], []⟩ : Ans) =
    branch
      (AV.bool
        (greatF
          (Br.sl true [[AV.str c, AV.int IntKind.i64 o, AV.int IntKind.i64 k, AV.int IntKind.i64 n, AV.str s]], Br.nil,
            Br.nil)))
      (some (Fin.ret (AV.bool true), St.mk [] [])) (some (Fin.ret (AV.bool true), St.mk [] [])) := by kernel_rfl

end Go.Proofs.Ytnmglmkkeghnaaa.V

/- Cond: CondNull is true. -/
set_option linter.unusedVariables false
namespace Go.Proofs.Ytnmglmkkeghnaaa.V
open Go Go.V Go.RowKit

abbrev zVa : List AV := [AV.int IntKind.i64 0, AV.int IntKind.i64 0, AV.str ByteArray.empty]
theorem canV_null (x v : Va) (h : x.1 = 0) : canV x v = false := by
  obtain ⟨k, n, s⟩ := x
  simp only at h
  subst h
  simp [canV]
theorem truF_null (c : ByteArray) (o : Int) (v : Va) (l : List (List AV)) : truF (c, o, v) l (List.replicate l.length zVa) = (match place l c with
    | none => -1
    | some _ => bif o == 5 then 1 else bif o == 6 then 0 else -1) := by
  unfold truF
  cases hp : place l c with
  | none => rfl
  | some j =>
    obtain ⟨_, h2, _⟩ := idxFrom_some (l := l) hp
    have hj : j < l.length := by omega
    have hr : V.rowAt (List.replicate l.length zVa) (j : Int) = zVa := by rw [rowAt_nat (by simpa using hj)]; simp
    simp only [List.length_replicate, vaAt, hr]
    rw [show decide ((j : Int) ≥ l.length) = false from decide_eq_false (by omega), cond_false]
    simp only [tru1]
    rw [canV_null _ _ rfl]
    cases o == 5
    · cases o == 6 <;> rfl
    · rfl
theorem okV_null (f : Bool) (n : Nat) (h : n ≤ 1000000) : okV (.sl f (List.replicate n zVa)) = true := by
  simp only [okV, Br.list, List.length_replicate, Bool.and_eq_true]
  refine ⟨List.all_eq_true.mpr fun r hr => ?_, decide_eq_true h⟩
  rw [List.eq_of_mem_replicate hr]; rfl
theorem null_true (c s : ByteArray) (o k n : Int) (b : Br) (h : b.list.all isCol = true) : ∃ st, f5.run 20 [.agg [.str c, .int .i64 o, .int .i64 k, .int .i64 n, .str s], Br.av' 3 b] ⟨[], []⟩ = some (.ret (.bool true), st) := by
  cases b with
  | nil =>
    show ∃ st, f5.run 20 [.agg [.str c, .int .i64 o, .int .i64 k, .int .i64 n, .str s], .nilsl] ⟨[], []⟩ = _
    rw [null_nil]
    generalize greatF _ = g
    cases g <;> exact ⟨_, rfl⟩
  | sl f l =>
    show ∃ st, f5.run 20 [.agg [.str c, .int .i64 o, .int .i64 k, .int .i64 n, .str s], .sl 3 f l] ⟨[], []⟩ = _
    have ht : triRows (.sl true [[.str c, .int .i64 o, .int .i64 k, .int .i64 n, .str s]], .sl f l, .nil) = true := by
      simp only [triRows, Br.list] at h ⊢; rw [h]; rfl
    rw [null_run, branch_of ht]
    cases hg : greatF (.sl true [[.str c, .int .i64 o, .int .i64 k, .int .i64 n, .str s]], .sl f l, .nil) with
    | true => exact ⟨_, rfl⟩
    | false =>
      obtain ⟨k1, k2, k3, k4⟩ := great_ok ht hg
      simp only at k2 k4
      have hl : l.length ≤ 1000000 := (okC_spec k2).2
      rw [branch_not rfl]
      simp only [Int.toNat_natCast]
      rw [branch_of (show (true && ((32 * l.length).ble 281474976710656 && l.length.ble 9223372036854775807)) = true by
        rw [Nat.ble_eq_true_of_le (by omega), Nat.ble_eq_true_of_le (by omega)]; rfl)]
      have hv := okV_null true l.length hl
      rw [branch_of k2, branch_of (show (okC (.sl f l) && okV (.sl true (List.replicate l.length zVa))) = true by rw [k2, hv]; rfl), truF_null]
      have e := truF_null c o (k, n, s) l
      cases hp : place l c with
      | none => exact ⟨_, rfl⟩
      | some j =>
        rw [hp] at e
        simp only at e
        rw [branch_not (show (!(some j : Option Nat).isSome) = false from rfl)]
        simp only
        cases h5 : o == 5 with
        | true => exact ⟨_, rfl⟩
        | false =>
          rw [branch_not rfl]
          cases h6 : o == 6 with
          | true => exact ⟨_, rfl⟩
          | false =>
            rw [h5, h6] at e
            simp only [cond_false] at e
            rw [branch_not rfl, branch_of (show ((bif false then (1 : Int) else bif false then 0 else -1) == -1) = true from rfl),
              branch_of (show triOk (.sl true [[.str c, .int .i64 o, .int .i64 k, .int .i64 n, .str s]], .sl f l, .sl true (List.replicate l.length zVa)) = true by simp only [triOk, k4, k2, hv, Bool.and_self]), refuses_one, e]
            exact ⟨_, rfl⟩
theorem null_law (as0 as1 : List AV) (sh0 : Ty.Shape (.st [.str, .int .i64, .st [.int .i64, .int .i64, .str]]) as0) (sh1 : Ty.Shape (.sl (.st [.str, .int .i64, .bool]) 32) as1) :
    ∃ F st, f5.run F [Ty.AV' (.st [.str, .int .i64, .st [.int .i64, .int .i64, .str]]) as0, Ty.AV' (.sl (.st [.str, .int .i64, .bool]) 32) as1] ⟨[], []⟩ = some (.ret (.bool true), st) := by
  obtain ⟨c, o, k, n, s, rfl⟩ := cd_shape _ sh0
  obtain ⟨bx, rfl, hx⟩ := cols_shape sh1
  exact ⟨20, null_true c s o k n bx hx⟩
end Go.Proofs.Ytnmglmkkeghnaaa.V
