/- Merged out of 14 texts: what the claim's code comes to, and why. -/
import Derived.Lib.Builder
import Derived.Lib.UnsafeStr
import Derived.Laws.Externs
import Derived.Test.YtcfedmheblbdnaaDoorRows
import Derived.Test.YtcfedmheblbdnaaDoorR23
/- Arrays. -/
set_option linter.unusedVariables false
set_option linter.unusedSimpArgs false
namespace Go.V
section
variable {P : Program}

theorem RelRows.cells {g : Gh} {w : World} {sz : Nat} : ∀ {l : List (List AV)} {b o : Nat}, RelRows g w sz l b o → RelCells g w l.flatten b o := by
  intro l b o h
  obtain ⟨vs, h1, _, h3⟩ := RelRows.values sz l b o h
  exact RelCells.of _ vs b o h1 h3

/-- A slice as a pointer to an array of n elements. -/
noncomputable def aarrP (n sz : Nat) (x : AV) (k : AV → Ans) : Ans :=
  match x with
  | .ns _ s l => match Nat.beq s sz && Nat.ble n l.length with
    | true => k (.eptr (flC l n))
    | false => none
  | .sl s _ l => match Nat.beq s sz && Nat.ble n l.length with
    | true => k (.eptr (flC l n))
    | false => none
  | .ms j s o m _ => match Nat.beq s sz && Nat.ble n m with
    | true => k (.ptr j o)
    | false => none
  | .vs j v s m => match Nat.beq s sz && Nat.ble n m with
    | true => k (.vp j v 0)
    | false => none
  | _ => none
noncomputable def opArrPtr (dst : Option Tmp) (T : TypeId) (x : Operand) (n e sz : Nat) (hT : P.underlying T = some (.array n e)) (hn : n ≠ 0) (ty : TypeId) (pos : String) (after : Array Edge) : PSim P :=
  PSim.quiet (mkOp dst (.sliceToArrayPointer T x) ty pos after) rfl [x] (fun ev k => aarrP n sz (ev x) k) (fun ev ev' k h => by simp only [h x (by simp)]) fun ev k fin h g w a st he hs => by
    have hv := he x (by simp)
    have key : ∀ p m cap, a.eval x = .slice p m cap → n ≤ m → (execOp a.eval (mkOp dst (.sliceToArrayPointer T x) ty pos after)).run P w = .ok (.value (.pointer p)) w := by
      intro p m cap h1 h2
      simp [execOp, mkOp, Instr.arrayAt, run_underlying hT, h1, Nat.not_lt.mpr h2]
    have frozen : ∀ {b o sp cap} {l : List (List AV)}, a.eval x = .slice (some ⟨b, o, sp⟩) l.length cap → n ≤ l.length → (sp = none ∨ l = []) → RelRows g w sz l b o → Rel g w (.eptr (flC l n)) (.pointer (some ⟨b, o, sp⟩)) := by
      intro b o sp cap l h1 h2 h3 h4
      have hsp : sp = none := by
        rcases h3 with h3 | h3
        · exact h3
        · subst h3; simp at h2; omega
      subst hsp
      rw [flC, opq_eq]
      exact ⟨b, o, rfl, (RelRows.take sz n l b o h4).cells⟩
    unfold aarrP at h
    split at h
    · rename_i z s l hb
      split at h
      · rename_i hc
        rw [Bool.and_eq_true] at hc
        obtain rfl := Nat.eq_of_beq_eq_true hc.1
        have hle := Nat.le_of_ble_eq_true hc.2
        rw [hb] at hv
        rcases hv with ⟨_, r2, _⟩ | ⟨_, b, o, sp, cap, r1, r2, r3, r4⟩
        · subst r2; simp at hle; omega
        · exact ⟨_, _, h, key _ _ _ r1 hle, frozen r1 hle r3 r4⟩
      · cases h
    · rename_i s f l hb
      split at h
      · rename_i hc
        rw [Bool.and_eq_true] at hc
        obtain rfl := Nat.eq_of_beq_eq_true hc.1
        have hle := Nat.le_of_ble_eq_true hc.2
        rw [hb] at hv
        obtain ⟨b, o, sp, cap, r1, r2, _, r3, r4⟩ := hv
        exact ⟨_, _, h, key _ _ _ r1 hle, frozen r1 hle r3 r4⟩
      · cases h
    · rename_i j s o m cap hb
      split at h
      · rename_i hc
        rw [Bool.and_eq_true] at hc
        have hle := Nat.le_of_ble_eq_true hc.2
        rw [hb] at hv
        obtain ⟨b, r1, r2, _⟩ := hv
        exact ⟨_, _, h, key _ _ _ r2 hle, b, r1, rfl⟩
      · cases h
    · rename_i j v s m hb
      split at h
      · rename_i hc
        rw [Bool.and_eq_true] at hc
        have hle := Nat.le_of_ble_eq_true hc.2
        rw [hb] at hv
        obtain ⟨b, c, r1, r2, r3, r4, r5⟩ := hv
        exact ⟨_, _, h, key _ _ _ r1 hle, b, rfl, r3, r4, fun e => by
          obtain ⟨q1, C, E, fz, q2, _⟩ := r5 e
          exact ⟨q1, lt_of_block q2⟩⟩
      · cases h
    · cases h
theorem aarrP_nat (n sz : Nat) (x : AV) (k : AV → Ans) : aarrP n sz x k = thenA (aarrP n sz x retA) k := by
  unfold aarrP
  split
  all_goals first | (split <;> rfl) | rfl
theorem opArrPtr_nat {dst : Option Tmp} {T : TypeId} {x : Operand} {n e sz : Nat} {hT : P.underlying T = some (.array n e)} {hn : n ≠ 0} {ty : TypeId} {pos : String} {after : Array Edge} : (opArrPtr (P := P) dst T x n e sz hT hn ty pos after).Nat := fun ev k => aarrP_nat _ _ _ _

/-- A whole array is loaded. -/
noncomputable def aloadA (sz : Nat) (p : AV) (st : St) (k : AV → Ans) : Ans :=
  match p with
  | .eptr cs => match inC cs 0 sz with
    | true => k (.agg (subC cs 0 sz))
    | false => none
  | .ptr j o => match st.objs[j]? with
    | some (.cells cs) => match inC cs o sz with
      | true => k (.agg (subC cs o sz))
      | false => none
    | _ => none
  | .vp j v o => match st.objs[j]? with
    | some (.vec v' cs) => match Nat.beq v v' && inC cs o sz with
      | true => k (.agg (subC cs o sz))
      | false => none
    | _ => none
  | _ => none
theorem apart_sub {cs : List AV} {o sz : Nat} {k : AV → Ans} (h : inC cs o sz = true) : V.apart true sz (cs.drop o) k = k (.agg (subC cs o sz)) := by
  rw [inC_iff] at h
  unfold V.apart
  simp only [takeN_some sz (cs.drop o) (by simp; omega), subC, opq_eq]
noncomputable def opLoadA (dst : Option Tmp) (T : TypeId) (x : Operand) (d : TypeDesc) (hd : P.underlying T = some d) (ha : isAggD d = true) (sz : Nat) (hz : (P.info? T).map (·.size) = some sz) (ty : TypeId) (pos : String) (after : Array Edge) : QSim P :=
  (opLoad dst T x d hd sz hz ty pos after).by' (fun ev st k => aloadA sz (ev x) st k) (fun ev ev' st k h => by simp only [h x (by simp [opLoad, QSim.quiet])]) fun ev st k fin h => by
    show aload (isAggD d) sz (ev x) st k = some fin
    rw [ha]
    generalize ev x = p at h ⊢
    unfold aloadA at h
    unfold aload
    split at h
    · split at h
      · rename_i cs hc
        have := apart_sub (k := k) hc
        rw [List.drop_zero] at this
        simp only [this]; exact h
      · cases h
    · split at h
      · rename_i hcs
        split at h
        · rename_i hc
          simp only [hcs, apart_sub (k := k) hc]; exact h
        · cases h
      · cases h
    · split at h
      · rename_i hcs
        split at h
        · rename_i hc
          rw [Bool.and_eq_true] at hc
          simp only [hcs, hc.1, apart_sub (k := k) hc.2]; exact h
        · cases h
      · cases h
    · cases h
theorem aloadA_nat (sz : Nat) (p : AV) (st : St) (k : AV → Ans) : aloadA sz p st k = thenA (aloadA sz p st retA) k := by
  unfold aloadA
  split
  · split <;> rfl
  · split
    · split <;> rfl
    · rfl
  · split
    · split <;> rfl
    · rfl
  · rfl
theorem opLoadA_nat {dst : Option Tmp} {T : TypeId} {x : Operand} {d : TypeDesc} {hd : P.underlying T = some d} {ha : isAggD d = true} {sz : Nat} {hz : (P.info? T).map (·.size) = some sz} {ty : TypeId} {pos : String} {after : Array Edge} : (opLoadA (P := P) dst T x d hd ha sz hz ty pos after).Nat := fun ev st k => aloadA_nat _ _ _ _

/-- An array's variable. -/
noncomputable def zAr (n : Nat) (x : AV) : List AV := opq (List.replicate n x)
noncomputable def opAllocZ (n : Nat) (x : AV) (dst : Option Tmp) (T : TypeId) (z : Value) (hz : (P.info? T).bind (·.zero) = some z) (hx : cellsA (ofLit z) = some (List.replicate n x)) (ty : TypeId) (pos : String) (after : Array Edge) : MSim P :=
  (opAlloc dst T z hz ty pos after).by' (fun ev st k => k (.ptr st.objs.length 0) ⟨st.objs ++ [.cells (zAr n x)], st.tk⟩) (fun _ _ _ _ _ => rfl) fun ev st k fin h => by
    show (match cellsA (ofLit z) with | some cs => k (.ptr st.objs.length 0) ⟨st.objs ++ [.cells cs], st.tk⟩ | none => none) = some fin
    rw [hx]
    rw [zAr, opq_eq] at h
    exact h

/-! ### Structs out of parts that aren't looked at -/
def endB (xs r : List AV) : List AV :=
  match r with
  | [] => xs
  | r => xs ++ r
theorem endB_eq (xs r : List AV) : endB xs r = xs ++ r := by
  unfold endB
  split
  · simp
  · rfl
def cutIn : List AV → Nat → Nat → List AV → List AV
  | cs, 0, sz, xs => endB xs (cs.drop sz)
  | c :: cs, off + 1, sz, xs => c :: cutIn cs off sz xs
  | [], _ + 1, _, xs => xs
theorem cutIn_eq : ∀ (cs : List AV) (off : Nat) (xs : List AV), off + xs.length ≤ cs.length → cutIn cs off xs.length xs = setAt cs off xs
  | [], 0, [], _ => rfl
  | [], 0, x :: xs, h => by simp at h
  | [], off + 1, xs, h => by simp at h
  | c :: cs, 0, [], _ => by simp [cutIn, endB, setAt]
  | c :: cs, 0, x :: xs, h => by
    have ih := cutIn_eq cs 0 xs (by simpa using h)
    rw [show cutIn cs 0 xs.length xs = endB xs (cs.drop xs.length) by cases cs <;> rfl, endB_eq] at ih
    rw [show cutIn (c :: cs) 0 (x :: xs).length (x :: xs) = endB (x :: xs) ((c :: cs).drop (x :: xs).length) from rfl, endB_eq]
    simp only [List.length_cons, List.drop_succ_cons, List.cons_append, setAt, ih]
  | c :: cs, off + 1, xs, h => by
    have ih := cutIn_eq cs off xs (by simp at h ⊢; omega)
    rw [show cutIn (c :: cs) (off + 1) xs.length xs = c :: cutIn cs off xs.length xs from rfl, ih]
    cases xs with
    | nil => cases cs <;> rfl
    | cons x xs => rfl
def cutK : List AV → Nat → Nat → List AV → (List AV → Ans) → Ans
  | cs, 0, sz, xs, k => match cs.drop sz with
    | [] => k xs
    | c :: r => k (xs ++ c :: r)
  | c :: cs, off + 1, sz, xs, k => cutK cs off sz xs fun l => k (c :: l)
  | [], _ + 1, _, xs, k => k xs
theorem cutK_eq : ∀ (cs : List AV) (off sz : Nat) (xs : List AV) (k : List AV → Ans), cutK cs off sz xs k = k (cutIn cs off sz xs)
  | [], 0, sz, xs, k => by simp [cutK, cutIn, endB]
  | c :: cs, 0, sz, xs, k => by
    rw [show cutIn (c :: cs) 0 sz xs = endB xs ((c :: cs).drop sz) from rfl, show cutK (c :: cs) 0 sz xs k = (match (c :: cs).drop sz with | [] => k xs | c :: r => k (xs ++ c :: r)) from rfl]
    unfold endB
    split
    · rename_i h; rw [h]
    · rename_i h; rw [h]
  | c :: cs, off + 1, sz, xs, k => by
    rw [show cutK (c :: cs) (off + 1) sz xs k = cutK cs off sz xs (fun l => k (c :: l)) from rfl, cutK_eq cs off sz xs]; rfl
  | [], _ + 1, _, xs, k => rfl
/-- One cell, or several. -/
def partB (x : AV) (sz : Nat) : Option (Bool × List AV) :=
  match x with
  | .agg cs => some (true, cs)
  | .tup _ => none
  | .dead => none
  | x => some (false, [x])
def apartsC : List (Nat × Nat × AV) → List AV → (List AV → Ans) → Ans
  | [], cs, k => k cs
  | (off, sz, x) :: r, cs, k => match cellsA x with
    | some xs => match Nat.beq xs.length sz && Nat.ble (off + sz) cs.length with
      | true => cutK cs off sz xs fun cs' => apartsC r cs' k
      | false => none
    | none => none
theorem apartsC_aparts : ∀ (l : List (Nat × Nat × AV)) (cs : List AV) (k : List AV → Ans) (fin : Fin × St), apartsC l cs k = some fin → aparts l cs k = some fin
  | [], cs, k, fin, h => h
  | (off, sz, x) :: r, cs, k, fin, h => by
    simp only [apartsC] at h
    simp only [aparts]
    split at h
    · rename_i xs hxs
      split at h
      · rename_i hc
        rw [Bool.and_eq_true] at hc
        have h1 := Nat.eq_of_beq_eq_true hc.1
        have h2 := Nat.le_of_ble_eq_true hc.2
        subst h1
        rw [cutK_eq, cutIn_eq _ _ _ h2] at h
        simp only [hxs]
        rw [if_pos ⟨trivial, h2⟩]
        exact apartsC_aparts r _ k fin h
      · cases h
    · cases h
def abuildC (Z : Array Value) (parts : List (Nat × Nat × AV)) (k : AV → Ans) : Ans := apartsC parts (Z.toList.map ofLitS) fun cs => k (.agg cs)
def opBuildC (dst : Option Tmp) (T : TypeId) (Z : Array Value) (parts : List (Nat × Nat × Nat × Operand)) (hz : (P.info? T).bind (·.zero) = some (.agg Z)) (hb : buildB P T Z parts = true) (ty : TypeId) (pos : String) (after : Array Edge) : PSim P :=
  (opBuild dst T Z parts hz hb ty pos after).by' (fun ev k => abuildC Z (parts.map fun p => (p.2.1, p.2.2.1, ev p.2.2.2)) k) (fun ev ev' k h => by rw [parts_ev h]) fun ev k fin h => by
    show aparts _ _ _ = _
    exact apartsC_aparts _ _ _ _ h

/-- A literal of one element. -/
def abuild1 (sz : Nat) (x : AV) (k : AV → Ans) : Ans :=
  match cellsA x with
  | some xs => match Nat.beq xs.length sz with
    | true => k (.sl sz true [xs])
    | false => none
  | none => none
def opBuildSlice1 (dst : Option Tmp) (T : TypeId) (x : Operand) (e sz bytes : Nat) (z : Value) (hT : ElemOf P T e sz bytes z) (h1 : z.cells.toList.all Value.oneCell' = true) (hl : 1 * sz ≤ 16777216) (ty : TypeId) (pos : String) (after : Array Edge) : PSim P :=
  (opBuildSlice dst T 1 [(0, x)] e sz bytes z hT h1 hl ty pos after).by' (fun ev k => abuild1 sz (frz (ev x)) k) (fun ev ev' k h => by rw [h x (by simp [opBuildSlice, PSim.makes])]) fun ev k fin h => by
    show abuildSl sz 1 [(0 * sz, sz, frz (ev x))] k = some fin
    unfold abuild1 at h
    split at h
    · rename_i xs hxs
      split at h
      · rename_i hc
        have hc := Nat.eq_of_beq_eq_true hc
        subst hc
        have e1 : setAt (List.replicate (1 * xs.length) .dead) (0 * xs.length) xs = xs := by
          rw [← cutIn_eq _ _ _ (by simp), Nat.zero_mul]
          rw [show cutIn (List.replicate (1 * xs.length) .dead) 0 xs.length xs = endB xs ((List.replicate (1 * xs.length) AV.dead).drop xs.length) by cases (List.replicate (1 * xs.length) AV.dead) <;> rfl, endB_eq]
          simp
        have e2 : rowsOf xs.length 1 xs = some [xs] := by simp [rowsOf, takeN_some xs.length xs (Nat.le_refl _)]
        simp only [abuildSl, aparts, hxs]
        rw [if_pos (by simp), e1]
        simp only [e2]
        exact h
      · cases h
    · cases h

theorem abuild1_nat (sz : Nat) (x : AV) (k : AV → Ans) : abuild1 sz x k = thenA (abuild1 sz x retA) k := by
  unfold abuild1
  split
  · split <;> rfl
  · rfl
theorem opBuildSlice1_nat {dst : Option Tmp} {T : TypeId} {x : Operand} {e sz bytes : Nat} {z : Value} {hT : ElemOf P T e sz bytes z} {h1 : z.cells.toList.all Value.oneCell' = true} {hl : 1 * sz ≤ 16777216} {ty : TypeId} {pos : String} {after : Array Edge} : (opBuildSlice1 (P := P) dst T x e sz bytes z hT h1 hl ty pos after).Nat := fun ev k => abuild1_nat _ _ _

/-! ### Pieces of arrays -/
noncomputable def aslB (n sz : Nat) (x : AV) (lo hi mx : Option AV) (st : St) (k : AV → Ans) : Ans :=
  match x with
  | .ptr b o => abounds n lo hi mx fun i j m => if i < m.getD n then k (.ms b sz (o + i * sz) (j - i) (m.getD n - i)) else k (.sl sz true [])
  | .eptr cs => abounds n lo hi mx fun i j m => match inC cs (i * sz) (mulN (j - i) sz) with
    | true => k (.ns false sz (rowsC sz (j - i) cs (i * sz)))
    | false => none
  | .vp q v o => match Nat.beq o 0 with
    | true => match st.objs[q]? with
      | some (.vec v' cs) => match Nat.beq v v' && inC cs 0 (mulN n sz) with
        | true => abounds n lo hi mx fun i j m => match Nat.beq i 0 && m.isNone with
          | true => match okAll sz with
            | true => k (.vs q v sz j)
            | false => none
          | false => none
        | false => none
      | _ => none
    | false => none
  | _ => none
noncomputable def opSliceB (dst : Option Tmp) (T : TypeId) (x : Operand) (lo hi mx : Option Operand) (n e sz : Nat) (hT : P.underlying T = some (.array n e)) (hn : n ≠ 0) (hz : (P.info? e).map (·.size) = some sz) (ty : TypeId) (pos : String) (after : Array Edge) : QSim P :=
  QSim.quiet (mkOp dst (.slice T x lo hi mx) ty pos after) rfl (sliceOps x lo hi mx) (fun ev st k => aslB n sz (ev x) (lo.map ev) (hi.map ev) (mx.map ev) st k)
    (fun ev ev' st k h => by simp only [h x sliceOps_x, map_evO h (o := lo) sliceOps_lo, map_evO h (o := hi) sliceOps_hi, map_evO h (o := mx) sliceOps_mx]) fun ev st k fin h g w a he hs => by
    have hv := he x sliceOps_x
    have key : ∀ b o i j m, a.eval x = .pointer (some ⟨b, o, none⟩) → (Instr.sliceBounds false n n (lo.map a.eval) (hi.map a.eval) (mx.map a.eval)).run P w = .ok (i, j, m) w →
        (execOp a.eval (mkOp dst (.slice T x lo hi mx) ty pos after)).run P w = .ok (.value (.slice (some (if m = i then ⟨b, o, none⟩ else ⟨b, o + i * sz, none⟩)) (j - i) (m - i))) w := by
      intro b o i j m h1 h2
      simp [execOp, mkOp, Instr.sliceAt, run_underlying hT, h1, Instr.sureAddr, h2, run_sizeOf' hz, add_none]
    unfold aslB at h
    split at h
    · rename_i b0 o hb
      rw [hb] at hv
      obtain ⟨b, hg, hv⟩ := hv
      obtain ⟨i, j, m, h1, h2, h3, h4, h5⟩ := abounds_run (P := P) he sliceOps_lo sliceOps_hi sliceOps_mx h
      have hr := key b o i j _ hv (h5 false n (Nat.le_refl _))
      split at h1
      · rename_i hi
        have hne : ¬ m.getD n = i := by omega
        rw [if_neg hne] at hr
        exact ⟨_, _, h1, hr, b, hg, rfl, by omega⟩
      · rename_i hi
        have he : m.getD n = i := by omega
        rw [if_pos he] at hr
        refine ⟨_, _, h1, hr, b, o, none, m.getD n - i, ?_, by simp, fun _ => by simp; omega, .inl rfl, trivial⟩
        rw [show j - i = 0 by omega]; rfl
    · rename_i cs hb
      rw [hb] at hv
      obtain ⟨b, o, hv, hc⟩ := hv
      obtain ⟨i, j, m, h1, h2, h3, h4, h5⟩ := abounds_run (P := P) he sliceOps_lo sliceOps_hi sliceOps_mx h
      have hr := key b o i j _ hv (h5 false n (Nat.le_refl _))
      split at h1
      · rename_i hin
        have hrows := rowsC_some hin
        obtain ⟨e1, e2⟩ := rowsOf_rel sz (j - i) _ b (o + i * sz) _ hrows (RelCells.drop (i * sz) cs b o hc)
        refine ⟨_, _, h1, hr, .inr ⟨rfl, ?_⟩⟩
        by_cases hm : m.getD n = i
        · rw [if_pos hm]
          have h0 : rowsC sz (j - i) cs (i * sz) = [] := List.eq_nil_of_length_eq_zero (by rw [e1]; omega)
          rw [h0]
          exact ⟨b, o, none, m.getD n - i, by rw [show j - i = 0 by omega]; rfl, by simp, .inl rfl, trivial⟩
        · rw [if_neg hm]
          exact ⟨b, o + i * sz, none, _, by rw [e1], by rw [e1]; omega, .inl rfl, e2⟩
      · cases h1
    · rename_i q v o hb
      split at h
      · rename_i ho
        obtain rfl := Nat.eq_of_beq_eq_true ho
        rw [hb] at hv
        split at h
        · rename_i v' cs hcs
          split at h
          · rename_i hc
            rw [Bool.and_eq_true, inC_iff, mulN, opq_eq, Nat.zero_add] at hc
            obtain rfl := Nat.eq_of_beq_eq_true hc.1
            obtain ⟨b, hv1, hbl, hkb, C, E, hC, hr0, hrc⟩ := vp_of hs hv hcs
            obtain ⟨_, _, hj, hve, _⟩ := hv
            obtain ⟨i, j, m, h1, h2, h3, h4, h5⟩ := abounds_run (P := P) he sliceOps_lo sliceOps_hi sliceOps_mx h
            have hr := key b 0 i j _ hv1 (h5 false n (Nat.le_refl _))
            split at h1
            · rename_i hi
              split at h1
              case h_2 => cases h1
              rename_i hoka
              simp only [Bool.and_eq_true, Option.isNone_iff_eq_none] at hi
              obtain ⟨hi, rfl⟩ := hi
              obtain rfl := Nat.eq_of_beq_eq_true hi
              simp only [Option.getD_none] at h3 h4 hr
              have hne : ¬ n = 0 := hn
              rw [if_neg hne, Nat.zero_mul] at hr
              have hl := RelAll.length _ _ hr0
              rw [List.length_take] at hl
              have hcs2 : C.toList.length = C.size := Array.length_toList
              exact ⟨_, _, h1, hr, b, n, rfl, by omega, hj, hve, fun _ => ⟨hkb, C, E, (0, 0), hC, okAll_all hoka E, by omega⟩⟩
            · cases h1
          · cases h
        · cases h
      · cases h
    · cases h

theorem bnd_nat {x : Option AV} {y d : Nat} {k k' : Nat → Ans} {K : AV → Ans} (h : ∀ n, k n = thenA (k' n) K) : bnd x y d k = thenA (bnd x y d k') K := by
  unfold bnd
  split
  · exact h _
  · split
    · split
      · exact h _
      · rfl
    · rfl
theorem abounds_nat {n : Nat} {lo hi mx : Option AV} {k k' : Nat → Nat → Option Nat → Ans} {K : AV → Ans} (h : ∀ i j m, k i j m = thenA (k' i j m) K) : abounds n lo hi mx k = thenA (abounds n lo hi mx k') K := by
  unfold abounds
  split
  · exact bnd_nat fun _ => bnd_nat fun _ => h _ _ _
  · split
    · rfl
    · exact bnd_nat fun _ => bnd_nat fun _ => bnd_nat fun _ => h _ _ _
theorem opSliceB_nat {dst : Option Tmp} {T : TypeId} {x : Operand} {lo hi mx : Option Operand} {n e sz : Nat} {hT : P.underlying T = some (.array n e)} {hn : n ≠ 0} {hz : (P.info? e).map (·.size) = some sz} {ty : TypeId} {pos : String} {after : Array Edge} : (opSliceB (P := P) dst T x lo hi mx n e sz hT hn hz ty pos after).Nat := by
  intro ev st k
  show aslB n sz (ev x) (lo.map ev) (hi.map ev) (mx.map ev) st k = thenA (aslB n sz (ev x) (lo.map ev) (hi.map ev) (mx.map ev) st retA) k
  unfold aslB
  split
  · exact abounds_nat fun i j m => by split <;> rfl
  · exact abounds_nat fun i j m => by split <;> rfl
  · split
    · split
      · split
        · exact abounds_nat fun i j m => by (repeat' split) <;> rfl
        · rfl
      · rfl
    · rfl
  · rfl
theorem opSlice_nat {dst : Option Tmp} {T : TypeId} {x : Operand} {lo hi mx : Option Operand} {e sz : Nat} {hT : P.underlying T = some (.slice e)} {hz : (P.info? e).map (·.size) = some sz} {ty : TypeId} {pos : String} {after : Array Edge} : (opSlice (P := P) dst T x lo hi mx e sz hT hz ty pos after).Nat := by
  intro ev k
  show asl sz (ev x) (lo.map ev) (hi.map ev) (mx.map ev) k = thenA (asl sz (ev x) (lo.map ev) (hi.map ev) (mx.map ev) retA) k
  unfold asl
  split
  · exact abounds_nat fun i j m => rfl
  · split
    · exact abounds_nat fun i j m => rfl
    · rfl
  · split
    · exact abounds_nat fun i j m => rfl
    · rfl
  · split
    · exact abounds_nat fun i j m => by split <;> rfl
    · rfl
  · split
    · exact abounds_nat fun i j m => rfl
    · rfl
  · split
    · exact abounds_nat fun i j m => by split <;> rfl
    · rfl
  · rfl

/-- make of an empty slice that may grow, in a register. -/
theorem vec_new {g : Gh} {st : St} {w w1 : World} {C : Array Value} {E : TypeId} (hs : StRel g st w) (hp : Push w w1 (.cells C E)) {cs : List AV} (hr : RelAll g w cs (C.toList.take cs.length)) (h1 : ∀ u ∈ C.toList.take cs.length, u.oneCell' = true) :
    ∃ g', StRel g' ⟨st.objs ++ [.vec 0 cs], st.tk⟩ w1 ∧ Ev g w g' w1 ∧ (∀ c sz n, n ≤ c → c * sz ≤ C.size → okE sz E = true → Rel g' w1 (.vs st.objs.length 0 sz n) (.slice (some ⟨w.heap.size, 0, none⟩) n c)) ∧ ∀ off, Rel g' w1 (.vp st.objs.length 0 off) (.pointer (some ⟨w.heap.size, off, none⟩)) := by
  refine vec_moved (gos := g.objs ++ [w.heap.size]) hs hp (fun o ho => ?_) ?_ (fun k b hk => ?_) (fun k b hk => ?_) (by simp [hs.len]) (by simp) (fun k hk => ?_) hr h1
  · rw [List.getElem?_eq_none (Nat.le_refl _)] at ho; cases ho
  · rw [List.getElem?_append_right (by rw [hs.len]; exact Nat.le_refl _)]; simp [hs.len]
  · rw [List.getElem?_append_left (getElem?_lt hk)]; exact hk
  · rcases Nat.lt_or_ge k g.objs.length with hlt | hge
    · rw [List.getElem?_append_left hlt] at hk; exact .inl hk
    · have hlt := getElem?_lt hk
      rw [List.length_append, List.length_singleton] at hlt
      have : k = g.objs.length := by omega
      subst this
      rw [List.getElem?_append_right (Nat.le_refl _)] at hk
      simp at hk
      exact .inr ⟨hs.len, hk.symm⟩
  · rcases Nat.lt_or_ge k st.objs.length with hlt | hge
    · rw [List.getElem?_append_left hlt]
    · rw [List.getElem?_eq_none (by simp; omega), List.getElem?_eq_none hge]
def amakeG (sz bytes : Nat) (r : Option (Option Nat)) (x c : AV) (st : St) (k : AV → St → Ans) : Ans :=
  match x with
  | .int _ n => match c with
    | .int _ m => match decide (n = 0) && mkOkC bytes m with
      | true => match r with
        | none => k (.vs st.objs.length 0 sz 0) ⟨st.objs ++ [.vec 0 []], st.tk⟩
        | some r => match r with
          | some j => match verO st.objs[j]? with
            | some v => k (.vs j (v + 1) sz 0) ⟨st.objs.set j (.vec (v + 1) []), st.tk⟩
            | none => none
          | none => none
      | false => none
    | _ => none
  | _ => none
where mkOkC (bytes : Nat) (m : Int) : Bool := decide (0 ≤ m) && decide ((bytes : Int) * m ≤ 281474976710656)
def opMakeG (nw : Bool) (b : Option Operand) (d : Nat) (dst : Option Tmp) (T : TypeId) (x c : Operand) (e sz bytes : Nat) (z : Value) (hT : ElemOf P T e sz bytes z) (ty : TypeId) (pos : String) (after : Array Edge) (hok : okE sz e = true := by rfl) : MSim P :=
  MSim.makes (mkOp dst (.makeSlice T x c) ty pos after) rfl ([x, c] ++ rgOps b) (fun ev st k => amakeG sz bytes (bif nw then none else some (rgN (b.map ev) d)) (ev x) (ev c) st k) (fun ev ev' st k h => by rw [rg_ev h, h x (by simp), h c (by simp)]) fun ev st k fin h g w a he hs => by
    have hx := he x (by simp)
    have hcv := he c (by simp)
    unfold amakeG at h
    split at h
    · rename_i kd n hb
      split at h
      · rename_i kd' m hb'
        split at h
        · rename_i hc
          simp only [amakeG.mkOkC, Bool.and_eq_true, decide_eq_true_eq] at hc
          obtain ⟨rfl, h0, h1⟩ := hc
          rw [hb] at hx
          rw [hb'] at hcv
          have hx : a.eval x = .int kd 0 := hx
          have hcv : a.eval c = .int kd' m := hcv
          obtain ⟨i, q1, q2, q3, q4⟩ := hT.info
          have hpos := hT.pos
          have h63 : m ≤ 9223372036854775807 := by
            have : (1 : Int) * m ≤ (bytes : Int) * m := Int.mul_le_mul_of_nonneg_right (by omega) h0
            omega
          have hrun := run_make (P := P) w T e i z hT.1 q1 q4 kd kd' 0 m (Int.le_refl _) h0 (by rw [q3]; exact h1) h63
          have hrun' : (execOp a.eval (mkOp dst (.makeSlice T x c) ty pos after)).run P w = .ok (.value (.slice (some ⟨w.heap.size, 0, none⟩) 0 m.toNat)) (w.alloc (.cells (madeCells z.cells (m.toNat * i.size)) e)) := by
            simp only [execOp, mkOp, hx, hcv, Sem.run_bind, hrun, Result.andThen_ok]; rfl
          have hsz : m.toNat * sz ≤ (madeCells z.cells (m.toNat * i.size)).size := by rw [q2]; simp [madeCells]
          split at h
          · obtain ⟨g', k1, k2, k3, _⟩ := vec_new hs (Push.alloc w (.cells (madeCells z.cells (m.toNat * i.size)) e)) (cs := []) rfl (by simp)
            exact ⟨_, _, _, g', _, h, hrun', k3 m.toNat sz 0 (Nat.zero_le _) hsz hok, k1, k2⟩
          · split at h
            · rename_i j
              split at h
              · rename_i v hvv
                obtain ⟨g', k1, k2, k3, _⟩ := reg_moved hs (Push.alloc w (.cells (madeCells z.cells (m.toNat * i.size)) e)) hvv (cs := []) rfl (by simp)
                exact ⟨_, _, _, g', _, h, hrun', k3 m.toNat sz 0 (Nat.zero_le _) hsz hok, k1, k2⟩
              · cases h
            · cases h
        · cases h
      · cases h
    · cases h
theorem amakeG_nat (sz bytes : Nat) (r : Option (Option Nat)) (x c : AV) (st : St) (k : AV → St → Ans) : amakeG sz bytes r x c st k = thenM (amakeG sz bytes r x c st retM) k := by
  unfold amakeG
  split
  · split
    · split
      · split
        · rfl
        · split
          · split <;> rfl
          · rfl
      · rfl
    · rfl
  · rfl
theorem opMakeG_nat {nw : Bool} {b : Option Operand} {d : Nat} {dst : Option Tmp} {T : TypeId} {x c : Operand} {e sz bytes : Nat} {z : Value} {hT : ElemOf P T e sz bytes z} {ty : TypeId} {pos : String} {after : Array Edge} {hok : okE sz e = true} : (opMakeG (P := P) nw b d dst T x c e sz bytes z hT ty pos after hok).NatM := fun ev st k => amakeG_nat _ _ _ _ _ _ _
end
end Go.V

/- Data kept in objects that lie together: told by the objects, wherever these lie. -/
set_option linter.unusedVariables false
set_option linter.unusedSimpArgs false
namespace Go.V
section
variable {P : Program}

mutual
theorem ren_ren (σ ρ τ : Nat → Nat) (h : ∀ k, σ (ρ k) = τ k) : ∀ a : AV, ren σ (ren ρ a) = ren τ a
  | .bool _ => rfl
  | .int _ _ => rfl
  | .str _ => rfl
  | .nilptr => rfl
  | .nilsl => rfl
  | .nilmap => rfl
  | .nilfn => rfl
  | .nilif => rfl
  | .ptr k off => by simp only [ren, h]
  | .tp k E m' => by simp only [ren, h]
  | .eptr cs => rfl
  | .sl _ _ _ => rfl
  | .lg _ _ _ => rfl
  | .ms k sz off n cap => by simp only [ren, h]
  | .mp k => by simp only [ren, h]
  | .fn f a c => by simp only [ren, renL_renL σ ρ τ h a, renL_renL σ ρ τ h c]
  | .ifc t v => by simp only [ren, ren_ren σ ρ τ h v]
  | .agg cs => by simp only [ren, renL_renL σ ρ τ h cs]
  | .tup cs => by simp only [ren, renL_renL σ ρ τ h cs]
  | .dead => rfl
  | .ns _ _ _ => rfl
  | .vs k v sz n => by simp only [ren, h]
  | .vp k v off => by simp only [ren, h]
theorem renL_renL (σ ρ τ : Nat → Nat) (h : ∀ k, σ (ρ k) = τ k) : ∀ l : List AV, renL σ (renL ρ l) = renL τ l
  | [] => rfl
  | x :: l => by simp only [renL, ren_ren σ ρ τ h x, renL_renL σ ρ τ h l]
end
mutual
theorem ren_id : ∀ a : AV, ren (fun k => k) a = a
  | .bool _ => rfl
  | .int _ _ => rfl
  | .str _ => rfl
  | .nilptr => rfl
  | .nilsl => rfl
  | .nilmap => rfl
  | .nilfn => rfl
  | .nilif => rfl
  | .ptr k off => rfl
  | .tp k E m' => rfl
  | .eptr cs => rfl
  | .sl _ _ _ => rfl
  | .lg _ _ _ => rfl
  | .ms k sz off n cap => rfl
  | .mp k => rfl
  | .fn f a c => by simp only [ren, renL_id a, renL_id c]
  | .ifc t v => by simp only [ren, ren_id v]
  | .agg cs => by simp only [ren, renL_id cs]
  | .tup cs => by simp only [ren, renL_id cs]
  | .dead => rfl
  | .ns _ _ _ => rfl
  | .vs k v sz n => rfl
  | .vp k v off => rfl
theorem renL_id : ∀ l : List AV, renL (fun k => k) l = l
  | [] => rfl
  | x :: l => by simp only [renL, ren_id x, renL_id l]
end
theorem renO_renO (σ ρ τ : Nat → Nat) (h : ∀ k, σ (ρ k) = τ k) (o : Ob) : renO σ (renO ρ o) = renO τ o := by
  cases o with
  | cells cs => simp only [renO, renL_renL σ ρ τ h]
  | map es => simp only [renO, List.map_map, Function.comp_def, ren_ren σ ρ τ h]
  | vec v cs => simp only [renO, renL_renL σ ρ τ h]
  | gone => rfl
  | nov v => rfl
theorem renO_id (o : Ob) : renO (fun k => k) o = o := by
  cases o with
  | cells cs => simp only [renO, renL_id]
  | map es => simp only [renO, ren_id]; simp
  | vec v cs => simp only [renO, renL_id]
  | gone => rfl
  | nov v => rfl
mutual
theorem ren_near {n : Nat} {ρ τ : Nat → Nat} (h : ∀ k, k < n → ρ k = τ k) : ∀ a : AV, Near n a → ren ρ a = ren τ a
  | .bool _, _ => rfl
  | .int _ _, _ => rfl
  | .str _, _ => rfl
  | .nilptr, _ => rfl
  | .nilsl, _ => rfl
  | .nilmap, _ => rfl
  | .nilfn, _ => rfl
  | .nilif, _ => rfl
  | .ptr k off, s => by simp only [ren, h k s]
  | .tp k E m', s => by simp only [ren, h k s]
  | .eptr cs, _ => rfl
  | .sl _ _ _, _ => rfl
  | .lg _ _ _, _ => rfl
  | .ms k sz off n cap, s => by simp only [ren, h k s]
  | .mp k, s => by simp only [ren, h k s]
  | .fn f a c, s => by simp only [ren, renL_near h a s.1, renL_near h c s.2]
  | .ifc t v, s => by simp only [ren, ren_near h v s]
  | .agg cs, s => by simp only [ren, renL_near h cs s]
  | .tup cs, s => by simp only [ren, renL_near h cs s]
  | .dead, _ => rfl
  | .ns _ _ _, _ => rfl
  | .vs k v sz n, s => by simp only [ren, h k s]
  | .vp k v off, s => by simp only [ren, h k s]
theorem renL_near {n : Nat} {ρ τ : Nat → Nat} (h : ∀ k, k < n → ρ k = τ k) : ∀ l : List AV, NearL n l → renL ρ l = renL τ l
  | [], _ => rfl
  | x :: l, s => by simp only [renL, ren_near h x s.1, renL_near h l s.2]
end
theorem renO_near {n : Nat} {ρ τ : Nat → Nat} (h : ∀ k, k < n → ρ k = τ k) (o : Ob) (s : NearO n o) : renO ρ o = renO τ o := by
  cases o with
  | cells cs => simp only [renO, renL_near h cs s]
  | map es =>
    simp only [renO]
    congr 1
    have : ∀ es : List (AV × AV), NearL n (es.map (·.1)) → NearL n (es.map (·.2)) → es.map (fun e => (ren ρ e.1, ren ρ e.2)) = es.map (fun e => (ren τ e.1, ren τ e.2)) := by
      intro es
      induction es with
      | nil => intro _ _; rfl
      | cons e es ih => intro s1 s2; simp only [List.map_cons, ren_near h _ s1.1, ren_near h _ s2.1, ih s1.2 s2.2]
    exact this es s.1 s.2
  | vec v cs => simp only [renO, renL_near h cs s]
  | gone => rfl
  | nov v => rfl

/-- Data kept in m objects; p: the object to which its pointer leads. -/
structure ADT (X : Type) where
  m : Nat
  p : Nat
  hp : p < m
  obs : X → List Ob
  Ok : X → Prop
  len : ∀ x, (obs x).length = m
  near : ∀ x, Ok x → ∀ o ∈ obs x, NearO m o
  inj : ∀ x y, Ok x → Ok y → obs x = obs y → x = y
variable {X : Type}
def sh (i j : Nat) : Nat := i + j
def invS (m i k : Nat) : Option Nat := if i ≤ k ∧ k < i + m then some (k - i) else none
theorem inv_sh (m i : Nat) : Inv (sh i) m (invS m i) := by
  refine ⟨fun j hj => ?_, fun k j h => ?_⟩
  · show (if i ≤ i + j ∧ i + j < i + m then some (i + j - i) else none) = some j
    rw [if_pos (by omega), Nat.add_sub_cancel_left]
  · simp only [invS] at h
    split at h
    · cases h; exact ⟨by omega, by show i + (k - i) = k; omega⟩
    · cases h
def ADT.at_ (A : ADT X) (i : Nat) (x : X) : List Ob := (A.obs x).map (renO (sh i))
theorem ADT.at_len (A : ADT X) (i : Nat) (x : X) : (A.at_ i x).length = A.m := by rw [ADT.at_, List.length_map, A.len]
theorem ADT.at_inj (A : ADT X) {i : Nat} {x y : X} (hx : A.Ok x) (hy : A.Ok y) (h : A.at_ i x = A.at_ i y) : x = y := by
  refine A.inj x y hx hy ?_
  have h2 := congrArg (List.map (renO fun k => k - i)) h
  rw [ADT.at_, ADT.at_, List.map_map, List.map_map] at h2
  have e : (renO (fun k => k - i)) ∘ (renO (sh i)) = id := by
    funext o
    rw [Function.comp_apply, renO_renO _ _ (fun k => k) (fun k => by show i + k - i = k; omega), renO_id]; rfl
  rw [e, List.map_id, List.map_id] at h2
  exact h2
def ADT.is (A : ADT X) (i : Nat) (l : List Ob) (x : X) : Prop := A.Ok x ∧ A.at_ i x = l
open Classical in
noncomputable def ADT.G (A : ADT X) (i : Nat) (l : List Ob) : Option X := opq (if h : ∃ x, A.is i l x then some (Classical.choose h) else none)
theorem ADT.G_spec {A : ADT X} {i : Nat} {l : List Ob} {x : X} (h : A.G i l = some x) : A.is i l x := by
  rw [ADT.G, opq_eq] at h
  split at h
  · rename_i hx; cases h; exact Classical.choose_spec hx
  · cases h
theorem ADT.G_of {A : ADT X} {i : Nat} {l : List Ob} {x : X} (h : A.is i l x) : A.G i l = some x := by
  have hx : ∃ x, A.is i l x := ⟨x, h⟩
  rw [ADT.G, opq_eq, dif_pos hx]
  have h1 := Classical.choose_spec hx
  rw [A.at_inj h1.1 h.1 (h1.2.trans h.2.symm)]
noncomputable def ADT.ob (A : ADT X) (i : Nat) (x : X) (j : Nat) : Ob := opq ((A.at_ i x).getD j .gone)
noncomputable def obl (A : ADT X) (i : Nat) (x : X) : Nat → Nat → List Ob
  | 0, _ => []
  | k + 1, j => A.ob i x j :: obl A i x k (j + 1)
theorem obl_eq (A : ADT X) (i : Nat) (x : X) : ∀ k j, j + k ≤ A.m → obl A i x k j = ((A.at_ i x).drop j).take k
  | 0, j, _ => by rw [List.take_zero]; rfl
  | k + 1, j, h => by
    have hl : j < (A.at_ i x).length := by rw [ADT.at_len]; omega
    rw [obl, obl_eq A i x k (j + 1) (by omega), List.drop_eq_getElem_cons hl, List.take_succ_cons, ADT.ob, opq_eq, List.getD_eq_getElem?_getD, List.getElem?_eq_getElem hl]
    rfl
noncomputable def ADT.obl (A : ADT X) (i : Nat) (x : X) : List Ob := V.obl A i x A.m 0
theorem ADT.obl_eq (A : ADT X) (i : Nat) (x : X) : A.obl i x = A.at_ i x := by
  rw [ADT.obl, V.obl_eq A i x A.m 0 (by omega), List.drop_zero, List.take_of_length_le (by rw [ADT.at_len]; exact Nat.le_refl _)]
/-- The objects tell it. -/
theorem ADT.G_obl (A : ADT X) {x : X} (h : A.Ok x) (i : Nat) : A.G i (A.obl i x) = some x := ADT.G_of ⟨h, (A.obl_eq i x).symm⟩
theorem ADT.obl_zero (A : ADT X) {x : X} (h : A.Ok x) : A.obl 0 x = A.obs x := by
  rw [ADT.obl_eq, ADT.at_]
  conv => rhs; rw [← List.map_id (A.obs x)]
  refine List.map_congr_left fun o ho => ?_
  rw [show sh 0 = fun k => k from funext fun k => Nat.zero_add k, renO_id]; rfl
/-- The first m of a list, if there are so many. -/
def getN : Nat → List Ob → Option (List Ob)
  | 0, _ => some []
  | _ + 1, [] => none
  | k + 1, o :: l => match getN k l with
    | some r => some (o :: r)
    | none => none
theorem getN_some : ∀ {k : Nat} {l r : List Ob}, getN k l = some r → r = l.take k ∧ k ≤ l.length
  | 0, l, r, h => by cases h; exact ⟨by rw [List.take_zero], by omega⟩
  | k + 1, [], r, h => by cases h
  | k + 1, o :: l, r, h => by
    simp only [getN] at h
    split at h
    · rename_i r' h'
      cases h
      obtain ⟨h1, h2⟩ := getN_some h'
      exact ⟨by rw [List.take_succ_cons, h1], by simp; omega⟩
    · cases h
/-- The objects from one on are others. -/
def plc : List Ob → Nat → List Ob → List Ob
  | l, 0, xs => xs ++ l.drop xs.length
  | [], _ + 1, _ => []
  | o :: l, i + 1, xs => o :: plc l i xs
theorem plc_eq : ∀ (l : List Ob) (i : Nat) (xs : List Ob), i + xs.length ≤ l.length → plc l i xs = l.take i ++ xs ++ l.drop (i + xs.length)
  | l, 0, xs, _ => by rw [plc.eq_def]; simp
  | [], i + 1, xs, h => by simp at h
  | o :: l, i + 1, xs, h => by
    rw [plc, plc_eq l i xs (by simp at h; omega), show i + 1 + xs.length = (i + xs.length) + 1 by omega]
    simp
noncomputable def ADT.pl (A : ADT X) (st : St) (i : Nat) (x : X) : St := ⟨plc st.objs i (A.obl i x), st.tk⟩
/-- Data in a state: where it is, what it is. -/
noncomputable def ADT.on (A : ADT X) (x : AV) (st : St) (k : Nat → X → Ans) : Ans :=
  match x with
  | .ptr j o => match Nat.beq o 0 && Nat.ble A.p j with
    | true => match getN A.m (st.objs.drop (j - A.p)) with
      | some l => onSome (A.G (j - A.p) l) none fun X => k (j - A.p) X
      | none => none
    | false => none
  | _ => none
/-- Data at a place. -/
structure ADT.Here (A : ADT X) (st : St) (i : Nat) (x : X) : Prop where
  ok : A.Ok x
  le : i + A.m ≤ st.objs.length
  eq : (st.objs.drop i).take A.m = A.at_ i x
theorem ADT.on_spec {A : ADT X} {x : AV} {st : St} {k : Nat → X → Ans} {fin : Fin × St} (h : A.on x st k = some fin) : ∃ i y, x = .ptr (i + A.p) 0 ∧ A.Here st i y ∧ k i y = some fin := by
  unfold ADT.on at h
  split at h
  · rename_i j o
    split at h
    · rename_i ho
      rw [Bool.and_eq_true] at ho
      obtain ⟨h1, h2⟩ := ho
      obtain rfl := Nat.eq_of_beq_eq_true h1
      have h2 := Nat.le_of_ble_eq_true h2
      split at h
      · rename_i l hl
        unfold onSome at h
        split at h
        · cases h
        · rename_i y hy
          obtain ⟨g1, g2⟩ := getN_some hl
          obtain ⟨g3, g4⟩ := ADT.G_spec hy
          have hm := A.hp
          rw [List.length_drop] at g2
          exact ⟨j - A.p, y, by rw [Nat.sub_add_cancel h2], ⟨g3, by omega, by rw [← g1, g4]⟩, h⟩
      · cases h
    · cases h
  · cases h
theorem ADT.Here.lies {A : ADT X} {st : St} {i : Nat} {x : X} (h : A.Here st i x) : Lies st (A.obs x) (sh i) A.m (invS A.m i) := by
  refine ⟨A.len x, inv_sh _ i, fun j o ho => ?_, A.near x h.ok⟩
  have hj : j < A.m := by rw [← A.len x]; exact getElem?_lt ho
  have e := congrArg (fun l => l[j]?) h.eq
  simp only [List.getElem?_take, if_pos hj, List.getElem?_drop, ADT.at_, List.getElem?_map, ho, Option.map_some] at e
  exact e
theorem ADT.pl_len {A : ADT X} {st : St} {i : Nat} {x : X} (h : i + A.m ≤ st.objs.length) : (A.pl st i x).objs.length = st.objs.length := by
  have hl : (A.obl i x).length = A.m := by rw [ADT.obl_eq, ADT.at_len]
  rw [ADT.pl, plc_eq _ _ _ (by omega)]
  simp only [List.length_append, List.length_take, List.length_drop, hl]
  omega
theorem ADT.pl_in {A : ADT X} {st : St} {i : Nat} {x : X} (h : i + A.m ≤ st.objs.length) {j : Nat} (hj : j < A.m) : (A.pl st i x).objs[i + j]? = (A.at_ i x)[j]? := by
  have hl : (A.obl i x).length = A.m := by rw [ADT.obl_eq, ADT.at_len]
  rw [ADT.pl, plc_eq _ _ _ (by omega)]
  simp only [List.append_assoc]
  rw [List.getElem?_append_right (by rw [List.length_take]; omega), List.length_take, Nat.min_eq_left (by omega), Nat.add_sub_cancel_left, List.getElem?_append_left (by omega), ADT.obl_eq]
theorem ADT.pl_out {A : ADT X} {st : St} {i : Nat} {x : X} (h : i + A.m ≤ st.objs.length) {k : Nat} (hk : ¬ (i ≤ k ∧ k < i + A.m)) : (A.pl st i x).objs[k]? = st.objs[k]? := by
  have hl : (A.obl i x).length = A.m := by rw [ADT.obl_eq, ADT.at_len]
  rw [ADT.pl, plc_eq _ _ _ (by omega)]
  simp only [List.append_assoc]
  by_cases h1 : k < i
  · rw [List.getElem?_append_left (by rw [List.length_take]; omega), List.getElem?_take, if_pos h1]
  · rw [List.getElem?_append_right (by rw [List.length_take]; omega), List.length_take, Nat.min_eq_left (by omega), List.getElem?_append_right (by omega), List.getElem?_drop]
    congr 1; omega
theorem ADT.Here.same {A : ADT X} {st : St} {i : Nat} {x : X} (h : A.Here st i x) : A.pl st i x = st := by
  have e : (A.pl st i x).objs = st.objs := by
    apply List.ext_getElem?
    intro k
    by_cases hk : i ≤ k ∧ k < i + A.m
    · obtain ⟨j, rfl⟩ := Nat.exists_eq_add_of_le hk.1
      have hj : j < A.m := by omega
      rw [ADT.pl_in h.le hj]
      have e := congrArg (fun l => l[j]?) h.eq
      simp only [List.getElem?_take, if_pos hj, List.getElem?_drop] at e
      exact e.symm
    · rw [ADT.pl_out h.le hk]
  cases st
  simp only [ADT.pl] at e ⊢
  rw [e]
theorem ADT.near_at {A : ADT X} {y : X} (hy : A.Ok y) {i j : Nat} {o : Ob} (ho : (A.obs y)[j]? = some o) {τ : Nat → Nat} (hτ : ∀ k, k < A.m → τ k = i + k) : (A.at_ i y)[j]? = some (renO τ o) := by
  rw [ADT.at_, List.getElem?_map, ho, Option.map_some, renO_near (n := A.m) (ρ := sh i) (τ := τ) (fun k hk => (hτ k hk).symm) o (A.near y hy o (List.mem_of_getElem? ho))]
/-- A method, shown at the data's objects alone. -/
theorem ADT.placed {A : ADT X} {f : Fun P} {F : Nat} {x y : X} {args0 : List AV} {r : AV} {xs : List Ob} (hrun : f.run F args0 ⟨A.obs x, []⟩ = some (.ret r, ⟨A.obs y ++ xs, []⟩)) (hy : A.Ok y) (ha : NearL A.m args0) (hr : Near A.m (frz r))
    {st : St} {i : Nat} (hd : A.Here st i x) : CallsTo P f.id (renL (sh i) args0) st (.ret (ren (sh i) (frz r)), A.pl st i y) := by
  have n4 : ∀ j, j < A.m → nx (sh i) A.m st.objs.length j = i + j := fun j hj => by rw [nx, if_pos hj]; rfl
  have e : ren (nx (sh i) A.m st.objs.length) (frz r) = ren (sh i) (frz r) := ren_near (fun k hk => n4 k hk) _ hr
  rw [← e]
  refine V.placed (f.sound hrun) (Nat.le_refl _) (by simp [A.len]) ha hr (fun j o hj ho => ?_) hd.lies rfl (by rw [ADT.pl_len hd.le]; omega) (fun j o hj ho => ?_) (fun k hk hi => ?_)
  · rw [List.getElem?_append_left (by rw [A.len]; exact hj)] at ho
    exact A.near y hy o (List.mem_of_getElem? ho)
  · rw [List.getElem?_append_left (by rw [A.len]; exact hj)] at ho
    rw [n4 j hj, ADT.pl_in hd.le hj]
    exact ADT.near_at hy ho n4
  · refine ADT.pl_out hd.le fun e => ?_
    simp only [invS] at hi
    rw [if_pos e] at hi; cases hi
noncomputable def ADT.add (A : ADT X) (st : St) (x : X) : St := ⟨st.objs ++ A.obl st.objs.length x, st.tk⟩
/-- What makes data, shown at no objects. -/
theorem ADT.fresh {A : ADT X} {f : Fun P} {F : Nat} {x : X} {args0 : List AV} {r : AV} {xs : List Ob} (hrun : f.run F args0 ⟨[], []⟩ = some (.ret r, ⟨A.obs x ++ xs, []⟩)) (hx : A.Ok x) (ha : NearL 0 args0) (hr : Near A.m (frz r)) (st : St) :
    CallsTo P f.id args0 st (.ret (ren (sh st.objs.length) (frz r)), A.add st x) := by
  have n4 : ∀ j, nx (fun _ => 0) 0 st.objs.length j = st.objs.length + j := fun j => by rw [nx, if_neg (by omega)]; omega
  have e : ren (nx (fun _ => 0) 0 st.objs.length) (frz r) = ren (sh st.objs.length) (frz r) := ren_near (n := A.m) (fun k hk => n4 k) _ hr
  have e2 : renL (fun _ => 0) args0 = args0 := by
    have := renL_near (n := 0) (ρ := fun _ => 0) (τ := fun k => k) (fun k hk => by omega) args0 ha
    rw [this, renL_id]
  have hl : (A.obl st.objs.length x).length = A.m := by rw [ADT.obl_eq, ADT.at_len]
  rw [← e]
  have := V.placed (ρ := fun _ => 0) (f.sound hrun) (Nat.zero_le A.m) (by simp [A.len]) ha hr (fun j o hj ho => by
    rw [List.getElem?_append_left (by rw [A.len]; exact hj)] at ho
    exact A.near x hx o (List.mem_of_getElem? ho)) (inv := fun _ => none) (st := st) (st' := A.add st x) ⟨rfl, ⟨fun i hi => (by omega), fun k i h => (by cases h)⟩, fun i o h => (by simp at h), fun o h => (by simp at h)⟩ rfl (by simp [ADT.add, hl]) (fun j o hj ho => ?_) (fun k hk hi => ?_)
  · rw [e2] at this; exact this
  · rw [List.getElem?_append_left (by rw [A.len]; exact hj)] at ho
    rw [n4 j, ADT.add]
    simp only
    rw [List.getElem?_append_right (by omega), Nat.add_sub_cancel_left, ADT.obl_eq]
    exact ADT.near_at hx ho fun k _ => n4 k
  · rw [ADT.add]
    simp only
    rw [List.getElem?_append_left hk]
theorem CallsTo.wk {id : FuncId} {args args' : List AV} {st : St} {fin : Fin × St} (h : CallsTo P id args' st fin) (hw : ∀ g w vs, RelAll g w args vs → RelAll g w args' vs) : CallsTo P id args st fin := fun g w vals hv hs => h g w vals (hw g w _ hv) hs
theorem CallsTo.wkR {id : FuncId} {args : List AV} {st st' : St} {r r' : AV} (h : CallsTo P id args st (.ret r, st')) (hw : ∀ g w v, Rel g w r v → Rel g w r' v) : CallsTo P id args st (.ret r', st') := by
  intro g w vals hv hs
  refine (h g w vals hv hs).mono fun e w' ⟨g', k1, k2, k3⟩ => ?_
  obtain ⟨v, rfl, hv'⟩ := k1
  exact ⟨g', ⟨v, rfl, hw _ _ _ hv'⟩, k2, k3⟩

/-! ### An operation that freezes the slice it is handed -/
def updE (ev : Operand → AV) (i : Nat) (r : AV) : Operand → AV
  | .tmp j => match Nat.beq j i with
    | true => r
    | false => ev (.tmp j)
  | o => ev o
noncomputable def MSim.fz (y : MSim P) (i : Nat) : MSim P where
  oper := y.oper
  plain := y.plain
  xs := .tmp i :: y.xs
  f ev st k := afree (ev (.tmp i)) st fun r st' => y.f (updE ev i r) st' k
  congr ev ev' st k h := by
    rw [h (.tmp i) (by simp)]
    congr 1
    funext r st'
    refine y.congr _ _ _ _ fun o ho => ?_
    have := h o (by simp [ho])
    unfold updE
    split
    · split
      · rfl
      · exact this
    · exact this
  sound ev st k fin h g w a he hs := by
    obtain ⟨r, st', g', k1, k2, k3, k4⟩ := afree_rel hs (he (.tmp i) (by simp)) h
    obtain ⟨r2, st2, q1, q2⟩ := y.sound (updE ev i r) st' k fin k1 g' w a (fun o ho => by
      unfold updE
      split
      · rename_i j
        split
        · rename_i hj
          obtain rfl := Nat.eq_of_beq_eq_true hj
          exact k2
        · exact Rel.mono k4 _ _ (he _ (by simp [ho]))
      · exact Rel.mono k4 _ _ (he _ (by simp [ho]))) k3
    exact ⟨r2, st2, q1, fun next Q hn => q2 next Q fun v g2 w2 a1 a2 a3 => hn v g2 w2 a1 a2 (k4.trans a3)⟩
theorem MSim.fz_nat {y : MSim P} {i : Nat} (h : y.NatM) : (y.fz i).NatM := fun ev st k => by
  show afree _ st (fun r st' => y.f (updE ev i r) st' k) = thenM (afree _ st (fun r st' => y.f (updE ev i r) st' retM)) k
  rw [afree_nat, afree_nat (k := fun r st' => y.f (updE ev i r) st' retM)]
  cases afree (ev (.tmp i)) st retM with
  | none => rfl
  | some fin =>
    obtain ⟨fn, s⟩ := fin
    cases fn with
    | ret r => exact h (updE ev i r) s k
    | _ => rfl

/-! ### What goes on does not sway a callee's answer -/
def thS (a : Ans) (k : Fin → St → Ans) : Ans :=
  match a with
  | some (r, st') => k r st'
  | none => none
theorem onInt_th {x : AV} {s s' : IntKind → Int → Ans} {k : Fin → St → Ans} (h : ∀ i n, s i n = thS (s' i n) k) : onInt x s = thS (onInt x s') k := by
  unfold onInt
  split
  · exact h _ _
  · rfl
theorem onNs_th {sz : Nat} {x : AV} {s s' : Bool → List (List AV) → Ans} {k : Fin → St → Ans} (h : ∀ z l, s z l = thS (s' z l) k) : onNs sz x s = thS (onNs sz x s') k := by
  unfold onNs
  split
  · exact h _ _
  all_goals first
    | rfl
    | (split
       · exact h _ _
       · rfl)
theorem ifT_th {b : Bool} {s s' : Ans} {k : Fin → St → Ans} (h : s = thS s' k) : ifT b s = thS (ifT b s') k := by
  cases b
  · rfl
  · exact h
theorem ADT.on_th {A : ADT X} {x : AV} {st : St} {s s' : Nat → X → Ans} {k : Fin → St → Ans} (h : ∀ i y, s i y = thS (s' i y) k) : A.on x st s = thS (A.on x st s') k := by
  unfold ADT.on
  split
  · split
    · split
      · unfold onSome
        split
        · rfl
        · exact h _ _
      · rfl
    · rfl
  · rfl
theorem ADT.on_nat {A : ADT X} {x : AV} {st : St} {s s' : Nat → X → Ans} {K : AV → Ans} (h : ∀ i y, s i y = thenA (s' i y) K) : A.on x st s = thenA (A.on x st s') K := by
  unfold ADT.on
  split
  · split
    · split
      · unfold onSome
        split
        · rfl
        · exact h _ _
      · rfl
    · rfl
  · rfl
/-- A callee that only reads objects. -/
def Fun.byQ (f : Fun P) (sem : List AV → St → (AV → Ans) → Ans)
    (hs : ∀ args st k fin, sem args st k = some fin → ∃ r, k r = some fin ∧ CallsTo P f.id args st (.ret r, st)) : OrcQ P where
  id := f.id
  fn := f.fn
  hf := f.hf
  hname := f.hname
  hb := by rw [f.hbody]; rfl
  F := sem
  sound k args st fin h := hs args st k fin h
/-- So many rounds as one likes, for a callee within. -/
noncomputable def fuel : Nat := opq 1000000
theorem fuel_eq : fuel = 1000000 := opq_eq _

/-! ### Two data -/
mutual
theorem near_ren {n m : Nat} {ρ : Nat → Nat} (h : ∀ k, k < n → ρ k < m) : ∀ a : AV, Near n a → Near m (ren ρ a)
  | .bool _, _ => trivial
  | .int _ _, _ => trivial
  | .str _, _ => trivial
  | .nilptr, _ => trivial
  | .nilsl, _ => trivial
  | .nilmap, _ => trivial
  | .nilfn, _ => trivial
  | .nilif, _ => trivial
  | .ptr k off, s => h k s
  | .tp k E m', s => h k s
  | .eptr cs, s => s
  | .sl _ _ _, s => s
  | .lg _ _ _, s => s.elim
  | .ms k sz off n cap, s => h k s
  | .mp k, s => h k s
  | .fn f a c, s => ⟨nearL_ren h a s.1, nearL_ren h c s.2⟩
  | .ifc t v, s => near_ren h v s
  | .agg cs, s => nearL_ren h cs s
  | .tup cs, s => nearL_ren h cs s
  | .dead, _ => trivial
  | .ns _ _ _, s => s
  | .vs k v sz n, s => h k s
  | .vp k v off, s => h k s
theorem nearL_ren {n m : Nat} {ρ : Nat → Nat} (h : ∀ k, k < n → ρ k < m) : ∀ l : List AV, NearL n l → NearL m (renL ρ l)
  | [], _ => trivial
  | x :: l, s => ⟨near_ren h x s.1, nearL_ren h l s.2⟩
end
theorem nearO_ren {n m : Nat} {ρ : Nat → Nat} (h : ∀ k, k < n → ρ k < m) (o : Ob) (s : NearO n o) : NearO m (renO ρ o) := by
  cases o with
  | cells cs => exact nearL_ren h cs s
  | map es =>
    refine ⟨?_, ?_⟩
    · rw [renO_map1]; exact nearL_ren h _ s.1
    · rw [renO_map2]; exact nearL_ren h _ s.2
  | vec v cs => exact nearL_ren h cs s
  | gone => trivial
  | nov v => trivial
theorem nearO_mono {n m : Nat} (h : n ≤ m) (o : Ob) (s : NearO n o) : NearO m o := by
  have := nearO_ren (ρ := fun k => k) (m := m) (fun k hk => Nat.lt_of_lt_of_le hk h) o s
  rwa [renO_id] at this
variable {Y : Type}
def sh2 (m i j k : Nat) : Nat := if k < m then i + k else j + (k - m)
def inv2 (m n i j k : Nat) : Option Nat := if i ≤ k ∧ k < i + m then some (k - i) else if j ≤ k ∧ k < j + n then some (m + (k - j)) else none
theorem inv_sh2 {m n i j : Nat} (hd : i + m ≤ j ∨ j + n ≤ i) : Inv (sh2 m i j) (m + n) (inv2 m n i j) := by
  refine ⟨fun k hk => ?_, fun k t h => ?_⟩
  · unfold sh2 inv2
    by_cases h1 : k < m
    · rw [if_pos h1, if_pos (by omega)]; congr 1; omega
    · rw [if_neg h1, if_neg (by omega), if_pos (by omega)]; congr 1; omega
  · unfold inv2 at h
    unfold sh2
    split at h
    · cases h; exact ⟨by omega, by rw [if_pos (by omega)]; omega⟩
    · split at h
      · cases h; exact ⟨by omega, by rw [if_neg (by omega)]; omega⟩
      · cases h
/-- A callee of two data, shown at their objects alone. -/
theorem ADT.placed2 {A : ADT X} {B : ADT Y} {f : Fun P} {F : Nat} {x x' : X} {y y' : Y} {args0 : List AV} {r : AV} {xs : List Ob} (hrun : f.run F args0 ⟨A.obs x ++ B.at_ A.m y, []⟩ = some (.ret r, ⟨A.obs x' ++ (B.at_ A.m y' ++ xs), []⟩)) (hx' : A.Ok x') (hy' : B.Ok y') (ha : NearL (A.m + B.m) args0) (hr : Near (A.m + B.m) (frz r))
    {st : St} {i j : Nat} (hx : A.Here st i x) (hy : B.Here st j y) (hd : i + A.m ≤ j ∨ j + B.m ≤ i) : CallsTo P f.id (renL (sh2 A.m i j) args0) st (.ret (ren (sh2 A.m i j) (frz r)), B.pl (A.pl st i x') j y') := by
  have hA := A.hp
  have hB := B.hp
  have s1 : ∀ k, k < A.m → sh2 A.m i j k = i + k := fun k hk => by rw [sh2, if_pos hk]
  have s2 : ∀ k, sh2 A.m i j (A.m + k) = j + k := fun k => by rw [sh2, if_neg (by omega), Nat.add_sub_cancel_left]
  have n4 : ∀ k, k < A.m + B.m → nx (sh2 A.m i j) (A.m + B.m) st.objs.length k = sh2 A.m i j k := fun k hk => by rw [nx, if_pos hk]
  have e : ren (nx (sh2 A.m i j) (A.m + B.m) st.objs.length) (frz r) = ren (sh2 A.m i j) (frz r) := ren_near (fun k hk => n4 k hk) _ hr
  have nearA : ∀ (z : X), A.Ok z → ∀ o ∈ A.obs z, NearO (A.m + B.m) o := fun z hz o ho => nearO_mono (by omega) o (A.near z hz o ho)
  have nearB : ∀ (z : Y), B.Ok z → ∀ o ∈ B.at_ A.m z, NearO (A.m + B.m) o := fun z hz o ho => by
    obtain ⟨o', ho', rfl⟩ := List.mem_map.mp ho
    exact nearO_ren (n := B.m) (fun k hk => by show A.m + k < _; omega) o' (B.near z hz o' ho')
  have renA : ∀ (z : X), A.Ok z → ∀ (k : Nat) (o : Ob), (A.obs z)[k]? = some o → (A.at_ i z)[k]? = some (renO (sh2 A.m i j) o) := fun z hz k o ho => ADT.near_at hz ho fun k hk => s1 k hk
  have renB : ∀ (z : Y), B.Ok z → ∀ (k : Nat) (o : Ob), (B.at_ A.m z)[k]? = some o → (B.at_ j z)[k]? = some (renO (sh2 A.m i j) o) := fun z hz k o ho => by
    rw [ADT.at_, List.getElem?_map] at ho
    cases h1 : (B.obs z)[k]? with
    | none => rw [h1] at ho; cases ho
    | some o' =>
      rw [h1, Option.map_some] at ho
      cases ho
      rw [renO_renO (sh2 A.m i j) (sh A.m) (fun t => j + t) (fun t => s2 t)]
      exact ADT.near_at hz h1 fun k hk => rfl
  rw [← e]
  have lenA : ∀ z : X, (A.obs z).length = A.m := A.len
  have lenB : ∀ z : Y, (B.at_ A.m z).length = B.m := B.at_len A.m
  have hlA := ADT.pl_len (A := A) (st := st) (i := i) (x := x') hx.le
  have hle2 : j + B.m ≤ (A.pl st i x').objs.length := by rw [hlA]; exact hy.le
  refine V.placed (f.sound hrun) (Nat.le_refl _) (by simp [lenA, lenB]) ha hr (fun k o hk ho => ?_) ⟨by simp [lenA, lenB], inv_sh2 hd, fun k o ho => ?_, fun o ho => ?_⟩ rfl (by rw [ADT.pl_len hle2, hlA]; omega) (fun k o hk ho => ?_) (fun k hk hi => ?_)
  · by_cases h1 : k < A.m
    · rw [List.getElem?_append_left (by rw [lenA]; exact h1)] at ho
      exact nearA x' hx' o (List.mem_of_getElem? ho)
    · rw [List.getElem?_append_right (by rw [lenA]; omega), lenA, List.getElem?_append_left (by rw [lenB]; omega)] at ho
      exact nearB y' hy' o (List.mem_of_getElem? ho)
  · by_cases h1 : k < A.m
    · rw [List.getElem?_append_left (by rw [lenA]; exact h1)] at ho
      rw [s1 k h1, ← renA x hx.ok k o ho]
      have e := congrArg (fun l => l[k]?) hx.eq
      simp only [List.getElem?_take, if_pos h1, List.getElem?_drop] at e
      exact e
    · rw [List.getElem?_append_right (by rw [lenA]; omega), lenA] at ho
      have hk2 : k - A.m < B.m := by rw [← lenB y]; exact getElem?_lt ho
      obtain ⟨t, rfl⟩ : ∃ t, k = A.m + t := ⟨k - A.m, by omega⟩
      rw [Nat.add_sub_cancel_left] at ho hk2
      rw [s2 t, ← renB y hy.ok t o ho]
      have e := congrArg (fun l => l[t]?) hy.eq
      simp only [List.getElem?_take, if_pos hk2, List.getElem?_drop] at e
      exact e
  · rcases List.mem_append.mp ho with ho | ho
    · exact nearA x hx.ok o ho
    · exact nearB y hy.ok o ho
  · have e2 : nx (sh2 A.m i j) (A.m + B.m) st.objs.length k = sh2 A.m i j k := n4 k hk
    have e3 : ∀ o, NearO (A.m + B.m) o → renO (nx (sh2 A.m i j) (A.m + B.m) st.objs.length) o = renO (sh2 A.m i j) o := fun o h => renO_near (fun k hk => n4 k hk) o h
    rw [e2]
    by_cases h1 : k < A.m
    · rw [List.getElem?_append_left (by rw [lenA]; exact h1)] at ho
      rw [e3 o (nearA x' hx' o (List.mem_of_getElem? ho)), s1 k h1, ADT.pl_out hle2 (by omega), ADT.pl_in hx.le h1]
      exact renA x' hx' k o ho
    · rw [List.getElem?_append_right (by rw [lenA]; omega), lenA, List.getElem?_append_left (by rw [lenB]; omega)] at ho
      obtain ⟨t, rfl⟩ : ∃ t, k = A.m + t := ⟨k - A.m, by omega⟩
      rw [Nat.add_sub_cancel_left] at ho
      rw [e3 o (nearB y' hy' o (List.mem_of_getElem? ho)), s2 t, ADT.pl_in hle2 (by omega)]
      exact renB y' hy' t o ho
  · have h1 : ¬ (i ≤ k ∧ k < i + A.m) := fun e => by
      simp only [inv2] at hi
      rw [if_pos e] at hi; cases hi
    have h2 : ¬ (j ≤ k ∧ k < j + B.m) := fun e => by
      simp only [inv2] at hi
      rw [if_neg h1, if_pos e] at hi; cases hi
    rw [ADT.pl_out hle2 h2, ADT.pl_out hx.le h1]
theorem opMakeF_nat {dst : Option Tmp} {T : TypeId} {x : Operand} {e sz bytes : Nat} {z : Value} {hT : ElemOf P T e sz bytes z} {zc : List AV} {hz : cellsA (ofLit z) = some zc} {hsz : Nat.beq z.cells.size sz = true} {hl : Nat.beq zc.length sz = true} {ty : TypeId} {pos : String} {after : Array Edge} : (opMakeF (P := P) dst T x e sz bytes z hT zc hz hsz hl ty pos after).Nat := fun ev k => by
  show amakeF sz bytes zc (ev x) k = thenA (amakeF sz bytes zc (ev x) retA) k
  unfold amakeF
  split
  · split <;> rfl
  · rfl
end
end Go.V

/- Texts that are built in memory: typed pointers, callees that the model stands in for, == of pointers, refusals, a text taken out of a growing row. -/
set_option linter.unusedVariables false
set_option linter.unusedSimpArgs false
namespace Go.V
section
variable {P : Program}

/-- A refusal: nothing comes there. -/
def Sim.refuse (why : String) : Sim P where
  code := .refuse why
  run F K env st := none
  sound F K env st fin h := by cases h

/-- A callee that is never called. -/
def Orc.dead (id : FuncId) (fn : Func) (hf : P.funcs[id]? = some fn) (hname : (fn.name == "runtime.NumGoroutine") = false) (hb : fn.body.isNone = false) : Orc P where
  id := id
  fn := fn
  hf := hf
  hname := hname
  hb := hb
  sem _ _ _ := none
  sound k args st fin h := by cases h

/-- A variable in memory whose block's type is known. -/
def opAllocT (n : Nat) (dst : Option Tmp) (T : TypeId) (z : Value) (hz : (P.info? T).bind (·.zero) = some z) (hn : Nat.beq z.cells.size n = true) (ty : TypeId) (pos : String) (after : Array Edge) : MSim P :=
  MSim.makes (mkOp dst (.alloc T) ty pos after) rfl [] (fun ev st k => match cellsA (ofLit z) with
    | some cs => k (.tp st.objs.length T n) ⟨st.objs ++ [.cells cs], st.tk⟩
    | none => none) (fun ev ev' st k h => rfl) fun ev st k fin h g w a he hs => by
    split at h
    · rename_i cs hcs
      obtain ⟨h1, h1c⟩ := cellsA_rel hcs (ofLit_rel g w z)
      obtain ⟨g', k1, k2, b, k3, k4⟩ := newObj_rel hs z T h1 h1c
      exact ⟨_, _, _, g', _, h, by simp [execOp, mkOp, Instr.alloc, newVar, run_newRow, run_zeroValue' hz] <;> rfl, ⟨b, k3, k4, z.cells, (0, 0), by cases k4; exact (Push.alloc w _).new, Nat.eq_of_beq_eq_true hn⟩, k1, k2⟩
    · cases h

/-! ### Callees that the model stands in for -/
theorem run_ext {f : FuncId} {fn : Func} {e : Array Value → Sem Value} (hf : P.funcs[f]? = some fn) (hname : (fn.name == "runtime.NumGoroutine") = false) (hb : fn.body.isNone = true) (hn : Extern.findNext fn = none) (he : Extern.find fn = some e) {dst : Option Tmp} {xs : List Operand} {tys : Array TypeId} {ty : TypeId} {pos : String} {after : Array Edge} {a : Act} {w : World} {v : Value} (h : (e (xs.map a.eval).toArray).run P w = .ok v w) :
    (execOp a.eval (mkOp dst (.call { callee := .value (.func f), args := xs.toArray, argTypes := tys }) ty pos after)).run P w = .ok (.value v) w := by
  simp only [execOp, mkOp, resolve, Act.eval, Deferred.ofValue]
  have h' := h
  simp only [List.map_toArray] at h' ⊢
  simp [invoke, run_callFunc_extern hf hname hb hn he, Act.eval]
  have e1 : (List.map (fun x => a.eval x) xs).toArray = (xs.map a.eval).toArray := rfl
  first
    | (rw [h']; rfl)
    | (rw [h]; rfl)
    | simp [h']

/-- internal/abi.NoEscape: the pointer as it is. -/
def opExtId (f : FuncId) (fn : Func) (hf : P.funcs[f]? = some fn) (hname : (fn.name == "runtime.NumGoroutine") = false) (hb : fn.body.isNone = true) (hn : Extern.findNext fn = none) (hx : Extern.find fn = some Extern.AbiNoEscape.same)
    (dst : Option Tmp) (x : Operand) (tys : Array TypeId) (ty : TypeId) (pos : String) (after : Array Edge) : PSim P :=
  PSim.quiet (mkOp dst (.call { callee := .value (.func f), args := [x].toArray, argTypes := tys }) ty pos after) rfl [x] (fun ev k => k (ev x)) (fun ev ev' k h => by simp only [h x (by simp)]) fun ev k fin h g w a st he hs =>
    ⟨_, _, h, run_ext hf hname hb hn hx rfl, he x (by simp)⟩

/-- internal/bytealg.IndexByteString. -/
noncomputable def idxB (s : ByteArray) (c : Int) : Int := firstIdx s c.toNat.toUInt8
noncomputable def aidxB (x y : AV) (k : AV → Ans) : Ans :=
  match x with
  | .str s => match y with
    | .int .u8 c => k (.int .i64 (idxB s c))
    | _ => none
  | _ => none
noncomputable def opExtIdx (f : FuncId) (fn : Func) (hf : P.funcs[f]? = some fn) (hname : (fn.name == "runtime.NumGoroutine") = false) (hb : fn.body.isNone = true) (hn : Extern.findNext fn = none) (hx : Extern.find fn = some Extern.BytealgIndexByte.indexByte)
    (dst : Option Tmp) (x y : Operand) (tys : Array TypeId) (ty : TypeId) (pos : String) (after : Array Edge) : PSim P :=
  PSim.quiet (mkOp dst (.call { callee := .value (.func f), args := [x, y].toArray, argTypes := tys }) ty pos after) rfl [x, y] (fun ev k => aidxB (ev x) (ev y) k) (fun ev ev' k h => by simp only [h x (by simp), h y (by simp)]) fun ev k fin h g w a st he hs => by
    have h1 := he x (by simp)
    have h2 := he y (by simp)
    unfold aidxB at h
    split at h
    · rename_i s hs'
      split at h
      · rename_i c hc
        rw [hs'] at h1
        rw [hc] at h2
        have h1 : a.eval x = .string s := h1
        have h2 : a.eval y = .int .u8 c := h2
        refine ⟨_, _, h, run_ext hf hname hb hn hx ?_, rfl⟩
        simp only [List.map_cons, List.map_nil, h1, h2]
        exact run_indexByte_string s c w
      · cases h
    · cases h

/-! ### Typed pointers turned to and fro -/
def aconvP (E n : Nat) (x : AV) (k : AV → Ans) : Ans :=
  match x with
  | .tp j E' n' => match Nat.beq E' E && Nat.beq n' n with
    | true => k (.tp j E' n')
    | false => none
  | _ => none
theorem tp_shape {g : Gh} {w : World} {j E n : Nat} {v : Value} (h : Rel g w (.tp j E n) v) : ∃ b, v = .pointer (some ⟨b, 0, none⟩) ∧ w.shape? b = some (E, n) := by
  obtain ⟨b, _, h2, C, fz, h3, h4⟩ := h
  exact ⟨b, h2, by unfold World.shape?; rw [h3]; simp only [h4]⟩
/-- A pointer as an unsafe one. -/
def opConvPU (E n : Nat) (hn : Nat.ble 1 n = true) (dst : Option Tmp) (S T : TypeId) (x : Operand) (t : TypeId) (hS : P.underlying S = some (.pointer t)) (hT : P.underlying T = some .unsafePointer) (sz : Nat) (ht : (P.info? t).map (·.size) = some sz) (h0 : sz ≠ 0) (ty : TypeId) (pos : String) (after : Array Edge) : PSim P :=
  PSim.quiet (mkOp dst (.convert S T x) ty pos after) rfl [x] (fun ev k => aconvP E n (ev x) k) (fun ev ev' k h => by simp only [h x (by simp)]) fun ev k fin h g w a st he hs => by
    have hv := he x (by simp)
    unfold aconvP at h
    split at h
    · rename_i j E' n' hb
      split at h
      · rename_i hc
        rw [Bool.and_eq_true] at hc
        obtain rfl := Nat.eq_of_beq_eq_true hc.1
        obtain rfl := Nat.eq_of_beq_eq_true hc.2
        rw [hb] at hv
        obtain ⟨b, h1, h2⟩ := tp_shape hv
        obtain ⟨i, hi, his⟩ := Option.map_eq_some_iff.1 ht
        refine ⟨_, _, h, ?_, hv⟩
        have := Lib.run_to_unsafe (P := P) w ⟨b, 0, none⟩ hS hT hi (by rw [his]; exact h0) h2 (Nat.le_of_ble_eq_true hn)
        simp only [execOp, mkOp, h1, Sem.run_bind, this]; rfl
      · cases h
    · cases h
/-- An unsafe pointer as one that is not. -/
def opConvUP (E n : Nat) (dst : Option Tmp) (S T : TypeId) (x : Operand) (t : TypeId) (hS : P.underlying S = some .unsafePointer) (hT : P.underlying T = some (.pointer t)) (sz : Nat) (ht : (P.info? t).map (·.size) = some sz) (hl : liesAt P P.depth E (n / P.cellsOf E) 0 t 1 = true) (ty : TypeId) (pos : String) (after : Array Edge) : PSim P :=
  PSim.quiet (mkOp dst (.convert S T x) ty pos after) rfl [x] (fun ev k => aconvP E n (ev x) k) (fun ev ev' k h => by simp only [h x (by simp)]) fun ev k fin h g w a st he hs => by
    have hv := he x (by simp)
    unfold aconvP at h
    split at h
    · rename_i j E' n' hb
      split at h
      · rename_i hc
        rw [Bool.and_eq_true] at hc
        obtain rfl := Nat.eq_of_beq_eq_true hc.1
        obtain rfl := Nat.eq_of_beq_eq_true hc.2
        rw [hb] at hv
        obtain ⟨b, h1, h2⟩ := tp_shape hv
        obtain ⟨i, hi, his⟩ := Option.map_eq_some_iff.1 ht
        refine ⟨_, _, h, ?_, hv⟩
        have := Lib.run_from_unsafe (P := P) w ⟨b, 0, none⟩ hS hT hi h2 hl
        simp only [execOp, mkOp, h1, Sem.run_bind, this]; rfl
      · cases h
    · cases h

/-! ### == of pointers -/
def apeq (x y : AV) (k : Bool → Ans) : Ans :=
  match x with
  | .tp i _ _ => match y with
    | .tp j _ _ => match Nat.beq i j with
      | true => k true
      | false => none
    | _ => none
  | _ => none
theorem apeq_same {x y : AV} {k : Bool → Ans} {fin : Fin × St} (h : apeq x y k = some fin) {g : Gh} {w : World} {v u : Value} (hx : Rel g w x v) (hy : Rel g w y u) : ∃ a, v = .pointer (some a) ∧ u = .pointer (some a) ∧ k true = some fin := by
  unfold apeq at h
  split at h
  · split at h
    · split at h
      · rename_i hc
        obtain rfl := Nat.eq_of_beq_eq_true hc
        obtain ⟨b, h1, h2, _⟩ := hx
        obtain ⟨b', k1, k2, _⟩ := hy
        rw [h1] at k1; cases k1
        exact ⟨_, h2, k2, h⟩
      · cases h
    · cases h
  · cases h
theorem run_eql_ptr_same {tp te : TypeId} {j : TypeInfo} (w : World) (a : Addr) (hp : P.underlying tp = some (.pointer te)) (hte : P.info? te = some j) : (binOp .eql tp (.pointer (some a)) (.pointer (some a))).run P w = .ok (.bool true) w := by
  have h : ∀ d : Nat, (Op.equalIn (d + 1) tp (.pointer (some a)) (.pointer (some a))).run P w = .ok true w := fun d => by
    simp [Op.equalIn, run_underlying hp, sizeOf, typeInfo, hte, run_sameAddr_same]
  simp only [binOp]
  simp [Op.equal, Op.maxDepth, h 9999]
theorem run_eqGuard_ptr (op : BinOp) (T : TypeId) (x y : Operand) (p q : Addr) (w : World) : (eqGuard op T x y (.pointer (some p)) (.pointer (some q))).run P w = .ok () w := by
  unfold eqGuard
  split <;> rfl
def opEqP (dst : Option Tmp) (T t : TypeId) (hT : P.underlying T = some (.pointer t)) (sz : Nat) (ht : (P.info? t).map (·.size) = some sz) (x y : Operand) (T' : TypeId) (ty : TypeId) (pos : String) (after : Array Edge) : PSim P :=
  PSim.quiet (mkOp dst (.binOp .eql T x y T') ty pos after) rfl [x, y] (fun ev k => apeq (ev x) (ev y) fun b => k (.bool b)) (fun ev ev' k h => by simp only [h x (by simp), h y (by simp)]) fun ev k fin h g w a st he hs => by
    obtain ⟨p, h1, h2, h3⟩ := apeq_same h (he x (by simp)) (he y (by simp))
    obtain ⟨i, hi, _⟩ := Option.map_eq_some_iff.1 ht
    refine ⟨_, _, h3, ?_, rfl⟩
    simp only [execOp, mkOp, h1, h2, Sem.run_bind, run_eqGuard_ptr, Result.andThen_ok, run_eql_ptr_same (P := P) w p hT hi]; rfl
def opNeP (dst : Option Tmp) (T t : TypeId) (hT : P.underlying T = some (.pointer t)) (sz : Nat) (ht : (P.info? t).map (·.size) = some sz) (x y : Operand) (T' : TypeId) (ty : TypeId) (pos : String) (after : Array Edge) : PSim P :=
  PSim.quiet (mkOp dst (.binOp .neq T x y T') ty pos after) rfl [x, y] (fun ev k => apeq (ev x) (ev y) fun b => k (.bool !b)) (fun ev ev' k h => by simp only [h x (by simp), h y (by simp)]) fun ev k fin h g w a st he hs => by
    obtain ⟨p, h1, h2, h3⟩ := apeq_same h (he x (by simp)) (he y (by simp))
    obtain ⟨i, hi, _⟩ := Option.map_eq_some_iff.1 ht
    refine ⟨_, _, h3, ?_, rfl⟩
    simp only [execOp, mkOp, h1, h2, Sem.run_bind, run_eqGuard_ptr, Result.andThen_ok, Lib.run_neq_ptr_same (P := P) w p hT hi]; rfl

/-! ### A text taken out of a growing row -/
/-- A register is given up, its block gets a mark. -/
theorem reg_gone {g : Gh} {st : St} {w w' : World} (hs : StRel g st w) {j v : Nat} {cs : List AV} (hcs : st.objs[j]? = some (.vec v cs)) {b : Nat} (hkb : g.kind b = .vec j) {C : Array Value} {E : TypeId} {fz : Nat × Nat} (hC : w.heap[b]? = some (.cells C E (0, 0)))
    (h1 : w'.os = w.os) (h2 : w'.tape = w.tape) (h3 : w'.output = w.output) (h4 : w'.heap.size = w.heap.size) (h5 : ∀ x, x ≠ b → w'.heap[x]? = w.heap[x]?) (h6 : w'.heap[b]? = some (.cells C E fz)) :
    ∃ g', StRel g' ⟨st.objs.set j (.nov (v + 1)), st.tk⟩ w' ∧ Ev g w g' w' := by
  have hjl : j < g.objs.length := by rw [hs.len]; exact getElem?_lt hcs
  have hb := lt_of_block hC
  have hver := (vec_of hs hjl hcs).1
  have huniq := (hs.vec b j hb hkb).2
  let g' : Gh := ⟨fun x => if x = b then .solid else g.kind x, g.objs, g.tk, fun x => if x = j then v + 1 else g.ver x⟩
  have hne : ∀ x, g.kind x ≠ .vec j → x ≠ b := fun x hx e => hx (by rw [e]; exact hkb)
  have hk : ∀ x, g.kind x ≠ .vec j → g'.kind x = g.kind x := fun x hx => by simp only [g']; rw [if_neg (hne x hx)]
  have hback : ∀ x y, x < w.heap.size → g'.kind x = y → y ≠ .solid → g.kind x = y ∧ y ≠ .vec j := by
    intro x y hs' hx hy
    simp only [g'] at hx
    split at hx
    · exact absurd hx.symm hy
    · rename_i h; exact ⟨hx, fun e => h (huniq x hs' (hx.trans e))⟩
  have hE : Ev g w g' w' := by
    refine ⟨h1, h2, h3, Nat.le_of_eq h4.symm, fun x hx hf => ⟨?_, ?_⟩, fun x t hx hf => ⟨?_, fun C E fz h => ⟨C, ?_, rfl, fun _ _ => rfl⟩⟩, fun x k hx hf => .inl ?_, fun _ _ h => h, tk_refl _, fun k hk => ?_, fun x k hx hkl hf hv => ?_, fun x C1 E1 f1 hC1 => ?_⟩
    · exact hk x (by intro e; rw [e] at hf; cases hf)
    · exact h5 x (hne x (by intro e; rw [e] at hf; cases hf))
    · exact (hk x (by intro e; rw [e] at hf; cases hf)).trans hf
    · exact (h5 x (hne x (by intro e; rw [e] at hf; cases hf))).trans h
    · exact (hk x (by intro e; rw [e] at hf; cases hf)).trans hf
    · simp only [g']
      split
      · rename_i e; subst e; omega
      · exact Nat.le_refl _
    · have hnj : g.kind x ≠ .vec j := by
        intro e
        rw [e] at hf
        cases hf
        simp only [g', if_true] at hv
        omega
      exact ⟨(hk x hnj).trans hf, fun C E fz h => ⟨C, (h5 x (hne x hnj)).trans h, rfl⟩⟩
    · by_cases hxb : x = b
      · subst hxb
        rw [hC] at hC1
        cases hC1
        exact ⟨_, _, h6, rfl⟩
      · exact ⟨C1, f1, (h5 x hxb).trans hC1, rfl⟩
  refine ⟨g', ⟨hs.tk, by simp [g', hs.len], fun k b' o hk' ho => ?_, fun x k hx hf => ?_, fun x t hx hf => ?_, fun x k hx hf => ?_⟩, hE⟩
  · by_cases hkj : k = j
    · subst hkj
      rw [List.getElem?_set_self (getElem?_lt hcs)] at ho
      cases ho
      exact ⟨by rw [h4]; exact (hs.obj k b' _ hk' hcs).1, by show (if k = k then v + 1 else _) = _; rw [if_pos rfl]⟩
    · rw [List.getElem?_set_ne (fun e => hkj e.symm)] at ho
      obtain ⟨p1, p2⟩ := hs.obj k b' o hk' ho
      refine ⟨by rw [h4]; exact p1, ?_⟩
      have hver' : g'.ver k = g.ver k := by show (if k = j then v + 1 else _) = _; rw [if_neg hkj]
      have hv : ∀ b'', b'' < w.heap.size → g.kind b'' = .vec k → w'.heap[b'']? = w.heap[b'']? ∧ g'.kind b'' = .vec k := fun b'' _ hh =>
        have hh' : g.kind b'' ≠ .vec j := by rw [hh]; intro e; cases e; exact hkj rfl
        ⟨h5 b'' (hne b'' hh'), (hk b'' hh').trans hh⟩
      cases o with
      | gone => trivial
      | nov v => exact hver'.trans p2
      | cells cs' =>
        have hh : g.kind b' ≠ .vec j := by rw [p2.1]; intro e; cases e
        exact p2.keep hE (h5 b' (hne b' hh)) (hk b' hh) hv hver'
      | map es =>
        have hh : g.kind b' ≠ .vec j := by rw [p2.1]; intro e; cases e
        exact p2.keep hE (h5 b' (hne b' hh)) (hk b' hh) hv hver'
      | vec v cs' =>
        obtain ⟨e1, b'', e2, e3, C1, E1, e4, e5, e6⟩ := p2
        obtain ⟨f1, f2⟩ := hv b'' e2 e3
        exact ⟨hver'.trans e1, b'', by rw [h4]; exact e2, f2, C1, E1, f1.trans e4, RelAll.mono hE _ _ e5, e6⟩
  · obtain ⟨k1, _⟩ := hback x _ (by rw [← h4]; exact hx) hf (by intro e; cases e)
    obtain ⟨o, k3, k4, k5⟩ := hs.back x k (by rw [← h4]; exact hx) k1
    have hkj : k ≠ j := by intro e; subst e; rw [hcs] at k3; cases k3; exact k5.elim
    exact ⟨o, by rw [List.getElem?_set_ne (fun e => hkj e.symm)]; exact k3, k4, k5⟩
  · obtain ⟨k1, _⟩ := hback x _ (by rw [← h4]; exact hx) hf (by intro e; cases e)
    exact hs.rowlt x t (by rw [← h4]; exact hx) k1
  · obtain ⟨k1, k2⟩ := hback x _ (by rw [← h4]; exact hx) hf (by intro e; cases e)
    obtain ⟨⟨v', cs', k3⟩, k4⟩ := hs.vec x k (by rw [← h4]; exact hx) k1
    have hkj : k ≠ j := by intro e; subst e; exact k2 rfl
    refine ⟨⟨v', cs', by rw [List.getElem?_set_ne (fun e => hkj e.symm)]; exact k3⟩, fun x' hx' hf' => ?_⟩
    obtain ⟨k5, _⟩ := hback x' _ (by rw [← h4]; exact hx') hf' (by intro e; cases e)
    exact k4 x' (by rw [← h4]; exact hx') k5

/-- unsafe.SliceData. -/
def asliceD (x : AV) (k : AV → Ans) : Ans :=
  match x with
  | .nilsl => k .nilptr
  | .vs j v _ n => match n with
    | 0 => none
    | _ + 1 => k (.vp j v 0)
  | _ => none
def opSliceData (dst : Option Tmp) (x : Operand) (tys : Array TypeId) (ty : TypeId) (pos : String) (after : Array Edge) : PSim P :=
  PSim.quiet (mkOp dst (.call { callee := .builtin .unsafeSliceData, args := #[x], argTypes := tys }) ty pos after) rfl [x] (fun ev k => asliceD (ev x) k) (fun ev ev' k h => by simp only [h x (by simp)]) fun ev k fin h g w a st he hs => by
    have hv := he x (by simp)
    rw [callBuiltin]
    unfold asliceD at h
    split at h
    · rename_i hb
      rw [hb] at hv
      have hv : a.eval x = .slice none 0 0 := hv
      exact ⟨_, _, h, by simp [builtin, hv, Lib.run_unsafeSliceData_nil], rfl⟩
    · rename_i j v s n hb
      split at h
      · cases h
      · rename_i n'
        rw [hb] at hv
        obtain ⟨b, c, hv, h1, h2, h3, h4⟩ := hv
        exact ⟨_, _, h, by simp [builtin, hv, Lib.run_unsafeSliceData_row (P := P) w tys ty ⟨b, 0, none⟩ (n' + 1) c (by omega)], b, rfl, h2, h3, fun e => ⟨(h4 e).1, by obtain ⟨_, C, E, fz, q, _⟩ := h4 e; exact lt_of_block q⟩⟩
    · cases h

/-- The bytes of cells, if they are bytes. -/
def byteC (c : AV) : Option Nat :=
  match c with
  | .int .u8 n => match decide (0 ≤ n) && decide (n < 256) with
    | true => some n.toNat
    | false => none
  | _ => none
def bytesC : List AV → Option (List Nat)
  | [] => some []
  | c :: cs => match byteC c with
    | some n => match bytesC cs with
      | some l => some (n :: l)
      | none => none
    | none => none
theorem byteC_of {n : Nat} (h : n < 256) : byteC (.int .u8 (n : Int)) = some n := by
  have e : (decide (0 ≤ (n : Int)) && decide ((n : Int) < 256)) = true := by simp; omega
  unfold byteC
  simp only [e, Int.toNat_natCast]
theorem byteC_spec {c : AV} {n : Nat} (h : byteC c = some n) : c = .int .u8 (n : Int) ∧ n < 256 := by
  unfold byteC at h
  split at h
  · split at h
    · rename_i m hn
      simp only [Bool.and_eq_true, decide_eq_true_eq] at hn
      cases h
      exact ⟨by rw [Int.toNat_of_nonneg hn.1], by omega⟩
    · cases h
  · cases h
theorem bytesC_bC : ∀ {l : List Nat}, (∀ x ∈ l, x < 256) → bytesC (bC l) = some l
  | [], _ => rfl
  | x :: l, h => by
    have ih := bytesC_bC (l := l) fun y hy => h y (List.mem_cons_of_mem _ hy)
    show bytesC (.int .u8 (x : Int) :: bC l) = _
    simp only [bytesC, byteC_of (h x List.mem_cons_self), ih]
theorem bytesC_rel {g : Gh} {w : World} : ∀ {cs : List AV} {l : List Nat} {vs : List Value}, bytesC cs = some l → RelAll g w cs vs → vs = l.map (fun x : Nat => Value.int .u8 (x : Int)) ∧ ∀ x ∈ l, x < 256
  | [], l, vs, h, hr => by
    simp only [bytesC, Option.some.injEq] at h
    subst h
    obtain rfl : vs = [] := hr
    exact ⟨rfl, by simp⟩
  | c :: cs, l, vs, h, hr => by
    simp only [bytesC] at h
    split at h
    · rename_i n hn
      split at h
      · rename_i l' hl
        cases h
        obtain ⟨hc, hlt⟩ := byteC_spec hn
        obtain ⟨v, vr, rfl, h1, h2⟩ := hr
        rw [hc] at h1
        obtain rfl : v = .int .u8 (n : Int) := h1
        obtain ⟨k1, k2⟩ := bytesC_rel hl h2
        refine ⟨by rw [k1]; rfl, fun x hx => ?_⟩
        rcases List.mem_cons.mp hx with rfl | hx
        · exact hlt
        · exact k2 x hx
      · cases h
    · cases h
/-- Bytes as a text. -/
def strB (l : List Nat) : ByteArray := ⟨(l.map fun n => UInt8.ofNat n).toArray⟩
/-- Does the cell ahead of a register know its row's type? -/
def tyAt (os : List Ob) (j v : Nat) : Bool :=
  match j with
  | 0 => false
  | i + 1 => match os[i]? with
    | some (.cells [_, .vs j' v' s _]) => Nat.beq j' (i + 1) && (Nat.beq v' v && Nat.beq s 1)
    | _ => false
theorem tyAt_spec {g : Gh} {st : St} {w : World} (hs : StRel g st w) {j v : Nat} (h : tyAt st.objs j v = true) {cs : List AV} (hcs : st.objs[j]? = some (.vec v cs)) {b : Nat} (hb : b < w.heap.size) (hk : g.kind b = .vec j) : ∃ C E fz, w.heap[b]? = some (.cells C E fz) ∧ okE 1 E = true := by
  unfold tyAt at h
  split at h
  · cases h
  · rename_i i
    split at h
    · rename_i x j' v' s n ho
      simp only [Bool.and_eq_true] at h
      obtain rfl := Nat.eq_of_beq_eq_true h.1
      obtain rfl := Nat.eq_of_beq_eq_true h.2.1
      obtain rfl := Nat.eq_of_beq_eq_true h.2.2
      have hil : i < g.objs.length := by rw [hs.len]; exact getElem?_lt ho
      obtain ⟨_, C, E, hC, hr, _⟩ := (hs.obj i _ _ (List.getElem?_eq_getElem hil) ho).2
      obtain ⟨u, ur, e1, _, u2, ur2, e2, h2, _⟩ := hr
      obtain ⟨b', c, _, _, q3, q4, q5⟩ := h2
      have hver := (vec_of hs q3 hcs).1
      obtain ⟨q6, C', E', fz', q7, q8, _⟩ := q5 hver.symm
      obtain rfl := (hs.vec b _ hb hk).2 b' (lt_of_block q7) q6
      exact ⟨C', E', fz', q7, q8⟩
    · cases h
/-- So many bytes, and at least one. -/
noncomputable def uOk (m : Int) (n : Nat) : Bool := opq (decide (m = n) && (decide (n ≠ 0) && decide (n ≤ 9223372036854775807)))
theorem uOk_iff {m : Int} {n : Nat} : uOk m n = true ↔ m = n ∧ n ≠ 0 ∧ n ≤ 9223372036854775807 := by rw [uOk, opq_eq]; simp
/-- unsafe.String. -/
noncomputable def austr (p n : AV) (st : St) (k : AV → St → Ans) : Ans :=
  match n with
  | .int .i64 m => match p with
    | .nilptr => match decide (m = 0) with
      | true => k (.str ByteArray.empty) st
      | false => none
    | .vp j v o => match Nat.beq o 0 && tyAt st.objs j v with
      | true => match st.objs[j]? with
        | some (.vec v' cs) => match Nat.beq v v' && uOk m cs.length with
          | true => onSome (bytesC cs) none fun l => k (.str (strB l)) ⟨st.objs.set j (.nov (v + 1)), st.tk⟩
          | false => none
        | _ => none
      | false => none
    | _ => none
  | _ => none
theorem austr_nat (p n : AV) (st : St) (k : AV → St → Ans) : austr p n st k = thenM (austr p n st retM) k := by
  unfold austr
  split
  · split
    · split <;> rfl
    · split
      · split
        · split
          · unfold onSome
            split <;> rfl
          · rfl
        · rfl
      · rfl
    · rfl
  · rfl
noncomputable def opUString (dst : Option Tmp) (p n : Operand) (pt it e : TypeId) (hp : P.underlying pt = some (.pointer e)) (hc : P.cellsOf e = 1) (hE : ∀ E, okE 1 E = true → E = e) (ty : TypeId) (pos : String) (after : Array Edge) : MSim P :=
  MSim.makes (mkOp dst (.call { callee := .builtin .unsafeString, args := #[p, n], argTypes := #[pt, it] }) ty pos after) rfl [p, n] (fun ev st k => austr (ev p) (ev n) st k) (fun ev ev' st k h => by simp only [h p (by simp), h n (by simp)]) fun ev st k fin h g w a he hs => by
    have hvp := he p (by simp)
    have hvn := he n (by simp)
    rw [callBuiltin]
    unfold austr at h
    split at h
    · rename_i m hn
      rw [hn] at hvn
      have hvn : a.eval n = .int .i64 m := hvn
      split at h
      · rename_i hb
        rw [hb] at hvp
        have hvp : a.eval p = .pointer none := hvp
        split at h
        · rename_i hm
          have hm : m = 0 := of_decide_eq_true hm
          subst hm
          exact ⟨_, _, _, g, w, h, by simp [builtin, hvp, hvn, Lib.run_unsafeString_none], rfl, hs, Ev.refl g w⟩
        · cases h
      · rename_i j v o hb
        split at h
        · rename_i hc1
          rw [Bool.and_eq_true] at hc1
          obtain rfl := Nat.eq_of_beq_eq_true hc1.1
          split at h
          · rename_i v' cs hcs
            split at h
            · rename_i hc2
              rw [Bool.and_eq_true] at hc2
              obtain rfl := Nat.eq_of_beq_eq_true hc2.1
              obtain ⟨hm, hn0, hn1⟩ := uOk_iff.mp hc2.2
              subst hm
              unfold onSome at h
              split at h
              · cases h
              · rename_i l hl
                · 
                  rw [hb] at hvp
                  obtain ⟨b, hv1, hbl, hkb, C, E, hC, hr, hrc⟩ := vp_of hs hvp hcs
                  obtain ⟨C', E', fz', hC', hok⟩ := tyAt_spec hs hc1.2 hcs hbl hkb
                  rw [hC] at hC'
                  cases hC'
                  obtain rfl := hE _ hok
                  have hrl := RelAll.length _ _ hr
                  obtain ⟨hvs, hlt⟩ := bytesC_rel hl hr
                  have hll : l.length = cs.length := by
                    have := congrArg List.length hvs
                    rw [List.length_map, ← hrl] at this
                    exact this.symm
                  have hle : cs.length ≤ C.size := by
                    rw [List.length_take] at hrl
                    have e1 : C.toList.length = C.size := Array.length_toList
                    omega
                  have hsh : w.shape? b = some (E, C.size) := by unfold World.shape?; rw [hC]
                  have hcell : ∀ i x, (l.map fun n => UInt8.ofNat n)[i]? = some x → w.cell? ((⟨b, 0, none⟩ : Addr).add i) = some (.int .u8 x.toNat) := by
                    intro i x hi
                    rw [List.getElem?_map] at hi
                    cases hli : l[i]? with
                    | none => rw [hli] at hi; cases hi
                    | some y =>
                      rw [hli] at hi
                      cases hi
                      have hy := hlt y (List.mem_of_getElem? hli)
                      have h9 : (C.toList.take cs.length)[i]? = some (Value.int .u8 (y : Int)) := by rw [hvs, List.getElem?_map, hli]; rfl
                      rw [List.getElem?_take] at h9
                      split at h9
                      · rw [add_none, Nat.zero_add, cell_of hC]
                        rw [show (UInt8.ofNat y).toNat = y from UInt8.toNat_ofNat_of_lt' hy]
                        simpa using h9
                      · cases h9
                  have hrun := Lib.run_unsafeString_row (P := P) w pt it ty E hp hc b C.size hsh (l.map fun n => UInt8.ofNat n) (by intro e; have := congrArg List.length e; simp at this; subst this; simp at hll; omega) (by rw [List.length_map]; omega) (by rw [List.length_map, hll]; omega) hcell
                  rw [List.length_map, hll] at hrun
                  have hnz : cs.length ≠ 0 := by omega
                  obtain ⟨g', k1, k2⟩ := reg_gone (w' := w.freeze ⟨b, 0, none⟩ cs.length) (fz := (0, 0 + cs.length)) hs hcs hkb hC (by unfold World.freeze; rw [if_neg hnz]) (by unfold World.freeze; rw [if_neg hnz]) (by unfold World.freeze; rw [if_neg hnz])
                    (by unfold World.freeze; rw [if_neg hnz]; simp) (fun y hy => by
                      unfold World.freeze; rw [if_neg hnz]
                      simp only [Array.getElem?_modify]
                      rw [if_neg (by omega)]) (by
                      unfold World.freeze; rw [if_neg hnz]
                      simp only [Array.getElem?_modify, if_true, hC]
                      rfl)
                  exact ⟨_, _, _, g', _, h, by simp [builtin, hv1, hvn, hrun]; rfl, rfl, k1, k2⟩
            · cases h
          · cases h
        · cases h
      · cases h
    · cases h
theorem opUString_nat {dst : Option Tmp} {p n : Operand} {pt it e : TypeId} {hp : P.underlying pt = some (.pointer e)} {hc : P.cellsOf e = 1} {hE : ∀ E, okE 1 E = true → E = e} {ty : TypeId} {pos : String} {after : Array Edge} : (opUString (P := P) dst p n pt it e hp hc hE ty pos after).NatM := fun ev st k => austr_nat _ _ _ _
theorem opSliceData_nat {dst : Option Tmp} {x : Operand} {tys : Array TypeId} {ty : TypeId} {pos : String} {after : Array Edge} : (opSliceData (P := P) dst x tys ty pos after).Nat := fun ev k => by
  show asliceD (ev x) k = thenA (asliceD (ev x) retA) k
  unfold asliceD
  split
  · rfl
  · split <;> rfl
  · rfl
theorem flatIf_nat {α : Type} {f : Fun P} {dec : List AV → Option α} {enc : α → List AV} {hde} {pre : α → Bool} {g : α → AV} {hs} {hg} {hr} : (Fun.flatIf f dec enc hde pre g hs hg hr).Nat := by
  intro args k
  simp only [Fun.flatIf]
  cases dec args with
  | none => rfl
  | some a => simp only []; cases pre a <;> rfl
theorem onStr_th {x : AV} {s s' : ByteArray → Ans} {k : Fin → St → Ans} (h : ∀ b, s b = thS (s' b) k) : onStr x s = thS (onStr x s') k := by
  unfold onStr
  split
  · exact h _
  · rfl
def dec1s : List AV → Option ByteArray
  | [x] => match x with
    | .str s => some s
    | _ => none
  | _ => none
theorem dec1s_enc : ∀ l a, dec1s l = some a → l = [.str a] := by
  intro l a h
  unfold dec1s at h
  split at h
  · split at h
    · cases h; rfl
    · cases h
  · cases h
/-! ### Numbers that aren't looked into -/
noncomputable def hideI (x : AV) : AV :=
  match x with
  | .int k n => .int k (opq n)
  | x => x
theorem hideI_eq (x : AV) : hideI x = x := by
  unfold hideI
  split
  · rw [opq_eq]
  · rfl
noncomputable def PSim.hide (y : PSim P) : PSim P where
  oper := y.oper
  plain := y.plain
  xs := y.xs
  f ev k := y.f ev fun r => k (hideI r)
  congr ev ev' k h := y.congr ev ev' _ h
  sound ev k fin h g w a st he hs := by
    obtain ⟨r, h1, h2⟩ := y.sound ev _ fin h g w a st he hs
    exact ⟨r, by rw [hideI_eq] at h1; exact h1, h2⟩
theorem PSim.hide_nat {y : PSim P} (h : y.Nat) : y.hide.Nat := fun ev k => by
  show y.f ev (fun r => k (hideI r)) = thenA (y.f ev fun r => retA (hideI r)) k
  rw [h ev (fun r => k (hideI r)), h ev (fun r => retA (hideI r))]
  cases y.f ev retA with
  | none => rfl
  | some x =>
    obtain ⟨f, s⟩ := x
    cases f with
    | ret r => simp only [thenA, retA, hideI_eq]
    | pan r => rfl
/-! ### Texts by words -/
/-- A text's bytes. -/
def strL (s : ByteArray) : List Nat := s.data.toList.map UInt8.toNat
theorem strL_lt (s : ByteArray) : ∀ x ∈ strL s, x < 256 := by
  intro x hx
  obtain ⟨c, _, rfl⟩ := List.mem_map.mp hx
  exact c.toNat_lt
theorem strL_size (s : ByteArray) : s.size = (strL s).length := by simp [strL]
theorem strL_strB {l : List Nat} (h : ∀ x ∈ l, x < 256) : strL (strB l) = l := by
  simp only [strL, strB, List.map_map]
  conv => rhs; rw [← List.map_id l]
  refine List.map_congr_left fun x hx => ?_
  show (UInt8.ofNat x).toNat = x
  exact UInt8.toNat_ofNat_of_lt' (h x hx)
theorem strB_strL (s : ByteArray) : strB (strL s) = s := by
  have : (strL s).map (fun n => UInt8.ofNat n) = s.data.toList := by
    simp only [strL, List.map_map]
    conv => rhs; rw [← List.map_id s.data.toList]
    refine List.map_congr_left fun x hx => ?_
    show UInt8.ofNat x.toNat = x
    simp
  cases s with
  | mk d => simp only [strB, this]
theorem strL_inj {a b : ByteArray} (h : strL a = strL b) : a = b := by rw [← strB_strL a, h, strB_strL]
theorem strL_append (a b : ByteArray) : strL (a ++ b) = strL a ++ strL b := by simp [strL]
theorem strL_extract (s : ByteArray) (l h : Nat) : strL (s.extract l h) = ((strL s).take h).drop l := by
  simp [strL, List.map_take, List.map_drop, List.extract_eq_take_drop, List.drop_take]
noncomputable def inT (s : ByteArray) (j : Int) : Bool := cdec (0 ≤ j ∧ j.toNat < (strL s).length)
theorem inT_iff {s : ByteArray} {j : Int} : inT s j = true ↔ 0 ≤ j ∧ j.toNat < (strL s).length := cdec_iff
noncomputable def atT (s : ByteArray) (j : Int) : Int := opq (((strL s).getD j.toNat 0 : Nat) : Int)
noncomputable def astrW (x i : AV) (k : AV → Ans) : Ans := onStr x fun s => onInt i fun _ j => branch (.bool (inT s j)) (k (.int .u8 (atT s j))) none
theorem branch_some {b : Bool} {y n : Ans} {fin : Fin × St} (h : branch (.bool b) y n = some fin) : (b = true ∧ y = some fin) ∨ (b = false ∧ n = some fin) := by
  cases b
  · exact .inr ⟨rfl, h⟩
  · exact .inl ⟨rfl, h⟩
noncomputable def opIndexStrW (dst : Option Tmp) (T : TypeId) (x i : Operand) (hT : P.underlying T = some .string) (ty : TypeId) (pos : String) (after : Array Edge) : PSim P :=
  (opIndexStr dst T x i hT ty pos after).by' (fun ev k => astrW (ev x) (ev i) k) (fun ev ev' k h => by rw [h x (by simp [opIndexStr, PSim.quiet]), h i (by simp [opIndexStr, PSim.quiet])]) fun ev k fin h => by
    obtain ⟨s, h1, h2⟩ := onStr_some h
    obtain ⟨kd, j, h3, h4⟩ := onInt_some h2
    rcases branch_some h4 with ⟨h5, h6⟩ | ⟨_, h6⟩
    · obtain ⟨h7, h8⟩ := inT_iff.mp h5
      show astr (ev x) (ev i) k = some fin
      have e : s[j.toNat]? = some (s.data.toList[j.toNat]'(by simpa [strL] using h8)) := by
        have h9 : j.toNat < s.size := by rw [strL_size]; exact h8
        rw [getElem?_pos s j.toNat h9]
        rfl
      rw [h1, h3]
      simp only [astr, if_pos h7, e]
      rw [← h6, atT, opq_eq]
      congr 2
      have h9 : j.toNat < s.data.toList.length := by simpa [strL] using h8
      simp [strL, List.getD_eq_getElem?_getD, List.getElem?_eq_getElem h9]
    · cases h6
noncomputable def inSl (s : ByteArray) (l h : Int) : Bool := cdec (0 ≤ l ∧ l ≤ h ∧ h ≤ (strL s).length)
theorem inSl_iff {s : ByteArray} {l h : Int} : inSl s l h = true ↔ 0 ≤ l ∧ l ≤ h ∧ h ≤ (strL s).length := cdec_iff
noncomputable def subT (s : ByteArray) (l h : Int) : ByteArray := opq (s.extract l.toNat h.toNat)
theorem subT_list (s : ByteArray) (l h : Int) : strL (subT s l h) = ((strL s).take h.toNat).drop l.toNat := by rw [subT, opq_eq, strL_extract]
noncomputable def aslW (x : AV) (lo hi : Option AV) (k : AV → Ans) : Ans :=
  onStr x fun s => match hi with
    | none => match lo with
      | none => none
      | some l => onInt l fun _ l => branch (.bool (inSl s l s.size)) (k (.str (subT s l s.size))) none
    | some h => onInt h fun _ h => match lo with
      | none => branch (.bool (inSl s 0 h)) (k (.str (subT s 0 h))) none
      | some l => onInt l fun _ l => branch (.bool (inSl s l h)) (k (.str (subT s l h))) none
noncomputable def opSliceStrW (dst : Option Tmp) (T : TypeId) (x : Operand) (lo hi : Option Operand) (hT : P.underlying T = some .string) (ty : TypeId) (pos : String) (after : Array Edge) : PSim P :=
  (opSliceStr dst T x lo hi hT ty pos after).by' (fun ev k => aslW (ev x) (lo.map ev) (hi.map ev) k) (fun ev ev' k h => by
    have h' : ∀ o ∈ sliceOps x lo hi none, ev o = ev' o := h
    rw [h' x sliceOps_x, map_evO h' (o := lo) sliceOps_lo, map_evO h' (o := hi) sliceOps_hi]) fun ev k fin h => by
    obtain ⟨s, h1, h2⟩ := onStr_some h
    show asliceStr (ev x) (lo.map ev) (hi.map ev) none k = some fin
    rw [h1]
    have hsz : (s.size : Int).toNat = s.size := Int.toNat_natCast _
    cases hh : hi.map ev with
    | none =>
      rw [hh] at h2
      cases hl : lo.map ev with
      | none => rw [hl] at h2; cases h2
      | some l =>
        rw [hl] at h2
        obtain ⟨kd, j, h3, h4⟩ := onInt_some h2
        rcases branch_some h4 with ⟨h5, h6⟩ | ⟨_, h6⟩
        · obtain ⟨h7, h8, h9⟩ := inSl_iff.mp h5
          rw [h3]
          simp only [asliceStr, abounds, bnd]
          rw [if_pos ⟨h7, by omega⟩, ← h6, subT, opq_eq, hsz]
        · cases h6
    | some hv =>
      rw [hh] at h2
      obtain ⟨kd, j, h3, h4⟩ := onInt_some h2
      rw [h3]
      cases hl : lo.map ev with
      | none =>
        rw [hl] at h4
        rcases branch_some h4 with ⟨h5, h6⟩ | ⟨_, h6⟩
        · obtain ⟨h7, h8, h9⟩ := inSl_iff.mp h5
          have := strL_size s
          simp only [asliceStr, abounds, bnd]
          rw [if_pos ⟨by omega, by omega⟩, ← h6, subT, opq_eq]
          rfl
        · cases h6
      | some l =>
        rw [hl] at h4
        obtain ⟨kd', i, h3', h4'⟩ := onInt_some h4
        rcases branch_some h4' with ⟨h5, h6⟩ | ⟨_, h6⟩
        · obtain ⟨h7, h8, h9⟩ := inSl_iff.mp h5
          have := strL_size s
          rw [h3']
          simp only [asliceStr, abounds, bnd]
          rw [if_pos ⟨by omega, by omega⟩, if_pos ⟨h7, by omega⟩, ← h6, subT, opq_eq]
        · cases h6
noncomputable def catOk (a b : ByteArray) : Bool := cdec ((strL a).length + (strL b).length ≤ 9223372036854775807)
noncomputable def catT (a b : ByteArray) : ByteArray := opq (a ++ b)
theorem catT_list (a b : ByteArray) : strL (catT a b) = strL a ++ strL b := by rw [catT, opq_eq, strL_append]
noncomputable def acatW (x y : AV) (k : AV → Ans) : Ans := onStr x fun a => onStr y fun b => branch (.bool (catOk a b)) (k (.str (catT a b))) none
noncomputable def opCatW (dst : Option Tmp) (T : TypeId) (x y : Operand) (T' : TypeId) (ty : TypeId) (pos : String) (after : Array Edge) : PSim P :=
  (opBinS dst .add T x y T' ty pos after).by' (fun ev k => acatW (ev x) (ev y) k) (fun ev ev' k h => by rw [h x (by simp [opBinS, PSim.quiet]), h y (by simp [opBinS, PSim.quiet])]) fun ev k fin h => by
    obtain ⟨a, h1, h2⟩ := onStr_some h
    obtain ⟨b, h3, h4⟩ := onStr_some h2
    rcases branch_some h4 with ⟨h5, h6⟩ | ⟨_, h6⟩
    · have h7 := cdec_iff.mp h5
      show abinS .add (ev x) (ev y) k = some fin
      rw [h1, h3]
      have h8 := strL_size a
      have h9 := strL_size b
      have hmax : IntKind.i64.max = 9223372036854775807 := rfl
      show (if ((a.size + b.size : Nat) : Int) > IntKind.i64.max then none else k (.str (a ++ b))) = some fin
      rw [if_neg (by rw [hmax]; omega), ← h6, catT, opq_eq]
    · cases h6
theorem branch_nat {b : Bool} {y y' : Ans} {K : AV → Ans} (h : y = thenA y' K) : branch (.bool b) y none = thenA (branch (.bool b) y' none) K := by
  cases b
  · rfl
  · exact h
theorem opIndexStrW_nat {dst : Option Tmp} {T : TypeId} {x i : Operand} {hT : P.underlying T = some .string} {ty : TypeId} {pos : String} {after : Array Edge} : (opIndexStrW (P := P) dst T x i hT ty pos after).Nat := fun ev k =>
  show astrW (ev x) (ev i) k = thenA (astrW (ev x) (ev i) retA) k from onStr_nat fun _ => onInt_nat fun _ _ => branch_nat rfl
theorem opCatW_nat {dst : Option Tmp} {T : TypeId} {x y : Operand} {T' : TypeId} {ty : TypeId} {pos : String} {after : Array Edge} : (opCatW (P := P) dst T x y T' ty pos after).Nat := fun ev k =>
  show acatW (ev x) (ev y) k = thenA (acatW (ev x) (ev y) retA) k from onStr_nat fun _ => onStr_nat fun _ => branch_nat rfl
theorem opSliceStrW_nat {dst : Option Tmp} {T : TypeId} {x : Operand} {lo hi : Option Operand} {hT : P.underlying T = some .string} {ty : TypeId} {pos : String} {after : Array Edge} : (opSliceStrW (P := P) dst T x lo hi hT ty pos after).Nat := fun ev k => by
  show aslW (ev x) (lo.map ev) (hi.map ev) k = thenA (aslW (ev x) (lo.map ev) (hi.map ev) retA) k
  refine onStr_nat fun s => ?_
  cases hi.map ev with
  | none => cases lo.map ev with
    | none => rfl
    | some l => exact onInt_nat fun _ _ => branch_nat rfl
  | some h =>
    refine onInt_nat fun _ _ => ?_
    cases lo.map ev with
    | none => exact branch_nat rfl
    | some l => exact onInt_nat fun _ _ => branch_nat rfl
/-! ### Answers of many parts that bear no memory -/
mutual
def FlatD : AV → Prop
  | .agg cs => FlatDL cs
  | .tup cs => FlatDL cs
  | .bool _ => True
  | .int _ _ => True
  | .str _ => True
  | .nilptr => True
  | .nilsl => True
  | .nilmap => True
  | .nilfn => True
  | .nilif => True
  | _ => False
def FlatDL : List AV → Prop
  | [] => True
  | x :: l => FlatD x ∧ FlatDL l
end
mutual
theorem FlatD.any {g g' : Gh} {w w' : World} : ∀ (a : AV) (v : Value), FlatD a → Rel g w a v → Rel g' w' a v
  | .agg cs, _, s, ⟨vs, r1, r2, r3⟩ => ⟨vs, r1, FlatDL.any cs vs.toList s r2, r3⟩
  | .tup cs, _, s, ⟨vs, r1, r2⟩ => ⟨vs, r1, FlatDL.any cs vs.toList s r2⟩
  | .bool _, _, _, r => r
  | .int _ _, _, _, r => r
  | .str _, _, _, r => r
  | .nilptr, _, _, r => r
  | .nilsl, _, _, r => r
  | .nilmap, _, _, r => r
  | .nilfn, _, _, r => r
  | .nilif, _, _, r => r
  | .ptr _ _, _, s, _ => s.elim
  | .eptr _, _, s, _ => s.elim
  | .sl _ _ _, _, s, _ => s.elim
  | .lg _ _ _, _, s, _ => s.elim
  | .ms _ _ _ _ _, _, s, _ => s.elim
  | .mp _, _, s, _ => s.elim
  | .fn _ _ _, _, s, _ => s.elim
  | .ifc _ _, _, s, _ => s.elim
  | .dead, _, s, _ => s.elim
  | .ns _ _ _, _, s, _ => s.elim
  | .vs _ _ _ _, _, s, _ => s.elim
  | .vp _ _ _, _, s, _ => s.elim
  | .tp _ _ _, _, s, _ => s.elim
theorem FlatDL.any {g g' : Gh} {w w' : World} : ∀ (l : List AV) (vs : List Value), FlatDL l → RelAll g w l vs → RelAll g' w' l vs
  | [], _, _, r => r
  | x :: l, _, ⟨s1, s2⟩, ⟨v, vr, r1, r2, r3⟩ => ⟨v, vr, r1, FlatD.any x v s1 r2, FlatDL.any l vr s2 r3⟩
end
theorem sealedD {id : FuncId} {args : List AV} {r : AV} {st' : St} (h : CallsTo P id args ⟨[], []⟩ (.ret r, st')) (hs : ScopedL 0 0 args) (hr : FlatD r) (st : St) : CallsTo P id args st (.ret r, st) := by
  intro g w vals hv hst
  refine (h g0 w vals (RelAll.toZero args vals.toList hs hv) (StRel.zero w)).mono fun e w' ⟨g', h1, h2, h3⟩ => ?_
  obtain ⟨v, rfl, hv'⟩ := h1
  have hb := h3.below
  obtain ⟨k1, k2⟩ := kept hst hb.os hb.tape hb.output hb.size hb.block
  exact ⟨_, ⟨v, rfl, FlatD.any _ _ hr hv'⟩, k1, k2⟩
/-- A function whose answer bears no memory, shown at the empty state. -/
def Fun.flatD {α : Type} (f : Fun P) (dec : List AV → Option α) (enc : α → List AV) (hde : ∀ l a, dec l = some a → l = enc a) (pre : α → Bool) (g : α → AV)
    (hs : ∀ a, ScopedL 0 0 (enc a)) (hg : ∀ a, FlatD (g a)) (hrun : ∀ a, pre a = true → ∃ F st', f.run F (enc a) ⟨[], []⟩ = some (.ret (g a), st')) : POrc P where
  id := f.id
  fn := f.fn
  hf := f.hf
  hname := f.hname
  hb := by rw [f.hbody]; rfl
  F args k := match dec args with
    | some a => match pre a with
      | true => k (g a)
      | false => none
    | none => none
  sound k args fin h := by
    split at h
    · rename_i a hd
      split at h
      · rename_i hp
        obtain ⟨F, st', hF⟩ := hrun a hp
        rw [← hde args a hd] at hF
        exact ⟨g a, h, fun st => sealedD (f.sound hF) (by rw [hde args a hd]; exact hs a) (hg a) st⟩
      · cases h
    · cases h
theorem flatD_nat {α : Type} {f : Fun P} {dec : List AV → Option α} {enc : α → List AV} {hde} {pre : α → Bool} {g : α → AV} {hs} {hg} {hr} : (Fun.flatD f dec enc hde pre g hs hg hr).Nat := by
  intro args k
  simp only [Fun.flatD]
  cases dec args with
  | none => rfl
  | some a => simp only []; cases pre a <;> rfl
end
end Go.V

/- The functions' pieces, as told by gen.py. -/
set_option linter.unusedVariables false
set_option maxRecDepth 20000
namespace Go.Proofs.YtcfedmheblbdnaaDoor.V
open Go Go.V Go.RowKit

theorem fl78_0 : fieldB Tryd.prog 78 0 0 1 false = true := by kernel_rfl
theorem sz76 : (Tryd.prog.info? 76).map (·.size) = some 1 := by kernel_rfl
theorem sz78 : (Tryd.prog.info? 78).map (·.size) = some 2 := by kernel_rfl
theorem mixed : Tryd.prog.follows .mixedOrders = true := by kernel_rfl

/-! ### 73: (*strings.Builder).copyCheck (76); results ; slots: 0 b, 1 b -/
noncomputable def f73_b : Sim Tryd.prog :=
  (.seq (.live [0, 6] (.region 0 [
    ⟨(opMove (some 2) (.tmp 0) 76 "builder.go:33" #[]).op, none⟩,
    ⟨(opNilCheck (some 3) (.tmp 2) 0 "builder.go:33" #[{ on := 0, ground := Ground.data }]).op, none⟩,
    ⟨(opFieldAddr (some 4) 78 (.tmp 3) 0 0 1 false fl78_0 (by decide) 0 "builder.go:33" #[{ on := 1, ground := Ground.data }]).op, none⟩,
    ⟨(opLoadT (.one .any) (some 5) 76 (.tmp 4) (.pointer 78) Tryd.underlying76 1 sz76 (by kernel_rfl) 76 "builder.go:33" #[{ on := 2, ground := Ground.data }]).op, none⟩,
    ⟨(opEq (some 6) 76 (.pointer 78) Tryd.underlying76 (.tmp 5) (.const (Value.pointer none)) (.inl rfl) 76 4 "builder.go:33" #[{ on := 3, ground := Ground.data }]).op, none⟩
  ] (by kernel_rfl)))
  (.cond (.tmp 6)
    (.live [] (.region 1 [
      ⟨(opMove (some 7) (.tmp 0) 76 "builder.go:39" #[]).op, none⟩,
      ⟨(opMove (some 8) (.tmp 0) 76 "builder.go:39" #[]).op, none⟩,
      ⟨(opConvPU 78 2 (by decide) (some 9) 76 109 (.tmp 8) 78 Tryd.underlying76 Tryd.underlying109 2 sz78 (by decide) 109 "builder.go:39" #[{ on := 1, ground := Ground.data }]).op, none⟩,
      ⟨(opExtId 88 Tryd.f88 Tryd.func88 (by kernel_rfl) (by kernel_rfl) (by kernel_rfl) (by kernel_rfl) (some 10) (.tmp 9) #[109] 109 "builder.go:39" #[{ on := 2, ground := Ground.data }]).op, none⟩,
      ⟨(opConvUP 78 2 (some 11) 109 76 (.tmp 10) 78 Tryd.underlying109 Tryd.underlying76 2 sz78 (by kernel_rfl) 76 "builder.go:39" #[{ on := 3, ground := Ground.data }]).op, none⟩,
      ⟨(opNilCheck (some 12) (.tmp 7) 0 "builder.go:39" #[{ on := 0, ground := Ground.data }, { on := 0, ground := Ground.phase }, { on := 1, ground := Ground.phase }, { on := 2, ground := Ground.phase }, { on := 3, ground := Ground.phase }, { on := 4, ground := Ground.phase }]).op, none⟩,
      ⟨(opFieldAddr (some 13) 78 (.tmp 12) 0 0 1 false fl78_0 (by decide) 0 "builder.go:39" #[{ on := 5, ground := Ground.data }, { on := 0, ground := Ground.phase }, { on := 1, ground := Ground.phase }, { on := 2, ground := Ground.phase }, { on := 3, ground := Ground.phase }, { on := 4, ground := Ground.phase }]).op, none⟩,
      ⟨(opStore none 76 (.tmp 13) (.tmp 11) 1 sz76 0 "builder.go:39" #[{ on := 6, ground := Ground.data }, { on := 4, ground := Ground.data }, { on := 3, ground := Ground.chain }, { on := 0, ground := Ground.phase }, { on := 1, ground := Ground.phase }, { on := 2, ground := Ground.phase }, { on := 3, ground := Ground.phase }, { on := 4, ground := Ground.phase }]).op, none⟩
    ] (by kernel_rfl)))
    (.seq (.live [19] (.region 2 [
      ⟨(opMove (some 14) (.tmp 0) 76 "builder.go:40" #[]).op, none⟩,
      ⟨(opNilCheck (some 15) (.tmp 14) 0 "builder.go:40" #[{ on := 0, ground := Ground.data }]).op, none⟩,
      ⟨(opFieldAddr (some 16) 78 (.tmp 15) 0 0 1 false fl78_0 (by decide) 0 "builder.go:40" #[{ on := 1, ground := Ground.data }]).op, none⟩,
      ⟨(opLoadT (.one .any) (some 17) 76 (.tmp 16) (.pointer 78) Tryd.underlying76 1 sz76 (by kernel_rfl) 76 "builder.go:40" #[{ on := 2, ground := Ground.data }]).op, none⟩,
      ⟨(opMove (some 18) (.tmp 0) 76 "builder.go:40" #[]).op, none⟩,
      ⟨(opNeP (some 19) 76 78 Tryd.underlying76 2 sz78 (.tmp 17) (.tmp 18) 76 4 "builder.go:40" #[{ on := 3, ground := Ground.data }, { on := 4, ground := Ground.data }]).op, none⟩
    ] (by kernel_rfl)))
    (.cond (.tmp 19)
      (.refuse "(*strings.Builder).copyCheck builder.go:41: unsupported: a written strings.Builder's value in another place: whether the library's copy check passes hangs on where the compiler lays the two")
      .skip))))

noncomputable def f73 : Fun Tryd.prog where
  id := 73
  fn := Tryd.f73
  hf := Tryd.func73
  hname := by kernel_rfl
  body := f73_b
  hbody := by kernel_rfl
  res := []
  hres := by kernel_rfl
  n := 20
  hn := by kernel_rfl

/-! ### 89: internal/stringslite.IndexByte (9, 5); results 4; slots: 0 s, 1 c, 2 s, 3 c -/
noncomputable def f89_b : Sim Tryd.prog :=
  (.seq (.live [0, 1] (.region 0 [
    ⟨(opAssign (some 4) (.const (Value.int IntKind.i64 0)) 3 "strings.go:24" #[]).op, none⟩
  ] (by kernel_rfl)))
  (.seq (.live [4] (.region 1 [
    ⟨(opMove (some 5) (.tmp 0) 9 "strings.go:25" #[]).op, none⟩,
    ⟨(opMove (some 6) (.tmp 1) 5 "strings.go:25" #[]).op, none⟩,
    ⟨(opExtIdx 98 Tryd.f98 Tryd.func98 (by kernel_rfl) (by kernel_rfl) (by kernel_rfl) (by kernel_rfl) (some 7) (.tmp 5) (.tmp 6) #[9, 5] 3 "strings.go:25" #[{ on := 0, ground := Ground.data }, { on := 1, ground := Ground.data }]).op, none⟩,
    ⟨(opAssign (some 4) (.tmp 7) 3 "strings.go:25" #[{ on := 2, ground := Ground.data }, { on := 2, ground := Ground.chain }, { on := 0, ground := Ground.phase }, { on := 1, ground := Ground.phase }, { on := 2, ground := Ground.phase }]).op, none⟩
  ] (by kernel_rfl)))
  (.live [4] .ret)))

noncomputable def f89 : Fun Tryd.prog where
  id := 89
  fn := Tryd.f89
  hf := Tryd.func89
  hname := by kernel_rfl
  body := f89_b
  hbody := by kernel_rfl
  res := [rTmp 4]
  hres := by kernel_rfl
  n := 8
  hn := by kernel_rfl

end Go.Proofs.YtcfedmheblbdnaaDoor.V

/- The functions' pieces, as told by gen.py. -/
set_option linter.unusedVariables false
set_option maxRecDepth 20000
namespace Go.Proofs.YtcfedmheblbdnaaDoor.V
open Go Go.V Go.RowKit

theorem fl78_1 : fieldB Tryd.prog 78 1 1 1 false = true := by kernel_rfl
theorem sz46 : (Tryd.prog.info? 46).map (·.size) = some 1 := by kernel_rfl
theorem ze5 : (Tryd.prog.info? 5).bind (·.zero) = some (.int .u8 0) := by kernel_rfl
theorem by5 : (Tryd.prog.info? 5).map (·.bytes) = some 1 := by kernel_rfl
theorem sz5 : (Tryd.prog.info? 5).map (·.size) = some 1 := by kernel_rfl
theorem el46 : ElemOf Tryd.prog 46 5 1 1 (.int .u8 0) := ⟨Tryd.underlying46, sz5, by5, ze5, by kernel_rfl, by decide⟩

/-! ### 56: (*strings.Builder).WriteByte (76, 5); results 4; slots: 0 b, 1 c, 2 b, 3 c -/
noncomputable def f56_b : Sim Tryd.prog :=
  (.seq (.live [0, 1] (.region 0 [
    ⟨(opAssign (some 4) (.const Value.nilIface) 73 "builder.go:95" #[]).op, none⟩
  ] (by kernel_rfl)))
  (.seq (.live [0, 1] (.region 1 [
    ⟨(opMove (some 5) (.tmp 0) 76 "builder.go:96" #[]).op, none⟩,
    ⟨opCall (f73.orc 0) (some 6) [(.tmp 5)] #[76] 0 "builder.go:96" #[{ on := 0, ground := Ground.data }], none⟩
  ] (by kernel_rfl)))
  (.seq (.live [] (.region 2 [
    ⟨(opMove (some 7) (.tmp 0) 76 "builder.go:97" #[]).op, none⟩,
    ⟨(opMove (some 8) (.tmp 0) 76 "builder.go:97" #[]).op, none⟩,
    ⟨(opNilCheck (some 9) (.tmp 8) 0 "builder.go:97" #[{ on := 1, ground := Ground.data }]).op, none⟩,
    ⟨(opFieldAddr (some 10) 78 (.tmp 9) 1 1 1 false fl78_1 (by decide) 0 "builder.go:97" #[{ on := 2, ground := Ground.data }]).op, none⟩,
    ⟨(opLoadT (.one .any) (some 11) 46 (.tmp 10) (.slice 5) Tryd.underlying46 1 sz46 (by kernel_rfl) 46 "builder.go:97" #[{ on := 3, ground := Ground.data }]).op, none⟩,
    ⟨(opMove (some 12) (.tmp 1) 5 "builder.go:97" #[]).op, none⟩,
    ⟨(opBuildSlice (some 13) 46 1 [(0, (.tmp 12))] 5 1 1 (.int .u8 0) el46 (by kernel_rfl) (by decide) 46 "builder.go:97" #[{ on := 5, ground := Ground.data }]).op, none⟩,
    ⟨(opAppendR (some (.tmp 10)) 1 (some 14) (.tmp 11) (.tmp 13) 46 46 5 1 1 (.int .u8 0) el46 (.slice 5) Tryd.underlying46 rfl 46 "builder.go:97" #[{ on := 4, ground := Ground.data }, { on := 6, ground := Ground.data }]).op, none⟩,
    ⟨(opNilCheck (some 15) (.tmp 7) 0 "builder.go:97" #[{ on := 0, ground := Ground.data }, { on := 0, ground := Ground.phase }, { on := 1, ground := Ground.phase }, { on := 2, ground := Ground.phase }, { on := 3, ground := Ground.phase }, { on := 4, ground := Ground.phase }, { on := 5, ground := Ground.phase }, { on := 6, ground := Ground.phase }, { on := 7, ground := Ground.phase }]).op, none⟩,
    ⟨(opFieldAddr (some 16) 78 (.tmp 15) 1 1 1 false fl78_1 (by decide) 0 "builder.go:97" #[{ on := 8, ground := Ground.data }, { on := 0, ground := Ground.phase }, { on := 1, ground := Ground.phase }, { on := 2, ground := Ground.phase }, { on := 3, ground := Ground.phase }, { on := 4, ground := Ground.phase }, { on := 5, ground := Ground.phase }, { on := 6, ground := Ground.phase }, { on := 7, ground := Ground.phase }]).op, none⟩,
    ⟨(opStore none 46 (.tmp 16) (.tmp 14) 1 sz46 0 "builder.go:97" #[{ on := 9, ground := Ground.data }, { on := 7, ground := Ground.data }, { on := 7, ground := Ground.chain }, { on := 0, ground := Ground.phase }, { on := 1, ground := Ground.phase }, { on := 2, ground := Ground.phase }, { on := 3, ground := Ground.phase }, { on := 4, ground := Ground.phase }, { on := 5, ground := Ground.phase }, { on := 6, ground := Ground.phase }, { on := 7, ground := Ground.phase }]).op, none⟩
  ] (by kernel_rfl)))
  (.seq (.live [4] (.region 3 [
    ⟨(opAssign (some 4) (.const Value.nilIface) 73 "builder.go:98" #[]).op, none⟩
  ] (by kernel_rfl)))
  (.live [4] .ret)))))

noncomputable def f56 : Fun Tryd.prog where
  id := 56
  fn := Tryd.f56
  hf := Tryd.func56
  hname := by kernel_rfl
  body := f56_b
  hbody := by kernel_rfl
  res := [rTmp 4]
  hres := by kernel_rfl
  n := 17
  hn := by kernel_rfl

/-! ### 57: (*strings.Builder).WriteString (76, 9); results 4, 5; slots: 0 b, 1 s, 2 b, 3 s -/
noncomputable def f57_b : Sim Tryd.prog :=
  (.seq (.live [0, 1] (.region 0 [
    ⟨(opAssign (some 4) (.const (Value.int IntKind.i64 0)) 3 "builder.go:112" #[]).op, none⟩,
    ⟨(opAssign (some 5) (.const Value.nilIface) 73 "builder.go:112" #[{ on := 0, ground := Ground.chain }]).op, none⟩
  ] (by kernel_rfl)))
  (.seq (.live [0, 1] (.region 1 [
    ⟨(opMove (some 6) (.tmp 0) 76 "builder.go:113" #[]).op, none⟩,
    ⟨opCall (f73.orc 0) (some 7) [(.tmp 6)] #[76] 0 "builder.go:113" #[{ on := 0, ground := Ground.data }], none⟩
  ] (by kernel_rfl)))
  (.seq (.live [1] (.region 2 [
    ⟨(opMove (some 8) (.tmp 0) 76 "builder.go:114" #[]).op, none⟩,
    ⟨(opMove (some 9) (.tmp 0) 76 "builder.go:114" #[]).op, none⟩,
    ⟨(opNilCheck (some 10) (.tmp 9) 0 "builder.go:114" #[{ on := 1, ground := Ground.data }]).op, none⟩,
    ⟨(opFieldAddr (some 11) 78 (.tmp 10) 1 1 1 false fl78_1 (by decide) 0 "builder.go:114" #[{ on := 2, ground := Ground.data }]).op, none⟩,
    ⟨(opLoadT (.one .any) (some 12) 46 (.tmp 11) (.slice 5) Tryd.underlying46 1 sz46 (by kernel_rfl) 46 "builder.go:114" #[{ on := 3, ground := Ground.data }]).op, none⟩,
    ⟨(opMove (some 13) (.tmp 1) 9 "builder.go:114" #[]).op, none⟩,
    ⟨(opAppendR (some (.tmp 11)) 1 (some 14) (.tmp 12) (.tmp 13) 46 9 5 1 1 (.int .u8 0) el46 .string Tryd.underlying9 rfl 46 "builder.go:114" #[{ on := 4, ground := Ground.data }, { on := 5, ground := Ground.data }]).op, none⟩,
    ⟨(opNilCheck (some 15) (.tmp 8) 0 "builder.go:114" #[{ on := 0, ground := Ground.data }, { on := 0, ground := Ground.phase }, { on := 1, ground := Ground.phase }, { on := 2, ground := Ground.phase }, { on := 3, ground := Ground.phase }, { on := 4, ground := Ground.phase }, { on := 5, ground := Ground.phase }, { on := 6, ground := Ground.phase }]).op, none⟩,
    ⟨(opFieldAddr (some 16) 78 (.tmp 15) 1 1 1 false fl78_1 (by decide) 0 "builder.go:114" #[{ on := 7, ground := Ground.data }, { on := 0, ground := Ground.phase }, { on := 1, ground := Ground.phase }, { on := 2, ground := Ground.phase }, { on := 3, ground := Ground.phase }, { on := 4, ground := Ground.phase }, { on := 5, ground := Ground.phase }, { on := 6, ground := Ground.phase }]).op, none⟩,
    ⟨(opStore none 46 (.tmp 16) (.tmp 14) 1 sz46 0 "builder.go:114" #[{ on := 8, ground := Ground.data }, { on := 6, ground := Ground.data }, { on := 6, ground := Ground.chain }, { on := 0, ground := Ground.phase }, { on := 1, ground := Ground.phase }, { on := 2, ground := Ground.phase }, { on := 3, ground := Ground.phase }, { on := 4, ground := Ground.phase }, { on := 5, ground := Ground.phase }, { on := 6, ground := Ground.phase }]).op, none⟩
  ] (by kernel_rfl)))
  (.seq (.live [4, 5] (.region 3 [
    ⟨(opMove (some 17) (.tmp 1) 9 "builder.go:115" #[]).op, none⟩,
    ⟨(opLen (some 18) (.tmp 17) 9 .string Tryd.underlying9 3 "builder.go:115" #[{ on := 0, ground := Ground.data }]).op, none⟩,
    ⟨(opAssign (some 4) (.tmp 18) 3 "builder.go:115" #[{ on := 1, ground := Ground.data }, { on := 0, ground := Ground.phase }, { on := 1, ground := Ground.phase }]).op, none⟩,
    ⟨(opAssign (some 5) (.const Value.nilIface) 73 "builder.go:115" #[{ on := 2, ground := Ground.chain }, { on := 0, ground := Ground.phase }, { on := 1, ground := Ground.phase }, { on := 2, ground := Ground.phase }]).op, none⟩
  ] (by kernel_rfl)))
  (.live [4, 5] .ret)))))

noncomputable def f57 : Fun Tryd.prog where
  id := 57
  fn := Tryd.f57
  hf := Tryd.func57
  hname := by kernel_rfl
  body := f57_b
  hbody := by kernel_rfl
  res := [rTmp 4, rTmp 5]
  hres := by kernel_rfl
  n := 19
  hn := by kernel_rfl

/-! ### 58: (*strings.Builder).String (76); results 2; slots: 0 b, 1 b -/
noncomputable def f58_b : Sim Tryd.prog :=
  (.seq (.live [0] (.region 0 [
    ⟨(opAssign (some 2) (.const (Value.string { data := #[] })) 9 "builder.go:46" #[]).op, none⟩
  ] (by kernel_rfl)))
  (.seq (.live [2] (.draw 1 [
    ⟨.p (opMove (some 3) (.tmp 0) 76 "builder.go:47" #[]), none⟩,
    ⟨.p (opNilCheck (some 4) (.tmp 3) 0 "builder.go:47" #[{ on := 0, ground := Ground.data }]), none⟩,
    ⟨.pn (opFieldAddr (some 5) 78 (.tmp 4) 1 1 1 false fl78_1 (by decide) 0 "builder.go:47" #[{ on := 1, ground := Ground.data }]) opFieldAddr_nat, none⟩,
    ⟨.qn (opLoadT (.one .any) (some 6) 46 (.tmp 5) (.slice 5) Tryd.underlying46 1 sz46 (by kernel_rfl) 46 "builder.go:47" #[{ on := 2, ground := Ground.data }]) opLoadT_nat, none⟩,
    ⟨.pn (opSliceData (some 7) (.tmp 6) #[46] 93 "builder.go:47" #[{ on := 3, ground := Ground.data }]) opSliceData_nat, none⟩,
    ⟨.p (opMove (some 8) (.tmp 0) 76 "builder.go:47" #[]), none⟩,
    ⟨.p (opNilCheck (some 9) (.tmp 8) 0 "builder.go:47" #[{ on := 5, ground := Ground.data }]), none⟩,
    ⟨.pn (opFieldAddr (some 10) 78 (.tmp 9) 1 1 1 false fl78_1 (by decide) 0 "builder.go:47" #[{ on := 6, ground := Ground.data }]) opFieldAddr_nat, none⟩,
    ⟨.qn (opLoadT (.one .any) (some 11) 46 (.tmp 10) (.slice 5) Tryd.underlying46 1 sz46 (by kernel_rfl) 46 "builder.go:47" #[{ on := 7, ground := Ground.data }]) opLoadT_nat, none⟩,
    ⟨.p (opLen (some 12) (.tmp 11) 46 (.slice 5) Tryd.underlying46 3 "builder.go:47" #[{ on := 8, ground := Ground.data }]), none⟩,
    ⟨.mn (opUString (some 13) (.tmp 7) (.tmp 12) 93 3 5 Tryd.underlying93 (by kernel_rfl) (by intro E h; simpa [okE] using h) 9 "builder.go:47" #[{ on := 4, ground := Ground.data }, { on := 9, ground := Ground.data }]) opUString_nat, none⟩,
    ⟨.p (opAssign (some 2) (.tmp 13) 9 "builder.go:47" #[{ on := 10, ground := Ground.data }, { on := 0, ground := Ground.phase }, { on := 1, ground := Ground.phase }, { on := 2, ground := Ground.phase }, { on := 3, ground := Ground.phase }, { on := 4, ground := Ground.phase }, { on := 5, ground := Ground.phase }, { on := 6, ground := Ground.phase }, { on := 7, ground := Ground.phase }, { on := 8, ground := Ground.phase }, { on := 9, ground := Ground.phase }, { on := 10, ground := Ground.phase }]), none⟩
  ] mixed (by kernel_rfl)))
  (.live [2] .ret)))

noncomputable def f58 : Fun Tryd.prog where
  id := 58
  fn := Tryd.f58
  hf := Tryd.func58
  hname := by kernel_rfl
  body := f58_b
  hbody := by kernel_rfl
  res := [rTmp 2]
  hres := by kernel_rfl
  n := 14
  hn := by kernel_rfl

end Go.Proofs.YtcfedmheblbdnaaDoor.V

/- What the functions' runs come to; the right sides were printed by a tool, Lean checks them. -/
set_option linter.unusedVariables false
set_option maxRecDepth 100000
namespace Go.Proofs.YtcfedmheblbdnaaDoor.V
open Go Go.V Go.RowKit

theorem wb0_run (F v : Nat) (c : Int) :
    (f56.run F [.tp 0 78 2, .int .u8 c] ⟨[.cells [.nilptr, .nilsl], .nov v], []⟩ : Ans) =
    branch (AV.bool (apOk 1 1))
      (some
        (Fin.ret AV.nilif,
          St.mk
            [Ob.cells [AV.tp 0 78 2, AV.vs 1 (v + 1) 1 1],
              Ob.vec (v + 1) (catC [] 0 [[AV.int IntKind.u8 c]])]
            []))
      none := by kernel_rfl

theorem wb1_run (F v : Nat) (c : Int) :
    (f56.run F [.tp 0 78 2, .int .u8 c] ⟨[.cells [.tp 0 78 2, .nilsl], .nov v], []⟩ : Ans) =
    branch (AV.bool (apOk 1 1))
      (some
        (Fin.ret AV.nilif,
          St.mk
            [Ob.cells [AV.tp 0 78 2, AV.vs 1 (v + 1) 1 1],
              Ob.vec (v + 1) (catC [] 0 [[AV.int IntKind.u8 c]])]
            []))
      none := by kernel_rfl

theorem wb2_run (F v n : Nat) (c : Int) (cs : List AV) :
    (f56.run F [.tp 0 78 2, .int .u8 c] ⟨[.cells [.tp 0 78 2, .vs 1 v 1 n], .vec v cs], []⟩ : Ans) =
    branch (AV.bool (v.beq v && (inC cs 0 (mulN n 1) && apOk (n + 1) 1)))
      (some
        (Fin.ret AV.nilif,
          St.mk
            [Ob.cells [AV.tp 0 78 2, AV.vs 1 (v + 1) 1 (n + 1)],
              Ob.vec (v + 1) (catC cs (mulN n 1) [[AV.int IntKind.u8 c]])]
            []))
      none := by kernel_rfl

theorem ws0_run (F v : Nat) (s : ByteArray) :
    (f57.run F [.tp 0 78 2, .str s] ⟨[.cells [.nilptr, .nilsl], .nov v], []⟩ : Ans) =
    branch
      (AV.bool (apOk (List.map (fun (c : UInt8) => [AV.int IntKind.u8 (↑c.toNat : Int)]) s.data.toList).length 1))
      (branch
        (AV.bool ((List.map (fun (c : UInt8) => [AV.int IntKind.u8 (↑c.toNat : Int)]) s.data.toList).length.beq 0))
        (some
          (Fin.ret (AV.tup [AV.int IntKind.i64 (↑s.size : Int), AV.nilif]),
            St.mk [Ob.cells [AV.tp 0 78 2, AV.nilsl], Ob.nov v] []))
        (some
          (Fin.ret (AV.tup [AV.int IntKind.i64 (↑s.size : Int), AV.nilif]),
            St.mk
              [Ob.cells
                  [AV.tp 0 78 2,
                    AV.vs 1 (v + 1) 1
                      (List.map (fun (c : UInt8) => [AV.int IntKind.u8 (↑c.toNat : Int)]) s.data.toList).length],
                Ob.vec (v + 1)
                  (catC [] 0 (List.map (fun (c : UInt8) => [AV.int IntKind.u8 (↑c.toNat : Int)]) s.data.toList))]
              [])))
      none := by kernel_rfl

theorem ws1_run (F v : Nat) (s : ByteArray) :
    (f57.run F [.tp 0 78 2, .str s] ⟨[.cells [.tp 0 78 2, .nilsl], .nov v], []⟩ : Ans) =
    branch
      (AV.bool (apOk (List.map (fun (c : UInt8) => [AV.int IntKind.u8 (↑c.toNat : Int)]) s.data.toList).length 1))
      (branch
        (AV.bool ((List.map (fun (c : UInt8) => [AV.int IntKind.u8 (↑c.toNat : Int)]) s.data.toList).length.beq 0))
        (some
          (Fin.ret (AV.tup [AV.int IntKind.i64 (↑s.size : Int), AV.nilif]),
            St.mk [Ob.cells [AV.tp 0 78 2, AV.nilsl], Ob.nov v] []))
        (some
          (Fin.ret (AV.tup [AV.int IntKind.i64 (↑s.size : Int), AV.nilif]),
            St.mk
              [Ob.cells
                  [AV.tp 0 78 2,
                    AV.vs 1 (v + 1) 1
                      (List.map (fun (c : UInt8) => [AV.int IntKind.u8 (↑c.toNat : Int)]) s.data.toList).length],
                Ob.vec (v + 1)
                  (catC [] 0 (List.map (fun (c : UInt8) => [AV.int IntKind.u8 (↑c.toNat : Int)]) s.data.toList))]
              [])))
      none := by kernel_rfl

theorem ws2_run (F v n : Nat) (s : ByteArray) (cs : List AV) :
    (f57.run F [.tp 0 78 2, .str s] ⟨[.cells [.tp 0 78 2, .vs 1 v 1 n], .vec v cs], []⟩ : Ans) =
    branch
      (AV.bool
        (v.beq v &&
          (inC cs 0 (mulN n 1) &&
            apOk (n + (List.map (fun (c : UInt8) => [AV.int IntKind.u8 (↑c.toNat : Int)]) s.data.toList).length)
              1)))
      (some
        (Fin.ret (AV.tup [AV.int IntKind.i64 (↑s.size : Int), AV.nilif]),
          St.mk
            [Ob.cells
                [AV.tp 0 78 2,
                  AV.vs 1 (v + 1) 1
                    (n + (List.map (fun (c : UInt8) => [AV.int IntKind.u8 (↑c.toNat : Int)]) s.data.toList).length)],
              Ob.vec (v + 1)
                (catC cs (mulN n 1)
                  (List.map (fun (c : UInt8) => [AV.int IntKind.u8 (↑c.toNat : Int)]) s.data.toList))]
            []))
      none := by kernel_rfl

theorem st0_run (F v : Nat) :
    (f58.run F [.tp 0 78 2] ⟨[.cells [.nilptr, .nilsl], .nov v], []⟩ : Ans) =
    some (Fin.ret (AV.str ByteArray.empty), St.mk [Ob.cells [AV.nilptr, AV.nilsl], Ob.nov v] []) := by kernel_rfl

theorem st1_run (F v : Nat) :
    (f58.run F [.tp 0 78 2] ⟨[.cells [.tp 0 78 2, .nilsl], .nov v], []⟩ : Ans) =
    some (Fin.ret (AV.str ByteArray.empty), St.mk [Ob.cells [AV.tp 0 78 2, AV.nilsl], Ob.nov v] []) := by kernel_rfl

theorem st2_run (F v n : Nat) (cs : List AV) :
    (f58.run F [.tp 0 78 2] ⟨[.cells [.tp 0 78 2, .vs 1 v 1 n.succ], .vec v cs], []⟩ : Ans) =
    branch
      (AV.bool
        (true &&
          tyAt [Ob.cells [AV.tp 0 78 2, AV.vs 1 v 1 n.succ], Ob.vec v cs] 1
            v))
      (branch (AV.bool (v.beq v && uOk (↑n.succ : Int) cs.length))
        (onSome (bytesC cs) none fun (o : List Nat) =>
          some
            (Fin.ret (AV.str (strB o)),
              St.mk
                [Ob.cells [AV.tp 0 78 2, AV.vs 1 v 1 n.succ],
                  Ob.nov (v + 1)]
                []))
        none)
      none := by kernel_rfl

end Go.Proofs.YtcfedmheblbdnaaDoor.V

/- Values: strings.Builder, as data: what its methods do. -/
set_option linter.unusedVariables false
namespace Go.Proofs.YtcfedmheblbdnaaDoor.V
open Go Go.V Go.RowKit

/-- A builder: fresh, used without a byte, with bytes, given up. -/
inductive Bd where
  | fresh (v : Nat)
  | idle (v : Nat)
  | has (v : Nat) (l : List Nat)
  | spent (v n : Nat)
def Bd.obs : Bd → List Ob
  | .fresh v => [.cells [.nilptr, .nilsl], .nov v]
  | .idle v => [.cells [.tp 0 78 2, .nilsl], .nov v]
  | .has v l => [.cells [.tp 0 78 2, .vs 1 v 1 l.length], .vec v (bC l)]
  | .spent v n => [.cells [.tp 0 78 2, .vs 1 v 1 n], .nov (v + 1)]
def Bd.Ok : Bd → Prop
  | .has _ l => l ≠ [] ∧ ∀ x ∈ l, x < 256
  | _ => True
def Bd.bytes : Bd → List Nat
  | .has _ l => l
  | _ => []
def Bd.live : Bd → Bool
  | .spent _ _ => false
  | _ => true
def Bd.ver : Bd → Nat
  | .fresh v => v
  | .idle v => v
  | .has v _ => v
  | .spent v _ => v
/-- Bytes more. -/
def Bd.put (X : Bd) (bs : List Nat) : Bd :=
  match X with
  | .fresh v => match bs with
    | [] => .idle v
    | b :: bs => .has (v + 1) (b :: bs)
  | .idle v => match bs with
    | [] => .idle v
    | b :: bs => .has (v + 1) (b :: bs)
  | .has v l => .has (v + 1) (l ++ bs)
  | .spent v n => .spent v n
def Bd.out : Bd → Bd
  | .has v l => .spent v l.length
  | X => X
theorem bC_inj : ∀ {l m : List Nat}, bC l = bC m → l = m
  | [], [], _ => rfl
  | [], _ :: _, h => by cases h
  | _ :: _, [], h => by cases h
  | x :: l, y :: m, h => by
    simp only [bC, List.map_cons, List.cons.injEq, AV.int.injEq, true_and] at h
    rw [bC_inj (l := l) (m := m) h.2, show x = y by omega]
theorem bC_near (n : Nat) : ∀ l : List Nat, NearL n (bC l)
  | [] => trivial
  | _ :: l => ⟨trivial, bC_near n l⟩
theorem bC_append (a b : List Nat) : bC (a ++ b) = bC a ++ bC b := by simp [bC]
def BdA : ADT Bd where
  m := 2
  p := 0
  hp := by omega
  obs := Bd.obs
  Ok := Bd.Ok
  len x := by cases x <;> rfl
  near x hx o ho := by
    cases x <;> simp only [Bd.obs, List.mem_cons, List.not_mem_nil, or_false] at ho <;> rcases ho with rfl | rfl
    · exact ⟨trivial, trivial, trivial⟩
    · trivial
    · exact ⟨by show 0 < 2; omega, trivial, trivial⟩
    · trivial
    · exact ⟨by show 0 < 2; omega, by show 1 < 2; omega, trivial⟩
    · exact bC_near 2 _
    · exact ⟨by show 0 < 2; omega, by show 1 < 2; omega, trivial⟩
    · trivial
  inj x y hx hy h := by
    cases x <;> cases y <;> simp [Bd.obs] at h
    · subst h; rfl
    · subst h; rfl
    · obtain ⟨⟨rfl, _⟩, h2⟩ := h
      rw [bC_inj h2.2]
    · obtain ⟨rfl, rfl⟩ := h.1
      rfl
theorem Bd.Ok.put {X : Bd} (h : X.Ok) {bs : List Nat} (hb : ∀ x ∈ bs, x < 256) : (X.put bs).Ok := by
  cases X with
  | fresh v => cases bs with
    | nil => trivial
    | cons b bs => exact ⟨by simp, hb⟩
  | idle v => cases bs with
    | nil => trivial
    | cons b bs => exact ⟨by simp, hb⟩
  | has v l =>
    refine ⟨by simp [h.1], fun x hx => ?_⟩
    rcases List.mem_append.mp hx with hx | hx
    · exact h.2 x hx
    · exact hb x hx
  | spent v n => trivial
theorem Bd.put_bytes {X : Bd} (h : X.live = true) (bs : List Nat) : (X.put bs).bytes = X.bytes ++ bs ∧ (X.put bs).live = true := by
  cases X with
  | fresh v => cases bs <;> exact ⟨rfl, rfl⟩
  | idle v => cases bs <;> exact ⟨rfl, rfl⟩
  | has v l => exact ⟨rfl, rfl⟩
  | spent v n => cases h
theorem Bd.Ok.out {X : Bd} (h : X.Ok) : X.out.Ok := by cases X <;> first | trivial | exact h

theorem catC_nil (r : List (List AV)) : catC [] 0 r = r.flatten := by rw [catC, opq_eq]; simp
theorem catC_end {l : List Nat} {n : Nat} (h : n = l.length) (r : List (List AV)) : catC (bC l) (mulN n 1) r = bC l ++ r.flatten := by
  subst h
  rw [catC, opq_eq, mulN, opq_eq, Nat.mul_one, List.take_of_length_le (by rw [bC_length]; exact Nat.le_refl _)]
theorem strL_rows (s : ByteArray) : List.map (fun (c : UInt8) => [AV.int IntKind.u8 (↑c.toNat : Int)]) s.data.toList = bR (strL s) := by simp [bR, strL]
theorem bR_flatten (l : List Nat) : (bR l).flatten = bC l := by
  induction l with
  | nil => rfl
  | cons x l ih => show [AV.int .u8 (x : Int)] ++ (bR l).flatten = _; rw [ih]; rfl
theorem wb_can {F : Nat} {X : Bd} (h : X.Ok) (hl : X.live = true) (hn : X.bytes.length < 1000000000) (c : Nat) :
    f56.run F [.tp 0 78 2, .int .u8 (c : Int)] ⟨X.obs, []⟩ = some (.ret .nilif, ⟨(X.put [c]).obs, []⟩) := by
  cases X with
  | fresh v => rw [Bd.obs, wb0_run, branch_of (by rw [apOk_iff]; omega), catC_nil]; rfl
  | idle v => rw [Bd.obs, wb1_run, branch_of (by rw [apOk_iff]; omega), catC_nil]; rfl
  | has v l =>
    simp only [Bd.bytes] at hn
    rw [Bd.obs, wb2_run, branch_of (by rw [Nat.beq_refl, show inC (bC l) 0 (mulN l.length 1) = true by rw [inC_iff, mulN, opq_eq, bC_length]; omega, show apOk (l.length + 1) 1 = true by rw [apOk_iff]; omega]; rfl), catC_end rfl]
    simp only [Bd.put, Bd.obs, bC_append, List.length_append, List.length_singleton]
    rfl
  | spent v n => cases hl
theorem ws_can {F : Nat} {X : Bd} (h : X.Ok) (hl : X.live = true) (s : ByteArray) (hn : X.bytes.length + (strL s).length < 1000000000) :
    f57.run F [.tp 0 78 2, .str s] ⟨X.obs, []⟩ = some (.ret (.tup [.int .i64 (s.size : Int), .nilif]), ⟨(X.put (strL s)).obs, []⟩) := by
  have hf := strL_rows s
  cases X with
  | fresh v =>
    rw [Bd.obs, ws0_run, hf, branch_of (by rw [apOk_iff, bR_length]; omega)]
    cases hs : strL s with
    | nil => rw [branch_of (show ((bR []).length.beq 0) = true from rfl)]; rfl
    | cons x l => rw [branch_not (by rw [bR_length]; rfl), catC_nil, bR_flatten]; simp only [Bd.put, Bd.obs, bR_length]
  | idle v =>
    rw [Bd.obs, ws1_run, hf, branch_of (by rw [apOk_iff, bR_length]; omega)]
    cases hs : strL s with
    | nil => rw [branch_of (show ((bR []).length.beq 0) = true from rfl)]; rfl
    | cons x l => rw [branch_not (by rw [bR_length]; rfl), catC_nil, bR_flatten]; simp only [Bd.put, Bd.obs, bR_length]
  | has v l =>
    simp only [Bd.bytes] at hn
    rw [Bd.obs, ws2_run, hf, branch_of (by rw [Nat.beq_refl, show inC (bC l) 0 (mulN l.length 1) = true by rw [inC_iff, mulN, opq_eq, bC_length]; omega, show apOk (l.length + (bR (strL s)).length) 1 = true by rw [apOk_iff, bR_length]; omega]; rfl), catC_end rfl, bR_flatten, bR_length]
    simp only [Bd.put, Bd.obs, bC_append, List.length_append]
  | spent v n => cases hl
theorem st_can {F : Nat} {X : Bd} (h : X.Ok) (hl : X.live = true) (hn : X.bytes.length < 1000000000) :
    f58.run F [.tp 0 78 2] ⟨X.obs, []⟩ = some (.ret (.str (strB X.bytes)), ⟨X.out.obs, []⟩) := by
  cases X with
  | fresh v => rw [Bd.obs, st0_run]; rfl
  | idle v => rw [Bd.obs, st1_run]; rfl
  | has v l =>
    simp only [Bd.bytes] at hn ⊢
    obtain ⟨n, hn'⟩ : ∃ n, l.length = n.succ := ⟨l.length - 1, by have := List.length_pos_iff.mpr h.1; omega⟩
    rw [Bd.obs, hn', st2_run, branch_of (show (true && tyAt [Ob.cells [AV.tp 0 78 2, AV.vs 1 v 1 n.succ], Ob.vec v (bC l)] 1 v) = true by
      show (Nat.beq 1 1 && (Nat.beq v v && Nat.beq 1 1)) = true
      simp), branch_of (by rw [Nat.beq_refl, show uOk (n.succ : Int) (bC l).length = true by rw [uOk_iff, bC_length]; omega]; rfl), bytesC_bC h.2]
    simp only [Bd.out, Bd.obs, hn']
    rfl
  | spent v n => cases hl

/-! ### The methods as callees -/
noncomputable def onB (x : AV) (st : St) (k : Nat → Bd → Ans) : Ans :=
  match x with
  | .tp j E n => match Nat.beq E 78 && Nat.beq n 2 with
    | true => BdA.on (.ptr j 0) st k
    | false => none
  | _ => none
theorem onB_spec {x : AV} {st : St} {k : Nat → Bd → Ans} {fin : Fin × St} (h : onB x st k = some fin) : ∃ i X, x = .tp i 78 2 ∧ BdA.Here st i X ∧ k i X = some fin := by
  unfold onB at h
  split at h
  · split at h
    · rename_i hc
      rw [Bool.and_eq_true] at hc
      obtain rfl := Nat.eq_of_beq_eq_true hc.1
      obtain rfl := Nat.eq_of_beq_eq_true hc.2
      obtain ⟨i, X, h1, h2, h3⟩ := ADT.on_spec h
      cases h1
      exact ⟨_, _, rfl, h2, h3⟩
    · cases h
  · cases h
noncomputable def Bd.fits (X : Bd) (n : Nat) : Bool := cdec (X.live = true ∧ X.bytes.length + n < 1000000000)
theorem Bd.fits_iff {X : Bd} {n : Nat} : X.fits n = true ↔ X.live = true ∧ X.bytes.length + n < 1000000000 := cdec_iff
noncomputable def s56 : OrcS Tryd.prog := f56.by'
  (fun args st k => match args with
    | [x, c] => onB x st fun i X => onInt c fun kd c => ifT (decide (kd = .u8) && (cdec (0 ≤ c ∧ c < 256) && X.fits 1)) (k (.ret .nilif) (BdA.pl st i (X.put [c.toNat])))
    | _ => none)
  fun args st k fin h => by
    split at h
    · rename_i x c
      obtain ⟨i, X, rfl, hd, g1⟩ := onB_spec h
      obtain ⟨kd, c, g2, rfl⟩ := onInt_spec g1
      obtain ⟨hk, g3⟩ := ifT_spec g2
      simp only [Bool.and_eq_true, decide_eq_true_eq, cdec_iff, Bd.fits_iff] at hk
      obtain ⟨rfl, ⟨c0, c1⟩, hl, hn⟩ := hk
      obtain ⟨c, rfl⟩ := Int.eq_ofNat_of_zero_le c0
      have hrun := wb_can (F := 0) hd.ok hl (by omega) c
      rw [← List.append_nil (Bd.obs _)] at hrun
      have := ADT.placed (A := BdA) (f := f56) (r := .nilif) (args0 := [.tp 0 78 2, .int .u8 (c : Int)]) (xs := []) (x := X) (y := X.put [c]) (by rw [List.append_nil] at hrun ⊢; exact hrun) (hd.ok.put (by intro x hx; simp at hx; omega)) ⟨by show 0 < 2; omega, trivial, trivial⟩ trivial hd
      exact ⟨_, _, g3, this⟩
    · cases h
noncomputable def s57 : OrcS Tryd.prog := f57.by'
  (fun args st k => match args with
    | [x, y] => onB x st fun i X => onStr y fun s => ifT (X.fits (strL s).length) (k (.ret (.tup [.int .i64 (s.size : Int), .nilif])) (BdA.pl st i (X.put (strL s))))
    | _ => none)
  fun args st k fin h => by
    split at h
    · rename_i x y
      obtain ⟨i, X, rfl, hd, g1⟩ := onB_spec h
      obtain ⟨s, rfl, g2⟩ := onStr_some g1
      obtain ⟨hk, g3⟩ := ifT_spec g2
      simp only [Bd.fits_iff] at hk
      have hrun := ws_can (F := 0) hd.ok hk.1 s hk.2
      have := ADT.placed (A := BdA) (f := f57) (r := .tup [.int .i64 (s.size : Int), .nilif]) (args0 := [.tp 0 78 2, .str s]) (xs := []) (x := X) (y := X.put (strL s)) (by rw [List.append_nil]; exact hrun) (hd.ok.put (strL_lt s)) ⟨by show 0 < 2; omega, trivial, trivial⟩ ⟨trivial, trivial, trivial⟩ hd
      exact ⟨_, _, g3, this⟩
    · cases h
noncomputable def s58 : OrcS Tryd.prog := f58.by'
  (fun args st k => match args with
    | [x] => onB x st fun i X => ifT (X.fits 0) (k (.ret (.str (strB X.bytes))) (BdA.pl st i X.out))
    | _ => none)
  fun args st k fin h => by
    split at h
    · rename_i x
      obtain ⟨i, X, rfl, hd, g1⟩ := onB_spec h
      obtain ⟨hk, g2⟩ := ifT_spec g1
      simp only [Bd.fits_iff] at hk
      have hrun := st_can (F := 0) hd.ok hk.1 (by omega)
      have := ADT.placed (A := BdA) (f := f58) (r := .str (strB X.bytes)) (args0 := [.tp 0 78 2]) (xs := []) (x := X) (y := X.out) (by rw [List.append_nil]; exact hrun) hd.ok.out ⟨by show 0 < 2; omega, trivial⟩ trivial hd
      exact ⟨_, _, g2, this⟩
    · cases h
theorem onB_th {x : AV} {st : St} {s s' : Nat → Bd → Ans} {k : Fin → St → Ans} (h : ∀ i y, s i y = thS (s' i y) k) : onB x st s = thS (onB x st s') k := by
  unfold onB
  split
  · split
    · exact ADT.on_th h
    · rfl
  · rfl
theorem s57_nat : s57.NatS := by
  intro args st k
  show s57.sem args st k = thS (s57.sem args st (fun r st' => some (r, st'))) k
  simp only [s57, Fun.by']
  split
  · exact onB_th fun i X => onStr_th fun s => ifT_th rfl
  · rfl
end Go.Proofs.YtcfedmheblbdnaaDoor.V

/- The functions' pieces, as told by gen.py. -/
set_option linter.unusedVariables false
set_option maxRecDepth 20000
namespace Go.Proofs.YtcfedmheblbdnaaDoor.V
open Go Go.V Go.RowKit


/-! ### 78: strings.IndexByte (9, 5); results 4; slots: 0 s, 1 c, 2 s, 3 c -/
noncomputable def f78_b : Sim Tryd.prog :=
  (.seq (.live [0, 1] (.region 0 [
    ⟨(opAssign (some 4) (.const (Value.int IntKind.i64 0)) 3 "strings.go:102" #[]).op, none⟩
  ] (by kernel_rfl)))
  (.seq (.live [4] (.region 1 [
    ⟨(opMove (some 5) (.tmp 0) 9 "strings.go:103" #[]).op, none⟩,
    ⟨(opMove (some 6) (.tmp 1) 5 "strings.go:103" #[]).op, none⟩,
    ⟨opCall (f89.orc 0) (some 7) [(.tmp 5), (.tmp 6)] #[9, 5] 3 "strings.go:103" #[{ on := 0, ground := Ground.data }, { on := 1, ground := Ground.data }], none⟩,
    ⟨(opAssign (some 4) (.tmp 7) 3 "strings.go:103" #[{ on := 2, ground := Ground.data }, { on := 2, ground := Ground.chain }, { on := 0, ground := Ground.phase }, { on := 1, ground := Ground.phase }, { on := 2, ground := Ground.phase }]).op, none⟩
  ] (by kernel_rfl)))
  (.live [4] .ret)))

noncomputable def f78 : Fun Tryd.prog where
  id := 78
  fn := Tryd.f78
  hf := Tryd.func78
  hname := by kernel_rfl
  body := f78_b
  hbody := by kernel_rfl
  res := [rTmp 4]
  hres := by kernel_rfl
  n := 8
  hn := by kernel_rfl

end Go.Proofs.YtcfedmheblbdnaaDoor.V

/- The functions' pieces, as told by gen.py. -/
set_option linter.unusedVariables false
set_option maxRecDepth 20000
namespace Go.Proofs.YtcfedmheblbdnaaDoor.V
open Go Go.V Go.RowKit


/-! ### 69: interlock/value.digit (5); results 2; slots: 0 c, 1 c -/
noncomputable def f69_b : Sim Tryd.prog :=
  (.seq (.live [0] (.region 0 [
    ⟨(opAssign (some 2) (.const (Value.int IntKind.i64 0)) 3 "value.go:153" #[]).op, none⟩
  ] (by kernel_rfl)))
  (.seq (.live [2] (.region 1 [
    ⟨(opMove (some 3) (.tmp 0) 5 "value.go:153" #[]).op, none⟩,
    ⟨opCall (f78.orc 0) (some 4) [(.const (Value.string { data := #[48, 49, 50, 51, 52, 53, 54, 55, 56, 57, 97, 98, 99, 100, 101, 102] })), (.tmp 3)] #[9, 5] 3 "value.go:153" #[{ on := 0, ground := Ground.data }], none⟩,
    ⟨(opAssign (some 2) (.tmp 4) 3 "value.go:153" #[{ on := 1, ground := Ground.data }, { on := 1, ground := Ground.chain }, { on := 0, ground := Ground.phase }, { on := 1, ground := Ground.phase }]).op, none⟩
  ] (by kernel_rfl)))
  (.live [2] .ret)))

noncomputable def f69 : Fun Tryd.prog where
  id := 69
  fn := Tryd.f69
  hf := Tryd.func69
  hname := by kernel_rfl
  body := f69_b
  hbody := by kernel_rfl
  res := [rTmp 2]
  hres := by kernel_rfl
  n := 5
  hn := by kernel_rfl

end Go.Proofs.YtcfedmheblbdnaaDoor.V

/- What the functions' runs come to; the right sides were printed by a tool, Lean checks them. -/
set_option linter.unusedVariables false
set_option maxRecDepth 100000
namespace Go.Proofs.YtcfedmheblbdnaaDoor.V
open Go Go.V Go.RowKit

theorem dig_run (F : Nat) (c : Int) (st : St) :
    (f69.run F [.int .u8 c] st : Ans) =
    some
      (Fin.ret
          (AV.int IntKind.i64
            (idxB
              (ByteArray.mk
                #[(48 : UInt8), (49 : UInt8), (50 : UInt8), (51 : UInt8), (52 : UInt8), (53 : UInt8), (54 : UInt8),
                  (55 : UInt8), (56 : UInt8), (57 : UInt8), (97 : UInt8), (98 : UInt8), (99 : UInt8), (100 : UInt8),
                  (101 : UInt8), (102 : UInt8)])
              c)),
        st) := by kernel_rfl

end Go.Proofs.YtcfedmheblbdnaaDoor.V

/- Values: a digit to the base 16. -/
set_option linter.unusedVariables false
namespace Go.Proofs.YtcfedmheblbdnaaDoor.V
open Go Go.V Go.RowKit

def hexB : ByteArray := ⟨#[48, 49, 50, 51, 52, 53, 54, 55, 56, 57, 97, 98, 99, 100, 101, 102]⟩
/-- The number of a digit; below 0: it is none. -/
def digH (c : Nat) : Int := bif Nat.ble 48 c && Nat.ble c 57 then (c : Int) - 48 else bif Nat.ble 97 c && Nat.ble c 102 then (c : Int) - 87 else -1
theorem dig_all : (List.range 256).all (fun c => decide (idxB hexB (c : Int) = digH c)) = true := by kernel_rfl
theorem dig_eq {c : Nat} (h : c < 256) : idxB hexB (c : Int) = digH c := by
  have := List.all_eq_true.mp dig_all c (List.mem_range.mpr h)
  exact of_decide_eq_true this
noncomputable def digO (c : Int) : Int := opq (digH c.toNat)
def dec1c : List AV → Option Int
  | [.int .u8 c] => some c
  | _ => none
theorem dec1c_enc : ∀ l a, dec1c l = some a → l = [.int .u8 a] := by
  intro l a h
  unfold dec1c at h
  split at h
  · cases h; rfl
  · cases h
def byte? (c : Int) : Bool := decide (0 ≤ c) && decide (c < 256)
noncomputable def p69 : POrc Tryd.prog := f69.flatIf dec1c (fun c => [.int .u8 c]) dec1c_enc (fun c => cdec (0 ≤ c ∧ c < 256)) (fun c => .int .i64 (digO c)) (fun _ => ⟨trivial, trivial⟩) (fun _ => trivial) fun c hc => ⟨0, ⟨[], []⟩, by
  obtain ⟨h0, h1⟩ := cdec_iff.mp hc
  obtain ⟨c, rfl⟩ := Int.eq_ofNat_of_zero_le h0
  rw [dig_run, digO, opq_eq, Int.toNat_natCast, ← dig_eq (by omega)]; rfl⟩
theorem p69_nat : p69.Nat := flatIf_nat
end Go.Proofs.YtcfedmheblbdnaaDoor.V

/- The functions' pieces, as told by gen.py. -/
set_option linter.unusedVariables false
set_option maxRecDepth 20000
namespace Go.Proofs.YtcfedmheblbdnaaDoor.V
open Go Go.V Go.RowKit

theorem ze78 : (Tryd.prog.info? 78).bind (·.zero) = some (.agg #[(.pointer none), (.slice none 0 0)]) := by kernel_rfl

/-! ### 34: interlock/value.quoted (9); results 2; slots: 0 s, 1 s, 3 b, 4 i, 5 c -/
/-- A loop's round; at its head live: 0 s, 3 b, 8 , 9  -/
noncomputable def f34_l0 : Sim Tryd.prog :=
  (.seq (.live [0, 3, 8, 9, 10] (.region 4 [
    ⟨(opBin (some 10) .lss 3 (.tmp 9) (.tmp 8) 3 4 "value.go:126" #[]).op, none⟩
  ] (by kernel_rfl)))
  (.seq (.cond (.tmp 10)
    .skip
    (.live [3] (.exit 0)))
  (.seq (.block 1 (.seq (.live [0, 3, 4, 8, 9] (.region 5 [
      ⟨(opMove (some 11) (.tmp 9) 3 "value.go:126" #[]).op, none⟩,
      ⟨(opAssign (some 4) (.tmp 11) 3 "value.go:126" #[{ on := 0, ground := Ground.data }, { on := 0, ground := Ground.phase }]).op, none⟩
    ] (by kernel_rfl)))
    (.seq (.live [0, 3, 5, 8, 9] (.region 6 [
      ⟨(opMove (some 12) (.tmp 0) 9 "value.go:127" #[]).op, none⟩,
      ⟨(opMove (some 13) (.tmp 4) 3 "value.go:127" #[]).op, none⟩,
      ⟨(PSim.hide (opIndexStrW (some 14) 9 (.tmp 12) (.tmp 13) Tryd.underlying9 5 "value.go:127" #[{ on := 0, ground := Ground.data }, { on := 1, ground := Ground.data }])).op, none⟩,
      ⟨(opAssign (some 5) (.tmp 14) 5 "value.go:127" #[{ on := 2, ground := Ground.data }, { on := 0, ground := Ground.phase }, { on := 1, ground := Ground.phase }, { on := 2, ground := Ground.phase }]).op, none⟩
    ] (by kernel_rfl)))
    (.block 2 (.seq (.live [0, 3, 5, 8, 9, 17] (.region 8 [
        ⟨(opMove (some 18) (.tmp 5) 5 "value.go:128" #[]).op, none⟩,
        ⟨(opBin (some 19) .lss 5 (.tmp 18) (.const (Value.int IntKind.u8 32)) 5 4 "value.go:128" #[{ on := 0, ground := Ground.data }]).op, none⟩,
        ⟨(opMove (some 20) (.tmp 19) 4 "value.go:128" #[{ on := 1, ground := Ground.data }]).op, none⟩,
        ⟨(opMove (some 21) (.tmp 5) 5 "value.go:128" #[{ on := 2, ground := Ground.guard }]).op, (some (2, 20, false))⟩,
        ⟨(opBin (some 22) .gtr 5 (.tmp 21) (.const (Value.int IntKind.u8 126)) 5 4 "value.go:128" #[{ on := 3, ground := Ground.data }, { on := 2, ground := Ground.guard }]).op, (some (2, 20, false))⟩,
        ⟨(opPick (some 23) (.tmp 20) (.const (Value.bool true)) (.tmp 22) 4 "value.go:128" #[{ on := 2, ground := Ground.data }, { on := 4, ground := Ground.data }]).op, none⟩,
        ⟨(opMove (some 24) (.tmp 23) 4 "value.go:128" #[{ on := 5, ground := Ground.data }, { on := 2, ground := Ground.chain }]).op, none⟩,
        ⟨(opMove (some 25) (.tmp 5) 5 "value.go:128" #[{ on := 6, ground := Ground.guard }]).op, (some (6, 24, false))⟩,
        ⟨(opBin (some 26) .eql 5 (.tmp 25) (.const (Value.int IntKind.u8 34)) 5 4 "value.go:128" #[{ on := 7, ground := Ground.data }, { on := 6, ground := Ground.guard }]).op, (some (6, 24, false))⟩,
        ⟨(opPick (some 27) (.tmp 24) (.const (Value.bool true)) (.tmp 26) 4 "value.go:128" #[{ on := 6, ground := Ground.data }, { on := 8, ground := Ground.data }]).op, none⟩,
        ⟨(opMove (some 28) (.tmp 27) 4 "value.go:128" #[{ on := 9, ground := Ground.data }, { on := 6, ground := Ground.chain }]).op, none⟩,
        ⟨(opMove (some 29) (.tmp 5) 5 "value.go:128" #[{ on := 10, ground := Ground.guard }]).op, (some (10, 28, false))⟩,
        ⟨(opBin (some 30) .eql 5 (.tmp 29) (.const (Value.int IntKind.u8 92)) 5 4 "value.go:128" #[{ on := 11, ground := Ground.data }, { on := 10, ground := Ground.guard }]).op, (some (10, 28, false))⟩,
        ⟨(opPick (some 31) (.tmp 28) (.const (Value.bool true)) (.tmp 30) 4 "value.go:128" #[{ on := 10, ground := Ground.data }, { on := 12, ground := Ground.data }]).op, none⟩,
        ⟨(opAssign (some 17) (.tmp 31) 4 "value.go:128" #[{ on := 13, ground := Ground.data }, { on := 10, ground := Ground.chain }]).op, none⟩
      ] (by kernel_rfl)))
      (.cond (.tmp 17)
        (.live [0, 3, 8, 9] (.draw 9 [
          ⟨.p (opMove (some 32) (.tmp 5) 5 "value.go:129" #[]), none⟩,
          ⟨.pn (PSim.hide (opBin (some 33) .shr 5 (.tmp 32) (.const (Value.int IntKind.u64 4)) 80 5 "value.go:129" #[{ on := 0, ground := Ground.data }])) (PSim.hide_nat opBin_nat), none⟩,
          ⟨.p (opMove (some 34) (.tmp 5) 5 "value.go:129" #[]), none⟩,
          ⟨.pn (PSim.hide (opBin (some 35) .shr 5 (.tmp 34) (.const (Value.int IntKind.u64 4)) 80 5 "value.go:129" #[{ on := 2, ground := Ground.data }])) (PSim.hide_nat opBin_nat), none⟩,
          ⟨.pn (PSim.hide (opBin (some 36) .add 5 (.tmp 35) (.const (Value.int IntKind.u8 1)) 5 5 "value.go:129" #[{ on := 3, ground := Ground.data }])) (PSim.hide_nat opBin_nat), none⟩,
          ⟨.pn (opSliceStrW (some 37) 9 (.const (Value.string { data := #[48, 49, 50, 51, 52, 53, 54, 55, 56, 57, 97, 98, 99, 100, 101, 102] })) (some (.tmp 33)) (some (.tmp 36)) Tryd.underlying9 9 "value.go:129" #[{ on := 1, ground := Ground.data }, { on := 4, ground := Ground.data }]) opSliceStrW_nat, none⟩,
          ⟨.pn (opCatW (some 38) 9 (.const (Value.string { data := #[92] })) (.tmp 37) 9 9 "value.go:129" #[{ on := 5, ground := Ground.data }]) opCatW_nat, none⟩,
          ⟨.p (opMove (some 39) (.tmp 5) 5 "value.go:129" #[]), none⟩,
          ⟨.pn (PSim.hide (opBin (some 40) .and 5 (.tmp 39) (.const (Value.int IntKind.u8 15)) 5 5 "value.go:129" #[{ on := 7, ground := Ground.data }])) (PSim.hide_nat opBin_nat), none⟩,
          ⟨.p (opMove (some 41) (.tmp 5) 5 "value.go:129" #[]), none⟩,
          ⟨.pn (PSim.hide (opBin (some 42) .and 5 (.tmp 41) (.const (Value.int IntKind.u8 15)) 5 5 "value.go:129" #[{ on := 9, ground := Ground.data }])) (PSim.hide_nat opBin_nat), none⟩,
          ⟨.pn (PSim.hide (opBin (some 43) .add 5 (.tmp 42) (.const (Value.int IntKind.u8 1)) 5 5 "value.go:129" #[{ on := 10, ground := Ground.data }])) (PSim.hide_nat opBin_nat), none⟩,
          ⟨.pn (opSliceStrW (some 44) 9 (.const (Value.string { data := #[48, 49, 50, 51, 52, 53, 54, 55, 56, 57, 97, 98, 99, 100, 101, 102] })) (some (.tmp 40)) (some (.tmp 43)) Tryd.underlying9 9 "value.go:129" #[{ on := 8, ground := Ground.data }, { on := 11, ground := Ground.data }]) opSliceStrW_nat, none⟩,
          ⟨.pn (opCatW (some 45) 9 (.tmp 38) (.tmp 44) 9 9 "value.go:129" #[{ on := 6, ground := Ground.data }, { on := 12, ground := Ground.data }]) opCatW_nat, none⟩,
          ⟨.mn (opCallM (s57) (some 46) [(.tmp 3), (.tmp 45)] #[78, 9] 74 "value.go:129" #[{ on := 13, ground := Ground.data }]) (opCallM_nat s57_nat), none⟩
        ] mixed (by kernel_rfl)))
        (.live [0, 3, 8, 9] (.region 7 [
          ⟨(opMove (some 15) (.tmp 5) 5 "value.go:131" #[]).op, none⟩,
          ⟨opCall (s56).orc (some 16) [(.tmp 3), (.tmp 15)] #[78, 5] 73 "value.go:131" #[{ on := 0, ground := Ground.data }], none⟩
        ] (by kernel_rfl)))))))))
  (.live [0, 3, 8, 9] (.region 10 [
    ⟨(opBin (some 47) .add 3 (.tmp 9) (.const (Value.int IntKind.i64 1)) 3 3 "value.go:126" #[]).op, none⟩,
    ⟨(opMove (some 9) (.tmp 47) 3 "value.go:126" #[{ on := 0, ground := Ground.data }]).op, none⟩
  ] (by kernel_rfl))))))

/-- What follows a loop. -/
noncomputable def f34_r0 : Sim Tryd.prog :=
  (.seq (.live [2] (.region 11 [
    ⟨opCall (s58).orc (some 48) [(.tmp 3)] #[78] 9 "value.go:134" #[], none⟩,
    ⟨(opCatW (some 49) 9 (.tmp 48) (.const (Value.string { data := #[34] })) 9 9 "value.go:134" #[{ on := 0, ground := Ground.data }]).op, none⟩,
    ⟨(opAssign (some 2) (.tmp 49) 9 "value.go:134" #[{ on := 1, ground := Ground.data }, { on := 0, ground := Ground.chain }, { on := 0, ground := Ground.phase }, { on := 1, ground := Ground.phase }]).op, none⟩
  ] (by kernel_rfl)))
  (.live [2] .ret))

noncomputable def f34_b : Sim Tryd.prog :=
  (.seq (.live [0] (.region 0 [
    ⟨(opAssign (some 2) (.const (Value.string { data := #[] })) 9 "value.go:123" #[]).op, none⟩
  ] (by kernel_rfl)))
  (.seq (.live [0, 3] (.region 1 [
    ⟨(MSim.ph (opAllocT 2 (some 3) 78 (.agg #[(.pointer none), (.slice none 0 0)]) ze78 (by kernel_rfl) 0 "value.go:124" #[]) 1).op, none⟩
  ] (by kernel_rfl)))
  (.seq (.live [0, 3] (.region 2 [
    ⟨opCall (s56).orc (some 6) [(.tmp 3), (.const (Value.int IntKind.u8 34))] #[78, 5] 73 "value.go:125" #[], none⟩
  ] (by kernel_rfl)))
  (.seq (.seq (.live [0, 3, 8, 9] (.region 3 [
    ⟨(opMove (some 7) (.tmp 0) 9 "value.go:126" #[]).op, none⟩,
    ⟨(opLen (some 8) (.tmp 7) 9 .string Tryd.underlying9 3 "value.go:126" #[{ on := 0, ground := Ground.data }]).op, none⟩,
    ⟨(opMove (some 9) (.const (Value.int IntKind.i64 0)) 3 "value.go:126" #[]).op, none⟩
  ] (by kernel_rfl)))
  (.block 0 (.loop [0, 3, 8, 9] f34_l0)))
  f34_r0))))

noncomputable def f34 : Fun Tryd.prog where
  id := 34
  fn := Tryd.f34
  hf := Tryd.func34
  hname := by kernel_rfl
  body := f34_b
  hbody := by kernel_rfl
  res := [rTmp 2]
  hres := by kernel_rfl
  n := 50
  hn := by kernel_rfl

/-! ### 52: interlock/value.unquoted (9); results 2, 3; slots: 0 s, 1 s, 4 b, 5 c -/
/-- A loop's round; at its head live: 0 s, 4 b -/
noncomputable def f52_l0 : Sim Tryd.prog :=
  (.seq (.seq (.live [0, 4, 8] (.region 2 [
    ⟨(opMove (some 6) (.tmp 0) 9 "value.go:158" #[]).op, none⟩,
    ⟨(opLen (some 7) (.tmp 6) 9 .string Tryd.underlying9 3 "value.go:158" #[{ on := 0, ground := Ground.data }]).op, none⟩,
    ⟨(opBin (some 8) .gtr 3 (.tmp 7) (.const (Value.int IntKind.i64 0)) 3 4 "value.go:158" #[{ on := 1, ground := Ground.data }]).op, none⟩
  ] (by kernel_rfl)))
  (.cond (.tmp 8)
    .skip
    (.live [4] (.exit 0))))
  (.block 1 (.seq (.live [0, 4, 5] (.region 3 [
      ⟨(opMove (some 9) (.tmp 0) 9 "value.go:159" #[]).op, none⟩,
      ⟨(PSim.hide (opIndexStrW (some 10) 9 (.tmp 9) (.const (Value.int IntKind.i64 0)) Tryd.underlying9 5 "value.go:159" #[{ on := 0, ground := Ground.data }])).op, none⟩,
      ⟨(opAssign (some 5) (.tmp 10) 5 "value.go:159" #[{ on := 1, ground := Ground.data }, { on := 0, ground := Ground.phase }, { on := 1, ground := Ground.phase }]).op, none⟩
    ] (by kernel_rfl)))
    (.seq (.live [0, 4, 5] (.region 4 [
      ⟨(opMove (some 11) (.tmp 0) 9 "value.go:160" #[]).op, none⟩,
      ⟨(opSliceStrW (some 12) 9 (.tmp 11) (some (.const (Value.int IntKind.i64 1))) none Tryd.underlying9 9 "value.go:160" #[{ on := 0, ground := Ground.data }]).op, none⟩,
      ⟨(opAssign (some 0) (.tmp 12) 9 "value.go:160" #[{ on := 1, ground := Ground.data }, { on := 0, ground := Ground.phase }, { on := 1, ground := Ground.phase }]).op, none⟩
    ] (by kernel_rfl)))
    (.seq (.seq (.live [0, 4, 5, 14] (.region 5 [
      ⟨(opMove (some 13) (.tmp 5) 5 "value.go:161" #[]).op, none⟩,
      ⟨(opBin (some 14) .eql 5 (.tmp 13) (.const (Value.int IntKind.u8 92)) 5 4 "value.go:161" #[{ on := 0, ground := Ground.data }]).op, none⟩
    ] (by kernel_rfl)))
    (.cond (.tmp 14)
      (.seq (.seq (.live [0, 4, 29] (.region 6 [
        ⟨(opMove (some 15) (.tmp 0) 9 "value.go:162" #[]).op, none⟩,
        ⟨(opLen (some 16) (.tmp 15) 9 .string Tryd.underlying9 3 "value.go:162" #[{ on := 0, ground := Ground.data }]).op, none⟩,
        ⟨(opBin (some 17) .lss 3 (.tmp 16) (.const (Value.int IntKind.i64 2)) 3 4 "value.go:162" #[{ on := 1, ground := Ground.data }]).op, none⟩,
        ⟨(opMove (some 18) (.tmp 17) 4 "value.go:162" #[{ on := 2, ground := Ground.data }]).op, none⟩,
        ⟨(opMove (some 19) (.tmp 0) 9 "value.go:162" #[{ on := 3, ground := Ground.guard }]).op, (some (3, 18, false))⟩,
        ⟨(PSim.hide (opIndexStrW (some 20) 9 (.tmp 19) (.const (Value.int IntKind.i64 0)) Tryd.underlying9 5 "value.go:162" #[{ on := 4, ground := Ground.data }, { on := 3, ground := Ground.guard }])).op, (some (3, 18, false))⟩,
        ⟨(opCallP p69 (some 21) [(.tmp 20)] #[5] 3 "value.go:162" #[{ on := 5, ground := Ground.data }, { on := 3, ground := Ground.chain }, { on := 3, ground := Ground.guard }]).op, (some (3, 18, false))⟩,
        ⟨(opBin (some 22) .lss 3 (.tmp 21) (.const (Value.int IntKind.i64 0)) 3 4 "value.go:162" #[{ on := 6, ground := Ground.data }, { on := 3, ground := Ground.guard }]).op, (some (3, 18, false))⟩,
        ⟨(opPick (some 23) (.tmp 18) (.const (Value.bool true)) (.tmp 22) 4 "value.go:162" #[{ on := 3, ground := Ground.data }, { on := 7, ground := Ground.data }]).op, none⟩,
        ⟨(opMove (some 24) (.tmp 23) 4 "value.go:162" #[{ on := 8, ground := Ground.data }, { on := 6, ground := Ground.chain }]).op, none⟩,
        ⟨(opMove (some 25) (.tmp 0) 9 "value.go:162" #[{ on := 9, ground := Ground.guard }]).op, (some (9, 24, false))⟩,
        ⟨(PSim.hide (opIndexStrW (some 26) 9 (.tmp 25) (.const (Value.int IntKind.i64 1)) Tryd.underlying9 5 "value.go:162" #[{ on := 10, ground := Ground.data }, { on := 9, ground := Ground.guard }])).op, (some (9, 24, false))⟩,
        ⟨(opCallP p69 (some 27) [(.tmp 26)] #[5] 3 "value.go:162" #[{ on := 11, ground := Ground.data }, { on := 9, ground := Ground.chain }, { on := 9, ground := Ground.guard }]).op, (some (9, 24, false))⟩,
        ⟨(opBin (some 28) .lss 3 (.tmp 27) (.const (Value.int IntKind.i64 0)) 3 4 "value.go:162" #[{ on := 12, ground := Ground.data }, { on := 9, ground := Ground.guard }]).op, (some (9, 24, false))⟩,
        ⟨(opPick (some 29) (.tmp 24) (.const (Value.bool true)) (.tmp 28) 4 "value.go:162" #[{ on := 9, ground := Ground.data }, { on := 13, ground := Ground.data }]).op, none⟩
      ] (by kernel_rfl)))
      (.cond (.tmp 29)
        (.seq (.live [2, 3] (.region 7 [
          ⟨(opAssign (some 2) (.const (Value.string { data := #[] })) 9 "value.go:163" #[]).op, none⟩,
          ⟨(opAssign (some 3) (.const (Value.bool false)) 4 "value.go:163" #[{ on := 0, ground := Ground.chain }, { on := 0, ground := Ground.phase }]).op, none⟩
        ] (by kernel_rfl)))
        (.live [2, 3] .ret))
        .skip))
      (.seq (.live [0, 4, 5] (.draw 8 [
        ⟨.p (opMove (some 30) (.tmp 0) 9 "value.go:165" #[]), none⟩,
        ⟨.pn (PSim.hide (opIndexStrW (some 31) 9 (.tmp 30) (.const (Value.int IntKind.i64 0)) Tryd.underlying9 5 "value.go:165" #[{ on := 0, ground := Ground.data }])) (PSim.hide_nat opIndexStrW_nat), none⟩,
        ⟨.pn (opCallP p69 (some 32) [(.tmp 31)] #[5] 3 "value.go:165" #[{ on := 1, ground := Ground.data }]) (opCallP_nat p69_nat), none⟩,
        ⟨.pn (PSim.hide (opBin (some 33) .shl 3 (.tmp 32) (.const (Value.int IntKind.u64 4)) 80 3 "value.go:165" #[{ on := 2, ground := Ground.data }])) (PSim.hide_nat opBin_nat), none⟩,
        ⟨.p (opMove (some 34) (.tmp 0) 9 "value.go:165" #[]), none⟩,
        ⟨.pn (PSim.hide (opIndexStrW (some 35) 9 (.tmp 34) (.const (Value.int IntKind.i64 1)) Tryd.underlying9 5 "value.go:165" #[{ on := 4, ground := Ground.data }])) (PSim.hide_nat opIndexStrW_nat), none⟩,
        ⟨.pn (opCallP p69 (some 36) [(.tmp 35)] #[5] 3 "value.go:165" #[{ on := 5, ground := Ground.data }, { on := 2, ground := Ground.chain }]) (opCallP_nat p69_nat), none⟩,
        ⟨.pn (PSim.hide (opBin (some 37) .or 3 (.tmp 33) (.tmp 36) 3 3 "value.go:165" #[{ on := 3, ground := Ground.data }, { on := 6, ground := Ground.data }])) (PSim.hide_nat opBin_nat), none⟩,
        ⟨.pn (PSim.hide (opConvInt (some 38) 3 5 (.tmp 37) (.int .i64) Tryd.underlying3 .u8 Tryd.underlying5 5 "value.go:165" #[{ on := 7, ground := Ground.data }])) (PSim.hide_nat opConvInt_nat), none⟩,
        ⟨.p (opAssign (some 5) (.tmp 38) 5 "value.go:165" #[{ on := 8, ground := Ground.data }, { on := 6, ground := Ground.chain }, { on := 0, ground := Ground.phase }, { on := 1, ground := Ground.phase }, { on := 2, ground := Ground.phase }, { on := 3, ground := Ground.phase }, { on := 4, ground := Ground.phase }, { on := 5, ground := Ground.phase }, { on := 6, ground := Ground.phase }, { on := 7, ground := Ground.phase }, { on := 8, ground := Ground.phase }]), none⟩
      ] mixed (by kernel_rfl)))
      (.live [0, 4, 5] (.region 9 [
        ⟨(opMove (some 39) (.tmp 0) 9 "value.go:166" #[]).op, none⟩,
        ⟨(opSliceStrW (some 40) 9 (.tmp 39) (some (.const (Value.int IntKind.i64 2))) none Tryd.underlying9 9 "value.go:166" #[{ on := 0, ground := Ground.data }]).op, none⟩,
        ⟨(opAssign (some 0) (.tmp 40) 9 "value.go:166" #[{ on := 1, ground := Ground.data }, { on := 0, ground := Ground.phase }, { on := 1, ground := Ground.phase }]).op, none⟩
      ] (by kernel_rfl)))))
      .skip))
    (.live [0, 4] (.region 10 [
      ⟨(opMove (some 41) (.tmp 5) 5 "value.go:168" #[]).op, none⟩,
      ⟨opCall (s56).orc (some 42) [(.tmp 4), (.tmp 41)] #[78, 5] 73 "value.go:168" #[{ on := 0, ground := Ground.data }], none⟩
    ] (by kernel_rfl))))))))

/-- What follows a loop. -/
noncomputable def f52_r0 : Sim Tryd.prog :=
  (.seq (.live [2, 3] (.region 11 [
    ⟨opCall (s58).orc (some 43) [(.tmp 4)] #[78] 9 "value.go:170" #[], none⟩,
    ⟨(opAssign (some 2) (.tmp 43) 9 "value.go:170" #[{ on := 0, ground := Ground.data }, { on := 0, ground := Ground.chain }, { on := 0, ground := Ground.phase }]).op, none⟩,
    ⟨(opAssign (some 3) (.const (Value.bool true)) 4 "value.go:170" #[{ on := 1, ground := Ground.chain }, { on := 0, ground := Ground.phase }, { on := 1, ground := Ground.phase }]).op, none⟩
  ] (by kernel_rfl)))
  (.live [2, 3] .ret))

noncomputable def f52_b : Sim Tryd.prog :=
  (.seq (.live [0] (.region 0 [
    ⟨(opAssign (some 2) (.const (Value.string { data := #[] })) 9 "value.go:156" #[]).op, none⟩,
    ⟨(opAssign (some 3) (.const (Value.bool false)) 4 "value.go:156" #[{ on := 0, ground := Ground.chain }]).op, none⟩
  ] (by kernel_rfl)))
  (.seq (.live [0, 4] (.region 1 [
    ⟨(MSim.ph (opAllocT 2 (some 4) 78 (.agg #[(.pointer none), (.slice none 0 0)]) ze78 (by kernel_rfl) 0 "value.go:157" #[]) 1).op, none⟩
  ] (by kernel_rfl)))
  (.seq (.block 0 (.loop [0, 4] f52_l0))
  f52_r0)))

noncomputable def f52 : Fun Tryd.prog where
  id := 52
  fn := Tryd.f52
  hf := Tryd.func52
  hname := by kernel_rfl
  body := f52_b
  hbody := by kernel_rfl
  res := [rTmp 2, rTmp 3]
  hres := by kernel_rfl
  n := 44
  hn := by kernel_rfl

end Go.Proofs.YtcfedmheblbdnaaDoor.V

/- What the functions' runs come to; the right sides were printed by a tool, Lean checks them. -/
set_option linter.unusedVariables false
set_option maxRecDepth 100000
namespace Go.Proofs.YtcfedmheblbdnaaDoor.V
open Go Go.V Go.RowKit

theorem q_run (F : Nat) (s : ByteArray) :
    (f34.run F [.str s] ⟨[], []⟩ : Ans) =
    onSome (BdA.G 0 [Ob.cells [AV.nilptr, AV.nilsl], Ob.nov 0]) none fun (o : Bd) =>
      branch (AV.bool (true && (cdec ((0 : Int) ≤ (34 : Int) ∧ (34 : Int) < (256 : Int)) && o.fits 1)))
        (loopRun (f34_l0.run F) [0, 3, 8, 9]
          (Cont.block 0 (Cont.then (f34_r0.run F (f34.leaveK Fun.done)) (f34.leaveK Fun.done))) F
          (Env.mk 50
            [(0, AV.str s), (3, AV.tp 0 78 2),
              (8, AV.int IntKind.i64 (↑s.size : Int)), (9, AV.int IntKind.i64 (0 : Int))])
          (St.mk
            [BdA.ob 0 (o.put [Int.toNat (34 : Int)]) 0,
              BdA.ob 0 (o.put [Int.toNat (34 : Int)]) 1]
            []))
        none := by kernel_rfl

theorem q_round (F n : Nat) (K : Cont) (s : ByteArray) (m i : Int) (X : Bd) :
    (loopRun (f34_l0.run F) [0, 3, 8, 9] K n.succ (Env.mk 50 [(0, .str s), (3, .tp 0 78 2), (8, .int .i64 m), (9, .int .i64 i)]) ⟨[BdA.ob 0 X 0, BdA.ob 0 X 1], []⟩ : Ans) =
    branch (AV.bool (decide (i < m)))
      (branch (AV.bool (inT s i))
        (branch (AV.bool (decide (opq (atT s i) < (32 : Int))))
          (branch
            (AV.bool
              (inSl
                (ByteArray.mk
                  #[(48 : UInt8), (49 : UInt8), (50 : UInt8), (51 : UInt8), (52 : UInt8), (53 : UInt8), (54 : UInt8),
                    (55 : UInt8), (56 : UInt8), (57 : UInt8), (97 : UInt8), (98 : UInt8), (99 : UInt8), (100 : UInt8),
                    (101 : UInt8), (102 : UInt8)])
                (opq ((opq (atT s i)).fdiv (16 : Int)))
                (opq (IntKind.u8.wrap (opq ((opq (atT s i)).fdiv (16 : Int)) + (1 : Int))))))
            (branch
              (AV.bool
                (catOk (ByteArray.mk #[(92 : UInt8)])
                  (subT
                    (ByteArray.mk
                      #[(48 : UInt8), (49 : UInt8), (50 : UInt8), (51 : UInt8), (52 : UInt8), (53 : UInt8), (54 : UInt8),
                        (55 : UInt8), (56 : UInt8), (57 : UInt8), (97 : UInt8), (98 : UInt8), (99 : UInt8), (100 : UInt8),
                        (101 : UInt8), (102 : UInt8)])
                    (opq ((opq (atT s i)).fdiv (16 : Int)))
                    (opq (IntKind.u8.wrap (opq ((opq (atT s i)).fdiv (16 : Int)) + (1 : Int)))))))
              (branch
                (AV.bool
                  (inSl
                    (ByteArray.mk
                      #[(48 : UInt8), (49 : UInt8), (50 : UInt8), (51 : UInt8), (52 : UInt8), (53 : UInt8), (54 : UInt8),
                        (55 : UInt8), (56 : UInt8), (57 : UInt8), (97 : UInt8), (98 : UInt8), (99 : UInt8), (100 : UInt8),
                        (101 : UInt8), (102 : UInt8)])
                    (opq (bitsI BinOp.and IntKind.u8 (opq (atT s i)) (15 : Int)))
                    (opq (IntKind.u8.wrap (opq (bitsI BinOp.and IntKind.u8 (opq (atT s i)) (15 : Int)) + (1 : Int))))))
                (branch
                  (AV.bool
                    (catOk
                      (catT (ByteArray.mk #[(92 : UInt8)])
                        (subT
                          (ByteArray.mk
                            #[(48 : UInt8), (49 : UInt8), (50 : UInt8), (51 : UInt8), (52 : UInt8), (53 : UInt8),
                              (54 : UInt8), (55 : UInt8), (56 : UInt8), (57 : UInt8), (97 : UInt8), (98 : UInt8),
                              (99 : UInt8), (100 : UInt8), (101 : UInt8), (102 : UInt8)])
                          (opq ((opq (atT s i)).fdiv (16 : Int)))
                          (opq (IntKind.u8.wrap (opq ((opq (atT s i)).fdiv (16 : Int)) + (1 : Int))))))
                      (subT
                        (ByteArray.mk
                          #[(48 : UInt8), (49 : UInt8), (50 : UInt8), (51 : UInt8), (52 : UInt8), (53 : UInt8),
                            (54 : UInt8), (55 : UInt8), (56 : UInt8), (57 : UInt8), (97 : UInt8), (98 : UInt8),
                            (99 : UInt8), (100 : UInt8), (101 : UInt8), (102 : UInt8)])
                        (opq (bitsI BinOp.and IntKind.u8 (opq (atT s i)) (15 : Int)))
                        (opq (IntKind.u8.wrap (opq (bitsI BinOp.and IntKind.u8 (opq (atT s i)) (15 : Int)) + (1 : Int)))))))
                  (onSome (BdA.G 0 [BdA.ob 0 X 0, BdA.ob 0 X 1]) none
                    fun (o : Bd) =>
                    branch
                      (AV.bool
                        (o.fits
                          (strL
                              (catT
                                (catT (ByteArray.mk #[(92 : UInt8)])
                                  (subT
                                    (ByteArray.mk
                                      #[(48 : UInt8), (49 : UInt8), (50 : UInt8), (51 : UInt8), (52 : UInt8), (53 : UInt8),
                                        (54 : UInt8), (55 : UInt8), (56 : UInt8), (57 : UInt8), (97 : UInt8), (98 : UInt8),
                                        (99 : UInt8), (100 : UInt8), (101 : UInt8), (102 : UInt8)])
                                    (opq ((opq (atT s i)).fdiv (16 : Int)))
                                    (opq (IntKind.u8.wrap (opq ((opq (atT s i)).fdiv (16 : Int)) + (1 : Int))))))
                                (subT
                                  (ByteArray.mk
                                    #[(48 : UInt8), (49 : UInt8), (50 : UInt8), (51 : UInt8), (52 : UInt8), (53 : UInt8),
                                      (54 : UInt8), (55 : UInt8), (56 : UInt8), (57 : UInt8), (97 : UInt8), (98 : UInt8),
                                      (99 : UInt8), (100 : UInt8), (101 : UInt8), (102 : UInt8)])
                                  (opq (bitsI BinOp.and IntKind.u8 (opq (atT s i)) (15 : Int)))
                                  (opq
                                    (IntKind.u8.wrap
                                      (opq (bitsI BinOp.and IntKind.u8 (opq (atT s i)) (15 : Int)) +
                                        (1 : Int))))))).length))
                      (loopRun (f34_l0.run F) [0, 3, 8, 9] K n
                        (Env.mk 50
                          [(0, AV.str s), (3, AV.tp 0 78 2),
                            (8, AV.int IntKind.i64 m),
                            (9, AV.int IntKind.i64 (IntKind.i64.wrap (i + (1 : Int))))])
                        (St.mk
                          [BdA.ob 0
                              (o.put
                                (strL
                                  (catT
                                    (catT (ByteArray.mk #[(92 : UInt8)])
                                      (subT
                                        (ByteArray.mk
                                          #[(48 : UInt8), (49 : UInt8), (50 : UInt8), (51 : UInt8), (52 : UInt8),
                                            (53 : UInt8), (54 : UInt8), (55 : UInt8), (56 : UInt8), (57 : UInt8),
                                            (97 : UInt8), (98 : UInt8), (99 : UInt8), (100 : UInt8), (101 : UInt8),
                                            (102 : UInt8)])
                                        (opq ((opq (atT s i)).fdiv ((2 : Int) ^ min (Int.toNat (4 : Int)) IntKind.u8.bits)))
                                        (opq
                                          (IntKind.u8.wrap
                                            (opq
                                                ((opq (atT s i)).fdiv
                                                  ((2 : Int) ^ min (Int.toNat (4 : Int)) IntKind.u8.bits)) +
                                              (1 : Int))))))
                                    (subT
                                      (ByteArray.mk
                                        #[(48 : UInt8), (49 : UInt8), (50 : UInt8), (51 : UInt8), (52 : UInt8),
                                          (53 : UInt8), (54 : UInt8), (55 : UInt8), (56 : UInt8), (57 : UInt8),
                                          (97 : UInt8), (98 : UInt8), (99 : UInt8), (100 : UInt8), (101 : UInt8),
                                          (102 : UInt8)])
                                      (opq (bitsI BinOp.and IntKind.u8 (opq (atT s i)) (15 : Int)))
                                      (opq
                                        (IntKind.u8.wrap
                                          (opq (bitsI BinOp.and IntKind.u8 (opq (atT s i)) (15 : Int)) + (1 : Int))))))))
                              0,
                            BdA.ob 0
                              (o.put
                                (strL
                                  (catT
                                    (catT (ByteArray.mk #[(92 : UInt8)])
                                      (subT
                                        (ByteArray.mk
                                          #[(48 : UInt8), (49 : UInt8), (50 : UInt8), (51 : UInt8), (52 : UInt8),
                                            (53 : UInt8), (54 : UInt8), (55 : UInt8), (56 : UInt8), (57 : UInt8),
                                            (97 : UInt8), (98 : UInt8), (99 : UInt8), (100 : UInt8), (101 : UInt8),
                                            (102 : UInt8)])
                                        (opq ((opq (atT s i)).fdiv ((2 : Int) ^ min (Int.toNat (4 : Int)) IntKind.u8.bits)))
                                        (opq
                                          (IntKind.u8.wrap
                                            (opq
                                                ((opq (atT s i)).fdiv
                                                  ((2 : Int) ^ min (Int.toNat (4 : Int)) IntKind.u8.bits)) +
                                              (1 : Int))))))
                                    (subT
                                      (ByteArray.mk
                                        #[(48 : UInt8), (49 : UInt8), (50 : UInt8), (51 : UInt8), (52 : UInt8),
                                          (53 : UInt8), (54 : UInt8), (55 : UInt8), (56 : UInt8), (57 : UInt8),
                                          (97 : UInt8), (98 : UInt8), (99 : UInt8), (100 : UInt8), (101 : UInt8),
                                          (102 : UInt8)])
                                      (opq (bitsI BinOp.and IntKind.u8 (opq (atT s i)) (15 : Int)))
                                      (opq
                                        (IntKind.u8.wrap
                                          (opq (bitsI BinOp.and IntKind.u8 (opq (atT s i)) (15 : Int)) + (1 : Int))))))))
                              1]
                          []))
                      none)
                  none)
                none)
              none)
            none)
          (branch (AV.bool (decide (opq (atT s i) > (126 : Int))))
            (branch
              (AV.bool
                (inSl
                  (ByteArray.mk
                    #[(48 : UInt8), (49 : UInt8), (50 : UInt8), (51 : UInt8), (52 : UInt8), (53 : UInt8), (54 : UInt8),
                      (55 : UInt8), (56 : UInt8), (57 : UInt8), (97 : UInt8), (98 : UInt8), (99 : UInt8), (100 : UInt8),
                      (101 : UInt8), (102 : UInt8)])
                  (opq ((opq (atT s i)).fdiv (16 : Int)))
                  (opq (IntKind.u8.wrap (opq ((opq (atT s i)).fdiv (16 : Int)) + (1 : Int))))))
              (branch
                (AV.bool
                  (catOk (ByteArray.mk #[(92 : UInt8)])
                    (subT
                      (ByteArray.mk
                        #[(48 : UInt8), (49 : UInt8), (50 : UInt8), (51 : UInt8), (52 : UInt8), (53 : UInt8), (54 : UInt8),
                          (55 : UInt8), (56 : UInt8), (57 : UInt8), (97 : UInt8), (98 : UInt8), (99 : UInt8), (100 : UInt8),
                          (101 : UInt8), (102 : UInt8)])
                      (opq ((opq (atT s i)).fdiv (16 : Int)))
                      (opq (IntKind.u8.wrap (opq ((opq (atT s i)).fdiv (16 : Int)) + (1 : Int)))))))
                (branch
                  (AV.bool
                    (inSl
                      (ByteArray.mk
                        #[(48 : UInt8), (49 : UInt8), (50 : UInt8), (51 : UInt8), (52 : UInt8), (53 : UInt8), (54 : UInt8),
                          (55 : UInt8), (56 : UInt8), (57 : UInt8), (97 : UInt8), (98 : UInt8), (99 : UInt8), (100 : UInt8),
                          (101 : UInt8), (102 : UInt8)])
                      (opq (bitsI BinOp.and IntKind.u8 (opq (atT s i)) (15 : Int)))
                      (opq (IntKind.u8.wrap (opq (bitsI BinOp.and IntKind.u8 (opq (atT s i)) (15 : Int)) + (1 : Int))))))
                  (branch
                    (AV.bool
                      (catOk
                        (catT (ByteArray.mk #[(92 : UInt8)])
                          (subT
                            (ByteArray.mk
                              #[(48 : UInt8), (49 : UInt8), (50 : UInt8), (51 : UInt8), (52 : UInt8), (53 : UInt8),
                                (54 : UInt8), (55 : UInt8), (56 : UInt8), (57 : UInt8), (97 : UInt8), (98 : UInt8),
                                (99 : UInt8), (100 : UInt8), (101 : UInt8), (102 : UInt8)])
                            (opq ((opq (atT s i)).fdiv (16 : Int)))
                            (opq (IntKind.u8.wrap (opq ((opq (atT s i)).fdiv (16 : Int)) + (1 : Int))))))
                        (subT
                          (ByteArray.mk
                            #[(48 : UInt8), (49 : UInt8), (50 : UInt8), (51 : UInt8), (52 : UInt8), (53 : UInt8),
                              (54 : UInt8), (55 : UInt8), (56 : UInt8), (57 : UInt8), (97 : UInt8), (98 : UInt8),
                              (99 : UInt8), (100 : UInt8), (101 : UInt8), (102 : UInt8)])
                          (opq (bitsI BinOp.and IntKind.u8 (opq (atT s i)) (15 : Int)))
                          (opq
                            (IntKind.u8.wrap (opq (bitsI BinOp.and IntKind.u8 (opq (atT s i)) (15 : Int)) + (1 : Int)))))))
                    (onSome (BdA.G 0 [BdA.ob 0 X 0, BdA.ob 0 X 1]) none
                      fun (o : Bd) =>
                      branch
                        (AV.bool
                          (o.fits
                            (strL
                                (catT
                                  (catT (ByteArray.mk #[(92 : UInt8)])
                                    (subT
                                      (ByteArray.mk
                                        #[(48 : UInt8), (49 : UInt8), (50 : UInt8), (51 : UInt8), (52 : UInt8),
                                          (53 : UInt8), (54 : UInt8), (55 : UInt8), (56 : UInt8), (57 : UInt8),
                                          (97 : UInt8), (98 : UInt8), (99 : UInt8), (100 : UInt8), (101 : UInt8),
                                          (102 : UInt8)])
                                      (opq ((opq (atT s i)).fdiv (16 : Int)))
                                      (opq (IntKind.u8.wrap (opq ((opq (atT s i)).fdiv (16 : Int)) + (1 : Int))))))
                                  (subT
                                    (ByteArray.mk
                                      #[(48 : UInt8), (49 : UInt8), (50 : UInt8), (51 : UInt8), (52 : UInt8), (53 : UInt8),
                                        (54 : UInt8), (55 : UInt8), (56 : UInt8), (57 : UInt8), (97 : UInt8), (98 : UInt8),
                                        (99 : UInt8), (100 : UInt8), (101 : UInt8), (102 : UInt8)])
                                    (opq (bitsI BinOp.and IntKind.u8 (opq (atT s i)) (15 : Int)))
                                    (opq
                                      (IntKind.u8.wrap
                                        (opq (bitsI BinOp.and IntKind.u8 (opq (atT s i)) (15 : Int)) +
                                          (1 : Int))))))).length))
                        (loopRun (f34_l0.run F) [0, 3, 8, 9] K n
                          (Env.mk 50
                            [(0, AV.str s), (3, AV.tp 0 78 2),
                              (8, AV.int IntKind.i64 m),
                              (9, AV.int IntKind.i64 (IntKind.i64.wrap (i + (1 : Int))))])
                          (St.mk
                            [BdA.ob 0
                                (o.put
                                  (strL
                                    (catT
                                      (catT (ByteArray.mk #[(92 : UInt8)])
                                        (subT
                                          (ByteArray.mk
                                            #[(48 : UInt8), (49 : UInt8), (50 : UInt8), (51 : UInt8), (52 : UInt8),
                                              (53 : UInt8), (54 : UInt8), (55 : UInt8), (56 : UInt8), (57 : UInt8),
                                              (97 : UInt8), (98 : UInt8), (99 : UInt8), (100 : UInt8), (101 : UInt8),
                                              (102 : UInt8)])
                                          (opq
                                            ((opq (atT s i)).fdiv ((2 : Int) ^ min (Int.toNat (4 : Int)) IntKind.u8.bits)))
                                          (opq
                                            (IntKind.u8.wrap
                                              (opq
                                                  ((opq (atT s i)).fdiv
                                                    ((2 : Int) ^ min (Int.toNat (4 : Int)) IntKind.u8.bits)) +
                                                (1 : Int))))))
                                      (subT
                                        (ByteArray.mk
                                          #[(48 : UInt8), (49 : UInt8), (50 : UInt8), (51 : UInt8), (52 : UInt8),
                                            (53 : UInt8), (54 : UInt8), (55 : UInt8), (56 : UInt8), (57 : UInt8),
                                            (97 : UInt8), (98 : UInt8), (99 : UInt8), (100 : UInt8), (101 : UInt8),
                                            (102 : UInt8)])
                                        (opq (bitsI BinOp.and IntKind.u8 (opq (atT s i)) (15 : Int)))
                                        (opq
                                          (IntKind.u8.wrap
                                            (opq (bitsI BinOp.and IntKind.u8 (opq (atT s i)) (15 : Int)) + (1 : Int))))))))
                                0,
                              BdA.ob 0
                                (o.put
                                  (strL
                                    (catT
                                      (catT (ByteArray.mk #[(92 : UInt8)])
                                        (subT
                                          (ByteArray.mk
                                            #[(48 : UInt8), (49 : UInt8), (50 : UInt8), (51 : UInt8), (52 : UInt8),
                                              (53 : UInt8), (54 : UInt8), (55 : UInt8), (56 : UInt8), (57 : UInt8),
                                              (97 : UInt8), (98 : UInt8), (99 : UInt8), (100 : UInt8), (101 : UInt8),
                                              (102 : UInt8)])
                                          (opq
                                            ((opq (atT s i)).fdiv ((2 : Int) ^ min (Int.toNat (4 : Int)) IntKind.u8.bits)))
                                          (opq
                                            (IntKind.u8.wrap
                                              (opq
                                                  ((opq (atT s i)).fdiv
                                                    ((2 : Int) ^ min (Int.toNat (4 : Int)) IntKind.u8.bits)) +
                                                (1 : Int))))))
                                      (subT
                                        (ByteArray.mk
                                          #[(48 : UInt8), (49 : UInt8), (50 : UInt8), (51 : UInt8), (52 : UInt8),
                                            (53 : UInt8), (54 : UInt8), (55 : UInt8), (56 : UInt8), (57 : UInt8),
                                            (97 : UInt8), (98 : UInt8), (99 : UInt8), (100 : UInt8), (101 : UInt8),
                                            (102 : UInt8)])
                                        (opq (bitsI BinOp.and IntKind.u8 (opq (atT s i)) (15 : Int)))
                                        (opq
                                          (IntKind.u8.wrap
                                            (opq (bitsI BinOp.and IntKind.u8 (opq (atT s i)) (15 : Int)) + (1 : Int))))))))
                                1]
                            []))
                        none)
                    none)
                  none)
                none)
              none)
            (branch (AV.bool (opq (atT s i) == (34 : Int)))
              (branch
                (AV.bool
                  (inSl
                    (ByteArray.mk
                      #[(48 : UInt8), (49 : UInt8), (50 : UInt8), (51 : UInt8), (52 : UInt8), (53 : UInt8), (54 : UInt8),
                        (55 : UInt8), (56 : UInt8), (57 : UInt8), (97 : UInt8), (98 : UInt8), (99 : UInt8), (100 : UInt8),
                        (101 : UInt8), (102 : UInt8)])
                    (opq ((opq (atT s i)).fdiv (16 : Int)))
                    (opq (IntKind.u8.wrap (opq ((opq (atT s i)).fdiv (16 : Int)) + (1 : Int))))))
                (branch
                  (AV.bool
                    (catOk (ByteArray.mk #[(92 : UInt8)])
                      (subT
                        (ByteArray.mk
                          #[(48 : UInt8), (49 : UInt8), (50 : UInt8), (51 : UInt8), (52 : UInt8), (53 : UInt8),
                            (54 : UInt8), (55 : UInt8), (56 : UInt8), (57 : UInt8), (97 : UInt8), (98 : UInt8),
                            (99 : UInt8), (100 : UInt8), (101 : UInt8), (102 : UInt8)])
                        (opq ((opq (atT s i)).fdiv (16 : Int)))
                        (opq (IntKind.u8.wrap (opq ((opq (atT s i)).fdiv (16 : Int)) + (1 : Int)))))))
                  (branch
                    (AV.bool
                      (inSl
                        (ByteArray.mk
                          #[(48 : UInt8), (49 : UInt8), (50 : UInt8), (51 : UInt8), (52 : UInt8), (53 : UInt8),
                            (54 : UInt8), (55 : UInt8), (56 : UInt8), (57 : UInt8), (97 : UInt8), (98 : UInt8),
                            (99 : UInt8), (100 : UInt8), (101 : UInt8), (102 : UInt8)])
                        (opq (bitsI BinOp.and IntKind.u8 (opq (atT s i)) (15 : Int)))
                        (opq (IntKind.u8.wrap (opq (bitsI BinOp.and IntKind.u8 (opq (atT s i)) (15 : Int)) + (1 : Int))))))
                    (branch
                      (AV.bool
                        (catOk
                          (catT (ByteArray.mk #[(92 : UInt8)])
                            (subT
                              (ByteArray.mk
                                #[(48 : UInt8), (49 : UInt8), (50 : UInt8), (51 : UInt8), (52 : UInt8), (53 : UInt8),
                                  (54 : UInt8), (55 : UInt8), (56 : UInt8), (57 : UInt8), (97 : UInt8), (98 : UInt8),
                                  (99 : UInt8), (100 : UInt8), (101 : UInt8), (102 : UInt8)])
                              (opq ((opq (atT s i)).fdiv (16 : Int)))
                              (opq (IntKind.u8.wrap (opq ((opq (atT s i)).fdiv (16 : Int)) + (1 : Int))))))
                          (subT
                            (ByteArray.mk
                              #[(48 : UInt8), (49 : UInt8), (50 : UInt8), (51 : UInt8), (52 : UInt8), (53 : UInt8),
                                (54 : UInt8), (55 : UInt8), (56 : UInt8), (57 : UInt8), (97 : UInt8), (98 : UInt8),
                                (99 : UInt8), (100 : UInt8), (101 : UInt8), (102 : UInt8)])
                            (opq (bitsI BinOp.and IntKind.u8 (opq (atT s i)) (15 : Int)))
                            (opq
                              (IntKind.u8.wrap
                                (opq (bitsI BinOp.and IntKind.u8 (opq (atT s i)) (15 : Int)) + (1 : Int)))))))
                      (onSome (BdA.G 0 [BdA.ob 0 X 0, BdA.ob 0 X 1]) none
                        fun (o : Bd) =>
                        branch
                          (AV.bool
                            (o.fits
                              (strL
                                  (catT
                                    (catT (ByteArray.mk #[(92 : UInt8)])
                                      (subT
                                        (ByteArray.mk
                                          #[(48 : UInt8), (49 : UInt8), (50 : UInt8), (51 : UInt8), (52 : UInt8),
                                            (53 : UInt8), (54 : UInt8), (55 : UInt8), (56 : UInt8), (57 : UInt8),
                                            (97 : UInt8), (98 : UInt8), (99 : UInt8), (100 : UInt8), (101 : UInt8),
                                            (102 : UInt8)])
                                        (opq ((opq (atT s i)).fdiv (16 : Int)))
                                        (opq (IntKind.u8.wrap (opq ((opq (atT s i)).fdiv (16 : Int)) + (1 : Int))))))
                                    (subT
                                      (ByteArray.mk
                                        #[(48 : UInt8), (49 : UInt8), (50 : UInt8), (51 : UInt8), (52 : UInt8),
                                          (53 : UInt8), (54 : UInt8), (55 : UInt8), (56 : UInt8), (57 : UInt8),
                                          (97 : UInt8), (98 : UInt8), (99 : UInt8), (100 : UInt8), (101 : UInt8),
                                          (102 : UInt8)])
                                      (opq (bitsI BinOp.and IntKind.u8 (opq (atT s i)) (15 : Int)))
                                      (opq
                                        (IntKind.u8.wrap
                                          (opq (bitsI BinOp.and IntKind.u8 (opq (atT s i)) (15 : Int)) +
                                            (1 : Int))))))).length))
                          (loopRun (f34_l0.run F) [0, 3, 8, 9] K n
                            (Env.mk 50
                              [(0, AV.str s), (3, AV.tp 0 78 2),
                                (8, AV.int IntKind.i64 m),
                                (9, AV.int IntKind.i64 (IntKind.i64.wrap (i + (1 : Int))))])
                            (St.mk
                              [BdA.ob 0
                                  (o.put
                                    (strL
                                      (catT
                                        (catT (ByteArray.mk #[(92 : UInt8)])
                                          (subT
                                            (ByteArray.mk
                                              #[(48 : UInt8), (49 : UInt8), (50 : UInt8), (51 : UInt8), (52 : UInt8),
                                                (53 : UInt8), (54 : UInt8), (55 : UInt8), (56 : UInt8), (57 : UInt8),
                                                (97 : UInt8), (98 : UInt8), (99 : UInt8), (100 : UInt8), (101 : UInt8),
                                                (102 : UInt8)])
                                            (opq
                                              ((opq (atT s i)).fdiv
                                                ((2 : Int) ^ min (Int.toNat (4 : Int)) IntKind.u8.bits)))
                                            (opq
                                              (IntKind.u8.wrap
                                                (opq
                                                    ((opq (atT s i)).fdiv
                                                      ((2 : Int) ^ min (Int.toNat (4 : Int)) IntKind.u8.bits)) +
                                                  (1 : Int))))))
                                        (subT
                                          (ByteArray.mk
                                            #[(48 : UInt8), (49 : UInt8), (50 : UInt8), (51 : UInt8), (52 : UInt8),
                                              (53 : UInt8), (54 : UInt8), (55 : UInt8), (56 : UInt8), (57 : UInt8),
                                              (97 : UInt8), (98 : UInt8), (99 : UInt8), (100 : UInt8), (101 : UInt8),
                                              (102 : UInt8)])
                                          (opq (bitsI BinOp.and IntKind.u8 (opq (atT s i)) (15 : Int)))
                                          (opq
                                            (IntKind.u8.wrap
                                              (opq (bitsI BinOp.and IntKind.u8 (opq (atT s i)) (15 : Int)) +
                                                (1 : Int))))))))
                                  0,
                                BdA.ob 0
                                  (o.put
                                    (strL
                                      (catT
                                        (catT (ByteArray.mk #[(92 : UInt8)])
                                          (subT
                                            (ByteArray.mk
                                              #[(48 : UInt8), (49 : UInt8), (50 : UInt8), (51 : UInt8), (52 : UInt8),
                                                (53 : UInt8), (54 : UInt8), (55 : UInt8), (56 : UInt8), (57 : UInt8),
                                                (97 : UInt8), (98 : UInt8), (99 : UInt8), (100 : UInt8), (101 : UInt8),
                                                (102 : UInt8)])
                                            (opq
                                              ((opq (atT s i)).fdiv
                                                ((2 : Int) ^ min (Int.toNat (4 : Int)) IntKind.u8.bits)))
                                            (opq
                                              (IntKind.u8.wrap
                                                (opq
                                                    ((opq (atT s i)).fdiv
                                                      ((2 : Int) ^ min (Int.toNat (4 : Int)) IntKind.u8.bits)) +
                                                  (1 : Int))))))
                                        (subT
                                          (ByteArray.mk
                                            #[(48 : UInt8), (49 : UInt8), (50 : UInt8), (51 : UInt8), (52 : UInt8),
                                              (53 : UInt8), (54 : UInt8), (55 : UInt8), (56 : UInt8), (57 : UInt8),
                                              (97 : UInt8), (98 : UInt8), (99 : UInt8), (100 : UInt8), (101 : UInt8),
                                              (102 : UInt8)])
                                          (opq (bitsI BinOp.and IntKind.u8 (opq (atT s i)) (15 : Int)))
                                          (opq
                                            (IntKind.u8.wrap
                                              (opq (bitsI BinOp.and IntKind.u8 (opq (atT s i)) (15 : Int)) +
                                                (1 : Int))))))))
                                  1]
                              []))
                          none)
                      none)
                    none)
                  none)
                none)
              (branch (AV.bool (opq (atT s i) == (92 : Int)))
                (branch
                  (AV.bool
                    (inSl
                      (ByteArray.mk
                        #[(48 : UInt8), (49 : UInt8), (50 : UInt8), (51 : UInt8), (52 : UInt8), (53 : UInt8), (54 : UInt8),
                          (55 : UInt8), (56 : UInt8), (57 : UInt8), (97 : UInt8), (98 : UInt8), (99 : UInt8), (100 : UInt8),
                          (101 : UInt8), (102 : UInt8)])
                      (opq ((opq (atT s i)).fdiv (16 : Int)))
                      (opq (IntKind.u8.wrap (opq ((opq (atT s i)).fdiv (16 : Int)) + (1 : Int))))))
                  (branch
                    (AV.bool
                      (catOk (ByteArray.mk #[(92 : UInt8)])
                        (subT
                          (ByteArray.mk
                            #[(48 : UInt8), (49 : UInt8), (50 : UInt8), (51 : UInt8), (52 : UInt8), (53 : UInt8),
                              (54 : UInt8), (55 : UInt8), (56 : UInt8), (57 : UInt8), (97 : UInt8), (98 : UInt8),
                              (99 : UInt8), (100 : UInt8), (101 : UInt8), (102 : UInt8)])
                          (opq ((opq (atT s i)).fdiv (16 : Int)))
                          (opq (IntKind.u8.wrap (opq ((opq (atT s i)).fdiv (16 : Int)) + (1 : Int)))))))
                    (branch
                      (AV.bool
                        (inSl
                          (ByteArray.mk
                            #[(48 : UInt8), (49 : UInt8), (50 : UInt8), (51 : UInt8), (52 : UInt8), (53 : UInt8),
                              (54 : UInt8), (55 : UInt8), (56 : UInt8), (57 : UInt8), (97 : UInt8), (98 : UInt8),
                              (99 : UInt8), (100 : UInt8), (101 : UInt8), (102 : UInt8)])
                          (opq (bitsI BinOp.and IntKind.u8 (opq (atT s i)) (15 : Int)))
                          (opq
                            (IntKind.u8.wrap (opq (bitsI BinOp.and IntKind.u8 (opq (atT s i)) (15 : Int)) + (1 : Int))))))
                      (branch
                        (AV.bool
                          (catOk
                            (catT (ByteArray.mk #[(92 : UInt8)])
                              (subT
                                (ByteArray.mk
                                  #[(48 : UInt8), (49 : UInt8), (50 : UInt8), (51 : UInt8), (52 : UInt8), (53 : UInt8),
                                    (54 : UInt8), (55 : UInt8), (56 : UInt8), (57 : UInt8), (97 : UInt8), (98 : UInt8),
                                    (99 : UInt8), (100 : UInt8), (101 : UInt8), (102 : UInt8)])
                                (opq ((opq (atT s i)).fdiv (16 : Int)))
                                (opq (IntKind.u8.wrap (opq ((opq (atT s i)).fdiv (16 : Int)) + (1 : Int))))))
                            (subT
                              (ByteArray.mk
                                #[(48 : UInt8), (49 : UInt8), (50 : UInt8), (51 : UInt8), (52 : UInt8), (53 : UInt8),
                                  (54 : UInt8), (55 : UInt8), (56 : UInt8), (57 : UInt8), (97 : UInt8), (98 : UInt8),
                                  (99 : UInt8), (100 : UInt8), (101 : UInt8), (102 : UInt8)])
                              (opq (bitsI BinOp.and IntKind.u8 (opq (atT s i)) (15 : Int)))
                              (opq
                                (IntKind.u8.wrap
                                  (opq (bitsI BinOp.and IntKind.u8 (opq (atT s i)) (15 : Int)) + (1 : Int)))))))
                        (onSome (BdA.G 0 [BdA.ob 0 X 0, BdA.ob 0 X 1]) none
                          fun (o : Bd) =>
                          branch
                            (AV.bool
                              (o.fits
                                (strL
                                    (catT
                                      (catT (ByteArray.mk #[(92 : UInt8)])
                                        (subT
                                          (ByteArray.mk
                                            #[(48 : UInt8), (49 : UInt8), (50 : UInt8), (51 : UInt8), (52 : UInt8),
                                              (53 : UInt8), (54 : UInt8), (55 : UInt8), (56 : UInt8), (57 : UInt8),
                                              (97 : UInt8), (98 : UInt8), (99 : UInt8), (100 : UInt8), (101 : UInt8),
                                              (102 : UInt8)])
                                          (opq ((opq (atT s i)).fdiv (16 : Int)))
                                          (opq (IntKind.u8.wrap (opq ((opq (atT s i)).fdiv (16 : Int)) + (1 : Int))))))
                                      (subT
                                        (ByteArray.mk
                                          #[(48 : UInt8), (49 : UInt8), (50 : UInt8), (51 : UInt8), (52 : UInt8),
                                            (53 : UInt8), (54 : UInt8), (55 : UInt8), (56 : UInt8), (57 : UInt8),
                                            (97 : UInt8), (98 : UInt8), (99 : UInt8), (100 : UInt8), (101 : UInt8),
                                            (102 : UInt8)])
                                        (opq (bitsI BinOp.and IntKind.u8 (opq (atT s i)) (15 : Int)))
                                        (opq
                                          (IntKind.u8.wrap
                                            (opq (bitsI BinOp.and IntKind.u8 (opq (atT s i)) (15 : Int)) +
                                              (1 : Int))))))).length))
                            (loopRun (f34_l0.run F) [0, 3, 8, 9] K n
                              (Env.mk 50
                                [(0, AV.str s), (3, AV.tp 0 78 2),
                                  (8, AV.int IntKind.i64 m),
                                  (9, AV.int IntKind.i64 (IntKind.i64.wrap (i + (1 : Int))))])
                              (St.mk
                                [BdA.ob 0
                                    (o.put
                                      (strL
                                        (catT
                                          (catT (ByteArray.mk #[(92 : UInt8)])
                                            (subT
                                              (ByteArray.mk
                                                #[(48 : UInt8), (49 : UInt8), (50 : UInt8), (51 : UInt8), (52 : UInt8),
                                                  (53 : UInt8), (54 : UInt8), (55 : UInt8), (56 : UInt8), (57 : UInt8),
                                                  (97 : UInt8), (98 : UInt8), (99 : UInt8), (100 : UInt8), (101 : UInt8),
                                                  (102 : UInt8)])
                                              (opq
                                                ((opq (atT s i)).fdiv
                                                  ((2 : Int) ^ min (Int.toNat (4 : Int)) IntKind.u8.bits)))
                                              (opq
                                                (IntKind.u8.wrap
                                                  (opq
                                                      ((opq (atT s i)).fdiv
                                                        ((2 : Int) ^ min (Int.toNat (4 : Int)) IntKind.u8.bits)) +
                                                    (1 : Int))))))
                                          (subT
                                            (ByteArray.mk
                                              #[(48 : UInt8), (49 : UInt8), (50 : UInt8), (51 : UInt8), (52 : UInt8),
                                                (53 : UInt8), (54 : UInt8), (55 : UInt8), (56 : UInt8), (57 : UInt8),
                                                (97 : UInt8), (98 : UInt8), (99 : UInt8), (100 : UInt8), (101 : UInt8),
                                                (102 : UInt8)])
                                            (opq (bitsI BinOp.and IntKind.u8 (opq (atT s i)) (15 : Int)))
                                            (opq
                                              (IntKind.u8.wrap
                                                (opq (bitsI BinOp.and IntKind.u8 (opq (atT s i)) (15 : Int)) +
                                                  (1 : Int))))))))
                                    0,
                                  BdA.ob 0
                                    (o.put
                                      (strL
                                        (catT
                                          (catT (ByteArray.mk #[(92 : UInt8)])
                                            (subT
                                              (ByteArray.mk
                                                #[(48 : UInt8), (49 : UInt8), (50 : UInt8), (51 : UInt8), (52 : UInt8),
                                                  (53 : UInt8), (54 : UInt8), (55 : UInt8), (56 : UInt8), (57 : UInt8),
                                                  (97 : UInt8), (98 : UInt8), (99 : UInt8), (100 : UInt8), (101 : UInt8),
                                                  (102 : UInt8)])
                                              (opq
                                                ((opq (atT s i)).fdiv
                                                  ((2 : Int) ^ min (Int.toNat (4 : Int)) IntKind.u8.bits)))
                                              (opq
                                                (IntKind.u8.wrap
                                                  (opq
                                                      ((opq (atT s i)).fdiv
                                                        ((2 : Int) ^ min (Int.toNat (4 : Int)) IntKind.u8.bits)) +
                                                    (1 : Int))))))
                                          (subT
                                            (ByteArray.mk
                                              #[(48 : UInt8), (49 : UInt8), (50 : UInt8), (51 : UInt8), (52 : UInt8),
                                                (53 : UInt8), (54 : UInt8), (55 : UInt8), (56 : UInt8), (57 : UInt8),
                                                (97 : UInt8), (98 : UInt8), (99 : UInt8), (100 : UInt8), (101 : UInt8),
                                                (102 : UInt8)])
                                            (opq (bitsI BinOp.and IntKind.u8 (opq (atT s i)) (15 : Int)))
                                            (opq
                                              (IntKind.u8.wrap
                                                (opq (bitsI BinOp.and IntKind.u8 (opq (atT s i)) (15 : Int)) +
                                                  (1 : Int))))))))
                                    1]
                                []))
                            none)
                        none)
                      none)
                    none)
                  none)
                (onSome (BdA.G 0 [BdA.ob 0 X 0, BdA.ob 0 X 1]) none fun (o : Bd) =>
                  branch
                    (AV.bool (true && (cdec ((0 : Int) ≤ opq (atT s i) ∧ opq (atT s i) < (256 : Int)) && o.fits 1)))
                    (loopRun (f34_l0.run F) [0, 3, 8, 9] K n
                      (Env.mk 50
                        [(0, AV.str s), (3, AV.tp 0 78 2),
                          (8, AV.int IntKind.i64 m),
                          (9, AV.int IntKind.i64 (IntKind.i64.wrap (i + (1 : Int))))])
                      (St.mk
                        [BdA.ob 0 (o.put [(opq (atT s i)).toNat]) 0,
                          BdA.ob 0 (o.put [(opq (atT s i)).toNat]) 1]
                        []))
                    none)))))
        none)
      (K (AX.exit 0) (Env.mk 50 [(3, AV.tp 0 78 2)])
        (St.mk [BdA.ob 0 X 0, BdA.ob 0 X 1] [])) := by kernel_rfl

theorem q_out (F : Nat) (X : Bd) :
    ((Cont.block 0 (Cont.then (f34_r0.run F (f34.leaveK Fun.done)) (f34.leaveK Fun.done))) (.exit 0) (Env.mk 50 [(3, .tp 0 78 2)]) ⟨[BdA.ob 0 X 0, BdA.ob 0 X 1], []⟩ : Ans) =
    onSome (BdA.G 0 [BdA.ob 0 X 0, BdA.ob 0 X 1]) none fun (o : Bd) =>
      branch (AV.bool (o.fits 0))
        (branch (AV.bool (catOk (strB o.bytes) (ByteArray.mk #[(34 : UInt8)])))
          (some
            (Fin.ret (AV.str (catT (strB o.bytes) (ByteArray.mk #[(34 : UInt8)]))),
              St.mk [BdA.ob 0 o.out 0, BdA.ob 0 o.out 1] []))
          none)
        none := by kernel_rfl

theorem u_run (F : Nat) (s : ByteArray) :
    (f52.run F [.str s] ⟨[], []⟩ : Ans) =
    loopRun (f52_l0.run F) [0, 4]
      (Cont.block 0 (Cont.then (f52_r0.run F (f52.leaveK Fun.done)) (f52.leaveK Fun.done))) F
      (Env.mk 44 [(0, AV.str s), (4, AV.tp 0 78 2)])
      (St.mk [Ob.cells [AV.nilptr, AV.nilsl], Ob.nov 0] []) := by kernel_rfl

theorem u_round (F n : Nat) (K : Cont) (s : ByteArray) (X : Bd) :
    (loopRun (f52_l0.run F) [0, 4] K n.succ (Env.mk 44 [(0, .str s), (4, .tp 0 78 2)]) ⟨[BdA.ob 0 X 0, BdA.ob 0 X 1], []⟩ : Ans) =
    branch (AV.bool (decide ((↑s.size : Int) > (0 : Int))))
      (branch (AV.bool (inT s (0 : Int)))
        (branch (AV.bool (inSl s (1 : Int) (↑s.size : Int)))
          (branch (AV.bool (opq (atT s (0 : Int)) == (92 : Int)))
            (branch (AV.bool (decide ((↑(subT s (1 : Int) (↑s.size : Int)).size : Int) < (2 : Int))))
              (K AX.ret (Env.mk 44 [(2, AV.str (ByteArray.mk #[])), (3, AV.bool false)])
                (St.mk [BdA.ob 0 X 0, BdA.ob 0 X 1] []))
              (branch (AV.bool (inT (subT s (1 : Int) (↑s.size : Int)) (0 : Int)))
                (branch
                  (AV.bool
                    (cdec
                      ((0 : Int) ≤ opq (atT (subT s (1 : Int) (↑s.size : Int)) (0 : Int)) ∧
                        opq (atT (subT s (1 : Int) (↑s.size : Int)) (0 : Int)) < (256 : Int))))
                  (branch (AV.bool (decide (digO (opq (atT (subT s (1 : Int) (↑s.size : Int)) (0 : Int))) < (0 : Int))))
                    (K AX.ret (Env.mk 44 [(2, AV.str (ByteArray.mk #[])), (3, AV.bool false)])
                      (St.mk [BdA.ob 0 X 0, BdA.ob 0 X 1] []))
                    (branch (AV.bool (inT (subT s (1 : Int) (↑s.size : Int)) (1 : Int)))
                      (branch
                        (AV.bool
                          (cdec
                            ((0 : Int) ≤ opq (atT (subT s (1 : Int) (↑s.size : Int)) (1 : Int)) ∧
                              opq (atT (subT s (1 : Int) (↑s.size : Int)) (1 : Int)) < (256 : Int))))
                        (branch
                          (AV.bool (decide (digO (opq (atT (subT s (1 : Int) (↑s.size : Int)) (1 : Int))) < (0 : Int))))
                          (K AX.ret (Env.mk 44 [(2, AV.str (ByteArray.mk #[])), (3, AV.bool false)])
                            (St.mk [BdA.ob 0 X 0, BdA.ob 0 X 1] []))
                          (branch (AV.bool (inT (subT s (1 : Int) (↑s.size : Int)) (0 : Int)))
                            (branch
                              (AV.bool
                                (cdec
                                  ((0 : Int) ≤ opq (atT (subT s (1 : Int) (↑s.size : Int)) (0 : Int)) ∧
                                    opq (atT (subT s (1 : Int) (↑s.size : Int)) (0 : Int)) < (256 : Int))))
                              (branch (AV.bool (inT (subT s (1 : Int) (↑s.size : Int)) (1 : Int)))
                                (branch
                                  (AV.bool
                                    (cdec
                                      ((0 : Int) ≤ opq (atT (subT s (1 : Int) (↑s.size : Int)) (1 : Int)) ∧
                                        opq (atT (subT s (1 : Int) (↑s.size : Int)) (1 : Int)) < (256 : Int))))
                                  (branch
                                    (AV.bool
                                      (inSl (subT s (1 : Int) (↑s.size : Int)) (2 : Int)
                                        (↑(subT s (1 : Int) (↑s.size : Int)).size : Int)))
                                    (onSome (BdA.G 0 [BdA.ob 0 X 0, BdA.ob 0 X 1])
                                      none fun (o : Bd) =>
                                      branch
                                        (AV.bool
                                          (true &&
                                            (cdec
                                                ((0 : Int) ≤
                                                    opq
                                                      (IntKind.u8.wrap
                                                        (opq
                                                          (bitsI BinOp.or IntKind.i64
                                                            (opq
                                                              (IntKind.i64.wrap
                                                                (digO
                                                                    (opq
                                                                      (atT (subT s (1 : Int) (↑s.size : Int)) (0 : Int))) *
                                                                  (16 : Int))))
                                                            (digO
                                                              (opq (atT (subT s (1 : Int) (↑s.size : Int)) (1 : Int))))))) ∧
                                                  opq
                                                      (IntKind.u8.wrap
                                                        (opq
                                                          (bitsI BinOp.or IntKind.i64
                                                            (opq
                                                              (IntKind.i64.wrap
                                                                (digO
                                                                    (opq
                                                                      (atT (subT s (1 : Int) (↑s.size : Int)) (0 : Int))) *
                                                                  (16 : Int))))
                                                            (digO
                                                              (opq (atT (subT s (1 : Int) (↑s.size : Int)) (1 : Int))))))) <
                                                    (256 : Int)) &&
                                              o.fits 1)))
                                        (loopRun (f52_l0.run F) [0, 4] K n
                                          (Env.mk 44
                                            [(0,
                                                AV.str
                                                  (subT (subT s (1 : Int) (↑s.size : Int)) (2 : Int)
                                                    (↑(subT s (1 : Int) (↑s.size : Int)).size : Int))),
                                              (4, AV.tp 0 78 2)])
                                          (St.mk
                                            [BdA.ob 0
                                                (o.put
                                                  [(opq
                                                        (IntKind.u8.wrap
                                                          (opq
                                                            (bitsI BinOp.or IntKind.i64
                                                              (opq
                                                                (IntKind.i64.wrap
                                                                  (digO
                                                                      (opq
                                                                        (atT (subT s (1 : Int) (↑s.size : Int))
                                                                          (0 : Int))) *
                                                                    (2 : Int) ^
                                                                      min (Int.toNat (4 : Int)) IntKind.i64.bits)))
                                                              (digO
                                                                (opq
                                                                  (atT (subT s (1 : Int) (↑s.size : Int))
                                                                    (1 : Int)))))))).toNat])
                                                0,
                                              BdA.ob 0
                                                (o.put
                                                  [(opq
                                                        (IntKind.u8.wrap
                                                          (opq
                                                            (bitsI BinOp.or IntKind.i64
                                                              (opq
                                                                (IntKind.i64.wrap
                                                                  (digO
                                                                      (opq
                                                                        (atT (subT s (1 : Int) (↑s.size : Int))
                                                                          (0 : Int))) *
                                                                    (2 : Int) ^
                                                                      min (Int.toNat (4 : Int)) IntKind.i64.bits)))
                                                              (digO
                                                                (opq
                                                                  (atT (subT s (1 : Int) (↑s.size : Int))
                                                                    (1 : Int)))))))).toNat])
                                                1]
                                            []))
                                        none)
                                    none)
                                  none)
                                none)
                              none)
                            none))
                        none)
                      none))
                  none)
                none))
            (onSome (BdA.G 0 [BdA.ob 0 X 0, BdA.ob 0 X 1]) none fun (o : Bd) =>
              branch
                (AV.bool
                  (true &&
                    (cdec ((0 : Int) ≤ opq (atT s (0 : Int)) ∧ opq (atT s (0 : Int)) < (256 : Int)) && o.fits 1)))
                (loopRun (f52_l0.run F) [0, 4] K n
                  (Env.mk 44
                    [(0, AV.str (subT s (1 : Int) (↑s.size : Int))),
                      (4, AV.tp 0 78 2)])
                  (St.mk
                    [BdA.ob 0 (o.put [(opq (atT s (0 : Int))).toNat]) 0,
                      BdA.ob 0 (o.put [(opq (atT s (0 : Int))).toNat]) 1]
                    []))
                none))
          none)
        none)
      (K (AX.exit 0) (Env.mk 44 [(4, AV.tp 0 78 2)])
        (St.mk [BdA.ob 0 X 0, BdA.ob 0 X 1] [])) := by kernel_rfl

theorem u_out (F : Nat) (X : Bd) :
    ((Cont.block 0 (Cont.then (f52_r0.run F (f52.leaveK Fun.done)) (f52.leaveK Fun.done))) (.exit 0) (Env.mk 44 [(4, .tp 0 78 2)]) ⟨[BdA.ob 0 X 0, BdA.ob 0 X 1], []⟩ : Ans) =
    onSome (BdA.G 0 [BdA.ob 0 X 0, BdA.ob 0 X 1]) none fun (o : Bd) =>
      branch (AV.bool (o.fits 0))
        (some
          (Fin.ret (AV.tup [AV.str (strB o.bytes), AV.bool true]),
            St.mk [BdA.ob 0 o.out 0, BdA.ob 0 o.out 1] []))
        none := by kernel_rfl

theorem u_ret (F : Nat) (X : Bd) :
    ((Cont.block 0 (Cont.then (f52_r0.run F (f52.leaveK Fun.done)) (f52.leaveK Fun.done))) .ret (Env.mk 44 [(2, AV.str (ByteArray.mk #[])), (3, AV.bool false)]) ⟨[BdA.ob 0 X 0, BdA.ob 0 X 1], []⟩ : Ans) =
    some
      (Fin.ret (AV.tup [AV.str (ByteArray.mk #[]), AV.bool false]),
        St.mk [BdA.ob 0 X 0, BdA.ob 0 X 1] []) := by kernel_rfl

end Go.Proofs.YtcfedmheblbdnaaDoor.V

/- Values: a text in quotes. -/
set_option linter.unusedVariables false
namespace Go.Proofs.YtcfedmheblbdnaaDoor.V
open Go Go.V Go.RowKit

def hexD (n : Nat) : Nat := bif Nat.blt n 10 then 48 + n else 87 + n
def escB (x : Nat) : Bool := Nat.blt x 32 || (Nat.blt 126 x || (Nat.beq x 34 || Nat.beq x 92))
def encQ (x : Nat) : List Nat := bif escB x then [92, hexD (x / 16), hexD (x % 16)] else [x]
def qtL (l : List Nat) : List Nat := 34 :: (l.flatMap encQ ++ [34])
theorem encQ_len (x : Nat) : (encQ x).length ≤ 3 := by unfold encQ; cases escB x <;> simp
theorem flat_encQ_len : ∀ l : List Nat, (l.flatMap encQ).length ≤ 3 * l.length
  | [] => by simp
  | x :: l => by
    have := encQ_len x
    have := flat_encQ_len l
    simp only [List.flatMap_cons, List.length_append, List.length_cons]; omega
theorem hexD_lt {n : Nat} (h : n < 16) : hexD n < 256 := by unfold hexD; cases Nat.blt n 10 <;> simp <;> omega
theorem encQ_lt {x : Nat} (h : x < 256) : ∀ y ∈ encQ x, y < 256 := by
  intro y hy
  unfold encQ at hy
  cases hb : escB x <;> rw [hb] at hy <;> simp at hy
  · omega
  · rcases hy with rfl | rfl | rfl
    · omega
    · exact hexD_lt (by omega)
    · exact hexD_lt (by omega)
theorem fD_all : (List.range 256).all (fun x => decide ((x : Int).fdiv 16 = ((x / 16 : Nat) : Int)) && (decide (IntKind.u8.wrap (((x / 16 : Nat) : Int) + 1) = ((x / 16 + 1 : Nat) : Int)) && (decide (bitsI .and .u8 (x : Int) 15 = ((x % 16 : Nat) : Int)) && decide (IntKind.u8.wrap (((x % 16 : Nat) : Int) + 1) = ((x % 16 + 1 : Nat) : Int))))) = true := by kernel_rfl
theorem fD {x : Nat} (h : x < 256) : (x : Int).fdiv 16 = ((x / 16 : Nat) : Int) ∧ IntKind.u8.wrap (((x / 16 : Nat) : Int) + 1) = ((x / 16 + 1 : Nat) : Int) ∧ bitsI .and .u8 (x : Int) 15 = ((x % 16 : Nat) : Int) ∧ IntKind.u8.wrap (((x % 16 : Nat) : Int) + 1) = ((x % 16 + 1 : Nat) : Int) := by
  have := List.all_eq_true.mp fD_all x (List.mem_range.mpr h)
  simpa only [Bool.and_eq_true, decide_eq_true_eq] using this
theorem hexL : strL hexB = [48, 49, 50, 51, 52, 53, 54, 55, 56, 57, 97, 98, 99, 100, 101, 102] := by kernel_rfl
def bsB : ByteArray := ⟨#[92]⟩
theorem bsL : strL bsB = [92] := by kernel_rfl
theorem hex_at : (List.range 16).all (fun n => decide ((([48, 49, 50, 51, 52, 53, 54, 55, 56, 57, 97, 98, 99, 100, 101, 102] : List Nat).take (n + 1)).drop n = [hexD n])) = true := by kernel_rfl
theorem hex_sub {n : Nat} (h : n < 16) : strL (subT hexB (n : Int) ((n + 1 : Nat) : Int)) = [hexD n] := by
  rw [subT_list, hexL, Int.toNat_natCast, Int.toNat_natCast]
  have := List.all_eq_true.mp hex_at n (List.mem_range.mpr h)
  exact of_decide_eq_true this
theorem hex_in {n : Nat} (h : n < 16) : inSl hexB (n : Int) ((n + 1 : Nat) : Int) = true := by
  rw [inSl_iff, hexL]; simp; omega
/-- What a byte that is told by two digits looks like. -/
noncomputable def escT (x : Nat) : ByteArray := catT (catT bsB (subT hexB ((x / 16 : Nat) : Int) ((x / 16 + 1 : Nat) : Int))) (subT hexB ((x % 16 : Nat) : Int) ((x % 16 + 1 : Nat) : Int))
theorem escT_list {x : Nat} (h : x < 256) : strL (escT x) = [92, hexD (x / 16), hexD (x % 16)] := by
  rw [escT, catT_list, catT_list, bsL, hex_sub (by omega), hex_sub (by omega)]; rfl
theorem cat_ok1 {x : Nat} (h : x < 256) : catOk bsB (subT hexB ((x / 16 : Nat) : Int) ((x / 16 + 1 : Nat) : Int)) = true := by
  rw [catOk, cdec_iff, bsL, hex_sub (by omega)]; simp
theorem cat_ok2 {x : Nat} (h : x < 256) : catOk (catT bsB (subT hexB ((x / 16 : Nat) : Int) ((x / 16 + 1 : Nat) : Int))) (subT hexB ((x % 16 : Nat) : Int) ((x % 16 + 1 : Nat) : Int)) = true := by
  rw [catOk, cdec_iff, catT_list, bsL, hex_sub (by omega), hex_sub (by omega)]; simp
theorem bd_G {X : Bd} (h : X.Ok) : BdA.G 0 [BdA.ob 0 X 0, BdA.ob 0 X 1] = some X := ADT.G_obl BdA (x := X) h 0
theorem bd_G0 : BdA.G 0 [Ob.cells [AV.nilptr, AV.nilsl], Ob.nov 0] = some (.fresh 0) := by
  have h : (Bd.fresh 0).Ok := trivial
  have := ADT.G_obl BdA (x := .fresh 0) h 0
  rw [ADT.obl_zero BdA (x := .fresh 0) h] at this
  exact this
theorem obl0 {X : Bd} (h : X.Ok) : [BdA.ob 0 X 0, BdA.ob 0 X 1] = X.obs := ADT.obl_zero BdA (x := X) h
theorem onSome_some {α : Type} (x : α) (n : Ans) (f : α → Ans) : onSome (some x) n f = f x := rfl
theorem br_t (y n : Ans) : branch (.bool true) y n = y := rfl
theorem br_f (y n : Ans) : branch (.bool false) y n = n := rfl
theorem int_wrap {i : Nat} (h : i < 1000000000) : IntKind.i64.wrap ((i : Int) + 1) = ((i + 1 : Nat) : Int) := wrap_succ (by omega)

theorem q_loop (F : Nat) (K : Cont) (s : ByteArray) (hs : (strL s).length ≤ 100000000) : ∀ (r n i : Nat) (X : Bd), i + r = (strL s).length → r < n → X.Ok → X.live = true → X.bytes.length + 3 * r ≤ 900000000 →
    ∃ Y : Bd, Y.Ok ∧ Y.live = true ∧ Y.bytes = X.bytes ++ ((strL s).drop i).flatMap encQ ∧
      loopRun (f34_l0.run F) [0, 3, 8, 9] K n (Env.mk 50 [(0, .str s), (3, .tp 0 78 2), (8, .int .i64 (s.size : Int)), (9, .int .i64 (i : Int))]) ⟨[BdA.ob 0 X 0, BdA.ob 0 X 1], []⟩ = K (.exit 0) (Env.mk 50 [(3, .tp 0 78 2)]) ⟨[BdA.ob 0 Y 0, BdA.ob 0 Y 1], []⟩
  | 0, n + 1, i, X, hi, _, ho, hl, hb => by
    refine ⟨X, ho, hl, by rw [List.drop_eq_nil_of_le (by omega)]; simp, ?_⟩
    rw [q_round, strL_size, show decide ((i : Int) < (((strL s).length : Nat) : Int)) = false by simp; omega]
    rfl
  | r + 1, n + 1, i, X, hi, hn, ho, hl, hb => by
    have hil : i < (strL s).length := by omega
    obtain ⟨x, hx⟩ : ∃ x, x = (strL s)[i] := ⟨_, rfl⟩
    have hx256 : x < 256 := strL_lt s x (by rw [hx]; exact List.getElem_mem _)
    have hat : opq (atT s (i : Int)) = (x : Int) := by
      rw [opq_eq, atT, opq_eq, Int.toNat_natCast, List.getD_eq_getElem?_getD, List.getElem?_eq_getElem hil, hx]; rfl
    have hdrop : ((strL s).drop i).flatMap encQ = encQ x ++ ((strL s).drop (i + 1)).flatMap encQ := by
      rw [List.drop_eq_getElem_cons hil, List.flatMap_cons, hx]
    obtain ⟨d1, d2, d3, d4⟩ := fD hx256
    have e1 : opq ((x : Int).fdiv 16) = ((x / 16 : Nat) : Int) := by rw [opq_eq, d1]
    have e1' : opq ((x : Int).fdiv ((2 : Int) ^ min (Int.toNat (4 : Int)) IntKind.u8.bits)) = ((x / 16 : Nat) : Int) := e1
    have e2 : opq (IntKind.u8.wrap (((x / 16 : Nat) : Int) + 1)) = ((x / 16 + 1 : Nat) : Int) := by rw [opq_eq, d2]
    have e3 : opq (bitsI BinOp.and IntKind.u8 (x : Int) 15) = ((x % 16 : Nat) : Int) := by rw [opq_eq, d3]
    have e4 : opq (IntKind.u8.wrap (((x % 16 : Nat) : Int) + 1)) = ((x % 16 + 1 : Nat) : Int) := by rw [opq_eq, d4]
    have hw := int_wrap (i := i) (by omega)
    have fit : X.fits (strL (escT x)).length = true := by rw [Bd.fits_iff, escT_list hx256]; simp only [List.length_cons, List.length_nil]; exact ⟨hl, by omega⟩
    have fit1 : X.fits 1 = true := by rw [Bd.fits_iff]; exact ⟨hl, by omega⟩
    have hc : cdec ((0 : Int) ≤ (x : Int) ∧ (x : Int) < (256 : Int)) = true := by rw [cdec_iff]; omega
    have hin : inT s (i : Int) = true := by rw [inT_iff, Int.toNat_natCast]; exact ⟨by omega, hil⟩
    have hlt : decide ((i : Int) < (((strL s).length : Nat) : Int)) = true := by simp; omega
    have next : ∀ Z : Bd, Z = X.put (encQ x) → ∃ Y : Bd, Y.Ok ∧ Y.live = true ∧ Y.bytes = X.bytes ++ ((strL s).drop i).flatMap encQ ∧
        loopRun (f34_l0.run F) [0, 3, 8, 9] K n (Env.mk 50 [(0, .str s), (3, .tp 0 78 2), (8, .int .i64 (s.size : Int)), (9, .int .i64 ((i + 1 : Nat) : Int))]) ⟨[BdA.ob 0 Z 0, BdA.ob 0 Z 1], []⟩ = K (.exit 0) (Env.mk 50 [(3, .tp 0 78 2)]) ⟨[BdA.ob 0 Y 0, BdA.ob 0 Y 1], []⟩ := by
      intro Z hZ
      obtain ⟨z1, z2⟩ := Bd.put_bytes hl (encQ x)
      rw [← hZ] at z1 z2
      have := encQ_len x
      obtain ⟨Y, y1, y2, y3, y4⟩ := q_loop F K s hs r n (i + 1) Z (by omega) (by omega) (by rw [hZ]; exact ho.put (encQ_lt hx256)) z2 (by rw [z1, List.length_append]; omega)
      exact ⟨Y, y1, y2, by rw [y3, z1, hdrop, List.append_assoc], y4⟩
    by_cases he : escB x = true
    · have hq : encQ x = [92, hexD (x / 16), hexD (x % 16)] := by rw [encQ, he]; rfl
      obtain ⟨Y, y1, y2, y3, y4⟩ := next (X.put (strL (escT x))) (by rw [escT_list hx256, hq])
      refine ⟨Y, y1, y2, y3, ?_⟩
      rw [← y4, q_round, strL_size, hlt, br_t, hin, br_t, hat]
      change _ = _ at e1
      have h1 : inSl hexB ((x / 16 : Nat) : Int) ((x / 16 + 1 : Nat) : Int) = true := hex_in (by omega)
      have h2 : inSl hexB ((x % 16 : Nat) : Int) ((x % 16 + 1 : Nat) : Int) = true := hex_in (by omega)
      have h3 := cat_ok1 hx256
      have h4 := cat_ok2 hx256
      rw [show (ByteArray.mk #[(48 : UInt8), (49 : UInt8), (50 : UInt8), (51 : UInt8), (52 : UInt8), (53 : UInt8), (54 : UInt8), (55 : UInt8), (56 : UInt8), (57 : UInt8), (97 : UInt8), (98 : UInt8), (99 : UInt8), (100 : UInt8), (101 : UInt8), (102 : UInt8)]) = hexB from rfl, show (ByteArray.mk #[(92 : UInt8)]) = bsB from rfl]
      rw [e1, e1', e2, e3, e4, h1, h2, h3, h4, bd_G ho]
      simp only [br_t, onSome_some]
      rw [show catT (catT bsB (subT hexB ((x / 16 : Nat) : Int) ((x / 16 + 1 : Nat) : Int))) (subT hexB ((x % 16 : Nat) : Int) ((x % 16 + 1 : Nat) : Int)) = escT x from rfl, fit, hw]
      simp only [br_t]
      have hcase : ∀ {A B : Ans}, (branch (AV.bool (decide ((x : Int) < 32))) A (branch (AV.bool (decide ((x : Int) > 126))) A (branch (AV.bool ((x : Int) == 34)) A (branch (AV.bool ((x : Int) == 92)) A B)))) = A := by
        intro A B
        simp only [escB, Bool.or_eq_true, Nat.blt_eq, Nat.beq_eq] at he
        by_cases g1 : x < 32
        · rw [show decide ((x : Int) < 32) = true by simp; omega]; rfl
        · rw [show decide ((x : Int) < 32) = false by simp; omega, br_f]
          by_cases g2 : 126 < x
          · rw [show decide ((x : Int) > 126) = true by simp; omega]; rfl
          · rw [show decide ((x : Int) > 126) = false by simp; omega, br_f]
            by_cases g3 : x = 34
            · subst g3; rfl
            · rw [show ((x : Int) == 34) = false by simp; omega, br_f]
              have g4 : x = 92 := by omega
              subst g4; rfl
      rw [hcase]
    · have he : escB x = false := by simpa using he
      have hq : encQ x = [x] := by rw [encQ, he]; rfl
      obtain ⟨Y, y1, y2, y3, y4⟩ := next (X.put [x]) (by rw [hq])
      refine ⟨Y, y1, y2, y3, ?_⟩
      simp only [escB, Bool.or_eq_false_iff] at he
      obtain ⟨g1, g2, g3, g4⟩ := he
      have g1 : ¬ x < 32 := by intro h; rw [Nat.blt_eq.mpr h] at g1; cases g1
      have g2 : ¬ 126 < x := by intro h; rw [Nat.blt_eq.mpr h] at g2; cases g2
      have g3 : x ≠ 34 := by intro h; subst h; cases g3
      have g4 : x ≠ 92 := by intro h; subst h; cases g4
      rw [← y4, q_round, strL_size, hlt, br_t, hin, br_t, hat, show decide ((x : Int) < 32) = false by simp; omega, br_f, show decide ((x : Int) > 126) = false by simp; omega, br_f, show ((x : Int) == 34) = false by simp; omega, br_f, show ((x : Int) == 92) = false by simp; omega, br_f, bd_G ho, onSome_some, hc, fit1, hw, Int.toNat_natCast]
      rfl

theorem q_can {s : ByteArray} (hs : (strL s).length ≤ 100000000) : ∃ st', f34.run 100000001 [.str s] ⟨[], []⟩ = some (.ret (.str (strB (qtL (strL s)))), st') := by
  have h0 : ((Bd.fresh 0).put [Int.toNat 34]).Ok := Bd.Ok.put (X := .fresh 0) trivial (by intro x hx; simp at hx; omega)
  obtain ⟨Y, y1, y2, y3, y4⟩ := q_loop 100000001 (Cont.block 0 (Cont.then (f34_r0.run 100000001 (f34.leaveK Fun.done)) (f34.leaveK Fun.done))) s hs (strL s).length 100000001 0 ((Bd.fresh 0).put [Int.toNat 34]) (by omega) (by omega) h0 rfl (by show 1 + _ ≤ _; omega)
  have hlen := flat_encQ_len (strL s)
  rw [List.drop_zero] at y3
  have hyb : Y.bytes = 34 :: (strL s).flatMap encQ := y3
  have hyl : Y.bytes.length ≤ 300000001 := by rw [hyb, List.length_cons]; omega
  have q34 : strL (⟨#[34]⟩ : ByteArray) = [34] := by kernel_rfl
  have hbb : ∀ b ∈ Y.bytes, b < 256 := by
    cases Y with
    | has v l => exact y1.2
    | _ => intro b hb; cases hb
  refine ⟨⟨[BdA.ob 0 Y.out 0, BdA.ob 0 Y.out 1], []⟩, ?_⟩
  rw [q_run, bd_G0, onSome_some, show (true && (cdec ((0 : Int) ≤ (34 : Int) ∧ (34 : Int) < (256 : Int)) && (Bd.fresh 0).fits 1)) = true by
    rw [show cdec ((0 : Int) ≤ (34 : Int) ∧ (34 : Int) < (256 : Int)) = true by rw [cdec_iff]; omega, show (Bd.fresh 0).fits 1 = true by rw [Bd.fits_iff]; exact ⟨rfl, by show 0 + 1 < _; omega⟩]; rfl, br_t]
  refine Eq.trans y4 ?_
  rw [q_out, bd_G y1, onSome_some, show Y.fits 0 = true by rw [Bd.fits_iff]; exact ⟨y2, by omega⟩, br_t, show catOk (strB Y.bytes) (ByteArray.mk #[34]) = true by rw [catOk, cdec_iff, strL_strB hbb, q34, List.length_singleton]; omega, br_t]
  have : catT (strB Y.bytes) (ByteArray.mk #[34]) = strB (qtL (strL s)) := by
    have e : strL (catT (strB Y.bytes) (ByteArray.mk #[34])) = qtL (strL s) := by rw [catT_list, strL_strB hbb, q34, hyb]; rfl
    rw [← e, strB_strL]
  rw [this]
end Go.Proofs.YtcfedmheblbdnaaDoor.V
