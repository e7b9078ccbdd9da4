/- Merged out of 27 texts: what the claim's code comes to, and why. -/
import Derived.Lib.SlBytesConst
import Derived.Test.YtblliolkgkgppaaRows
import Derived.Test.YtblliolkgkgppaaR32
/- Callees whose arguments may be read as less than they are, and whose answers bear what they have made. -/
set_option linter.unusedVariables false
set_option linter.unusedSimpArgs false
namespace Go.V
section
variable {P : Program}

mutual
/-- A value, what it has of objects read as what never changes. -/
def hard (os : List Ob) : AV → AV
  | .ms j sz o n cap => match os[j]? with
    | some (.cells cs) => match rowsOf sz n (cs.drop o) with
      | some l => .sl sz (Nat.beq n cap) l
      | none => .ms j sz o n cap
    | _ => .ms j sz o n cap
  | .lg _ sz l => .sl sz false (hardR os l)
  | .sl sz f l => .sl sz f (hardR os l)
  | .ns z sz l => .ns z sz (hardR os l)
  | .ptr j o => match os[j]? with
    | some (.cells cs) => .eptr (cs.drop o)
    | _ => .ptr j o
  | .eptr cs => .eptr (hardL os cs)
  | .agg cs => .agg (hardL os cs)
  | .tup cs => .tup (hardL os cs)
  | .fn f a c => .fn f (hardL os a) (hardL os c)
  | .ifc t v => .ifc t (hard os v)
  | .mp k => .mp k
  | .vs j v sz n => match os[j]? with
    | some (.vec v' cs) => match Nat.beq v v' with
      | true => match rowsOf sz n cs with
        | some l => .sl sz false l
        | none => .vs j v sz n
      | false => .vs j v sz n
    | _ => .vs j v sz n
  | .vp j v o => match os[j]? with
    | some (.vec v' cs) => match Nat.beq v v' with
      | true => .eptr (cs.drop o)
      | false => .vp j v o
    | _ => .vp j v o
  | .bool b => .bool b
  | .int k n => .int k n
  | .str s => .str s
  | .nilptr => .nilptr
  | .nilsl => .nilsl
  | .nilmap => .nilmap
  | .nilfn => .nilfn
  | .nilif => .nilif
  | .dead => .dead
def hardL (os : List Ob) : List AV → List AV
  | [] => []
  | x :: l => hard os x :: hardL os l
def hardR (os : List Ob) : List (List AV) → List (List AV)
  | [] => []
  | x :: l => hardL os x :: hardR os l
end
theorem hardL_length (os : List Ob) : ∀ l : List AV, (hardL os l).length = l.length
  | [] => rfl
  | x :: l => by simp only [hardL, List.length_cons, hardL_length os l]
theorem hardR_length (os : List Ob) : ∀ l : List (List AV), (hardR os l).length = l.length
  | [] => rfl
  | x :: l => by simp only [hardR, List.length_cons, hardR_length os l]
theorem scopedL_flat {n m : Nat} : ∀ {l : List (List AV)}, ScopedR n m l → ScopedL n m l.flatten
  | [], _ => trivial
  | x :: l, ⟨h1, h2⟩ => by
    have app : ∀ (a b : List AV), ScopedL n m a → ScopedL n m b → ScopedL n m (a ++ b) := by
      intro a b ha hb
      induction a with
      | nil => exact hb
      | cons y a ih => exact ⟨ha.1, ih ha.2⟩
    rw [List.flatten_cons]
    exact app _ _ h1 (scopedL_flat h2)

mutual
theorem hard_id (os : List Ob) : ∀ (x : AV), Scoped 0 0 x → hard os x = x
  | .ms j sz o n cap, h => absurd h (Nat.not_lt_zero _)
  | .lg _ sz l, h => absurd h.1 (Nat.not_lt_zero _)
  | .sl sz f l, h => by simp only [hard]; rw [hardR_id os l h]
  | .ns z sz l, h => by simp only [hard]; rw [hardR_id os l h]
  | .ptr j o, h => absurd h (Nat.not_lt_zero _)
  | .eptr cs, h => by simp only [hard]; rw [hardL_id os cs h]
  | .agg cs, h => by simp only [hard]; rw [hardL_id os cs h]
  | .tup cs, h => by simp only [hard]; rw [hardL_id os cs h]
  | .fn f a c, h => by simp only [hard]; rw [hardL_id os a h.1, hardL_id os c h.2]
  | .ifc t v, h => by simp only [hard]; rw [hard_id os v h]
  | .mp k, _ => rfl
  | .vs j v sz n, h => absurd h (Nat.not_lt_zero _)
  | .vp j v o, h => absurd h (Nat.not_lt_zero _)
  | .bool b, _ => rfl
  | .int k n, _ => rfl
  | .str s, _ => rfl
  | .nilptr, _ => rfl
  | .nilsl, _ => rfl
  | .nilmap, _ => rfl
  | .nilfn, _ => rfl
  | .nilif, _ => rfl
  | .dead, _ => rfl
theorem hardL_id (os : List Ob) : ∀ (l : List AV), ScopedL 0 0 l → hardL os l = l
  | [], _ => rfl
  | x :: l, h => by simp only [hardL]; rw [hard_id os x h.1, hardL_id os l h.2]
theorem hardR_id (os : List Ob) : ∀ (l : List (List AV)), ScopedR 0 0 l → hardR os l = l
  | [], _ => rfl
  | x :: l, h => by simp only [hardR]; rw [hardL_id os x h.1, hardR_id os l h.2]
end

/-- What is needed of the two pictures. -/
structure HardOk (g g2 : Gh) (os : List Ob) (w : World) : Prop where
  prot : ∀ b off u, w.cell? ⟨b, off, none⟩ = some u → g.prot b off → g2.prot b off
  obj : ∀ (j b : Nat) (cs : List AV), g.objs[j]? = some b → os[j]? = some (.cells cs) → (∀ off, g2.prot b off) ∧ ObRel g w j b (.cells cs)
  vec : ∀ (j v b : Nat) (cs : List AV), j < g.objs.length → os[j]? = some (.vec v cs) → (v = g.ver j → g.kind b = .vec j) → (v = g.ver j → b < w.heap.size) →
    ∃ C : List Value, RelAll g w cs C ∧ (∀ u ∈ C, u.oneCell' = true) ∧ (∀ off, g2.prot b off) ∧ ∀ i v, C[i]? = some v → w.cell? ⟨b, i, none⟩ = some v

theorem objCells {g g2 : Gh} {os : List Ob} {w : World} (h : HardOk g g2 os w) {j b : Nat} {cs : List AV} (hg : g.objs[j]? = some b) (ho : os[j]? = some (.cells cs)) :
    ∃ C : List Value, RelAll g w cs C ∧ (∀ u ∈ C, u.oneCell' = true) ∧ (∀ off, g2.prot b off) ∧ ∀ i v, C[i]? = some v → w.cell? ⟨b, i, none⟩ = some v := by
  obtain ⟨h1, _, C, E, hC, hr, h2⟩ := h.obj j b cs hg ho
  refine ⟨C.toList.take cs.length, hr, h2, h1, fun i v hv => ?_⟩
  rw [cell_of hC]
  rw [List.getElem?_take] at hv
  split at hv
  · simpa using hv
  · cases hv

mutual
theorem hard_rel {g g2 : Gh} {os : List Ob} {w : World} (h : HardOk g g2 os w) : ∀ (a : AV) (v : Value), Scoped 0 0 (hard os a) → Rel g w a v → Rel g2 w (hard os a) v
  | .bool _, _, _, r => r
  | .int _ _, _, _, r => r
  | .str _, _, _, r => r
  | .nilptr, _, _, r => r
  | .nilsl, _, _, r => r
  | .nilmap, _, _, r => r
  | .nilfn, _, _, r => r
  | .nilif, _, _, r => r
  | .mp k, _, s, _ => absurd s (Nat.not_lt_zero _)
  | .dead, _, _, _ => trivial
  | .ptr j o, v, s, ⟨b, r1, r2⟩ => by
    cases ho : os[j]? with
    | none => simp only [hard, ho] at s; exact absurd s (Nat.not_lt_zero _)
    | some ob =>
      cases ob with
      | cells cs =>
        obtain ⟨C, c1, c2, c3, c4⟩ := objCells h r1 ho
        simp only [hard, ho] at s ⊢
        refine ⟨b, o, r2, ?_⟩
        refine RelCells.of (cs.drop o) (C.drop o) b o (RelAll.toProt h.prot _ _ s (RelAll.drop o _ _ c1)) fun j v hj => ?_
        rw [List.getElem?_drop] at hj
        exact ⟨c4 _ _ hj, c3 _, c2 v (List.mem_of_getElem? hj)⟩
      | map es => simp only [hard, ho] at s; exact absurd s (Nat.not_lt_zero _)
      | gone => simp only [hard, ho] at s; exact absurd s (Nat.not_lt_zero _)
      | vec v cs => simp only [hard, ho] at s; exact absurd s (Nat.not_lt_zero _)
  | .ms j sz o n cap, v, s, ⟨b, r1, r2, r3⟩ => by
    cases ho : os[j]? with
    | none => simp only [hard, ho] at s; exact absurd s (Nat.not_lt_zero _)
    | some ob =>
      cases ob with
      | cells cs =>
        obtain ⟨C, c1, c2, c3, c4⟩ := objCells h r1 ho
        cases hl : rowsOf sz n (cs.drop o) with
        | none => simp only [hard, ho, hl] at s; exact absurd s (Nat.not_lt_zero _)
        | some l =>
          simp only [hard, ho, hl] at s ⊢
          obtain ⟨h1, h2, h3⟩ := rowsOf_list sz n _ l hl
          refine ⟨b, o, none, cap, by rw [h1]; exact r2, by rw [h1]; exact r3, fun e => by rw [h1]; exact (Nat.eq_of_beq_eq_true e).symm, .inl rfl, ?_⟩
          refine RelRows.of sz l ((C.drop o).take (n * sz)) b o h2 ?_ fun j v hj => ?_
          · refine RelAll.toProt h.prot _ _ (scopedL_flat s) ?_
            rw [h3]
            exact RelAll.take _ _ _ (RelAll.drop o _ _ c1)
          · rw [List.getElem?_take] at hj
            split at hj
            · rw [List.getElem?_drop] at hj
              exact ⟨c4 _ _ hj, c3 _, c2 v (List.mem_of_getElem? hj)⟩
            · cases hj
      | map es => simp only [hard, ho] at s; exact absurd s (Nat.not_lt_zero _)
      | gone => simp only [hard, ho] at s; exact absurd s (Nat.not_lt_zero _)
      | vec v cs => simp only [hard, ho] at s; exact absurd s (Nat.not_lt_zero _)
  | .vs j v sz n, u, s, r => by
    cases ho : os[j]? with
    | none => simp only [hard, ho] at s; exact absurd s (Nat.not_lt_zero _)
    | some ob =>
      cases ob with
      | vec v' cs =>
        cases hvv : Nat.beq v v' with
        | false => simp only [hard, ho, hvv] at s; exact absurd s (Nat.not_lt_zero _)
        | true =>
          obtain rfl := Nat.eq_of_beq_eq_true hvv
          obtain ⟨b, cap, r1, r2, r3, r4, r5⟩ := r
          obtain ⟨C, c1, c2, c3, c4⟩ := h.vec j v b cs r3 ho (fun e => (r5 e).1) (fun e => by obtain ⟨_, C, E, fz, k, _⟩ := r5 e; exact lt_of_block k)
          cases hl : rowsOf sz n cs with
          | none => simp only [hard, ho, hvv, hl] at s; exact absurd s (Nat.not_lt_zero _)
          | some l =>
            simp only [hard, ho, hvv, hl] at s ⊢
            obtain ⟨h1, h2, h3⟩ := rowsOf_list sz n _ l hl
            refine ⟨b, 0, none, cap, by rw [h1]; exact r1, by rw [h1]; exact r2, (fun e => by cases e), .inl rfl, ?_⟩
            refine RelRows.of sz l (C.take (n * sz)) b 0 h2 ?_ fun j v hj => ?_
            · refine RelAll.toProt h.prot _ _ (scopedL_flat s) ?_
              rw [h3]
              exact RelAll.take _ _ _ c1
            · rw [List.getElem?_take] at hj
              split at hj
              · exact ⟨by rw [Nat.zero_add]; exact c4 _ _ hj, c3 _, c2 v (List.mem_of_getElem? hj)⟩
              · cases hj
      | cells cs => simp only [hard, ho] at s; exact absurd s (Nat.not_lt_zero _)
      | map es => simp only [hard, ho] at s; exact absurd s (Nat.not_lt_zero _)
      | gone => simp only [hard, ho] at s; exact absurd s (Nat.not_lt_zero _)
  | .vp j v o, u, s, r => by
    cases ho : os[j]? with
    | none => simp only [hard, ho] at s; exact absurd s (Nat.not_lt_zero _)
    | some ob =>
      cases ob with
      | vec v' cs =>
        cases hvv : Nat.beq v v' with
        | false => simp only [hard, ho, hvv] at s; exact absurd s (Nat.not_lt_zero _)
        | true =>
          obtain rfl := Nat.eq_of_beq_eq_true hvv
          obtain ⟨b, r1, r3, r4, r5⟩ := r
          obtain ⟨C, c1, c2, c3, c4⟩ := h.vec j v b cs r3 ho (fun e => (r5 e).1) (fun e => (r5 e).2)
          simp only [hard, ho, hvv] at s ⊢
          refine ⟨b, o, r1, ?_⟩
          refine RelCells.of (cs.drop o) (C.drop o) b o (RelAll.toProt h.prot _ _ s (RelAll.drop o _ _ c1)) fun j v hj => ?_
          rw [List.getElem?_drop] at hj
          exact ⟨c4 _ _ hj, c3 _, c2 v (List.mem_of_getElem? hj)⟩
      | cells cs => simp only [hard, ho] at s; exact absurd s (Nat.not_lt_zero _)
      | map es => simp only [hard, ho] at s; exact absurd s (Nat.not_lt_zero _)
      | gone => simp only [hard, ho] at s; exact absurd s (Nat.not_lt_zero _)
  | .eptr cs, _, s, ⟨b, off, r1, r2⟩ => ⟨b, off, r1, hard_relCells h cs b off s r2⟩
  | .sl sz full l, _, s, ⟨b, off, sp, cap, r1, r2, r3, rs, r4⟩ => ⟨b, off, sp, cap, by rw [hardR_length]; exact r1, by rw [hardR_length]; exact r2, by rw [hardR_length]; exact r3, rs.imp id (fun e => by rw [e]; rfl), hard_relRows h sz l b off s r4⟩
  | .ns z sz l, _, s, .inl ⟨r0, r1, r2⟩ => .inl ⟨r0, by subst r1; rfl, r2⟩
  | .ns z sz l, _, s, .inr ⟨r0, b, off, sp, cap, r1, r2, rs, r4⟩ => .inr ⟨r0, b, off, sp, cap, by rw [hardR_length]; exact r1, by rw [hardR_length]; exact r2, rs.imp id (fun e => by rw [e]; rfl), hard_relRows h sz l b off s r4⟩
  | .lg t sz l, _, s, ⟨b, cap, C, E, fz, r1, r2, r3, r4, r5, r9, ⟨n, r6, r7⟩, r8⟩ => ⟨b, 0, none, cap, by rw [hardR_length]; exact r1, by rw [hardR_length]; exact r2, (fun e => by cases e), .inl rfl, hard_relRows h sz l b 0 s r8⟩
  | .fn f a c, _, ⟨s1, s2⟩, ⟨va, vc, r1, r2, r3⟩ => ⟨va, vc, r1, hard_relAll h a va.toList s1 r2, hard_relAll h c vc.toList s2 r3⟩
  | .ifc t a, _, s, ⟨u, r1, r2⟩ => ⟨u, r1, hard_rel h a u s r2⟩
  | .agg cs, _, s, ⟨vs, r1, r2, r3⟩ => ⟨vs, r1, hard_relAll h cs vs.toList s r2, r3⟩
  | .tup cs, _, s, ⟨vs, r1, r2⟩ => ⟨vs, r1, hard_relAll h cs vs.toList s r2⟩
theorem hard_relAll {g g2 : Gh} {os : List Ob} {w : World} (h : HardOk g g2 os w) : ∀ (ays : List AV) (vs : List Value), ScopedL 0 0 (hardL os ays) → RelAll g w ays vs → RelAll g2 w (hardL os ays) vs
  | [], _, _, r => r
  | a :: ays, _, ⟨s1, s2⟩, ⟨v, vr, r1, r2, r3⟩ => ⟨v, vr, r1, hard_rel h a v s1 r2, hard_relAll h ays vr s2 r3⟩
theorem hard_relCells {g g2 : Gh} {os : List Ob} {w : World} (h : HardOk g g2 os w) : ∀ (ays : List AV) (b off : Nat), ScopedL 0 0 (hardL os ays) → RelCells g w ays b off → RelCells g2 w (hardL os ays) b off
  | [], _, _, _, _ => trivial
  | a :: ays, b, off, ⟨s1, s2⟩, ⟨⟨u, r1, r2, r5, r3⟩, r4⟩ => ⟨⟨u, r1, h.prot b off u r1 r2, r5, hard_rel h a u s1 r3⟩, hard_relCells h ays b (off + 1) s2 r4⟩
theorem hard_relRows {g g2 : Gh} {os : List Ob} {w : World} (h : HardOk g g2 os w) (sz : Nat) : ∀ (l : List (List AV)) (b off : Nat), ScopedR 0 0 (hardR os l) → RelRows g w sz l b off → RelRows g2 w sz (hardR os l) b off
  | [], _, _, _, _ => trivial
  | x :: l, b, off, ⟨s1, s2⟩, ⟨r1, r2, r3⟩ => ⟨by rw [hardL_length]; exact r1, hard_relCells h x b off s1 r2, hard_relRows h sz l b (off + sz) s2 r3⟩
end

theorem framedO {id : FuncId} {args : List AV} {r : AV} {st' : St} (h : CallsTo P id args ⟨[], []⟩ (.ret r, st')) (hs : ScopedL 0 0 args) (hr : Scoped 0 0 (hard st'.objs r)) (st : St) : CallsTo P id args st (.ret (hard st'.objs r), st) := by
  intro g w vals hv hst
  have hv1 : RelAll (g.away w.heap.size) w args vals.toList := RelAll.toProt (fun b off u hc hp => by
    obtain ⟨C, E, fz, hb, _⟩ := cell_some hc
    have hlt := lt_of_block hb
    unfold Gh.prot
    simp only [Gh.away]
    rw [if_pos hlt]
    exact hp) args vals.toList hs hv
  refine (h (g.away w.heap.size) w vals hv1 (away_st g w)).mono fun e w' ⟨g', h1, h2, h3⟩ => ?_
  obtain ⟨v, rfl, hv'⟩ := h1
  have hold : ∀ b, b < w.heap.size → g'.kind b = .part (fun off => g.prot b off) ∧ w'.heap[b]? = w.heap[b]? := fun b hb =>
    h3.part b hb (by simp only [Gh.away]; rw [if_pos hb])
  have hOk : HardOk g' (g.kept w.heap.size) st'.objs w' := by
    refine ⟨fun b off u hc hp => ?_, fun j b cs hg ho => ?_, fun j v b cs hj ho e1 e2 => ?_⟩
    · by_cases hb : b < w.heap.size
      · unfold Gh.prot at hp
        rw [(hold b hb).1] at hp
        have hp : g.prot b off := hp
        unfold Gh.prot at hp ⊢
        simp only [Gh.kept]
        rw [if_pos hb]
        exact hp
      · unfold Gh.prot
        simp only [Gh.kept]
        rw [if_neg hb]
        trivial
    · obtain ⟨p1, p2⟩ := h2.obj j b _ hg ho
      refine ⟨fun off => ?_, p2⟩
      have hk := p2.1
      have hb : ¬ b < w.heap.size := by
        intro hb
        rw [(hold b hb).1] at hk
        cases hk
      unfold Gh.prot
      simp only [Gh.kept]
      rw [if_neg hb]
      trivial
    · obtain ⟨q1, b', q2, q3, C, E, q4, q5, q6⟩ := (h2.obj j _ _ (List.getElem?_eq_getElem hj) ho).2
      obtain rfl := (h2.vec b j (e2 q1.symm) (e1 q1.symm)).2 b' q2 q3
      have hb : ¬ b' < w.heap.size := by
        intro hb
        have := (hold b' hb).1
        rw [q3] at this
        cases this
      refine ⟨_, q5, q6, fun off => ?_, fun i v hv => ?_⟩
      · unfold Gh.prot
        simp only [Gh.kept]
        rw [if_neg hb]
        trivial
      · rw [cell_of q4]
        rw [List.getElem?_take] at hv
        split at hv
        · simpa using hv
        · cases hv
  obtain ⟨k1, k2⟩ := kept hst h3.os h3.tape h3.output h3.size fun b hb => (hold b hb).2
  exact ⟨_, ⟨v, rfl, hard_rel hOk r v hr hv'⟩, k1, k2⟩

/-! ### Arguments read as less than they are -/
def Wk (x y : AV) : Prop := (∀ g w v, Rel g w x v → Rel g w y v)
def Wks (xs ys : List AV) : Prop := (∀ g w vs, RelAll g w xs vs → RelAll g w ys vs)
theorem Wk.refl (x : AV) : Wk x x := fun _ _ _ h => h
theorem Wks.nil : Wks [] [] := fun _ _ _ h => h
theorem Wks.cons {x y : AV} {xs ys : List AV} (h : Wk x y) (k : Wks xs ys) : Wks (x :: xs) (y :: ys) :=
  fun g w vs ⟨v, vr, e, h1, h2⟩ => ⟨v, vr, e, h _ _ _ h1, k _ _ _ h2⟩

/-- A slice, read as one that never changes and may be nil. -/
def onNs (sz : Nat) (x : AV) (k : Bool → List (List AV) → Ans) : Ans :=
  match x with
  | .nilsl => k true []
  | .sl s _ l => match Nat.beq s sz with
    | true => k false l
    | false => none
  | .lg _ s l => match Nat.beq s sz with
    | true => k false l
    | false => none
  | .ns z s l => match Nat.beq s sz with
    | true => k z l
    | false => none
  | _ => none
theorem onNs_spec {sz : Nat} {x : AV} {k : Bool → List (List AV) → Ans} {fin : Fin × St} (h : onNs sz x k = some fin) :
    ∃ z l, k z l = some fin ∧ Wk x (.ns z sz l) := by
  unfold onNs at h
  split at h
  · exact ⟨true, [], h, fun g w v hv => .inl ⟨rfl, rfl, hv⟩⟩
  · split at h
    · rename_i hs
      obtain rfl := Nat.eq_of_beq_eq_true hs
      exact ⟨false, _, h, fun g w v ⟨b, off, sp, cap, r1, r2, r3, rs, r4⟩ => .inr ⟨rfl, b, off, sp, cap, r1, r2, rs, r4⟩⟩
    · cases h
  · split at h
    · rename_i hs
      obtain rfl := Nat.eq_of_beq_eq_true hs
      exact ⟨false, _, h, fun g w v ⟨b, cap, C, E, fz, r1, r2, r3, r4, r5, r9, r6, r8⟩ => .inr ⟨rfl, b, 0, none, cap, r1, r2, .inl rfl, r8⟩⟩
    · cases h
  · split at h
    · rename_i z s l hs
      obtain rfl := Nat.eq_of_beq_eq_true hs
      exact ⟨_, _, h, Wk.refl _⟩
    · cases h
  · cases h
theorem onNs_nat {sz : Nat} {x : AV} {s s' : Bool → List (List AV) → Ans} {K : AV → Ans} (h : ∀ z l, s z l = thenA (s' z l) K) : onNs sz x s = thenA (onNs sz x s') K := by
  unfold onNs
  split
  · exact h _ _
  · split
    · exact h _ _
    · rfl
  · split
    · exact h _ _
    · rfl
  · split
    · exact h _ _
    · rfl
  · rfl
theorem onInt_spec {x : AV} {k : IntKind → Int → Ans} {fin : Fin × St} (h : onInt x k = some fin) : ∃ kd n, k kd n = some fin ∧ x = .int kd n := by
  unfold onInt at h
  split at h
  · exact ⟨_, _, h, rfl⟩
  · cases h
/-- A guard. -/
def ifT (b : Bool) (k : Ans) : Ans :=
  match b with
  | true => k
  | false => none
theorem ifT_spec {b : Bool} {k : Ans} {fin : Fin × St} (h : ifT b k = some fin) : b = true ∧ k = some fin := by
  unfold ifT at h
  split at h
  · exact ⟨rfl, h⟩
  · cases h

theorem ifT_nat {b : Bool} {k k' : Ans} {K : AV → Ans} (h : k = thenA k' K) : ifT b k = thenA (ifT b k') K := by
  cases b
  · rfl
  · exact h

/-- A function shown at the empty state, its arguments read as less than they are; its answer bears what it has made. -/
def Fun.farN (f : Fun P) (sem : List AV → (AV → Ans) → Ans)
    (hs : ∀ args k fin, sem args k = some fin → ∃ args' r, k r = some fin ∧ Wks args args' ∧ ScopedL 0 0 args' ∧ Scoped 0 0 r ∧ ∃ F r' st', hard st'.objs r' = r ∧ f.run F args' ⟨[], []⟩ = some (.ret r', st')) : POrc P where
  id := f.id
  fn := f.fn
  hf := f.hf
  hname := f.hname
  hb := by rw [f.hbody]; rfl
  F := sem
  sound k args fin h := by
    obtain ⟨args', r, h1, h2, h3, h4, F, r', st', h5, h6⟩ := hs args k fin h
    subst h5
    exact ⟨_, h1, fun st g w vals hv hst => framedO (f.sound h6) h3 h4 st g w vals (h2 _ _ _ hv) hst⟩
/-- The same, its answer read as less than it is, too. -/
def Fun.farW (f : Fun P) (sem : List AV → (AV → Ans) → Ans)
    (hs : ∀ args k fin, sem args k = some fin → ∃ args' r, k r = some fin ∧ Wks args args' ∧ ScopedL 0 0 args' ∧ ∃ F r' st', f.run F args' ⟨[], []⟩ = some (.ret r', st') ∧ Scoped 0 0 (hard st'.objs r') ∧ Wk (hard st'.objs r') r) : POrc P where
  id := f.id
  fn := f.fn
  hf := f.hf
  hname := f.hname
  hb := by rw [f.hbody]; rfl
  F := sem
  sound k args fin h := by
    obtain ⟨args', r, h1, h2, h3, F, r', st', h4, h5, h6⟩ := hs args k fin h
    refine ⟨_, h1, fun st g w vals hv hst => (framedO (f.sound h4) h3 h5 st g w vals (h2 _ _ _ hv) hst).mono fun e w' ⟨g', k1, k2, k3⟩ => ?_⟩
    obtain ⟨v, rfl, hv'⟩ := k1
    exact ⟨g', ⟨v, rfl, h6 _ _ _ hv'⟩, k2, k3⟩
theorem Wk.nil {sz : Nat} : Wk .nilsl (.ns true sz []) := fun g w v h => .inl ⟨rfl, rfl, h⟩
theorem Wk.sl {sz : Nat} {f : Bool} {l : List (List AV)} : Wk (.sl sz f l) (.ns false sz l) := fun g w v ⟨b, off, sp, cap, r1, r2, r3, rs, r4⟩ => .inr ⟨rfl, b, off, sp, cap, r1, r2, rs, r4⟩
theorem Wk.tup {xs ys : List AV} (h : Wks xs ys) : Wk (.tup xs) (.tup ys) := fun g w v ⟨vs, h1, h2⟩ => ⟨vs, h1, h _ _ _ h2⟩
theorem Wk.agg {xs ys : List AV} (h : Wks xs ys) : Wk (.agg xs) (.agg ys) := fun g w v ⟨vs, h1, h2, h3⟩ => ⟨vs, h1, h _ _ _ h2, h3⟩
end

/-! ### What the core doesn't look into, for bytes -/
/-- Bytes as cells. -/
def bC (l : List Nat) : List AV := l.map fun (b : Nat) => .int .u8 (b : Int)
theorem bC_length (l : List Nat) : (bC l).length = l.length := by simp [bC]
theorem bR_flat (l : List Nat) : (bR l).flatten = bC l := by
  induction l with
  | nil => rfl
  | cons b l ih => simp only [bR, bC, List.map_cons, List.flatten_cons, List.singleton_append] at ih ⊢; rw [ih]
theorem rowsOf_bC : ∀ (n : Nat) (l : List Nat), n ≤ l.length → rowsOf 1 n (bC l) = some (bR (l.take n))
  | 0, l, _ => by simp [rowsOf, bR]
  | n + 1, [], h => by simp at h
  | n + 1, b :: l, h => by
    have ih := rowsOf_bC n l (by simpa using h)
    simp only [bC, List.map_cons, rowsOf, takeN, List.drop_one, List.tail_cons] at ih ⊢
    rw [ih]
    simp [bR]
theorem bC_drop (l : List Nat) (o : Nat) : (bC l).drop o = bC (l.drop o) := by simp [bC]
theorem rowsC_bC {n : Nat} {l : List Nat} {o : Nat} (h : o + n ≤ l.length) : rowsC 1 n (bC l) o = bR ((l.drop o).take n) := by
  rw [rowsC, opq_eq, bC_drop, rowsOf_bC n _ (by simp; omega)]; rfl
theorem zerC_byte (n : Nat) : zerC n [.int .u8 0] = bC (List.replicate n 0) := by
  rw [zerC, opq_eq]
  induction n with
  | zero => rfl
  | succ n ih => rw [List.replicate_succ, List.flatten_cons, ih, List.replicate_succ]; rfl
/-- Bytes written over others. -/
def putN (l : List Nat) (o : Nat) (r : List Nat) : List Nat := l.take o ++ r ++ l.drop (o + r.length)
theorem setAt_bC : ∀ (l : List Nat) (o : Nat) (r : List Nat), o + r.length ≤ l.length → setAt (bC l) o (bC r) = bC (putN l o r)
  | l, o, [], h => by
    have : setAt (bC l) o (bC []) = bC l := by
      show setAt (bC l) o [] = bC l
      cases h' : bC l <;> rfl
    rw [this]; simp [putN]
  | [], o, b :: r, h => by simp at h
  | c :: l, 0, b :: r, h => by
    have ih := setAt_bC l 0 r (by simpa using h)
    simp only [bC, List.map_cons, setAt] at ih ⊢
    rw [ih]
    simp [putN]
  | c :: l, o + 1, b :: r, h => by
    have ih := setAt_bC l o (b :: r) (by simp at h ⊢; omega)
    simp only [bC, List.map_cons, setAt] at ih ⊢
    rw [ih]
    simp only [putN, List.take_succ_cons, List.cons_append, List.length_cons, List.map_cons]
    rw [show o + 1 + (r.length + 1) = (o + (r.length + 1)) + 1 by omega, List.drop_succ_cons]
theorem setC_bC {l : List Nat} {o : Nat} {r : List Nat} (h : o + r.length ≤ l.length) : setC (bC l) o (bC r) = bC (putN l o r) := by
  rw [setC, opq_eq, setAt_bC _ _ _ h]
theorem setC_byte {l : List Nat} {o b : Nat} (h : o < l.length) : setC (bC l) o [.int .u8 (b : Int)] = bC (l.set o b) := by
  have := setC_bC (l := l) (o := o) (r := [b]) (by simp; omega)
  rw [show bC [b] = [.int .u8 (b : Int)] from rfl] at this
  rw [this]
  congr 1
  simp only [putN, List.length_singleton]
  rw [List.set_eq_take_append_cons_drop, if_pos h]
  simp
theorem putN_length {l : List Nat} {o : Nat} {r : List Nat} (h : o + r.length ≤ l.length) : (putN l o r).length = l.length := by
  simp only [putN, List.length_append, List.length_take, List.length_drop]; omega
theorem putN_nil (l : List Nat) (o : Nat) : putN l o [] = l := by simp [putN]
theorem mem_putN {l : List Nat} {o : Nat} {r : List Nat} {b : Nat} (h : b ∈ putN l o r) : b ∈ l ∨ b ∈ r := by
  simp only [putN, List.mem_append] at h
  rcases h with (h | h) | h
  · exact .inl (List.mem_of_mem_take h)
  · exact .inr h
  · exact .inl (List.mem_of_mem_drop h)
theorem flC_bR {l : List Nat} {m : Nat} : flC (bR l) m = bC (l.take m) := by
  rw [flC, opq_eq, bR_take, bR_flat]
end Go.V

/- Bytes, and rows of bytes, as what may be nil. -/
set_option linter.unusedVariables false
set_option linter.unusedSimpArgs false
namespace Go.V

/-- No longer than any memory. -/
noncomputable def fit (n : Nat) : Bool := cdec (n < 4611686018427387904)
theorem fit_iff {n : Nat} : fit n = true ↔ n < 4611686018427387904 := cdec_iff
/-- Rows that are bytes. -/
noncomputable def byOk (l : List (List AV)) : Bool := okR l && fit l.length
theorem byOk_iff {l : List (List AV)} : byOk l = true ↔ okR l = true ∧ l.length < 4611686018427387904 := by rw [byOk, Bool.and_eq_true, fit_iff]
theorem byOk_bR {l : List Nat} (h : ∀ b ∈ l, b < 256) (hl : l.length < 4611686018427387904) : byOk (bR l) = true := by
  rw [byOk_iff, bR_length]; exact ⟨okR_bR h, hl⟩
theorem okR_at {l : List (List AV)} (h : okR l = true) {i : Nat} (hi : i < l.length) : (LD.one (.int .u8)).is (rowAt l (i : Int)) = true ∧ hdI (rowAt l (i : Int)) = ((nR l)[i]'(by rw [nR_length]; exact hi) : Nat) := by
  rw [rowAt_nat hi]
  have h1 := isByte_row (List.all_eq_true.mp h l[i] (List.getElem_mem hi))
  have h2 : (nR l)[i]'(by rw [nR_length]; exact hi) = byteOf l[i] := by simp [nR]
  rw [h2]
  constructor
  · rw [h1.1]; rfl
  · conv => lhs; rw [h1.1]
    rfl
theorem okR_scoped {n m : Nat} : ∀ {l : List (List AV)}, okR l = true → ScopedR n m l
  | [], _ => trivial
  | r :: l, h => by
    simp only [okR, List.all_cons, Bool.and_eq_true] at h
    refine ⟨?_, okR_scoped h.2⟩
    rw [(isByte_row h.1).1]
    exact ⟨trivial, trivial⟩
theorem bR_scoped {n m : Nat} : ∀ (l : List Nat), ScopedR n m (bR l)
  | [] => trivial
  | b :: l => ⟨⟨trivial, trivial⟩, bR_scoped l⟩
theorem wrap_nat {i : Nat} (h : i < 9223372036854775808) : IntKind.i64.wrap (i : Int) = i := wrapS (by omega) (by omega)
theorem wrap_succ {i : Nat} (h : i < 9223372036854775807) : IntKind.i64.wrap ((i : Int) + 1) = ((i + 1 : Nat) : Int) := by
  rw [show (i : Int) + 1 = ((i + 1 : Nat) : Int) by omega]; exact wrap_nat (by omega)

theorem beq_drop {a b : List Nat} {i : Nat} (h1 : i < a.length) (h2 : i < b.length) : (a.drop i == b.drop i) = (a[i] == b[i] && (a.drop (i + 1) == b.drop (i + 1))) := by
  rw [List.drop_eq_getElem_cons h1, List.drop_eq_getElem_cons h2]; rfl

/-- A row of bytes that may be nil. -/
def okSlot (r : List AV) : Bool :=
  match r with
  | [.nilsl] => true
  | [.sl 1 _ l] => okR l
  | [.ns true 1 []] => true
  | [.ns false 1 l] => okR l
  | _ => false
/-- Rows of bytes. -/
noncomputable def okS (l : List (List AV)) : Bool := l.all (fun r => okSlot r && fit (rwA r).length) && fit l.length
/-- What a row holds. -/
def slot (r : List AV) : Option (List Nat) := bif nilA r then none else some (nR (rwA r))
def sR (l : List (List AV)) : List (Option (List Nat)) := l.map slot
theorem sR_length (l : List (List AV)) : (sR l).length = l.length := by simp [sR]
theorem okSlot_spec {r : List AV} (h : okSlot r = true) : isLT (.ns 1) r = true ∧ okR (rwA r) = true ∧ (nilA r = true → rwA r = []) ∧ r.length = 1 ∧ ∀ n m, ScopedL n m r := by
  unfold okSlot at h
  split at h
  · exact ⟨rfl, rfl, fun _ => rfl, rfl, fun _ _ => ⟨trivial, trivial⟩⟩
  · exact ⟨rfl, h, (fun e => by cases e), rfl, fun _ _ => ⟨okR_scoped h, trivial⟩⟩
  · exact ⟨rfl, rfl, fun _ => rfl, rfl, fun _ _ => ⟨trivial, trivial⟩⟩
  · exact ⟨rfl, h, (fun e => by cases e), rfl, fun _ _ => ⟨okR_scoped h, trivial⟩⟩
  · cases h
theorem okS_iff {l : List (List AV)} : okS l = true ↔ (∀ r ∈ l, okSlot r = true ∧ (rwA r).length < 4611686018427387904) ∧ l.length < 4611686018427387904 := by
  rw [okS, Bool.and_eq_true, fit_iff, List.all_eq_true]
  constructor
  · rintro ⟨h1, h2⟩
    refine ⟨fun r hr => ?_, h2⟩
    have := h1 r hr
    rw [Bool.and_eq_true, fit_iff] at this
    exact this
  · rintro ⟨h1, h2⟩
    refine ⟨fun r hr => ?_, h2⟩
    rw [Bool.and_eq_true, fit_iff]
    exact h1 r hr
theorem okS_at {l : List (List AV)} (h : okS l = true) {i : Nat} (hi : i < l.length) :
    (LD.one (.ns 1)).is (rowAt l (i : Int)) = true ∧ byOk (rwA (rowAt l (i : Int))) = true ∧ slot (rowAt l (i : Int)) = (sR l)[i]'(by rw [sR_length]; exact hi) ∧ (nilA (rowAt l (i : Int)) = true → rwA (rowAt l (i : Int)) = []) := by
  rw [okS_iff] at h
  obtain ⟨h1, h2⟩ := h.1 l[i] (List.getElem_mem hi)
  obtain ⟨k1, k2, k3, _⟩ := okSlot_spec h1
  rw [rowAt_nat hi]
  exact ⟨k1, by rw [byOk_iff]; exact ⟨k2, h2⟩, by simp [sR], k3⟩
theorem okS_scoped {n m : Nat} : ∀ {l : List (List AV)}, (∀ r ∈ l, okSlot r = true ∧ (rwA r).length < 4611686018427387904) → ScopedR n m l
  | [], _ => trivial
  | r :: l, h => ⟨(okSlot_spec (h r (by simp)).1).2.2.2.2 n m, okS_scoped fun r hr => h r (by simp [hr])⟩
theorem okS_sub {l r : List (List AV)} (h : okS l = true) (hs : ∀ x ∈ r, x ∈ l) (hl : r.length ≤ l.length) : okS r = true := by
  rw [okS_iff] at h ⊢
  exact ⟨fun x hx => h.1 x (hs x hx), by omega⟩
theorem okS_lt {l : List (List AV)} (h : okS l = true) {s : List Nat} (hs : some s ∈ sR l) : ∀ b ∈ s, b < 256 := by
  rw [okS_iff] at h
  obtain ⟨r, hr, he⟩ := List.mem_map.mp hs
  obtain ⟨h1, h2⟩ := h.1 r hr
  obtain ⟨_, k2, _⟩ := okSlot_spec h1
  unfold slot at he
  cases hn : nilA r with
  | true => rw [hn] at he; cases he
  | false =>
    rw [hn] at he
    simp only [cond_false, Option.some.injEq] at he
    subst he
    exact fun b hb => okR_lt k2 hb

/-! ### Bytes as texts -/
def own (s : ByteArray) : List Nat := s.data.toList.map UInt8.toNat
def txt (l : List Nat) : ByteArray := textOf (l.map fun (b : Nat) => (b : Int))
theorem foldl_push (l : List Nat) : ∀ r : ByteArray, ((l.map fun (b : Nat) => (b : Int)).foldl (fun r n => r.push (UInt8.ofNat n.toNat)) r).data.toList = r.data.toList ++ l.map fun (b : Nat) => UInt8.ofNat b := by
  induction l with
  | nil => intro r; simp
  | cons b l ih =>
    intro r
    simp only [List.map_cons, List.foldl_cons, ih, Int.toNat_natCast]
    simp [ByteArray.push]
theorem own_txt {l : List Nat} (h : ∀ b ∈ l, b < 256) : own (txt l) = l := by
  unfold own txt textOf
  rw [foldl_push]
  simp only [show ByteArray.empty.data.toList = [] from rfl, List.nil_append, List.map_map]
  conv => rhs; rw [← List.map_id l]
  exact List.map_congr_left fun b hb => by
    simp only [Function.comp, UInt8.toNat_ofNat', id]
    exact Nat.mod_eq_of_lt (h b hb)
theorem own_inj {s t : ByteArray} (h : own s = own t) : s = t := by
  unfold own at h
  have h2 : s.data.toList = t.data.toList := List.map_inj_right (f := UInt8.toNat) (fun _ _ e => UInt8.toNat_inj.mp e) |>.mp h
  have h3 : s.data = t.data := Array.toList_inj.mp h2
  cases s; cases t; simp only at h3; rw [h3]
theorem own_lt (s : ByteArray) : ∀ b ∈ own s, b < 256 := by
  intro b hb
  obtain ⟨x, _, rfl⟩ := List.mem_map.mp hb
  exact x.toNat_lt
theorem txt_own (s : ByteArray) : txt (own s) = s := own_inj (own_txt (own_lt s))
theorem text_beq (s t : ByteArray) : (s.toList == t.toList) = (own s == own t) := by
  rw [ByteArray.toList_eq, ByteArray.toList_eq, Bool.eq_iff_iff, beq_iff_eq, beq_iff_eq]
  constructor
  · intro h; rw [own, own, h]
  · intro h; rw [own_inj h]
theorem numsOf_nR {l : List (List AV)} (h : okR l = true) : numsOf l = some ((nR l).map fun (b : Nat) => (b : Int)) := by
  have := numsOf_map ((nR l).map fun (b : Nat) => (b : Int))
  rw [List.map_map] at this
  conv at this => lhs; arg 1; rw [show ((fun (b : Int) => [AV.int IntKind.u8 b]) ∘ fun (b : Nat) => (b : Int)) = fun (b : Nat) => [AV.int IntKind.u8 (b : Int)] from rfl]
  rw [show (nR l).map (fun (b : Nat) => [AV.int IntKind.u8 (b : Int)]) = bR (nR l) from rfl, ← okR_rows h] at this
  exact this
end Go.V

/- Slices that grow and are written: append, stores, pieces. -/
set_option linter.unusedVariables false
set_option linter.unusedSimpArgs false
namespace Go.V
section
variable {P : Program}

theorem setV_whole : ∀ (L : List Value) (o : Nat) (vs : List Value), o + vs.length ≤ L.length → (setV L o vs).take (o + vs.length) = L.take o ++ vs
  | L, o, [], h => by
    have : setV L o [] = L := by cases L <;> rfl
    simp [this]
  | [], o, v :: vs, h => by simp at h
  | l :: L, 0, v :: vs, h => by
    have ih := setV_whole L 0 vs (by simp at h ⊢; omega)
    rw [Nat.zero_add] at ih ⊢
    simp [setV, ih]
  | l :: L, o + 1, v :: vs, h => by
    have ih := setV_whole L o (v :: vs) (by simp at h ⊢; omega)
    rw [show o + 1 + (v :: vs).length = (o + (v :: vs).length) + 1 by omega]
    simp only [setV, List.take_succ_cons, ih, List.cons_append]

def mvKind (g : Gh) (sz j x : Nat) : BK := if x = sz then .vec j else match g.kind x with
  | .vec k => if k = j then .solid else .vec k
  | y => y
theorem mvKind_old {g : Gh} {sz j x : Nat} (hx : x ≠ sz) (hk : ∀ k, g.kind x ≠ .vec k) : mvKind g sz j x = g.kind x := by
  unfold mvKind
  rw [if_neg hx]
  cases e : g.kind x with
  | vec k => exact absurd e (hk k)
  | _ => rfl
theorem mvKind_vec {g : Gh} {sz j x k : Nat} (hx : x ≠ sz) (hk : k ≠ j) (e : g.kind x = .vec k) : mvKind g sz j x = .vec k := by
  unfold mvKind
  rw [if_neg hx, e]
  simp only
  rw [if_neg hk]
theorem mvKind_back {g : Gh} {sz j x : Nat} {y : BK} (e : mvKind g sz j x = y) (hx : x < sz + 1) (hy : y ≠ .solid) : (x = sz ∧ y = .vec j) ∨ (x < sz ∧ g.kind x = y ∧ ∀ k, y = .vec k → k ≠ j) := by
  unfold mvKind at e
  split at e
  · rename_i h; exact .inl ⟨h, e.symm⟩
  · rename_i h
    refine .inr ⟨by omega, ?_⟩
    cases h2 : g.kind x with
    | vec k =>
      rw [h2] at e
      simp only at e
      split at e
      · exact absurd e.symm hy
      · rename_i h3
        refine ⟨e, fun k' h4 => ?_⟩
        rw [h4] at e; cases e; exact h3
    | _ =>
      rw [h2] at e
      refine ⟨e, fun k' h4 => ?_⟩
      rw [h4] at e; cases e

/-- A growing object has a new block. -/
theorem vec_moved {g : Gh} {st : St} {w w1 : World} {C : Array Value} {E : TypeId} (hs : StRel g st w) (hp : Push w w1 (.cells C E)) {j v : Nat} {cs : List AV} {gos : List Nat} {os : List Ob}
    (hold : ∀ o, st.objs[j]? = some o → ∃ v0 cs0, o = .vec v0 cs0 ∧ v0 < v) (hj : gos[j]?.isSome) (hgos : ∀ k b : Nat, g.objs[k]? = some b → gos[k]? = some b) (hgos2 : ∀ k b : Nat, gos[k]? = some b → g.objs[k]? = some b ∨ (k = j ∧ b = w.heap.size))
    (hlen : gos.length = os.length) (hosj : os[j]? = some (.vec v cs)) (hos : ∀ k : Nat, k ≠ j → os[k]? = st.objs[k]?) (hr : RelAll g w cs (C.toList.take cs.length)) (h1 : ∀ u ∈ C.toList.take cs.length, u.oneCell' = true) :
    ∃ g', StRel g' ⟨os, st.tk⟩ w1 ∧ Ev g w g' w1 ∧ ∀ c sz n, n ≤ c → c * sz ≤ C.size → Rel g' w1 (.vs j v sz n) (.slice (some ⟨w.heap.size, 0, none⟩) n c) := by
  have hjl : j < gos.length := by
    rcases Nat.lt_or_ge j gos.length with h | h
    · exact h
    · rw [List.getElem?_eq_none h] at hj; cases hj
  have hglen : ∀ k, k < g.objs.length → k < gos.length := fun k hk => getElem?_lt (hgos k _ (List.getElem?_eq_getElem hk))
  have hverj : j < g.objs.length → g.ver j < v := by
    intro h
    have h2 : st.objs[j]? = some (st.objs[j]'(by rw [← hs.len]; exact h)) := List.getElem?_eq_getElem _
    obtain ⟨v0, cs0, h3, h4⟩ := hold _ h2
    rw [h3] at h2
    rw [(vec_of hs h h2).1]
    exact h4
  have hkd0 := fun x => mvKind_old (g := g) (sz := w.heap.size) (j := j) (x := x)
  have hkdv := fun x k => mvKind_vec (g := g) (sz := w.heap.size) (j := j) (x := x) (k := k)
  have hback : ∀ x y, mvKind g w.heap.size j x = y → x < w1.heap.size → y ≠ .solid → (x = w.heap.size ∧ y = .vec j) ∨ (x < w.heap.size ∧ g.kind x = y ∧ ∀ k, y = .vec k → k ≠ j) := by
    intro x y e hx hy
    rw [hp.size] at hx
    exact mvKind_back e (by omega) hy
  let g' : Gh := ⟨mvKind g w.heap.size j, gos, g.tk, fun x => if x = j then v else g.ver x⟩
  have hE : Ev g w g' w1 := by
    refine ⟨hp.os, hp.tape, hp.output, by rw [hp.size]; omega, fun b hb hk => ⟨?_, hp.old hb⟩, fun b t hb hk => ⟨?_, fun C' E' fz hC => ⟨C', (hp.old hb).trans hC, rfl, fun _ _ => rfl⟩⟩, fun b k hb hk => .inl ?_, hgos, tk_refl _, fun k hk => ?_, fun b k hb hkl hk hv => ⟨?_, fun C' E' fz hC => ⟨C', (hp.old hb).trans hC, rfl⟩⟩⟩
    · exact hkd0 b (by omega) (fun k e => by rw [e] at hk; cases hk)
    · exact (hkd0 b (by omega) (fun k e => by rw [e] at hk; cases hk)).trans hk
    · exact (hkd0 b (by omega) (fun k e => by rw [e] at hk; cases hk)).trans hk
    · simp only [g']
      split
      · rename_i e; subst e; exact Nat.le_of_lt (hverj hk)
      · exact Nat.le_refl _
    · refine hkdv b k (by omega) ?_ hk
      intro e
      subst e
      simp only [g', if_true] at hv
      have := hverj hkl
      omega
  refine ⟨g', ⟨hs.tk, hlen, fun k b o hk ho => ?_, fun b k hb hk => ?_, fun b t hb hk => ?_, fun b k hb hk => ?_⟩, hE, fun c sz n h2 h3 => ⟨w.heap.size, c, rfl, h2, hjl, by simp [g'], fun _ => ⟨by simp [g', mvKind], C, E, (0, 0), hp.new, h3⟩⟩⟩
  · by_cases hkj : k = j
    · subst hkj
      have ho : os[k]? = some o := ho
      rw [hosj] at ho
      cases ho
      refine ⟨?_, by simp [g'], w.heap.size, by rw [hp.size]; omega, by simp [g', mvKind], C, E, hp.new, RelAll.mono hE _ _ hr, h1⟩
      rcases hgos2 k b hk with h | ⟨_, h⟩
      · have hkl : k < st.objs.length := by rw [← hs.len]; exact getElem?_lt h
        have := (hs.obj k b _ h (List.getElem?_eq_getElem hkl)).1
        rw [hp.size]; omega
      · rw [h, hp.size]; omega
    · have ho : os[k]? = some o := ho
      rw [hos k hkj] at ho
      rcases hgos2 k b hk with h | ⟨h, _⟩
      · obtain ⟨k1, k2⟩ := hs.obj k b o h ho
        refine ⟨by rw [hp.size]; omega, ?_⟩
        cases o with
        | gone => trivial
        | cells cs' => 
          have := k2.1
          exact k2.keep hE (hp.old k1) (hkd0 b (by omega) (fun k e => by rw [e] at this; cases this)) (fun b' hb' hv => ⟨hp.old hb', hkdv b' k (by omega) hkj hv⟩) (by simp only [g']; rw [if_neg hkj])
        | map es =>
          have := k2.1
          exact k2.keep hE (hp.old k1) (hkd0 b (by omega) (fun k e => by rw [e] at this; cases this)) (fun b' hb' hv => ⟨hp.old hb', hkdv b' k (by omega) hkj hv⟩) (by simp only [g']; rw [if_neg hkj])
        | vec v' cs' =>
          obtain ⟨e1, b'', e2, e3, C', E', e4, e5, e6⟩ := k2
          exact ⟨by simp only [g']; rw [if_neg hkj]; exact e1, b'', by rw [hp.size]; omega, hkdv b'' k (by omega) hkj e3, C', E', (hp.old e2).trans e4, RelAll.mono hE _ _ e5, e6⟩
      · exact absurd h hkj
  · rcases hback b _ hk hb (by intro e; cases e) with ⟨_, h⟩ | ⟨h1, h2, _⟩
    · cases h
    · obtain ⟨o, k1, k2, k3⟩ := hs.back b k h1 h2
      have hkj : k ≠ j := by
        intro e
        subst e
        obtain ⟨v0, cs0, h, _⟩ := hold o k1
        subst h
        exact k3.elim
      exact ⟨o, by show os[k]? = some o; rw [hos k hkj]; exact k1, hgos k b k2, k3⟩
  · rcases hback b _ hk hb (by intro e; cases e) with ⟨_, h⟩ | ⟨h1, h2, _⟩
    · cases h
    · exact hs.rowlt b t h1 h2
  · rcases hback b _ hk hb (by intro e; cases e) with ⟨h0, h⟩ | ⟨h1, h2, h3⟩
    · cases h
      refine ⟨⟨v, cs, hosj⟩, fun b' hb' hk' => ?_⟩
      rcases hback b' _ hk' hb' (by intro e; cases e) with ⟨h4, _⟩ | ⟨_, _, h5⟩
      · rw [h4, h0]
      · exact absurd rfl (h5 _ rfl)
    · have hkj := h3 k rfl
      obtain ⟨⟨v0, cs0, k1⟩, k2⟩ := hs.vec b k h1 h2
      refine ⟨⟨v0, cs0, by show os[k]? = _; rw [hos k hkj]; exact k1⟩, fun b' hb' hk' => ?_⟩
      rcases hback b' _ hk' hb' (by intro e; cases e) with ⟨_, h4⟩ | ⟨h5, h6, _⟩
      · cases h4; exact absurd rfl hkj
      · exact k2 b' h5 h6

noncomputable def catC (cs : List AV) (m : Nat) (rows : List (List AV)) : List AV := opq (cs.take m ++ rows.flatten)

/-- Append, to a slice that grows and is written. -/
noncomputable def aappV (sz bytes : Nat) (s x : AV) (st : St) (k : AV → St → Ans) : Ans :=
  match rowsT sz x st with
  | none => none
  | some rows => match s with
    | .nilsl => match apOk rows.length bytes with
      | true => match Nat.beq rows.length 0 with
        | true => k .nilsl st
        | false => k (.vs st.objs.length 0 sz rows.length) ⟨st.objs ++ [.vec 0 (catC [] 0 rows)], st.tk⟩
      | false => none
    | .sl s' true l => match Nat.beq s' sz && apOk (l.length + rows.length) bytes with
      | true => match Nat.beq rows.length 0 with
        | true => k (.sl sz true l) st
        | false => k (.vs st.objs.length 0 sz (l.length + rows.length)) ⟨st.objs ++ [.vec 0 (catC (catC [] 0 l) (mulN l.length sz) rows)], st.tk⟩
      | false => none
    | .vs j v s' n => match Nat.beq s' sz with
      | true => match st.objs[j]? with
        | some (.vec v' cs) => match Nat.beq v v' && (inC cs 0 (mulN n sz) && apOk (n + rows.length) bytes) with
          | true => k (.vs j (v + 1) sz (n + rows.length)) ⟨st.objs.set j (.vec (v + 1) (catC cs (mulN n sz) rows)), st.tk⟩
          | false => none
        | _ => none
      | false => none
    | _ => none

theorem aappV_nat (sz bytes : Nat) (s x : AV) (st : St) (k : AV → St → Ans) : aappV sz bytes s x st k = thenM (aappV sz bytes s x st retM) k := by
  unfold aappV
  split
  · rfl
  · split
    · split
      · split <;> rfl
      · rfl
    · split
      · split <;> rfl
      · rfl
    · split
      · split
        · split <;> rfl
        · rfl
      · rfl
    · rfl

theorem aappV_run {T X e sz bytes : Nat} {z : Value} (hT : ElemOf P T e sz bytes z) {dx : TypeDesc} (hX : P.underlying X = some dx) (hdx : isSeq dx = true) (ty : TypeId) {g : Gh} {st : St} {w : World} (hs : StRel g st w) {S Y : AV} {s x : Value} (hS : Rel g w S s) (hY : Rel g w Y x) {k : AV → St → Ans} {fin : Fin × St} (h : aappV sz bytes S Y st k = some fin) :
    ∃ r v st' g' w', k r st' = some fin ∧ (Builtin.append_ #[T, X] ty #[s, x]).run P w = .ok v w' ∧ Rel g' w' r v ∧ StRel g' st' w' ∧ Ev g w g' w' := by
  have hzc : ∀ n, (Builtin.zeroCells z.cells n).toList.length = n * sz := fun n => by rw [Array.length_toList (xs := Builtin.zeroCells z.cells n), size_zeroCells, hT.cells]
  unfold aappV at h
  split at h
  · cases h
  · rename_i rows hrows
    obtain ⟨news, h1, h2, h3, h4, h5, h6⟩ := rowsA_run (P := P) hs hY (rowsT_rowsA hrows)
    -- a new block
    have fresh : ∀ p (l : List (List AV)) (olds : List Value) cap j v (gos : List Nat) (os : List Ob), s = .slice p l.length cap → RelAll g w l.flatten olds → (∀ u ∈ olds, u.oneCell' = true) → (∀ x ∈ l, x.length = sz) →
        (∀ w', w'.heap = w.heap → (Builtin.firstCells sz l.length (.slice p l.length cap)).run P w' = .ok olds.toArray w') → cap < l.length + rows.length → (l.length + rows.length) * bytes ≤ 140737488355328 →
        (∀ o, st.objs[j]? = some o → ∃ v0 cs0, o = .vec v0 cs0 ∧ v0 < v) → (gos[j]?).isSome → (∀ k b : Nat, g.objs[k]? = some b → gos[k]? = some b) → (∀ k b : Nat, gos[k]? = some b → g.objs[k]? = some b ∨ (k = j ∧ b = w.heap.size)) →
        gos.length = os.length → os[j]? = some (.vec v (l.flatten ++ rows.flatten)) → (∀ k : Nat, k ≠ j → os[k]? = st.objs[k]?) → k (.vs j v sz (l.length + rows.length)) ⟨os, st.tk⟩ = some fin →
        ∃ r v st' g' w', k r st' = some fin ∧ (Builtin.append_ #[T, X] ty #[s, x]).run P w = .ok v w' ∧ Rel g' w' r v ∧ StRel g' st' w' ∧ Ev g w g' w' := by
      intro p l olds cap j v gos os hs' ho ho1 hol hfirst hcap hb q1 q2 q3 q4 q5 q6 q7 hk
      subst hs'
      have hrun := run_append_grows (P := P) hT hX hdx ty h5 hfirst h6 hcap hb
      have hge := grownCap_ge w (l.length + rows.length) cap e
      have hal := RelAll.append _ _ _ _ ho h1
      have holen : olds.length = l.length * sz := by rw [← RelAll.length _ _ ho, flat_len l hol]
      have hlen : (l.flatten ++ rows.flatten).length = (olds ++ news).length := RelAll.length _ _ hal
      obtain ⟨g', k1, k2, k3⟩ := vec_moved (j := j) (v := v) (gos := gos) (os := os) (cs := l.flatten ++ rows.flatten) hs (Push.drew w (.cells (olds ++ news ++ (Builtin.zeroCells z.cells (grownCap w (l.length + rows.length) cap e - (l.length + rows.length))).toList).toArray e)) q1 q2 q3 q4 q5 q6 q7
        (by rw [hlen, List.toList_toArray, List.take_left]; exact hal) (fun u hu => by
          rw [hlen, List.toList_toArray, List.take_left] at hu
          rcases List.mem_append.mp hu with hu | hu
          · exact ho1 u hu
          · exact h3 u hu)
      refine ⟨_, _, _, g', _, hk, hrun, k3 _ sz _ hge ?_, k1, k2⟩
      rw [List.size_toArray, List.length_append, List.length_append, hzc, holen, h4, ← Nat.add_mul, ← Nat.add_mul]
      exact Nat.mul_le_mul_right _ (by omega)
    have newobj : ∀ (l : List (List AV)) cap p olds, s = .slice p l.length cap → RelAll g w l.flatten olds → (∀ u ∈ olds, u.oneCell' = true) → (∀ x ∈ l, x.length = sz) →
        (∀ w', w'.heap = w.heap → (Builtin.firstCells sz l.length (.slice p l.length cap)).run P w' = .ok olds.toArray w') → cap < l.length + rows.length → (l.length + rows.length) * bytes ≤ 140737488355328 →
        k (.vs st.objs.length 0 sz (l.length + rows.length)) ⟨st.objs ++ [.vec 0 (l.flatten ++ rows.flatten)], st.tk⟩ = some fin →
        ∃ r v st' g' w', k r st' = some fin ∧ (Builtin.append_ #[T, X] ty #[s, x]).run P w = .ok v w' ∧ Rel g' w' r v ∧ StRel g' st' w' ∧ Ev g w g' w' := by
      intro l cap p olds q1 q2 q3 q4 q5 q6 q7 q8
      refine fresh p l olds cap st.objs.length 0 (g.objs ++ [w.heap.size]) _ q1 q2 q3 q4 q5 q6 q7 (fun o ho => ?_) ?_ (fun k b hk => ?_) (fun k b hk => ?_) (by simp [hs.len]) (by simp) (fun k hk => ?_) q8
      · rw [List.getElem?_eq_none (Nat.le_refl _)] at ho; cases ho
      · rw [List.getElem?_append_right (by rw [hs.len]; exact Nat.le_refl _)]; simp [hs.len]
      · rw [List.getElem?_append_left (getElem?_lt hk)]; exact hk
      · rcases Nat.lt_or_ge k g.objs.length with hlt | hge
        · rw [List.getElem?_append_left hlt] at hk; exact .inl hk
        · have hlt := getElem?_lt hk
          rw [List.length_append, List.length_singleton] at hlt
          have : k = g.objs.length := by omega
          subst this
          rw [List.getElem?_append_right (Nat.le_refl _)] at hk
          simp at hk
          exact .inr ⟨hs.len, hk.symm⟩
      · rcases Nat.lt_or_ge k st.objs.length with hlt | hge
        · rw [List.getElem?_append_left hlt]
        · rw [List.getElem?_eq_none (by simp; omega), List.getElem?_eq_none hge]
    split at h
    · obtain rfl : s = .slice none 0 0 := hS
      split at h
      · rename_i hc
        rw [apOk_iff] at hc
        split at h
        · rename_i h0
          have h0 := Nat.eq_of_beq_eq_true h0
          have hn : news = [] := List.eq_nil_of_length_eq_zero (by rw [h4, h0, Nat.zero_mul])
          have := run_append_fits (P := P) (p := none) (n := 0) (cap := 0) hT hX hdx ty h5 (h6 w rfl) (by omega)
          refine ⟨_, _, _, g, w, h, this, ?_, hs, Ev.refl g w⟩
          rw [h0]; rfl
        · rename_i h0
          have h0 : rows.length ≠ 0 := by intro e; rw [e] at h0; cases h0
          rw [catC, opq_eq] at h
          exact newobj [] 0 none [] rfl rfl (by simp) (by simp) (fun w' _ => by simp [Builtin.firstCells]) (by simp; omega) (by simpa using hc) (by simpa using h)
      · cases h
    · rename_i s' l
      split at h
      · rename_i hc
        rw [Bool.and_eq_true, apOk_iff] at hc
        obtain ⟨hsz, hc⟩ := hc
        obtain rfl := Nat.eq_of_beq_eq_true hsz
        obtain ⟨b, o, sp, cap, rfl, hle, hf, hsp, hr⟩ := hS
        have hcap := hf rfl
        split at h
        · rename_i h0
          have h0 := Nat.eq_of_beq_eq_true h0
          have hn : news = [] := List.eq_nil_of_length_eq_zero (by rw [h4, h0, Nat.zero_mul])
          subst hn
          have := run_append_fits (P := P) (p := some ⟨b, o, sp⟩) (n := l.length) (cap := cap) hT hX hdx ty h5 (h6 w rfl) (by omega)
          rw [h0] at this
          exact ⟨_, _, _, g, w, h, by simpa [storeCells] using this, ⟨b, o, sp, cap, rfl, hle, hf, hsp, hr⟩, hs, Ev.refl g w⟩
        · rename_i h0
          have h0 : rows.length ≠ 0 := by intro e; rw [e] at h0; cases h0
          obtain ⟨olds, o1, o2, o3⟩ := RelRows.values s' l b o hr
          have hlens := RelRows.lens s' l b o hr
          have hfl := flat_len l hlens
          rw [catC, opq_eq, catC, opq_eq, mulN, opq_eq, List.take_zero, List.nil_append, List.take_of_length_le (by rw [hfl]; exact Nat.le_refl _)] at h
          refine newobj l cap _ olds rfl o1 (fun u hu => by obtain ⟨j, hj⟩ := List.getElem?_of_mem hu; exact (o3 j u hj).2.2) hlens (fun w' hw => ?_) (by omega) hc h
          simp only [Builtin.firstCells]
          rw [← o2]
          exact run_loadCells_list (P := P) w' ⟨b, o, sp⟩ olds (fun j u hj => by
            have := sl_cells hsp o2 (fun j u hj => (o3 j u hj).1) j u hj
            simp only [World.cell?, hw] at this ⊢
            exact this)
      · cases h
    · rename_i j v s' n
      split at h
      · rename_i hsz
        obtain rfl := Nat.eq_of_beq_eq_true hsz
        split at h
        · rename_i v' cs hcs
          split at h
          · rename_i hc
            simp only [Bool.and_eq_true, inC_iff, apOk_iff, mulN, opq_eq, Nat.zero_add] at hc
            obtain ⟨hvv, hin, hap⟩ := hc
            obtain rfl := Nat.eq_of_beq_eq_true hvv
            rw [catC, opq_eq, mulN, opq_eq] at h
            have hS0 := hS
            obtain ⟨b, cap, rfl, hle, hj, _, _⟩ := hS
            obtain ⟨hkind, C, E, hC, hr, hrc, hcC⟩ := vs_of hs hS0 rfl hcs
            have hcl := RelAll.length _ _ hr
            rw [List.length_take] at hcl
            have hcsz : cs.length ≤ C.toList.length := by omega
            have hold : RelAll g w (cs.take (n * s')) (C.toList.take (n * s')) := by
              have := RelAll.take (n * s') _ _ hr
              rwa [List.take_take, Nat.min_eq_left hin] at this
            have hold1 : ∀ u ∈ C.toList.take (n * s'), u.oneCell' = true := fun u hu => hrc u (by
              have := List.take_subset_take_left C.toList hin
              exact this hu)
            have hfl := flat_len rows h2
            by_cases hfit : n + rows.length ≤ cap
            · have hmul : (n + rows.length) * s' ≤ cap * s' := Nat.mul_le_mul_right _ hfit
              rw [Nat.add_mul] at hmul
              have hroom : n * s' + news.length ≤ C.toList.length := by
                have e1 : C.toList.length = C.size := Array.length_toList
                rw [h4, e1]; omega
              have hl' : (cs.take (n * s') ++ rows.flatten).length = n * s' + news.length := by
                rw [List.length_append, List.length_take, Nat.min_eq_left hin, hfl, h4]
              have hw := setV_whole C.toList (n * s') news hroom
              obtain ⟨w', k1, k2, k3, k4⟩ := write_vec (P := P) (cs' := cs.take (n * s') ++ rows.flatten) hs hj hcs (Nat.le_succ v) hkind hC (o := n * s') h3 (by have e1 : C.toList.length = C.size := Array.length_toList; rw [← e1]; exact hroom)
                (by rw [hl', hw]; exact RelAll.append _ _ _ _ hold h1) (fun u hu => by
                  rw [hl', hw] at hu
                  rcases List.mem_append.mp hu with hu | hu
                  · exact hold1 u hu
                  · exact h3 u hu)
              have hrun := run_append_fits (P := P) (p := some ⟨b, 0, none⟩) (n := n) (cap := cap) hT hX hdx ty h5 (h6 w rfl) hfit
              refine ⟨_, _, _, ⟨g.kind, g.objs, g.tk, fun x => if x = j then v + 1 else g.ver x⟩, w', h, ?_, ⟨b, cap, rfl, hfit, hj, by simp, fun _ => ⟨hkind, _, E, (0, 0), k4, by simpa [length_setV] using hcC⟩⟩, k2, k3⟩
              rw [hrun]
              simp [add_none, k1]
            · obtain ⟨l, hl⟩ := rowsOf_some s' n cs hin
              obtain ⟨r1, r2, r3⟩ := rowsOf_list s' n cs l hl
              have hlf := flat_len l r2
              rw [← r3] at h hold
              have holen : (C.toList.take (n * s')).length = n * s' := by rw [List.length_take]; omega
              refine fresh (some ⟨b, 0, none⟩) l (C.toList.take (n * s')) cap j (v + 1) g.objs _ (by rw [r1]) hold hold1 r2 (fun w' hw => ?_) (by omega) (by rw [r1]; exact hap) (fun o ho => ?_) (by rw [List.getElem?_eq_getElem hj]; rfl) (fun _ _ h => h) (fun _ _ h => .inl h) (by simp [hs.len]) (List.getElem?_set_self (getElem?_lt hcs)) (fun k hk => List.getElem?_set_ne (fun e => hk e.symm)) (by rw [r1]; exact h)
              · simp only [Builtin.firstCells]
                rw [r1]
                have := run_loadCells_list (P := P) w' ⟨b, 0, none⟩ (C.toList.take (n * s')) (fun i u hi => by
                  rw [List.getElem?_take] at hi
                  split at hi
                  · simp only [add_none, Nat.zero_add, World.cell?, hw, hC]
                    simpa using hi
                  · cases hi)
                rwa [holen] at this
              · rw [hcs] at ho; cases ho
                exact ⟨_, _, rfl, Nat.lt_succ_self _⟩
          · cases h
        · cases h
      · cases h
    · cases h

noncomputable def opAppendV (dst : Option Tmp) (s x : Operand) (T X e sz bytes : Nat) (z : Value) (hT : ElemOf P T e sz bytes z) (dx : TypeDesc) (hX : P.underlying X = some dx) (hdx : isSeq dx = true) (ty : TypeId) (pos : String) (after : Array Edge) : MSim P :=
  MSim.makes (mkOp dst (.call { callee := .builtin .append, args := #[s, x], argTypes := #[T, X] }) ty pos after) rfl [s, x] (fun ev st k => aappV sz bytes (ev s) (ev x) st k) (fun ev ev' st k h => by simp only [h s (by simp), h x (by simp)]) fun ev st k fin h g w a he hs => by
    obtain ⟨r, v, st', g', w', h1, h2, h3⟩ := aappV_run (P := P) hT hX hdx ty hs (he s (by simp)) (he x (by simp)) h
    refine ⟨r, v, st', g', w', h1, ?_, h3⟩
    rw [callBuiltin]
    simp only [builtin, List.map_toArray, List.map_cons, List.map_nil, Sem.run_bind, h2]
    rfl
theorem opAppendV_nat {dst : Option Tmp} {s x : Operand} {T X e sz bytes : Nat} {z : Value} {hT : ElemOf P T e sz bytes z} {dx : TypeDesc} {hX : P.underlying X = some dx} {hdx : isSeq dx = true} {ty : TypeId} {pos : String} {after : Array Edge} : (opAppendV (P := P) dst s x T X e sz bytes z hT dx hX hdx ty pos after).NatM := fun ev st k => aappV_nat _ _ _ _ _ _
end
end Go.V

/- Callees that only read the objects that they are handed: shown at the empty state, where these never change. -/
set_option linter.unusedVariables false
set_option linter.unusedSimpArgs false
namespace Go.V
section
variable {P : Program}

/-- The picture of a callee that changes nothing of what is there. -/
def Gh.all (size : Nat) : Gh := ⟨fun b => if b < size then .part (fun _ => True) else .solid, [], [], fun _ => 0⟩
theorem all_prot (size b off : Nat) : (Gh.all size).prot b off := by
  unfold Gh.prot
  simp only [Gh.all]
  split
  · rename_i h; split at h <;> first | trivial | cases h
  · rename_i S h; split at h
    · cases h; trivial
    · cases h
  · rename_i h; split at h <;> cases h
  · rename_i h; split at h <;> cases h
  · rename_i h; split at h <;> cases h
theorem all_st (w : World) : StRel (Gh.all w.heap.size) ⟨[], []⟩ w := by
  refine ⟨rfl, rfl, fun k b o hk _ => by simp [Gh.all] at hk, fun b k hb hk => ?_, fun b t hb hk => ?_, fun b k hb hk => ?_⟩
  · simp only [Gh.all] at hk; rw [if_pos hb] at hk; cases hk
  · simp only [Gh.all] at hk; rw [if_pos hb] at hk; cases hk
  · simp only [Gh.all] at hk; rw [if_pos hb] at hk; cases hk
theorem hardAll {g : Gh} {st : St} {w : World} (hs : StRel g st w) : HardOk g (Gh.all w.heap.size) st.objs w := by
  refine ⟨fun b off u _ _ => all_prot _ _ _, fun j b cs hg ho => ⟨fun off => all_prot _ _ _, (hs.obj j b _ hg ho).2⟩, fun j v b cs hj ho e1 e2 => ?_⟩
  obtain ⟨q1, b', q2, q3, C, E, q4, q5, q6⟩ := (hs.obj j _ _ (List.getElem?_eq_getElem hj) ho).2
  obtain rfl := (hs.vec b j (e2 q1.symm) (e1 q1.symm)).2 b' q2 q3
  refine ⟨_, q5, q6, fun off => all_prot _ _ _, fun i v hv => ?_⟩
  rw [cell_of q4]
  rw [List.getElem?_take] at hv
  split at hv
  · simpa using hv
  · cases hv

/-- A value, read as what never changes while a callee looks at it. -/
def WkS (st : St) (x y : AV) : Prop := ∀ g w u, StRel g st w → Rel g w x u → Rel (Gh.all w.heap.size) w y u
def WksS (st : St) (xs ys : List AV) : Prop := ∀ g w us, StRel g st w → RelAll g w xs us → RelAll (Gh.all w.heap.size) w ys us
theorem WksS.nil {st : St} : WksS st [] [] := fun _ _ _ _ h => h
theorem WksS.cons {st : St} {x y : AV} {xs ys : List AV} (h : WkS st x y) (k : WksS st xs ys) : WksS st (x :: xs) (y :: ys) :=
  fun g w vs hs ⟨v, vr, e, h1, h2⟩ => ⟨v, vr, e, h _ _ _ hs h1, k _ _ _ hs h2⟩
theorem WkS.agg {st : St} {xs ys : List AV} (h : WksS st xs ys) : WkS st (.agg xs) (.agg ys) := fun g w v hs ⟨vs, h1, h2, h3⟩ => ⟨vs, h1, h _ _ _ hs h2, h3⟩
theorem WkS.hard {st : St} {x : AV} (h : Scoped 0 0 (V.hard st.objs x)) : WkS st x (V.hard st.objs x) := fun g w u hs hr => hard_rel (hardAll hs) x u h hr
theorem WkS.wk {st : St} {x y z : AV} (h : WkS st x y) (k : Wk y z) : WkS st x z := fun g w u hs hr => k _ _ _ (h g w u hs hr)
theorem WkS.of {st : St} {x y : AV} (h : Wk x y) (s : Scoped 0 0 y) : WkS st x y := fun g w u hs hr => Rel.toProt (fun b off _ _ _ => all_prot _ _ _) y u s (h _ _ _ hr)
theorem WkS.vs {st : St} {j v sz n : Nat} {cs : List AV} {l : List (List AV)} (h : st.objs[j]? = some (.vec v cs)) (hl : rowsOf sz n cs = some l) (s : ScopedR 0 0 l) : WkS st (.vs j v sz n) (.ns false sz l) := by
  have e : V.hard st.objs (.vs j v sz n) = .sl sz false l := by simp only [V.hard, h, Nat.beq_refl, hl]
  have := WkS.hard (st := st) (x := .vs j v sz n) (by rw [e]; exact s)
  rw [e] at this
  exact this.wk Wk.sl
theorem WkS.ms {st : St} {j sz o n cap : Nat} {cs : List AV} {l : List (List AV)} (h : st.objs[j]? = some (.cells cs)) (hl : rowsOf sz n (cs.drop o) = some l) (s : ScopedR 0 0 l) : WkS st (.ms j sz o n cap) (.ns false sz l) := by
  have e : V.hard st.objs (.ms j sz o n cap) = .sl sz (Nat.beq n cap) l := by simp only [V.hard, h, hl]
  have := WkS.hard (st := st) (x := .ms j sz o n cap) (by rw [e]; exact s)
  rw [e] at this
  exact this.wk Wk.sl

/-- An answer that shares nothing with what never changed: scalars, and objects of scalars. -/
def Own1 (os : List Ob) (x : AV) : Prop :=
  match x with
  | .ms j _ _ _ _ => ∃ cs, os[j]? = some (.cells cs) ∧ ∀ c ∈ cs, Flat c
  | .vs j v _ _ => ∃ cs, os[j]? = some (.vec v cs) ∧ ∀ c ∈ cs, Flat c
  | .sl _ _ l => l = []
  | x => Flat x
def Own (os : List Ob) (x : AV) : Prop :=
  match x with
  | .tup xs => ∀ y ∈ xs, Own1 os y
  | x => Own1 os x
theorem flat_rel {g g' : Gh} {w w' : World} : ∀ {cs : List AV} {vs : List Value}, (∀ c ∈ cs, Flat c) → RelAll g w cs vs → RelAll g' w' cs vs
  | [], _, _, h => h
  | c :: cs, _, hf, ⟨v, vr, e, h1, h2⟩ => ⟨v, vr, e, (hf c (by simp)).any h1, flat_rel (fun x hx => hf x (by simp [hx])) h2⟩
theorem own1_rel {g g2 : Gh} {st : St} {w : World} {size : Nat} (hs : StRel g st w) (hold : ∀ b, b < size → fixedK (g.kind b) = true) (h2 : ∀ b off, size ≤ b → g2.prot b off) {x : AV} {v : Value} (ho : Own1 st.objs x) (hx : Rel g w x v) (hsc : Scoped 0 0 (hard st.objs x)) : Rel g2 w (hard st.objs x) v := by
  cases x with
  | ms j sz o n cap =>
    obtain ⟨cs, h1, hf⟩ := ho
    obtain ⟨b, hg, hv, hle⟩ := hx
    obtain ⟨k1, C, E, hC, hr, hrc⟩ := ob_of hs hg h1
    have hb : size ≤ b := by
      rcases Nat.lt_or_ge b size with h | h
      · have := hold b h; rw [k1] at this; cases this
      · exact h
    cases hl : rowsOf sz n (cs.drop o) with
    | none => simp only [hard, h1, hl] at hsc; exact absurd hsc (Nat.not_lt_zero _)
    | some l =>
      simp only [hard, h1, hl]
      obtain ⟨e1, e2, e3⟩ := rowsOf_list sz n _ l hl
      refine ⟨b, o, none, cap, by rw [e1]; exact hv, by rw [e1]; exact hle, fun e => by rw [e1]; exact (Nat.eq_of_beq_eq_true e).symm, .inl rfl, ?_⟩
      refine RelRows.of sz l (((C.toList.take cs.length).drop o).take (n * sz)) b o e2 ?_ fun i u hi => ?_
      · rw [e3]
        exact RelAll.take _ _ _ (RelAll.drop o _ _ (flat_rel hf hr))
      · rw [List.getElem?_take] at hi
        split at hi
        · rw [List.getElem?_drop] at hi
          refine ⟨?_, h2 b _ hb, hrc u (List.mem_of_getElem? hi)⟩
          rw [cell_of hC]
          rw [List.getElem?_take] at hi
          split at hi
          · simpa using hi
          · cases hi
        · cases hi
  | vs j ve sz n =>
    obtain ⟨cs, h1, hf⟩ := ho
    have hx0 := hx
    obtain ⟨b, cap, hv, hle, _⟩ := hx
    obtain ⟨k1, C, E, hC, hr, hrc, _⟩ := vs_of hs hx0 hv h1
    have hb : size ≤ b := by
      rcases Nat.lt_or_ge b size with h | h
      · have := hold b h; rw [k1] at this; cases this
      · exact h
    cases hl : rowsOf sz n cs with
    | none => simp only [hard, h1, Nat.beq_refl, hl] at hsc; exact absurd hsc (Nat.not_lt_zero _)
    | some l =>
      simp only [hard, h1, Nat.beq_refl, hl]
      obtain ⟨e1, e2, e3⟩ := rowsOf_list sz n _ l hl
      refine ⟨b, 0, none, cap, by rw [e1]; exact hv, by rw [e1]; exact hle, (fun e => by cases e), .inl rfl, ?_⟩
      refine RelRows.of sz l ((C.toList.take cs.length).take (n * sz)) b 0 e2 ?_ fun i u hi => ?_
      · rw [e3]
        exact RelAll.take _ _ _ (flat_rel hf hr)
      · rw [List.getElem?_take] at hi
        split at hi
        · refine ⟨?_, h2 b _ hb, hrc u (List.mem_of_getElem? hi)⟩
          rw [cell_of hC, Nat.zero_add]
          rw [List.getElem?_take] at hi
          split at hi
          · simpa using hi
          · cases hi
        · cases hi
  | sl sz f l =>
    obtain rfl : l = [] := ho
    obtain ⟨b, off, sp, cap, r1, r2, r3, rs, r4⟩ := hx
    exact ⟨b, off, sp, cap, r1, r2, r3, rs, trivial⟩
  | _ => first | (simp only [hard]; exact hx) | exact False.elim ho
theorem own1_all {g g2 : Gh} {st : St} {w : World} {size : Nat} (hs : StRel g st w) (hold : ∀ b, b < size → fixedK (g.kind b) = true) (h2 : ∀ b off, size ≤ b → g2.prot b off) : ∀ {xs : List AV} {vs : List Value}, (∀ y ∈ xs, Own1 st.objs y) → RelAll g w xs vs → ScopedL 0 0 (hardL st.objs xs) → RelAll g2 w (hardL st.objs xs) vs
  | [], _, _, h, _ => h
  | x :: xs, _, ho, ⟨v, vr, e, h1, h3⟩, ⟨s1, s2⟩ => ⟨v, vr, e, own1_rel hs hold h2 (ho x (by simp)) h1 s1, own1_all hs hold h2 (fun y hy => ho y (by simp [hy])) h3 s2⟩
theorem own_rel {g g2 : Gh} {st : St} {w : World} {size : Nat} (hs : StRel g st w) (hold : ∀ b, b < size → fixedK (g.kind b) = true) (h2 : ∀ b off, size ≤ b → g2.prot b off) {x : AV} {v : Value} (ho : Own st.objs x) (hx : Rel g w x v) (hsc : Scoped 0 0 (hard st.objs x)) : Rel g2 w (hard st.objs x) v := by
  by_cases h : ∃ xs, x = .tup xs
  · obtain ⟨xs, rfl⟩ := h
    obtain ⟨vs, h1, h3⟩ := hx
    exact ⟨vs, h1, own1_all hs hold h2 ho h3 hsc⟩
  · have ho : Own1 st.objs x := by
      cases x <;> first | exact ho | exact absurd ⟨_, rfl⟩ h
    exact own1_rel hs hold h2 ho hx hsc

theorem framedR {id : FuncId} {args args' : List AV} {st st' : St} {r : AV} (h : CallsTo P id args' ⟨[], []⟩ (.ret r, st')) (hw : WksS st args args') (ho : Own st'.objs r) (hr : Scoped 0 0 (hard st'.objs r)) : CallsTo P id args st (.ret (hard st'.objs r), st) := by
  intro g w vals hv hst
  refine (h (Gh.all w.heap.size) w vals (hw _ _ _ hst hv) (all_st w)).mono fun e w' ⟨g', h1, h2, h3⟩ => ?_
  obtain ⟨v, rfl, hv'⟩ := h1
  have hold : ∀ b, b < w.heap.size → fixedK (g'.kind b) = true ∧ w'.heap[b]? = w.heap[b]? := fun b hb => by
    obtain ⟨k1, k2⟩ := h3.part b (S := fun _ => True) hb (by simp only [Gh.all]; rw [if_pos hb])
    exact ⟨by rw [k1]; rfl, k2⟩
  obtain ⟨k1, k2⟩ := kept hst h3.os h3.tape h3.output h3.size fun b hb => (hold b hb).2
  refine ⟨_, ⟨v, rfl, own_rel (g2 := g.kept w.heap.size) (size := w.heap.size) h2 (fun b hb => (hold b hb).1) (fun b off hb => ?_) ho hv' hr⟩, k1, k2⟩
  unfold Gh.prot
  simp only [Gh.kept]
  rw [if_neg (by omega)]
  trivial

/-- A function shown at the empty state that only reads what it is handed, objects too; its answer is its own. -/
def Fun.farR (f : Fun P) (sem : List AV → St → (AV → Ans) → Ans)
    (hs : ∀ args st k fin, sem args st k = some fin → ∃ args' r, k r = some fin ∧ WksS st args args' ∧ ∃ F r' st', f.run F args' ⟨[], []⟩ = some (.ret r', st') ∧ Own st'.objs r' ∧ Scoped 0 0 (hard st'.objs r') ∧ Wk (hard st'.objs r') r) : OrcQ P where
  id := f.id
  fn := f.fn
  hf := f.hf
  hname := f.hname
  hb := by rw [f.hbody]; rfl
  F := sem
  sound k args st fin h := by
    obtain ⟨args', r, h1, h2, F, r', st', h4, h5, h6, h7⟩ := hs args st k fin h
    refine ⟨_, h1, fun g w vals hv hst => (framedR (f.sound h4) h2 h5 h6 g w vals hv hst).mono fun e w' ⟨g', k1, k2, k3⟩ => ?_⟩
    obtain ⟨v, rfl, hv'⟩ := k1
    exact ⟨g', ⟨v, rfl, h7 _ _ _ hv'⟩, k2, k3⟩

/-- A slice, read as one that never changes and may be nil; objects, too. -/
noncomputable def onNsQ (sz : Nat) (x : AV) (st : St) (k : Bool → List (List AV) → Ans) : Ans :=
  match x with
  | .vs j v s n => match Nat.beq s sz with
    | true => match st.objs[j]? with
      | some (.vec v' cs) => match Nat.beq v v' && inC cs 0 (mulN n sz) with
        | true => k false (rowsC sz n cs 0)
        | false => none
      | _ => none
    | false => none
  | .ms j s o n cap => match Nat.beq s sz with
    | true => match st.objs[j]? with
      | some (.cells cs) => match inC cs o (mulN n sz) with
        | true => k false (rowsC sz n cs o)
        | false => none
      | _ => none
    | false => none
  | x => onNs sz x k
theorem onNsQ_spec {sz : Nat} {x : AV} {st : St} {k : Bool → List (List AV) → Ans} {fin : Fin × St} (h : onNsQ sz x st k = some fin) :
    ∃ z l, k z l = some fin ∧ (ScopedR 0 0 l → WkS st x (.ns z sz l)) := by
  unfold onNsQ at h
  split at h
  · split at h
    · rename_i hs
      obtain rfl := Nat.eq_of_beq_eq_true hs
      split at h
      · rename_i h0
        split at h
        · rename_i hc
          rw [Bool.and_eq_true] at hc
          obtain rfl := Nat.eq_of_beq_eq_true hc.1
          have := rowsC_some hc.2
          rw [List.drop_zero] at this
          exact ⟨_, _, h, WkS.vs h0 this⟩
        · cases h
      · cases h
    · cases h
  · split at h
    · rename_i hs
      obtain rfl := Nat.eq_of_beq_eq_true hs
      split at h
      · rename_i h0
        split at h
        · rename_i hc
          exact ⟨_, _, h, WkS.ms h0 (rowsC_some hc)⟩
        · cases h
      · cases h
    · cases h
  · obtain ⟨z, l, h1, h2⟩ := onNs_spec h
    exact ⟨z, l, h1, fun s => WkS.of h2 s⟩
theorem onNsQ_nat {sz : Nat} {x : AV} {st : St} {s s' : Bool → List (List AV) → Ans} {K : AV → Ans} (h : ∀ z l, s z l = thenA (s' z l) K) : onNsQ sz x st s = thenA (onNsQ sz x st s') K := by
  unfold onNsQ
  split
  · split
    · split
      · split
        · exact h _ _
        · rfl
      · rfl
    · rfl
  · split
    · split
      · split
        · exact h _ _
        · rfl
      · rfl
    · rfl
  · exact onNs_nat h
theorem onNsQ_ns {sz : Nat} {st : St} {z : Bool} {l : List (List AV)} {k : Bool → List (List AV) → Ans} : onNsQ sz (.ns z sz l) st k = k z l := by
  simp only [onNsQ, onNs, Nat.beq_refl]
end
end Go.V

/- Growing objects with elements of one cell. -/
set_option linter.unusedVariables false
set_option linter.unusedSimpArgs false
namespace Go.V

/-- Cells as rows of one cell each. -/
def cR (cs : List AV) : List (List AV) := cs.map fun c => [c]
theorem cR_length (cs : List AV) : (cR cs).length = cs.length := by simp [cR]
theorem cR_append (a b : List AV) : cR (a ++ b) = cR a ++ cR b := by simp [cR]
theorem cR_take (n : Nat) (a : List AV) : (cR a).take n = cR (a.take n) := by simp [cR]
theorem cR_flat (a : List AV) : (cR a).flatten = a := by
  induction a with
  | nil => rfl
  | cons c a ih => simp only [cR, List.map_cons, List.flatten_cons, List.singleton_append] at ih ⊢; rw [ih]
theorem rowsOf_one : ∀ (n : Nat) (cs : List AV), n ≤ cs.length → rowsOf 1 n cs = some (cR (cs.take n))
  | 0, cs, _ => by simp [rowsOf, cR]
  | n + 1, [], h => by simp at h
  | n + 1, c :: cs, h => by
    have ih := rowsOf_one n cs (by simpa using h)
    simp only [rowsOf, takeN, List.drop_succ_cons, List.drop_zero, ih, List.take_succ_cons]
    rfl
theorem rowsC_one {n : Nat} {cs : List AV} (h : n ≤ cs.length) : rowsC 1 n cs 0 = cR (cs.take n) := by
  rw [rowsC, opq_eq, List.drop_zero, rowsOf_one n cs h]; rfl
theorem inC_one {n : Nat} {cs : List AV} (h : n ≤ cs.length) : inC cs 0 (mulN n 1) = true := by
  rw [inC_iff, mulN, opq_eq]; omega
theorem catC_one {n : Nat} {cs : List AV} {x : AV} (h : n = cs.length) : catC cs (mulN n 1) [[x]] = cs ++ [x] := by
  rw [catC, opq_eq, mulN, opq_eq, Nat.mul_one, h, List.take_length]; rfl
theorem catC_nil (rows : List (List AV)) : catC [] 0 rows = rows.flatten := by rw [catC, opq_eq]; rfl
theorem setC_one {cs : List AV} {i : Nat} {x : AV} (h : i < cs.length) : setC cs i [x] = cs.set i x := by
  rw [setC, opq_eq]
  induction cs generalizing i with
  | nil => simp at h
  | cons c cs ih =>
    cases i with
    | zero => simp [setAt]
    | succ i => simp only [setAt, List.set_cons_succ]; rw [ih (by simpa using h)]
theorem drop_head {cs : List AV} {i : Nat} (h : i < cs.length) : cs.drop i = cs[i] :: cs.drop (i + 1) := List.drop_eq_getElem_cons h
theorem isLT_head (t : LT) (c : AV) (r : List AV) : isLT t (c :: r) = isLT t [c] := by
  cases t <;> cases c <;> rfl
theorem nilA_head (c : AV) (r : List AV) : nilA (c :: r) = nilA [c] := by cases c <;> rfl
theorem rwA_head (c : AV) (r : List AV) : rwA (c :: r) = rwA [c] := by cases c <;> rfl
theorem hdI_head (c : AV) (r : List AV) : hdI (c :: r) = hdI [c] := by cases c <;> rfl
theorem is_at {t : LT} {cs : List AV} {i : Nat} (h : i < cs.length) : (LD.one t).is (cs.drop i) = (LD.one t).is [cs[i]] := by
  rw [drop_head h]; exact isLT_head _ _ _
theorem nilA_at {cs : List AV} {i : Nat} (h : i < cs.length) : nilA (cs.drop i) = nilA [cs[i]] := by rw [drop_head h]; exact nilA_head _ _
theorem rwA_at {cs : List AV} {i : Nat} (h : i < cs.length) : rwA (cs.drop i) = rwA [cs[i]] := by rw [drop_head h]; exact rwA_head _ _
theorem hdI_at {cs : List AV} {i : Nat} (h : i < cs.length) : hdI (cs.drop i) = hdI [cs[i]] := by rw [drop_head h]; exact hdI_head _ _

/-- A slice over the first object, that grows; its elements have one cell. -/
noncomputable def onVs0 (x : AV) (st : St) (k : Nat → Nat → List AV → List Ob → Ans) : Ans :=
  match x with
  | .vs j v s n => match Nat.beq j 0 && Nat.beq s 1 with
    | true => match st.objs with
      | .vec v' cs :: os => match Nat.beq v v' with
        | true => k v n cs os
        | false => none
      | _ => none
    | false => none
  | _ => none
theorem onVs0_spec {x : AV} {st : St} {k : Nat → Nat → List AV → List Ob → Ans} {fin : Fin × St} (h : onVs0 x st k = some fin) : ∃ v n cs os, x = .vs 0 v 1 n ∧ st = ⟨.vec v cs :: os, st.tk⟩ ∧ k v n cs os = some fin := by
  unfold onVs0 at h
  split at h
  · split at h
    · rename_i hj
      rw [Bool.and_eq_true] at hj
      obtain rfl := Nat.eq_of_beq_eq_true hj.1
      obtain rfl := Nat.eq_of_beq_eq_true hj.2
      split at h
      · rename_i ho
        split at h
        · rename_i hv
          obtain rfl := Nat.eq_of_beq_eq_true hv
          refine ⟨_, _, _, _, rfl, ?_, h⟩
          rw [← ho]
        · cases h
      · cases h
    · cases h
  · cases h
theorem onVs0_nat {x : AV} {st : St} {s s' : Nat → Nat → List AV → List Ob → Ans} {K : AV → Ans} (h : ∀ v n cs os, s v n cs os = thenA (s' v n cs os) K) : onVs0 x st s = thenA (onVs0 x st s') K := by
  unfold onVs0
  split
  · split
    · split
      · split
        · exact h _ _ _ _
        · rfl
      · rfl
    · rfl
  · rfl

section
variable {P : Program}
/-- A callee that looks at no objects. -/
def POrc.q (O : POrc P) : OrcQ P where
  id := O.id
  fn := O.fn
  hf := O.hf
  hname := O.hname
  hb := O.hb
  F args st k := O.F args k
  sound k args st fin h := by
    obtain ⟨r, h1, h2⟩ := O.sound _ _ _ h
    exact ⟨r, h1, h2 st⟩
theorem POrc.q_nat {O : POrc P} (h : O.Nat) : O.q.NatQ := fun args st k => h args k
/-- One callee, told in two ways. -/
def OrcQ.alt (A B : OrcQ P) (hid : B.id = A.id) (pick : List AV → Bool) : OrcQ P where
  id := A.id
  fn := A.fn
  hf := A.hf
  hname := A.hname
  hb := A.hb
  F args st k := match pick args with
    | true => A.F args st k
    | false => B.F args st k
  sound k args st fin h := by
    split at h
    · exact A.sound _ _ _ _ h
    · have := B.sound _ _ _ _ h
      rw [hid] at this
      exact this
theorem OrcQ.alt_nat {A B : OrcQ P} {hid : B.id = A.id} {pick : List AV → Bool} (h : A.NatQ) (k : B.NatQ) : (OrcQ.alt A B hid pick).NatQ := by
  intro args st K
  simp only [OrcQ.alt]
  split
  · exact h _ _ _
  · exact k _ _ _
def isVs1 (args : List AV) : Bool :=
  match args with
  | [.vs ..] => true
  | _ => false
/-- A callee, by what its calls come to. -/
def Fun.by' (f : Fun P) (sem : List AV → St → (Fin → St → Ans) → Ans)
    (hs : ∀ args st k fin, sem args st k = some fin → ∃ r st', k r st' = some fin ∧ CallsTo P f.id args st (r, st')) : OrcS P where
  id := f.id
  fn := f.fn
  hf := f.hf
  hname := f.hname
  hb := by rw [f.hbody]; rfl
  sem := sem
  sound k args st fin h := hs args st k fin h
/-- A caller's state without objects. -/
def onNone (st : St) (k : Ans) : Ans :=
  match st.objs with
  | [] => match st.tk with
    | [] => k
    | _ => none
  | _ => none
theorem onNone_spec {st : St} {k : Ans} {fin : Fin × St} (h : onNone st k = some fin) : st = ⟨[], []⟩ ∧ k = some fin := by
  obtain ⟨os, tk⟩ := st
  cases os with
  | cons o os => cases h
  | nil => cases tk with
    | nil => exact ⟨rfl, h⟩
    | cons t tk => cases h
end
end Go.V

/- Objects that never change any more; literals of bytes. -/
set_option linter.unusedVariables false
set_option linter.unusedSimpArgs false
namespace Go.V
section
variable {P : Program}

/-- An object never changes from now on (its block may get a mark). -/
theorem frozen_obj {g : Gh} {st : St} {w w' : World} (hs : StRel g st w) {j b : Nat} (hg : g.objs[j]? = some b) {cs : List AV} (hcs : st.objs[j]? = some (.cells cs)) {C : Array Value} {E : TypeId} {fz : Nat × Nat} (hC0 : w.heap[b]? = some (.cells C E (0, 0)))
    (h1 : w'.os = w.os) (h2 : w'.tape = w.tape) (h3 : w'.output = w.output) (h4 : w'.heap.size = w.heap.size) (h5 : ∀ x, x ≠ b → w'.heap[x]? = w.heap[x]?) (h6 : w'.heap[b]? = some (.cells C E fz)) :
    ∃ g', StRel g' ⟨st.objs.set j .gone, st.tk⟩ w' ∧ Ev g w g' w' ∧ ∀ sz o n cap l, n ≤ cap → rowsOf sz n (cs.drop o) = some l → Rel g' w' (.sl sz (Nat.beq n cap) l) (.slice (some ⟨b, o, none⟩) n cap) := by
  obtain ⟨hkind, C', E', hC', hr, hrc⟩ := ob_of hs hg hcs
  rw [hC0] at hC'
  cases hC'
  let g' : Gh := ⟨fun x => if x = b then .solid else g.kind x, g.objs, g.tk, g.ver⟩
  have hk : ∀ x, x ≠ b → g'.kind x = g.kind x := fun x hx => by simp only [g']; rw [if_neg hx]
  have hne : ∀ x, g.kind x ≠ .obj j → x ≠ b := fun x hx e => hx (by rw [e]; exact hkind)
  have hE : Ev g w g' w' := by
    refine ⟨h1, h2, h3, Nat.le_of_eq h4.symm, fun x hx hf => ?_, fun x t hx hf => ?_, fun x k hx hf => ?_, fun _ _ h => h, tk_refl _, fun _ _ => Nat.le_refl _, fun x k hx _ hf _ => ?_⟩
    · have := hne x (by intro e; rw [e] at hf; cases hf)
      exact ⟨hk x this, h5 x this⟩
    · have := hne x (by intro e; rw [e] at hf; cases hf)
      exact ⟨(hk x this).trans hf, fun C1 E1 f1 hC1 => ⟨C1, (h5 x this).trans hC1, rfl, fun _ _ => rfl⟩⟩
    · by_cases hxb : x = b
      · exact .inr (by simp only [g']; rw [if_pos hxb])
      · exact .inl ((hk x hxb).trans hf)
    · have := hne x (by intro e; rw [e] at hf; cases hf)
      exact ⟨(hk x this).trans hf, fun C1 E1 f1 hC1 => ⟨C1, (h5 x this).trans hC1, rfl⟩⟩
  have hback : ∀ x y, g'.kind x = y → y ≠ .solid → x ≠ b ∧ g.kind x = y := by
    intro x y hx hy
    by_cases hxb : x = b
    · simp only [g'] at hx; rw [if_pos hxb] at hx; exact absurd hx.symm hy
    · exact ⟨hxb, (hk x hxb).symm.trans hx⟩
  refine ⟨g', ⟨hs.tk, by simp [hs.len]; exact hs.len, fun k b' o hk' ho => ?_, fun x k hx hf => ?_, fun x t hx hf => ?_, fun x k hx hf => ?_⟩, hE, fun sz o n cap l hle hl => ?_⟩
  · by_cases hkj : k = j
    · subst hkj
      rw [List.getElem?_set_self (getElem?_lt hcs)] at ho
      cases ho
      exact ⟨by rw [h4]; exact (hs.obj k b' _ hk' hcs).1, trivial⟩
    · rw [List.getElem?_set_ne (fun e => hkj e.symm)] at ho
      obtain ⟨p1, p2⟩ := hs.obj k b' o hk' ho
      refine ⟨by rw [h4]; exact p1, ?_⟩
      have hv : ∀ b'', b'' < w.heap.size → g.kind b'' = .vec k → w'.heap[b'']? = w.heap[b'']? ∧ g'.kind b'' = .vec k := fun b'' _ hh => by
        have := hne b'' (by rw [hh]; intro e; cases e)
        exact ⟨h5 b'' this, (hk b'' this).trans hh⟩
      cases o with
      | gone => trivial
      | cells cs' =>
        have := hne b' (by rw [p2.1]; intro e; cases e; exact hkj rfl)
        exact p2.keep hE (h5 b' this) (hk b' this) hv rfl
      | map es =>
        have := hne b' (by rw [p2.1]; intro e; cases e; exact hkj rfl)
        exact p2.keep hE (h5 b' this) (hk b' this) hv rfl
      | vec v cs' =>
        obtain ⟨e1, b'', e2, e3, C1, E1, e4, e5, e6⟩ := p2
        obtain ⟨f1, f2⟩ := hv b'' e2 e3
        exact ⟨e1, b'', by rw [h4]; exact e2, f2, C1, E1, f1.trans e4, RelAll.mono hE _ _ e5, e6⟩
  · obtain ⟨k1, k2⟩ := hback x _ hf (by intro e; cases e)
    obtain ⟨o, k3, k4, k5⟩ := hs.back x k (by rw [h4] at hx; exact hx) k2
    have hkj : k ≠ j := by intro e; subst e; rw [hg] at k4; cases k4; exact k1 rfl
    exact ⟨o, by rw [List.getElem?_set_ne (fun e => hkj e.symm)]; exact k3, k4, k5⟩
  · obtain ⟨k1, k2⟩ := hback x _ hf (by intro e; cases e)
    exact hs.rowlt x t (by rw [h4] at hx; exact hx) k2
  · obtain ⟨k1, k2⟩ := hback x _ hf (by intro e; cases e)
    obtain ⟨⟨v, cs', k3⟩, k4⟩ := hs.vec x k (by rw [h4] at hx; exact hx) k2
    have hkj : k ≠ j := by intro e; subst e; rw [hcs] at k3; cases k3
    refine ⟨⟨v, cs', by rw [List.getElem?_set_ne (fun e => hkj e.symm)]; exact k3⟩, fun x' hx' hf' => ?_⟩
    obtain ⟨k5, k6⟩ := hback x' _ hf' (by intro e; cases e)
    exact k4 x' (by rw [h4] at hx'; exact hx') k6
  · obtain ⟨e1, e2, e3⟩ := rowsOf_list sz n _ l hl
    refine ⟨b, o, none, cap, by rw [e1], by rw [e1]; exact hle, fun e => by rw [e1]; exact (Nat.eq_of_beq_eq_true e).symm, .inl rfl, ?_⟩
    refine RelRows.of sz l (((C.toList.take cs.length).drop o).take (n * sz)) b o e2 (by rw [e3]; exact RelAll.mono hE _ _ (RelAll.take _ _ _ (RelAll.drop o _ _ hr))) fun i u hi => ?_
    rw [List.getElem?_take] at hi
    split at hi
    · rw [List.getElem?_drop] at hi
      refine ⟨?_, ?_, hrc u (List.mem_of_getElem? hi)⟩
      · rw [cell_of h6]
        rw [List.getElem?_take] at hi
        split at hi
        · simpa using hi
        · cases hi
      · simp [Gh.prot, g']
    · cases hi

/-- A literal of a slice, as an object. -/
def abuildO (sz len : Nat) (parts : List (Nat × Nat × AV)) (st : St) (k : AV → St → Ans) : Ans :=
  aparts parts (List.replicate (len * sz) .dead) fun cs => k (.ms st.objs.length sz 0 len len) ⟨st.objs ++ [.cells cs], st.tk⟩
def opBuildSliceO (dst : Option Tmp) (T : TypeId) (len : Nat) (parts : List (Nat × Operand)) (e sz bytes : Nat) (z : Value) (hT : ElemOf P T e sz bytes z) (h1 : z.cells.toList.all Value.oneCell' = true) (hl : len * sz ≤ 16777216) (ty : TypeId) (pos : String) (after : Array Edge) : MSim P :=
  MSim.makes (mkOp dst (.buildSlice T len parts.toArray) ty pos after) rfl (parts.map (·.2)) (fun ev st k => abuildO sz len (parts.map fun p => (p.1 * sz, sz, frz (ev p.2))) st k)
    (fun ev ev' st k h => by rw [parts_evZ h]) fun ev st k fin h g w a he hs => by
    have hbig : ¬ (len * sz > 2 ^ 24) := by omega
    generalize hZ : (if len * sz = 0 then #[] else (Array.range (len * sz)).map (fun j => z.cells[j % z.cells.size]!)) = Z
    have hZ1 : ∀ u ∈ Z.toList, u.oneCell' = true := by
      subst hZ
      split
      · simp
      · exact zeroArr_cells h1 hT.cells len
    have hZs : Z.size = len * sz := by
      subst hZ
      split
      · rename_i h; simp [h]
      · simp
    have hr0 : RelAll g w (List.replicate (len * sz) .dead) Z.toList := by
      have := deads_rel (g := g) (w := w) Z.toList
      rw [Array.length_toList, hZs] at this; exact this
    have hfill : ∃ ds us, k (.ms st.objs.length sz 0 len len) ⟨st.objs ++ [.cells ds], st.tk⟩ = some fin ∧ Instr.fill (fun i => some (i * sz, sz)) Z (parts.map fun p => (p.1, a.eval p.2)) = some us ∧ RelAll g w ds us.toList ∧ ∀ u ∈ us.toList, u.oneCell' = true := by
      have := aparts_run (ev := fun x => frz (ev x)) (xs := parts.map (·.2)) (fun x hx => frz_rel (he x hx)) (fun i => some (i * sz, sz)) (parts.map fun p => (p.1, p.1 * sz, sz, p.2)) (fun p hp => by
        simp only [List.mem_map] at hp
        obtain ⟨q, hq, rfl⟩ := hp
        exact List.mem_map.mpr ⟨q, hq, rfl⟩) (fun p hp => by
        simp only [List.mem_map] at hp
        obtain ⟨q, hq, rfl⟩ := hp
        rfl) _ Z hr0 hZ1 (by rw [List.map_map]; exact h)
      obtain ⟨ds, us, a1, a2, a3, a4⟩ := this
      exact ⟨ds, us, a1, by rw [List.map_map] at a2; exact a2, a3, a4⟩
    obtain ⟨ds, us, f1, f2, f3, f4⟩ := hfill
    have hp := Push.alloc w (.cells us e)
    have hrel := hs.pushObj hp (.cells ds) trivial (fun hE => ⟨by simp [Gh.use], us, e, hp.new, by rw [List.take_of_length_le (by rw [RelAll.length _ _ f3]; exact Nat.le_refl _)]; exact RelAll.mono hE _ _ f3, fun u hu => f4 u (List.mem_of_mem_take hu)⟩)
    refine ⟨_, .slice (some ⟨w.heap.size, 0, none⟩) len len, _, _, w.alloc (.cells us e), f1, ?_, ⟨w.heap.size, ?_, rfl, Nat.le_refl _⟩, hrel, Ev.push hp _ _ _ (tk_refl _)⟩
    · simp only [execOp, mkOp, Instr.buildSlice, Sem.run_bind, run_underlying hT.ty, Result.andThen_ok, run_sizeOf' hT.size, if_neg hbig]
      by_cases h0 : len * sz = 0
      · rw [if_pos h0] at hZ
        simp only [if_pos h0, Sem.run_bind, Sem.run_pure, Result.andThen_ok, List.map_toArray]
        rw [show Array.range (len * sz) = #[] by rw [h0]; rfl, Array.map_empty, hZ]
        rw [show (Instr.fill (fun i => some (i * sz, sz)) Z (List.map (fun x => (x.fst, a.eval x.snd)) parts)) = some us from f2]
        rfl
      · rw [if_neg h0] at hZ
        simp only [if_neg h0, Sem.run_bind, Sem.run_pure, run_zeroValue' hT.zero, Result.andThen_ok, List.map_toArray]
        rw [hZ]
        rw [show (Instr.fill (fun i => some (i * sz, sz)) Z (List.map (fun x => (x.fst, a.eval x.snd)) parts)) = some us from f2]
        rfl
    · show (g.objs ++ [w.heap.size])[st.objs.length]? = some w.heap.size
      rw [List.getElem?_append_right (by rw [hs.len]; exact Nat.le_refl _)]; simp [hs.len]

/-- The conversion behind a literal of bytes. -/
def aconvSl (x : AV) (st : St) (k : AV → St → Ans) : Ans :=
  match x with
  | .ms j s o n cap => match Nat.beq s 1 with
    | true => match st.objs[j]? with
      | some (.cells cs) => match rowsOf 1 n (cs.drop o) with
        | some l => k (.sl 1 (Nat.beq n cap) l) ⟨st.objs.set j .gone, st.tk⟩
        | none => none
      | _ => none
    | false => none
  | _ => none
def opConvSl (dst : Option Tmp) (T : TypeId) (x : Operand) (e : TypeId) (hT : P.underlying T = some (.slice e)) (he : P.underlying e = some (.int .u8)) (ty : TypeId) (pos : String) (after : Array Edge) : MSim P :=
  MSim.makes (mkOp dst (.convert T T x) ty pos after) rfl [x] (fun ev st k => aconvSl (ev x) st k) (fun ev ev' st k h => by simp only [h x (by simp)]) fun ev st k fin h g w a hev hs => by
    have hv := hev x (by simp)
    unfold aconvSl at h
    split at h
    · rename_i j s o n cap hb
      rw [hb] at hv
      split at h
      · rename_i hsz
        obtain rfl := Nat.eq_of_beq_eq_true hsz
        obtain ⟨b, hg, hv, hle⟩ := hv
        split at h
        · rename_i cs hcs
          split at h
          · rename_i l hl
            obtain ⟨hkind, C, E, hC, hr, hrc⟩ := ob_of hs hg hcs
            have hsh : w.shape? b = some (E, C.size) := by unfold World.shape?; rw [hC]
            have hlt := lt_of_block hC
            obtain ⟨g', k1, k2, k3⟩ := frozen_obj (w' := w.freeze ⟨b, C.size, none⟩ 1) (fz := (C.size, C.size + 1)) hs hg hcs hC (by unfold World.freeze; rw [if_neg (by decide)]) (by unfold World.freeze; rw [if_neg (by decide)]) (by unfold World.freeze; rw [if_neg (by decide)])
              (by unfold World.freeze; rw [if_neg (by decide)]; simp) (fun y hy => by
                unfold World.freeze; rw [if_neg (by decide)]
                simp only [Array.getElem?_modify]
                rw [if_neg (by omega)]) (by
                unfold World.freeze; rw [if_neg (by decide)]
                simp only [Array.getElem?_modify, if_true, hC]
                rfl)
            refine ⟨_, _, _, g', _, h, ?_, k3 1 o n cap l hle hl, k1, k2⟩
            simp [execOp, mkOp, hv, convert, run_underlying hT, run_underlying he, markStringish, hsh]
          · cases h
        · cases h
      · cases h
    · cases h
end
end Go.V

/- The functions' pieces, as told by gen.py. -/
set_option linter.unusedVariables false
set_option maxRecDepth 20000
namespace Go.Proofs.Ytblliolkgkgppaa.V
open Go Go.V Go.RowKit

theorem sz5 : (Try.prog.info? 5).map (·.size) = some 1 := by kernel_rfl
theorem ze5 : (Try.prog.info? 5).bind (·.zero) = some (.int .u8 0) := by kernel_rfl
theorem by5 : (Try.prog.info? 5).map (·.bytes) = some 1 := by kernel_rfl
theorem el25 : ElemOf Try.prog 25 5 1 1 (.int .u8 0) := ⟨Try.underlying25, sz5, by5, ze5, by kernel_rfl, by decide⟩
theorem sz25 : (Try.prog.info? 25).map (·.size) = some 1 := by kernel_rfl
theorem mixed : Try.prog.follows .mixedOrders = true := by kernel_rfl

/-! ### 12: interlock/interlockref00.SameBytes (25, 25); results 4; slots: 0 a, 1 b, 2 a, 3 b, 5 i -/
/-- A loop's round; at its head live: 0 a, 1 b, 5 i -/
noncomputable def f12_l0 : Sim Try.prog :=
  (.seq (.seq (.live [0, 1, 5, 14] (.region 4 [
    ⟨(opMove (some 11) (.tmp 5) 3 "ref.go:18" #[]).op, none⟩,
    ⟨(opMove (some 12) (.tmp 0) 25 "ref.go:18" #[]).op, none⟩,
    ⟨(opLen (some 13) (.tmp 12) 25 (.slice 5) Try.underlying25 3 "ref.go:18" #[{ on := 1, ground := Ground.data }]).op, none⟩,
    ⟨(opBin (some 14) .lss 3 (.tmp 11) (.tmp 13) 3 4 "ref.go:18" #[{ on := 0, ground := Ground.data }, { on := 2, ground := Ground.data }]).op, none⟩
  ] (by kernel_rfl)))
  (.cond (.tmp 14)
    .skip
    (.live [] (.exit 0))))
  (.seq (.block 1 (.seq (.live [0, 1, 5, 25] (.draw 6 [
      ⟨.p (opMove (some 17) (.tmp 0) 25 "ref.go:19" #[]), none⟩,
      ⟨.p (opMove (some 18) (.tmp 5) 3 "ref.go:19" #[]), none⟩,
      ⟨.pn (opIndexAddrT (some 19) 25 (.tmp 17) (.tmp 18) 5 1 Try.underlying25 sz5 0 "ref.go:19" #[{ on := 0, ground := Ground.data }, { on := 1, ground := Ground.data }]) opIndexAddrT_nat, none⟩,
      ⟨.qn (opLoadT (.one (.int .u8)) (some 20) 5 (.tmp 19) (.int .u8) Try.underlying5 1 sz5 (by kernel_rfl) 5 "ref.go:19" #[{ on := 2, ground := Ground.data }]) opLoadT_nat, none⟩,
      ⟨.p (opMove (some 21) (.tmp 1) 25 "ref.go:19" #[]), none⟩,
      ⟨.p (opMove (some 22) (.tmp 5) 3 "ref.go:19" #[]), none⟩,
      ⟨.pn (opIndexAddrT (some 23) 25 (.tmp 21) (.tmp 22) 5 1 Try.underlying25 sz5 0 "ref.go:19" #[{ on := 4, ground := Ground.data }, { on := 5, ground := Ground.data }]) opIndexAddrT_nat, none⟩,
      ⟨.qn (opLoadT (.one (.int .u8)) (some 24) 5 (.tmp 23) (.int .u8) Try.underlying5 1 sz5 (by kernel_rfl) 5 "ref.go:19" #[{ on := 6, ground := Ground.data }]) opLoadT_nat, none⟩,
      ⟨.pn (opBin (some 25) .neq 5 (.tmp 20) (.tmp 24) 5 4 "ref.go:19" #[{ on := 3, ground := Ground.data }, { on := 7, ground := Ground.data }]) opBin_nat, none⟩
    ] mixed (by kernel_rfl)))
    (.cond (.tmp 25)
      (.seq (.live [4] (.region 7 [
        ⟨(opAssign (some 4) (.const (Value.bool false)) 4 "ref.go:20" #[]).op, none⟩
      ] (by kernel_rfl)))
      (.live [4] .ret))
      .skip)))
  (.live [0, 1, 5] (.region 5 [
    ⟨(opMove (some 15) (.tmp 5) 3 "ref.go:18" #[]).op, none⟩,
    ⟨(opBin (some 16) .add 3 (.tmp 15) (.const (Value.int IntKind.i64 1)) 3 3 "ref.go:18" #[{ on := 0, ground := Ground.data }]).op, none⟩,
    ⟨(opAssign (some 5) (.tmp 16) 3 "ref.go:18" #[{ on := 1, ground := Ground.data }, { on := 0, ground := Ground.phase }, { on := 1, ground := Ground.phase }]).op, none⟩
  ] (by kernel_rfl)))))

/-- What follows a loop. -/
noncomputable def f12_r0 : Sim Try.prog :=
  (.seq (.live [4] (.region 8 [
    ⟨(opAssign (some 4) (.const (Value.bool true)) 4 "ref.go:23" #[]).op, none⟩
  ] (by kernel_rfl)))
  (.live [4] .ret))

noncomputable def f12_b : Sim Try.prog :=
  (.seq (.live [0, 1] (.region 0 [
    ⟨(opAssign (some 4) (.const (Value.bool false)) 4 "ref.go:14" #[]).op, none⟩
  ] (by kernel_rfl)))
  (.seq (.seq (.live [0, 1, 10] (.region 1 [
    ⟨(opMove (some 6) (.tmp 0) 25 "ref.go:15" #[]).op, none⟩,
    ⟨(opLen (some 7) (.tmp 6) 25 (.slice 5) Try.underlying25 3 "ref.go:15" #[{ on := 0, ground := Ground.data }]).op, none⟩,
    ⟨(opMove (some 8) (.tmp 1) 25 "ref.go:15" #[]).op, none⟩,
    ⟨(opLen (some 9) (.tmp 8) 25 (.slice 5) Try.underlying25 3 "ref.go:15" #[{ on := 2, ground := Ground.data }]).op, none⟩,
    ⟨(opBin (some 10) .neq 3 (.tmp 7) (.tmp 9) 3 4 "ref.go:15" #[{ on := 1, ground := Ground.data }, { on := 3, ground := Ground.data }]).op, none⟩
  ] (by kernel_rfl)))
  (.cond (.tmp 10)
    (.seq (.live [4] (.region 2 [
      ⟨(opAssign (some 4) (.const (Value.bool false)) 4 "ref.go:16" #[]).op, none⟩
    ] (by kernel_rfl)))
    (.live [4] .ret))
    .skip))
  (.seq (.seq (.live [0, 1, 5] (.region 3 [
    ⟨(opAssign (some 5) (.const (Value.int IntKind.i64 0)) 3 "ref.go:18" #[]).op, none⟩
  ] (by kernel_rfl)))
  (.block 0 (.loop [0, 1, 5] f12_l0)))
  f12_r0)))

noncomputable def f12 : Fun Try.prog where
  id := 12
  fn := Try.f12
  hf := Try.func12
  hname := by kernel_rfl
  body := f12_b
  hbody := by kernel_rfl
  res := [rTmp 4]
  hres := by kernel_rfl
  n := 26
  hn := by kernel_rfl

/-! ### 19: interlock/interlockref00.CopyBytes (25); results 2; slots: 0 b, 1 b, 3 out -/
noncomputable def f19_b : Sim Try.prog :=
  (.seq (.live [0] (.region 0 [
    ⟨(opAssign (some 2) (.const (Value.slice none 0 0)) 25 "ref.go:7" #[]).op, none⟩
  ] (by kernel_rfl)))
  (.seq (.live [0, 3] (.region 1 [
    ⟨(opBuildSlice (some 4) 25 0 [] 5 1 1 (.int .u8 0) el25 (by kernel_rfl) (by decide) 25 "ref.go:8" #[]).op, none⟩,
    ⟨(opAssign (some 3) (.tmp 4) 25 "ref.go:8" #[{ on := 0, ground := Ground.data }, { on := 0, ground := Ground.phase }]).op, none⟩
  ] (by kernel_rfl)))
  (.seq (.live [3] (.region 2 [
    ⟨(opMove (some 5) (.tmp 3) 25 "ref.go:9" #[]).op, none⟩,
    ⟨(opMove (some 6) (.tmp 0) 25 "ref.go:9" #[]).op, none⟩,
    ⟨(opAppendF (some 7) (.tmp 5) (.tmp 6) 25 25 5 1 1 (.int .u8 0) el25 (.slice 5) Try.underlying25 rfl 25 "ref.go:9" #[{ on := 0, ground := Ground.data }, { on := 1, ground := Ground.data }]).op, none⟩,
    ⟨(opAssign (some 3) (.tmp 7) 25 "ref.go:9" #[{ on := 2, ground := Ground.data }, { on := 2, ground := Ground.chain }, { on := 0, ground := Ground.phase }, { on := 1, ground := Ground.phase }, { on := 2, ground := Ground.phase }]).op, none⟩
  ] (by kernel_rfl)))
  (.seq (.live [2] (.region 3 [
    ⟨(opMove (some 8) (.tmp 3) 25 "ref.go:10" #[]).op, none⟩,
    ⟨(opAssign (some 2) (.tmp 8) 25 "ref.go:10" #[{ on := 0, ground := Ground.data }, { on := 0, ground := Ground.phase }]).op, none⟩
  ] (by kernel_rfl)))
  (.live [2] .ret)))))

noncomputable def f19 : Fun Try.prog where
  id := 19
  fn := Try.f19
  hf := Try.func19
  hname := by kernel_rfl
  body := f19_b
  hbody := by kernel_rfl
  res := [rTmp 2]
  hres := by kernel_rfl
  n := 9
  hn := by kernel_rfl

/-! ### 10: interlock/page.New (); results 0; slots:  -/
noncomputable def f10_b : Sim Try.prog :=
  (.seq (.live [] (.region 0 [
    ⟨(opAssign (some 0) (.const (Value.slice none 0 0)) 25 "page.go:82" #[]).op, none⟩
  ] (by kernel_rfl)))
  (.seq (.live [0] (.region 1 [
    ⟨(opMakeC (some 1) 25 (.const (Value.int IntKind.i64 256)) 5 1 1 (.int .u8 0) el25 [AV.int .u8 0] (by kernel_rfl) (by kernel_rfl) 25 "page.go:82" #[]).op, none⟩,
    ⟨(opAssign (some 0) (.tmp 1) 25 "page.go:82" #[{ on := 0, ground := Ground.data }, { on := 0, ground := Ground.phase }]).op, none⟩
  ] (by kernel_rfl)))
  (.live [0] .ret)))

noncomputable def f10 : Fun Try.prog where
  id := 10
  fn := Try.f10
  hf := Try.func10
  hname := by kernel_rfl
  body := f10_b
  hbody := by kernel_rfl
  res := [rTmp 0]
  hres := by kernel_rfl
  n := 2
  hn := by kernel_rfl

/-! ### 36: (interlock/page.slots).trimmed (44); results 2; slots: 0 s, 1 s -/
/-- A loop's round; at its head live: 0 s -/
noncomputable def f36_l0 : Sim Try.prog :=
  (.seq (.seq (.live [0, 14] (.region 1 [
    ⟨(opMove (some 3) (.tmp 0) 44 "page.go:21" #[]).op, none⟩,
    ⟨(opLen (some 4) (.tmp 3) 44 (.slice 25) Try.underlying44 3 "page.go:21" #[{ on := 0, ground := Ground.data }]).op, none⟩,
    ⟨(opBin (some 5) .gtr 3 (.tmp 4) (.const (Value.int IntKind.i64 0)) 3 4 "page.go:21" #[{ on := 1, ground := Ground.data }]).op, none⟩,
    ⟨(opMove (some 6) (.tmp 5) 4 "page.go:21" #[{ on := 2, ground := Ground.data }]).op, none⟩,
    ⟨(opMove (some 7) (.tmp 0) 44 "page.go:21" #[{ on := 3, ground := Ground.guard }]).op, (some (3, 6, true))⟩,
    ⟨(opMove (some 8) (.tmp 0) 44 "page.go:21" #[{ on := 3, ground := Ground.guard }]).op, (some (3, 6, true))⟩,
    ⟨(opLen (some 9) (.tmp 8) 44 (.slice 25) Try.underlying44 3 "page.go:21" #[{ on := 5, ground := Ground.data }, { on := 3, ground := Ground.guard }]).op, (some (3, 6, true))⟩,
    ⟨(opBin (some 10) .sub 3 (.tmp 9) (.const (Value.int IntKind.i64 1)) 3 3 "page.go:21" #[{ on := 6, ground := Ground.data }, { on := 3, ground := Ground.guard }]).op, (some (3, 6, true))⟩,
    ⟨(opIndexAddrT (some 11) 44 (.tmp 7) (.tmp 10) 25 1 Try.underlying44 sz25 0 "page.go:21" #[{ on := 4, ground := Ground.data }, { on := 7, ground := Ground.data }, { on := 3, ground := Ground.guard }]).op, (some (3, 6, true))⟩,
    ⟨(opLoadT (.one (.ns 1)) (some 12) 25 (.tmp 11) (.slice 5) Try.underlying25 1 sz25 (by kernel_rfl) 25 "page.go:21" #[{ on := 8, ground := Ground.data }, { on := 3, ground := Ground.guard }]).op, (some (3, 6, true))⟩,
    ⟨(opEq (some 13) 25 (.slice 5) Try.underlying25 (.tmp 12) (.const (Value.slice none 0 0)) (.inl rfl) 25 4 "page.go:21" #[{ on := 9, ground := Ground.data }, { on := 3, ground := Ground.guard }]).op, (some (3, 6, true))⟩,
    ⟨(opPick (some 14) (.tmp 6) (.tmp 13) (.const (Value.bool false)) 4 "page.go:21" #[{ on := 3, ground := Ground.data }, { on := 10, ground := Ground.data }]).op, none⟩
  ] (by kernel_rfl)))
  (.cond (.tmp 14)
    .skip
    (.live [0] (.exit 0))))
  (.block 1 (.live [0] (.region 2 [
      ⟨(opMove (some 15) (.tmp 0) 44 "page.go:22" #[]).op, none⟩,
      ⟨(opMove (some 16) (.tmp 0) 44 "page.go:22" #[]).op, none⟩,
      ⟨(opLen (some 17) (.tmp 16) 44 (.slice 25) Try.underlying44 3 "page.go:22" #[{ on := 1, ground := Ground.data }]).op, none⟩,
      ⟨(opBin (some 18) .sub 3 (.tmp 17) (.const (Value.int IntKind.i64 1)) 3 3 "page.go:22" #[{ on := 2, ground := Ground.data }]).op, none⟩,
      ⟨(opSlice (some 19) 44 (.tmp 15) none (some (.tmp 18)) none 25 1 Try.underlying44 sz25 44 "page.go:22" #[{ on := 0, ground := Ground.data }, { on := 3, ground := Ground.data }]).op, none⟩,
      ⟨(opAssign (some 0) (.tmp 19) 44 "page.go:22" #[{ on := 4, ground := Ground.data }, { on := 0, ground := Ground.phase }, { on := 1, ground := Ground.phase }, { on := 2, ground := Ground.phase }, { on := 3, ground := Ground.phase }, { on := 4, ground := Ground.phase }]).op, none⟩
    ] (by kernel_rfl)))))

/-- What follows a loop. -/
noncomputable def f36_r0 : Sim Try.prog :=
  (.seq (.live [2] (.region 3 [
    ⟨(opMove (some 20) (.tmp 0) 44 "page.go:24" #[]).op, none⟩,
    ⟨(opAssign (some 2) (.tmp 20) 44 "page.go:24" #[{ on := 0, ground := Ground.data }, { on := 0, ground := Ground.phase }]).op, none⟩
  ] (by kernel_rfl)))
  (.live [2] .ret))

noncomputable def f36_b : Sim Try.prog :=
  (.seq (.live [0] (.region 0 [
    ⟨(opAssign (some 2) (.const (Value.slice none 0 0)) 44 "page.go:20" #[]).op, none⟩
  ] (by kernel_rfl)))
  (.seq (.block 0 (.loop [0] f36_l0))
  f36_r0))

noncomputable def f36 : Fun Try.prog where
  id := 36
  fn := Try.f36
  hf := Try.func36
  hname := by kernel_rfl
  body := f36_b
  hbody := by kernel_rfl
  res := [rTmp 2]
  hres := by kernel_rfl
  n := 21
  hn := by kernel_rfl

/-! ### 37: (interlock/page.slots).page$1 (25); results 2; slots: 0 b, 1 b -/
noncomputable def f37_b : Sim Try.prog :=
  (.seq (.live [0] (.region 0 [
    ⟨(opAssign (some 2) (.const (Value.bool false)) 4 "page.go:38" #[]).op, none⟩
  ] (by kernel_rfl)))
  (.seq (.live [2] (.region 1 [
    ⟨(opMove (some 3) (.tmp 0) 25 "page.go:38" #[]).op, none⟩,
    ⟨(opLen (some 4) (.tmp 3) 25 (.slice 5) Try.underlying25 3 "page.go:38" #[{ on := 0, ground := Ground.data }]).op, none⟩,
    ⟨(opBin (some 5) .gtr 3 (.tmp 4) (.const (Value.int IntKind.i64 200)) 3 4 "page.go:38" #[{ on := 1, ground := Ground.data }]).op, none⟩,
    ⟨(opAssign (some 2) (.tmp 5) 4 "page.go:38" #[{ on := 2, ground := Ground.data }, { on := 0, ground := Ground.phase }, { on := 1, ground := Ground.phase }, { on := 2, ground := Ground.phase }]).op, none⟩
  ] (by kernel_rfl)))
  (.live [2] .ret)))

noncomputable def f37 : Fun Try.prog where
  id := 37
  fn := Try.f37
  hf := Try.func37
  hname := by kernel_rfl
  body := f37_b
  hbody := by kernel_rfl
  res := [rTmp 2]
  hres := by kernel_rfl
  n := 6
  hn := by kernel_rfl

/-! ### 28: (interlock/page.slots).size (44); results 2; slots: 0 s, 1 s, 3 n, 4 _, 5 b -/
/-- A loop's round; at its head live: 3 n, 9 , 10 , 11  -/
noncomputable def f28_l0 : Sim Try.prog :=
  (.seq (.live [3, 9, 10, 11, 12] (.region 3 [
    ⟨(opBin (some 12) .lss 3 (.tmp 11) (.tmp 10) 3 0 "page.go:30" #[]).op, none⟩
  ] (by kernel_rfl)))
  (.seq (.cond (.tmp 12)
    .skip
    (.live [3] (.exit 0)))
  (.seq (.block 1 (.seq (.live [3, 5, 9, 10, 11] (.region 4 [
      ⟨(opIndexAddrT (some 13) 44 (.tmp 9) (.tmp 11) 25 1 Try.underlying44 sz25 0 "page.go:30" #[]).op, none⟩,
      ⟨(opLoadT (.one (.ns 1)) (some 14) 25 (.tmp 13) (.slice 5) Try.underlying25 1 sz25 (by kernel_rfl) 25 "page.go:30" #[{ on := 0, ground := Ground.data }]).op, none⟩,
      ⟨(opAssign (some 5) (.tmp 14) 25 "page.go:30" #[{ on := 1, ground := Ground.data }, { on := 0, ground := Ground.phase }, { on := 1, ground := Ground.phase }]).op, none⟩
    ] (by kernel_rfl)))
    (.live [3, 9, 10, 11] (.region 5 [
      ⟨(opMove (some 15) (.tmp 3) 3 "page.go:31" #[]).op, none⟩,
      ⟨(opMove (some 16) (.tmp 5) 25 "page.go:31" #[]).op, none⟩,
      ⟨(opLen (some 17) (.tmp 16) 25 (.slice 5) Try.underlying25 3 "page.go:31" #[{ on := 1, ground := Ground.data }]).op, none⟩,
      ⟨(opBin (some 18) .add 3 (.tmp 15) (.tmp 17) 3 3 "page.go:31" #[{ on := 0, ground := Ground.data }, { on := 2, ground := Ground.data }]).op, none⟩,
      ⟨(opAssign (some 3) (.tmp 18) 3 "page.go:31" #[{ on := 3, ground := Ground.data }, { on := 0, ground := Ground.phase }, { on := 1, ground := Ground.phase }, { on := 2, ground := Ground.phase }, { on := 3, ground := Ground.phase }]).op, none⟩
    ] (by kernel_rfl)))))
  (.live [3, 9, 10, 11] (.region 6 [
    ⟨(opBin (some 19) .add 3 (.tmp 11) (.const (Value.int IntKind.i64 1)) 3 3 "page.go:30" #[]).op, none⟩,
    ⟨(opMove (some 11) (.tmp 19) 3 "page.go:30" #[{ on := 0, ground := Ground.data }]).op, none⟩
  ] (by kernel_rfl))))))

/-- What follows a loop. -/
noncomputable def f28_r0 : Sim Try.prog :=
  (.seq (.live [2] (.region 7 [
    ⟨(opMove (some 20) (.tmp 3) 3 "page.go:33" #[]).op, none⟩,
    ⟨(opAssign (some 2) (.tmp 20) 3 "page.go:33" #[{ on := 0, ground := Ground.data }, { on := 0, ground := Ground.phase }]).op, none⟩
  ] (by kernel_rfl)))
  (.live [2] .ret))

noncomputable def f28_b : Sim Try.prog :=
  (.seq (.live [0] (.region 0 [
    ⟨(opAssign (some 2) (.const (Value.int IntKind.i64 0)) 3 "page.go:28" #[]).op, none⟩
  ] (by kernel_rfl)))
  (.seq (.live [0, 3] (.region 1 [
    ⟨(opMove (some 6) (.tmp 0) 44 "page.go:29" #[]).op, none⟩,
    ⟨(opLen (some 7) (.tmp 6) 44 (.slice 25) Try.underlying44 3 "page.go:29" #[{ on := 0, ground := Ground.data }]).op, none⟩,
    ⟨(opBin (some 8) .add 3 (.const (Value.int IntKind.i64 1)) (.tmp 7) 3 3 "page.go:29" #[{ on := 1, ground := Ground.data }]).op, none⟩,
    ⟨(opAssign (some 3) (.tmp 8) 3 "page.go:29" #[{ on := 2, ground := Ground.data }, { on := 0, ground := Ground.phase }, { on := 1, ground := Ground.phase }, { on := 2, ground := Ground.phase }]).op, none⟩
  ] (by kernel_rfl)))
  (.seq (.seq (.live [3, 9, 10, 11] (.region 2 [
    ⟨(opMove (some 9) (.tmp 0) 44 "page.go:30" #[]).op, none⟩,
    ⟨(opLen (some 10) (.tmp 9) 44 (.slice 25) Try.underlying44 3 "page.go:30" #[{ on := 0, ground := Ground.data }]).op, none⟩,
    ⟨(opMove (some 11) (.const (Value.int IntKind.i64 0)) 3 "page.go:30" #[]).op, none⟩
  ] (by kernel_rfl)))
  (.block 0 (.loop [3, 9, 10, 11] f28_l0)))
  f28_r0)))

noncomputable def f28 : Fun Try.prog where
  id := 28
  fn := Try.f28
  hf := Try.func28
  hname := by kernel_rfl
  body := f28_b
  hbody := by kernel_rfl
  res := [rTmp 2]
  hres := by kernel_rfl
  n := 21
  hn := by kernel_rfl

/-! ### 25: interlock/page.Add$1 (25); results 2; slots: 0 b, 1 b -/
noncomputable def f25_b : Sim Try.prog :=
  (.seq (.live [0] (.region 0 [
    ⟨(opAssign (some 2) (.const (Value.bool false)) 4 "page.go:123" #[]).op, none⟩
  ] (by kernel_rfl)))
  (.seq (.live [2] (.region 1 [
    ⟨(opMove (some 3) (.tmp 0) 25 "page.go:123" #[]).op, none⟩,
    ⟨(opEq (some 4) 25 (.slice 5) Try.underlying25 (.tmp 3) (.const (Value.slice none 0 0)) (.inl rfl) 25 4 "page.go:123" #[{ on := 0, ground := Ground.data }]).op, none⟩,
    ⟨(opAssign (some 2) (.tmp 4) 4 "page.go:123" #[{ on := 1, ground := Ground.data }, { on := 0, ground := Ground.phase }, { on := 1, ground := Ground.phase }]).op, none⟩
  ] (by kernel_rfl)))
  (.live [2] .ret)))

noncomputable def f25 : Fun Try.prog where
  id := 25
  fn := Try.f25
  hf := Try.func25
  hname := by kernel_rfl
  body := f25_b
  hbody := by kernel_rfl
  res := [rTmp 2]
  hres := by kernel_rfl
  n := 5
  hn := by kernel_rfl

/-! ### 27: interlock/page.Room$1 (25); results 2; slots: 0 b, 1 b -/
noncomputable def f27_b : Sim Try.prog :=
  (.seq (.live [0] (.region 0 [
    ⟨(opAssign (some 2) (.const (Value.bool false)) 4 "page.go:162" #[]).op, none⟩
  ] (by kernel_rfl)))
  (.seq (.live [2] (.region 1 [
    ⟨(opMove (some 3) (.tmp 0) 25 "page.go:162" #[]).op, none⟩,
    ⟨(opEq (some 4) 25 (.slice 5) Try.underlying25 (.tmp 3) (.const (Value.slice none 0 0)) (.inl rfl) 25 4 "page.go:162" #[{ on := 0, ground := Ground.data }]).op, none⟩,
    ⟨(opAssign (some 2) (.tmp 4) 4 "page.go:162" #[{ on := 1, ground := Ground.data }, { on := 0, ground := Ground.phase }, { on := 1, ground := Ground.phase }]).op, none⟩
  ] (by kernel_rfl)))
  (.live [2] .ret)))

noncomputable def f27 : Fun Try.prog where
  id := 27
  fn := Try.f27
  hf := Try.func27
  hname := by kernel_rfl
  body := f27_b
  hbody := by kernel_rfl
  res := [rTmp 2]
  hres := by kernel_rfl
  n := 5
  hn := by kernel_rfl

end Go.Proofs.Ytblliolkgkgppaa.V

/- What the functions' runs come to; the right sides were printed by a tool, Lean checks them. -/
set_option linter.unusedVariables false
set_option maxRecDepth 100000
namespace Go.Proofs.Ytblliolkgkgppaa.V
open Go Go.V Go.RowKit

theorem same_run (F : Nat) (z y : Bool) (l r : List (List AV)) (st : St) :
    (f12.run F [.ns z 1 l, .ns y 1 r] st : Ans) =
    branch (AV.bool ((↑l.length : Int) != (↑r.length : Int))) (some (Fin.ret (AV.bool false), st))
      (loopRun (f12_l0.run F) [0, 1, 5]
        (Cont.block 0 (Cont.then (f12_r0.run F (f12.leaveK Fun.done)) (f12.leaveK Fun.done))) F
        (Env.mk 26
          [(0, AV.ns z 1 l), (1, AV.ns y 1 r), (5, AV.int IntKind.i64 (0 : Int))])
        st) := by kernel_rfl

theorem same_round (F n : Nat) (K : Cont) (z y : Bool) (i : Int) (l r : List (List AV)) (st : St) :
    (loopRun (f12_l0.run F) [0, 1, 5] K n.succ (Env.mk 26 [(0, .ns z 1 l), (1, .ns y 1 r), (5, .int .i64 i)]) st : Ans) =
    branch (AV.bool (decide (i < (↑l.length : Int))))
      (branch (AV.bool (inR l i))
        (branch (AV.bool ((LD.one (LT.int IntKind.u8)).is (V.rowAt l i)))
          (branch (AV.bool (inR r i))
            (branch (AV.bool ((LD.one (LT.int IntKind.u8)).is (V.rowAt r i)))
              (branch (AV.bool (hdI (V.rowAt l i) != hdI (V.rowAt r i)))
                (K AX.ret (Env.mk 26 [(4, AV.bool false)]) st)
                (loopRun (f12_l0.run F) [0, 1, 5] K n
                  (Env.mk 26
                    [(0, AV.ns z 1 l), (1, AV.ns y 1 r),
                      (5, AV.int IntKind.i64 (IntKind.i64.wrap (i + (1 : Int))))])
                  st))
              none)
            none)
          none)
        none)
      (K (AX.exit 0) (Env.mk 26 []) st) := by kernel_rfl

theorem same_out (F : Nat) (st : St) :
    ((Cont.block 0 (Cont.then (f12_r0.run F (f12.leaveK Fun.done)) (f12.leaveK Fun.done))) (.exit 0) (Env.mk 26 []) st : Ans) =
    some (Fin.ret (AV.bool true), st) := by kernel_rfl

theorem same_ret (F : Nat) (st : St) :
    ((Cont.block 0 (Cont.then (f12_r0.run F (f12.leaveK Fun.done)) (f12.leaveK Fun.done))) .ret (Env.mk 26 [(4, .bool false)]) st : Ans) =
    some (Fin.ret (AV.bool false), st) := by kernel_rfl

theorem copy_run (F : Nat) (z : Bool) (l : List (List AV)) (st : St) :
    (f19.run F [.ns z 1 l] st : Ans) =
    branch (AV.bool (true && apOk l.length 1)) (some (Fin.ret (AV.sl 1 false l), st)) none := by kernel_rfl

theorem new_run (F : Nat) (st : St) :
    (f10.run F [] st : Ans) =
    branch (AV.bool (mkOk 1 (256 : Int)))
      (some
        (Fin.ret (AV.ms st.objs.length 1 0 256 256),
          St.mk (st.objs ++ [Ob.cells (zerC 256 [AV.int IntKind.u8 (0 : Int)])]) st.tk))
      none := by kernel_rfl

theorem free_run (F : Nat) (z : Bool) (l : List (List AV)) (st : St) :
    (f25.run F [.ns z 1 l] st : Ans) =
    some (Fin.ret (AV.bool z), st) := by kernel_rfl

theorem free2_run (F : Nat) (z : Bool) (l : List (List AV)) (st : St) :
    (f27.run F [.ns z 1 l] st : Ans) =
    some (Fin.ret (AV.bool z), st) := by kernel_rfl

theorem big_run (F : Nat) (z : Bool) (l : List (List AV)) (st : St) :
    (f37.run F [.ns z 1 l] st : Ans) =
    some (Fin.ret (AV.bool (decide ((↑l.length : Int) > (200 : Int)))), st) := by kernel_rfl

theorem trim_run (F : Nat) (z : Bool) (l : List (List AV)) (st : St) :
    (f36.run F [.ns z 1 l] st : Ans) =
    loopRun (f36_l0.run F) [0]
      (Cont.block 0 (Cont.then (f36_r0.run F (f36.leaveK Fun.done)) (f36.leaveK Fun.done))) F
      (Env.mk 21 [(0, AV.ns z 1 l)]) st := by kernel_rfl

theorem trim_round (F n : Nat) (K : Cont) (z : Bool) (l : List (List AV)) (st : St) :
    (loopRun (f36_l0.run F) [0] K n.succ (Env.mk 21 [(0, .ns z 1 l)]) st : Ans) =
    branch (AV.bool (decide ((↑l.length : Int) > (0 : Int))))
      (branch (AV.bool (inR l (IntKind.i64.wrap ((↑l.length : Int) - (1 : Int)))))
        (branch (AV.bool ((LD.one (LT.ns 1)).is (V.rowAt l (IntKind.i64.wrap ((↑l.length : Int) - (1 : Int))))))
          (branch (AV.bool (nilA (V.rowAt l (IntKind.i64.wrap ((↑l.length : Int) - (1 : Int))))))
            (if
                (0 : Int) ≤ IntKind.i64.wrap ((↑l.length : Int) - (1 : Int)) ∧
                  IntKind.i64.wrap ((↑l.length : Int) - (1 : Int)) ≤ (↑l.length : Int) then
              loopRun (f36_l0.run F) [0] K n
                (Env.mk 21
                  [(0,
                      AV.ns z 1
                        (List.drop 0 (List.take (IntKind.i64.wrap ((↑l.length : Int) - (1 : Int))).toNat l)))])
                st
            else none)
            (K (AX.exit 0) (Env.mk 21 [(0, AV.ns z 1 l)]) st))
          none)
        none)
      (K (AX.exit 0) (Env.mk 21 [(0, AV.ns z 1 l)]) st) := by kernel_rfl

theorem trim_out (F : Nat) (z : Bool) (l : List (List AV)) (st : St) :
    ((Cont.block 0 (Cont.then (f36_r0.run F (f36.leaveK Fun.done)) (f36.leaveK Fun.done))) (.exit 0) (Env.mk 21 [(0, .ns z 1 l)]) st : Ans) =
    some (Fin.ret (AV.ns z 1 l), st) := by kernel_rfl

theorem size_run (F : Nat) (z : Bool) (l : List (List AV)) (st : St) :
    (f28.run F [.ns z 1 l] st : Ans) =
    loopRun (f28_l0.run F) [3, 9, 10, 11]
      (Cont.block 0 (Cont.then (f28_r0.run F (f28.leaveK Fun.done)) (f28.leaveK Fun.done))) F
      (Env.mk 21
        [(3, AV.int IntKind.i64 (IntKind.i64.wrap ((1 : Int) + (↑l.length : Int)))),
          (9, AV.ns z 1 l), (10, AV.int IntKind.i64 (↑l.length : Int)),
          (11, AV.int IntKind.i64 (0 : Int))])
      st := by kernel_rfl

theorem size_round (F m : Nat) (K : Cont) (z : Bool) (l : List (List AV)) (n i e : Int) (st : St) :
    (loopRun (f28_l0.run F) [3, 9, 10, 11] K m.succ (Env.mk 21 [(3, .int .i64 n), (9, .ns z 1 l), (10, .int .i64 e), (11, .int .i64 i)]) st : Ans) =
    branch (AV.bool (decide (i < e)))
      (branch (AV.bool (inR l i))
        (branch (AV.bool ((LD.one (LT.ns 1)).is (V.rowAt l i)))
          (loopRun (f28_l0.run F) [3, 9, 10, 11] K m
            (Env.mk 21
              [(3, AV.int IntKind.i64 (IntKind.i64.wrap (n + (↑(rwA (V.rowAt l i)).length : Int)))),
                (9, AV.ns z 1 l), (10, AV.int IntKind.i64 e),
                (11, AV.int IntKind.i64 (IntKind.i64.wrap (i + (1 : Int))))])
            st)
          none)
        none)
      (K (AX.exit 0) (Env.mk 21 [(3, AV.int IntKind.i64 n)]) st) := by kernel_rfl

theorem size_out (F : Nat) (n : Int) (st : St) :
    ((Cont.block 0 (Cont.then (f28_r0.run F (f28.leaveK Fun.done)) (f28.leaveK Fun.done))) (.exit 0) (Env.mk 21 [(3, .int .i64 n)]) st : Ans) =
    some (Fin.ret (AV.int IntKind.i64 n), st) := by kernel_rfl

end Go.Proofs.Ytblliolkgkgppaa.V

/- Page: small functions, as callees. -/
set_option linter.unusedVariables false
namespace Go.Proofs.Ytblliolkgkgppaa.V
open Go Go.V Go.RowKit

/-! ### Bytes, compared -/
theorem same_loop (F : Nat) (z y : Bool) (l r : List (List AV)) (hl : byOk l = true) (hr : byOk r = true) (hlen : l.length = r.length) (st : St) : ∀ (k n i : Nat), l.length - i = k → i ≤ l.length → k < n →
    loopRun (f12_l0.run F) [0, 1, 5] (Cont.block 0 (Cont.then (f12_r0.run F (f12.leaveK Fun.done)) (f12.leaveK Fun.done))) n (Env.mk 26 [(0, .ns z 1 l), (1, .ns y 1 r), (5, .int .i64 (i : Int))]) st
      = some (.ret (.bool ((nR l).drop i == (nR r).drop i)), st)
  | k, 0, i, hk, hi, hn => by omega
  | 0, n + 1, i, hk, hi, hn => by
    rw [show n + 1 = n.succ from rfl, same_round, branch_not (by simp; omega), same_out]
    rw [List.drop_eq_nil_of_le (by rw [nR_length]; omega), List.drop_eq_nil_of_le (by rw [nR_length]; omega)]
    rfl
  | k + 1, n + 1, i, hk, hi, hn => by
    rw [byOk_iff] at hl hr
    have h1 : i < l.length := by omega
    have h2 : i < r.length := by omega
    obtain ⟨l1, l2⟩ := okR_at hl.1 h1
    obtain ⟨r1, r2⟩ := okR_at hr.1 h2
    rw [show n + 1 = n.succ from rfl, same_round, branch_of (by simp; omega), branch_of (inR_nat h1), branch_of l1, branch_of (inR_nat h2), branch_of r1, l2, r2]
    rw [beq_drop (by rw [nR_length]; exact h1) (by rw [nR_length]; exact h2)]
    by_cases hb : (nR l)[i]'(by rw [nR_length]; exact h1) = (nR r)[i]'(by rw [nR_length]; exact h2)
    · rw [branch_not (by rw [hb]; simp), wrap_succ (by omega), same_loop F z y l r (byOk_iff.mpr hl) (byOk_iff.mpr hr) hlen st k n (i + 1) (by omega) (by omega) (by omega), hb]
      simp
    · rw [branch_of (by simpa using fun e => hb (Int.ofNat.inj e)), same_ret]
      simp [hb]
theorem same_all (z y : Bool) (l r : List (List AV)) (hl : byOk l = true) (hr : byOk r = true) (st : St) : f12.run (l.length + 1) [.ns z 1 l, .ns y 1 r] st = some (.ret (.bool (nR l == nR r)), st) := by
  rw [same_run]
  by_cases h : l.length = r.length
  · rw [branch_not (by simp [h])]
    exact same_loop _ z y l r hl hr h st l.length _ 0 (by omega) (by omega) (by omega)
  · rw [branch_of (by simp; omega)]
    have : (nR l == nR r) = false := by
      simp only [beq_eq_false_iff_ne, ne_eq]
      intro e
      exact h (by rw [← nR_length l, ← nR_length r, e])
    rw [this]
noncomputable def p12 : POrc Try.prog := f12.farN
  (fun args k => match args with
    | [x, y] => onNs 1 x fun _ l => onNs 1 y fun _ r => ifT (byOk l && byOk r) (k (.bool (nR l == nR r)))
    | _ => none)
  fun args k fin h => by
    split at h
    · rename_i x y
      obtain ⟨z, l, h, hx⟩ := onNs_spec h
      obtain ⟨z', r, h, hy⟩ := onNs_spec h
      obtain ⟨h1, h⟩ := ifT_spec h
      simp only [Bool.and_eq_true] at h1
      exact ⟨_, _, h, .cons hx (.cons hy .nil), ⟨okR_scoped (byOk_iff.mp h1.1).1, okR_scoped (byOk_iff.mp h1.2).1, trivial⟩, trivial, _, .bool _, ⟨[], []⟩, rfl, same_all z z' l r h1.1 h1.2 _⟩
    · cases h
theorem p12_nat : p12.Nat := by
  intro args k
  show (match args with | [x, y] => _ | _ => _) = thenA (match args with | [x, y] => _ | _ => _) k
  split
  · exact onNs_nat fun _ _ => onNs_nat fun _ _ => ifT_nat rfl
  · rfl
end Go.Proofs.Ytblliolkgkgppaa.V

/- Page: small functions, as callees. -/
set_option linter.unusedVariables false
namespace Go.Proofs.Ytblliolkgkgppaa.V
open Go Go.V Go.RowKit

noncomputable def p19 : POrc Try.prog := f19.farN
  (fun args k => match args with
    | [x] => onNs 1 x fun _ l => ifT (byOk l && apOk l.length 1) (k (.sl 1 false l))
    | _ => none)
  fun args k fin h => by
    split at h
    · rename_i x
      obtain ⟨z, l, h, hx⟩ := onNs_spec h
      obtain ⟨h1, h⟩ := ifT_spec h
      simp only [Bool.and_eq_true] at h1
      have hs := okR_scoped (n := 0) (m := 0) (byOk_iff.mp h1.1).1
      exact ⟨_, _, h, .cons hx .nil, ⟨hs, trivial⟩, hs, 0, _, _, hard_id _ _ hs, (copy_run 0 z l _).trans (branch_of (by simpa using h1.2))⟩
    · cases h
theorem p19_nat : p19.Nat := by
  intro args k
  show (match args with | [x] => _ | _ => _) = thenA (match args with | [x] => _ | _ => _) k
  split
  · exact onNs_nat fun _ _ => ifT_nat rfl
  · rfl
/-- A page without slots. -/
noncomputable def zeroP : List Nat := opq (List.replicate 256 0)
noncomputable def p10 : POrc Try.prog := f10.farW
  (fun args k => match args with
    | [] => k (.ns false 1 (bR zeroP))
    | _ => none)
  fun args k fin h => by
    split at h
    · have hh : hard [Ob.cells (zerC 256 [.int .u8 0])] (.ms 0 1 0 256 256) = .sl 1 true (bR zeroP) := by
        simp only [hard, List.getElem?_cons_zero, List.drop_zero, zerC_byte]
        rw [rowsOf_bC 256 _ (by rw [List.length_replicate]; exact Nat.le_refl _), zeroP, opq_eq, List.take_of_length_le (by rw [List.length_replicate]; exact Nat.le_refl _)]
        rfl
      refine ⟨[], _, h, .nil, trivial, 0, .ms 0 1 0 256 256, ⟨[.cells (zerC 256 [.int .u8 0])], []⟩, (new_run 0 _).trans (branch_of (by rw [mkOk_iff]; exact ⟨by decide, by decide⟩)), ?_, ?_⟩
      · rw [hh]; exact bR_scoped _
      · rw [hh]; exact .sl
    · cases h
theorem p10_nat : p10.Nat := by
  intro args k
  show (match args with | [] => _ | _ => _) = thenA (match args with | [] => _ | _ => _) k
  split <;> rfl
/-- Is a slot free? -/
noncomputable def p25 : POrc Try.prog := f25.farN
  (fun args k => match args with
    | [x] => onNs 1 x fun z l => ifT (byOk l) (k (.bool z))
    | _ => none)
  fun args k fin h => by
    split at h
    · rename_i x
      obtain ⟨z, l, h, hx⟩ := onNs_spec h
      obtain ⟨h1, h⟩ := ifT_spec h
      exact ⟨_, _, h, .cons hx .nil, ⟨okR_scoped (byOk_iff.mp h1).1, trivial⟩, trivial, 0, _, _, rfl, free_run 0 z l _⟩
    · cases h
theorem p25_nat : p25.Nat := by
  intro args k
  show (match args with | [x] => _ | _ => _) = thenA (match args with | [x] => _ | _ => _) k
  split
  · exact onNs_nat fun _ _ => ifT_nat rfl
  · rfl
noncomputable def p27 : POrc Try.prog := f27.farN
  (fun args k => match args with
    | [x] => onNs 1 x fun z l => ifT (byOk l) (k (.bool z))
    | _ => none)
  fun args k fin h => by
    split at h
    · rename_i x
      obtain ⟨z, l, h, hx⟩ := onNs_spec h
      obtain ⟨h1, h⟩ := ifT_spec h
      exact ⟨_, _, h, .cons hx .nil, ⟨okR_scoped (byOk_iff.mp h1).1, trivial⟩, trivial, 0, _, _, rfl, free2_run 0 z l _⟩
    · cases h
theorem p27_nat : p27.Nat := by
  intro args k
  show (match args with | [x] => _ | _ => _) = thenA (match args with | [x] => _ | _ => _) k
  split
  · exact onNs_nat fun _ _ => ifT_nat rfl
  · rfl
noncomputable def p37 : POrc Try.prog := f37.farN
  (fun args k => match args with
    | [x] => onNs 1 x fun z l => ifT (byOk l) (k (.bool (decide ((l.length : Int) > 200))))
    | _ => none)
  fun args k fin h => by
    split at h
    · rename_i x
      obtain ⟨z, l, h, hx⟩ := onNs_spec h
      obtain ⟨h1, h⟩ := ifT_spec h
      exact ⟨_, _, h, .cons hx .nil, ⟨okR_scoped (byOk_iff.mp h1).1, trivial⟩, trivial, 0, _, _, rfl, big_run 0 z l _⟩
    · cases h
theorem p37_nat : p37.Nat := by
  intro args k
  show (match args with | [x] => _ | _ => _) = thenA (match args with | [x] => _ | _ => _) k
  split
  · exact onNs_nat fun _ _ => ifT_nat rfl
  · rfl

/-! ### Free slots at the end -/
noncomputable def trR (l : List (List AV)) : List (List AV) := opq (l.reverse.dropWhile nilA).reverse
theorem trR_nil : trR [] = [] := by rw [trR, opq_eq]; rfl
theorem trR_snoc (l : List (List AV)) (x : List AV) : trR (l ++ [x]) = bif nilA x then trR l else l ++ [x] := by
  rw [trR, trR, opq_eq, opq_eq, List.reverse_append, List.reverse_singleton, List.singleton_append, List.dropWhile_cons]
  cases nilA x <;> simp
theorem trR_take (l : List (List AV)) : ∃ k, k ≤ l.length ∧ trR l = l.take k := by
  rw [trR, opq_eq]
  have h1 : (l.reverse.dropWhile nilA) <:+ l.reverse := List.dropWhile_suffix _
  have h2 : (l.reverse.dropWhile nilA).reverse <+: l := by
    have := List.reverse_prefix.mpr h1
    simpa using this
  exact ⟨_, h2.length_le, (List.prefix_iff_eq_take.mp h2)⟩
theorem trR_len (l : List (List AV)) : (trR l).length ≤ l.length := by
  obtain ⟨k, h1, h2⟩ := trR_take l
  rw [h2, List.length_take]; omega
theorem okS_tr {l : List (List AV)} (h : okS l = true) : okS (trR l) = true := by
  obtain ⟨k, h1, h2⟩ := trR_take l
  exact okS_sub h (fun x hx => by rw [h2] at hx; exact List.mem_of_mem_take hx) (trR_len l)
theorem trim_loop (F : Nat) (z : Bool) (st : St) : ∀ (n : Nat) (l : List (List AV)), okS l = true → l.length < n →
    loopRun (f36_l0.run F) [0] (Cont.block 0 (Cont.then (f36_r0.run F (f36.leaveK Fun.done)) (f36.leaveK Fun.done))) n (Env.mk 21 [(0, .ns z 1 l)]) st = some (.ret (.ns z 1 (trR l)), st)
  | 0, l, h, hn => by omega
  | n + 1, l, h, hn => by
    rw [show n + 1 = n.succ from rfl, trim_round]
    rcases List.eq_nil_or_concat l with rfl | ⟨l', x, rfl⟩
    · rw [branch_not (by simp), trim_out, trR_nil]
    · rw [List.concat_eq_append] at *
      have hl : (l' ++ [x]).length = l'.length + 1 := by simp
      have hb : l'.length + 1 < 4611686018427387904 := by have := (okS_iff.mp h).2; rw [hl] at this; exact this
      have hw : IntKind.i64.wrap (((l' ++ [x]).length : Int) - 1) = ((l'.length : Nat) : Int) := by
        rw [hl, show ((l'.length + 1 : Nat) : Int) - 1 = ((l'.length : Nat) : Int) by omega, wrap_nat (by omega)]
      have hi : l'.length < (l' ++ [x]).length := by omega
      obtain ⟨h1, h2, h3, h4⟩ := okS_at h hi
      have hr : V.rowAt (l' ++ [x]) ((l'.length : Nat) : Int) = x := by rw [rowAt_nat hi]; simp
      rw [branch_of (by simp), hw, branch_of (inR_nat hi), branch_of h1, hr, trR_snoc]
      cases hx : nilA x with
      | false => exact trim_out F z (l' ++ [x]) st
      | true =>
        rw [branch_true, if_pos ⟨by omega, by omega⟩, Int.toNat_natCast, List.drop_zero, List.take_left]
        exact trim_loop F z st n l' (okS_sub h (fun y hy => by simp [hy]) (by omega)) (by omega)
noncomputable def p36 : POrc Try.prog := f36.farN
  (fun args k => match args with
    | [x] => onNs 1 x fun z l => ifT (okS l) (k (.ns z 1 (trR l)))
    | _ => none)
  fun args k fin h => by
    split at h
    · rename_i x
      obtain ⟨z, l, h, hx⟩ := onNs_spec h
      obtain ⟨h1, h⟩ := ifT_spec h
      have hs := okS_scoped (n := 0) (m := 0) (okS_iff.mp (okS_tr h1)).1
      exact ⟨_, _, h, .cons hx .nil, ⟨okS_scoped (okS_iff.mp h1).1, trivial⟩, hs, l.length + 1, _, _, hard_id _ _ hs, (trim_run _ z l _).trans (trim_loop _ z _ _ l h1 (by omega))⟩
    · cases h
theorem p36_nat : p36.Nat := by
  intro args k
  show (match args with | [x] => _ | _ => _) = thenA (match args with | [x] => _ | _ => _) k
  split
  · exact onNs_nat fun _ _ => ifT_nat rfl
  · rfl

/-! ### How many bytes slots need -/
def olen (o : Option (List Nat)) : Nat := (o.getD []).length
def sumN (s : List (Option (List Nat))) : Nat := (s.map olen).sum
def szN (s : List (Option (List Nat))) : Nat := 1 + s.length + sumN s
theorem sumN_cons (o : Option (List Nat)) (s : List (Option (List Nat))) : sumN (o :: s) = olen o + sumN s := rfl
theorem sumN_append (s t : List (Option (List Nat))) : sumN (s ++ t) = sumN s + sumN t := by simp [sumN]
theorem slot_len {r : List AV} (h : nilA r = true → rwA r = []) : olen (slot r) = (rwA r).length := by
  unfold slot
  cases hn : nilA r with
  | true => rw [h hn]; rfl
  | false => simp [olen, nR_length]
theorem drop_at {α : Type} {l : List α} {i : Nat} (h : i < l.length) : l.drop i = l[i] :: l.drop (i + 1) := List.drop_eq_getElem_cons h
theorem size_loop (F : Nat) (z : Bool) (st : St) (l : List (List AV)) (h : okS l = true) : ∀ (k n i m : Nat), l.length - i = k → i ≤ l.length → k < n → m + sumN ((sR l).drop i) < 4611686018427387904 →
    loopRun (f28_l0.run F) [3, 9, 10, 11] (Cont.block 0 (Cont.then (f28_r0.run F (f28.leaveK Fun.done)) (f28.leaveK Fun.done))) n
      (Env.mk 21 [(3, .int .i64 (m : Int)), (9, .ns z 1 l), (10, .int .i64 (l.length : Int)), (11, .int .i64 (i : Int))]) st = some (.ret (.int .i64 ((m + sumN ((sR l).drop i) : Nat) : Int)), st)
  | k, 0, i, m, hk, hi, hn, hm => by omega
  | 0, n + 1, i, m, hk, hi, hn, hm => by
    rw [show n + 1 = n.succ from rfl, size_round, branch_not (by simp; omega), size_out, List.drop_eq_nil_of_le (by rw [sR_length]; omega)]
    rfl
  | k + 1, n + 1, i, m, hk, hi, hn, hm => by
    have h1 : i < l.length := by omega
    obtain ⟨l1, l2, l3, l4⟩ := okS_at h h1
    have hb := (okS_iff.mp h).2
    rw [drop_at (by rw [sR_length]; exact h1), sumN_cons, ← l3, slot_len l4] at hm ⊢
    rw [show n + 1 = n.succ from rfl, size_round, branch_of (by simp; omega), branch_of (inR_nat h1), branch_of l1, wrap_succ (by omega), show (m : Int) + ((rwA (V.rowAt l (i : Int))).length : Int) = ((m + (rwA (V.rowAt l (i : Int))).length : Nat) : Int) by omega, wrap_nat (by omega),
      size_loop F z st l h k n (i + 1) (m + (rwA (V.rowAt l (i : Int))).length) (by omega) (by omega) (by omega) (by omega)]
    rw [Nat.add_assoc]
noncomputable def p28 : POrc Try.prog := f28.farN
  (fun args k => match args with
    | [x] => onNs 1 x fun z l => ifT (okS l && fit (szN (sR l))) (k (.int .i64 (szN (sR l) : Nat)))
    | _ => none)
  fun args k fin h => by
    split at h
    · rename_i x
      obtain ⟨z, l, h, hx⟩ := onNs_spec h
      obtain ⟨h1, h⟩ := ifT_spec h
      simp only [Bool.and_eq_true, fit_iff] at h1
      refine ⟨_, _, h, .cons hx .nil, ⟨okS_scoped (okS_iff.mp h1.1).1, trivial⟩, trivial, l.length + 1, .int .i64 (szN (sR l) : Nat), ⟨[], []⟩, rfl, (size_run _ z l _).trans ?_⟩
      have h2 := h1.2
      rw [szN, sR_length] at h2
      have := size_loop (l.length + 1) z ⟨[], []⟩ l h1.1 l.length (l.length + 1) 0 (1 + l.length) (by omega) (by omega) (by omega) (by rw [List.drop_zero]; exact h2)
      rw [show (1 : Int) + (l.length : Int) = ((1 + l.length : Nat) : Int) by omega, wrap_nat (by omega)]
      rw [List.drop_zero] at this
      rw [szN, sR_length]
      exact this
    · cases h
theorem p28_nat : p28.Nat := by
  intro args k
  show (match args with | [x] => _ | _ => _) = thenA (match args with | [x] => _ | _ => _) k
  split
  · exact onNs_nat fun _ _ => ifT_nat rfl
  · rfl
end Go.Proofs.Ytblliolkgkgppaa.V

/- The functions' pieces, as told by gen.py. -/
set_option linter.unusedVariables false
set_option maxRecDepth 20000
namespace Go.Proofs.Ytblliolkgkgppaa.V
open Go Go.V Go.RowKit


/-! ### 24: slices.IndexFunc[interlock/page.slots,[]byte] (44, 37); results 4; slots: 0 s, 1 f, 2 s, 3 f, 5 i -/
/-- A loop's round; at its head live: 0 s, 1 f, 7 , 8  -/
noncomputable def f24_l0 (Os : List (Orc Try.prog)) : Sim Try.prog :=
  (.seq (.live [0, 1, 7, 8, 9] (.region 2 [
    ⟨(opBin (some 9) .lss 3 (.tmp 8) (.tmp 7) 3 0 "slices.go:108" #[]).op, none⟩
  ] (by kernel_rfl)))
  (.seq (.cond (.tmp 9)
    .skip
    (.live [] (.exit 0)))
  (.seq (.block 1 (.seq (.live [0, 1, 5, 7, 8] (.region 3 [
      ⟨(opMove (some 10) (.tmp 8) 3 "slices.go:108" #[]).op, none⟩,
      ⟨(opAssign (some 5) (.tmp 10) 3 "slices.go:108" #[{ on := 0, ground := Ground.data }, { on := 0, ground := Ground.phase }]).op, none⟩
    ] (by kernel_rfl)))
    (.seq (.live [0, 1, 5, 7, 8, 16] (.region 4 [
      ⟨(opMove (some 11) (.tmp 1) 37 "slices.go:109" #[]).op, none⟩,
      ⟨(opMove (some 12) (.tmp 0) 44 "slices.go:109" #[]).op, none⟩,
      ⟨(opMove (some 13) (.tmp 5) 3 "slices.go:109" #[]).op, none⟩,
      ⟨(opIndexAddrT (some 14) 44 (.tmp 12) (.tmp 13) 25 1 Try.underlying44 sz25 0 "slices.go:109" #[{ on := 1, ground := Ground.data }, { on := 2, ground := Ground.data }]).op, none⟩,
      ⟨(opLoadT (.one (.ns 1)) (some 15) 25 (.tmp 14) (.slice 5) Try.underlying25 1 sz25 (by kernel_rfl) 25 "slices.go:109" #[{ on := 3, ground := Ground.data }]).op, none⟩,
      ⟨opCallDyn Os (some 16) 11 [(.tmp 15)] #[25] 4 "slices.go:109" #[{ on := 0, ground := Ground.data }, { on := 4, ground := Ground.data }], none⟩
    ] (by kernel_rfl)))
    (.cond (.tmp 16)
      (.seq (.live [4] (.region 5 [
        ⟨(opMove (some 17) (.tmp 5) 3 "slices.go:110" #[]).op, none⟩,
        ⟨(opAssign (some 4) (.tmp 17) 3 "slices.go:110" #[{ on := 0, ground := Ground.data }, { on := 0, ground := Ground.phase }]).op, none⟩
      ] (by kernel_rfl)))
      (.live [4] .ret))
      .skip))))
  (.live [0, 1, 7, 8] (.region 6 [
    ⟨(opBin (some 18) .add 3 (.tmp 8) (.const (Value.int IntKind.i64 1)) 3 3 "slices.go:108" #[]).op, none⟩,
    ⟨(opMove (some 8) (.tmp 18) 3 "slices.go:108" #[{ on := 0, ground := Ground.data }]).op, none⟩
  ] (by kernel_rfl))))))

/-- What follows a loop. -/
noncomputable def f24_r0 (Os : List (Orc Try.prog)) : Sim Try.prog :=
  (.seq (.live [4] (.region 7 [
    ⟨(opAssign (some 4) (.const (Value.int IntKind.i64 (-1))) 3 "slices.go:113" #[]).op, none⟩
  ] (by kernel_rfl)))
  (.live [4] .ret))

noncomputable def f24_b (Os : List (Orc Try.prog)) : Sim Try.prog :=
  (.seq (.live [0, 1] (.region 0 [
    ⟨(opAssign (some 4) (.const (Value.int IntKind.i64 0)) 3 "slices.go:107" #[]).op, none⟩
  ] (by kernel_rfl)))
  (.seq (.seq (.live [0, 1, 7, 8] (.region 1 [
    ⟨(opMove (some 6) (.tmp 0) 44 "slices.go:108" #[]).op, none⟩,
    ⟨(opLen (some 7) (.tmp 6) 44 (.slice 25) Try.underlying44 3 "slices.go:108" #[{ on := 0, ground := Ground.data }]).op, none⟩,
    ⟨(opMove (some 8) (.const (Value.int IntKind.i64 0)) 3 "slices.go:108" #[]).op, none⟩
  ] (by kernel_rfl)))
  (.block 0 (.loop [0, 1, 7, 8] (f24_l0 Os))))
  (f24_r0 Os)))

noncomputable def f24 (Os : List (Orc Try.prog)) : Fun Try.prog where
  id := 24
  fn := Try.f24
  hf := Try.func24
  hname := by kernel_rfl
  body := f24_b Os
  hbody := by kernel_rfl
  res := [rTmp 4]
  hres := by kernel_rfl
  n := 19
  hn := by kernel_rfl

end Go.Proofs.Ytblliolkgkgppaa.V

/- What the functions' runs come to; the right sides were printed by a tool, Lean checks them. -/
set_option linter.unusedVariables false
set_option maxRecDepth 100000
namespace Go.Proofs.Ytblliolkgkgppaa.V
open Go Go.V Go.RowKit

noncomputable def OsC : List (Orc Try.prog) := [p25.orcS.orc, p27.orcS.orc, p37.orcS.orc]
theorem idx_run (F f : Nat) (z : Bool) (l : List (List AV)) (st : St) :
    ((f24 OsC).run F [.ns z 1 l, .fn (.func f) [] []] st : Ans) =
    loopRun ((f24_l0 OsC).run F) [0, 1, 7, 8]
      (Cont.block 0 (Cont.then ((f24_r0 OsC).run F ((f24 OsC).leaveK Fun.done)) ((f24 OsC).leaveK Fun.done))) F
      (Env.mk 19
        [(0, AV.ns z 1 l), (1, AV.fn (Fn.func f) [] []),
          (7, AV.int IntKind.i64 (↑l.length : Int)), (8, AV.int IntKind.i64 (0 : Int))])
      st := by kernel_rfl

theorem idx_round25 (F n : Nat) (K : Cont) (z : Bool) (l : List (List AV)) (i e : Int) (st : St) :
    (loopRun ((f24_l0 OsC).run F) [0, 1, 7, 8] K n.succ (Env.mk 19 [(0, .ns z 1 l), (1, .fn (.func 25) [] []), (7, .int .i64 e), (8, .int .i64 i)]) st : Ans) =
    branch (AV.bool (decide (i < e)))
      (branch (AV.bool (inR l i))
        (branch (AV.bool ((LD.one (LT.ns 1)).is (V.rowAt l i)))
          (branch (AV.bool (byOk (rwA (V.rowAt l i))))
            (branch (AV.bool (nilA (V.rowAt l i))) (K AX.ret (Env.mk 19 [(4, AV.int IntKind.i64 i)]) st)
              (loopRun ((f24_l0 OsC).run F) [0, 1, 7, 8] K n
                (Env.mk 19
                  [(0, AV.ns z 1 l), (1, AV.fn (Fn.func (25 : FuncId)) [] []),
                    (7, AV.int IntKind.i64 e), (8, AV.int IntKind.i64 (IntKind.i64.wrap (i + (1 : Int))))])
                st))
            none)
          none)
        none)
      (K (AX.exit 0) (Env.mk 19 []) st) := by kernel_rfl

theorem idx_round27 (F n : Nat) (K : Cont) (z : Bool) (l : List (List AV)) (i e : Int) (st : St) :
    (loopRun ((f24_l0 OsC).run F) [0, 1, 7, 8] K n.succ (Env.mk 19 [(0, .ns z 1 l), (1, .fn (.func 27) [] []), (7, .int .i64 e), (8, .int .i64 i)]) st : Ans) =
    branch (AV.bool (decide (i < e)))
      (branch (AV.bool (inR l i))
        (branch (AV.bool ((LD.one (LT.ns 1)).is (V.rowAt l i)))
          (branch (AV.bool (byOk (rwA (V.rowAt l i))))
            (branch (AV.bool (nilA (V.rowAt l i))) (K AX.ret (Env.mk 19 [(4, AV.int IntKind.i64 i)]) st)
              (loopRun ((f24_l0 OsC).run F) [0, 1, 7, 8] K n
                (Env.mk 19
                  [(0, AV.ns z 1 l), (1, AV.fn (Fn.func (27 : FuncId)) [] []),
                    (7, AV.int IntKind.i64 e), (8, AV.int IntKind.i64 (IntKind.i64.wrap (i + (1 : Int))))])
                st))
            none)
          none)
        none)
      (K (AX.exit 0) (Env.mk 19 []) st) := by kernel_rfl

theorem idx_round37 (F n : Nat) (K : Cont) (z : Bool) (l : List (List AV)) (i e : Int) (st : St) :
    (loopRun ((f24_l0 OsC).run F) [0, 1, 7, 8] K n.succ (Env.mk 19 [(0, .ns z 1 l), (1, .fn (.func 37) [] []), (7, .int .i64 e), (8, .int .i64 i)]) st : Ans) =
    branch (AV.bool (decide (i < e)))
      (branch (AV.bool (inR l i))
        (branch (AV.bool ((LD.one (LT.ns 1)).is (V.rowAt l i)))
          (branch (AV.bool (byOk (rwA (V.rowAt l i))))
            (branch (AV.bool (decide ((↑(rwA (V.rowAt l i)).length : Int) > (200 : Int))))
              (K AX.ret (Env.mk 19 [(4, AV.int IntKind.i64 i)]) st)
              (loopRun ((f24_l0 OsC).run F) [0, 1, 7, 8] K n
                (Env.mk 19
                  [(0, AV.ns z 1 l), (1, AV.fn (Fn.func (37 : FuncId)) [] []),
                    (7, AV.int IntKind.i64 e), (8, AV.int IntKind.i64 (IntKind.i64.wrap (i + (1 : Int))))])
                st))
            none)
          none)
        none)
      (K (AX.exit 0) (Env.mk 19 []) st) := by kernel_rfl

theorem idx_out (F : Nat) (st : St) :
    ((Cont.block 0 (Cont.then ((f24_r0 OsC).run F ((f24 OsC).leaveK Fun.done)) ((f24 OsC).leaveK Fun.done))) (.exit 0) (Env.mk 19 []) st : Ans) =
    some (Fin.ret (AV.int IntKind.i64 (-1 : Int)), st) := by kernel_rfl

theorem idx_ret (F : Nat) (i : Int) (st : St) :
    ((Cont.block 0 (Cont.then ((f24_r0 OsC).run F ((f24 OsC).leaveK Fun.done)) ((f24 OsC).leaveK Fun.done))) .ret (Env.mk 19 [(4, .int .i64 i)]) st : Ans) =
    some (Fin.ret (AV.int IntKind.i64 i), st) := by kernel_rfl

end Go.Proofs.Ytblliolkgkgppaa.V

/- Page: the first slot that a predicate holds for. -/
set_option linter.unusedVariables false
namespace Go.Proofs.Ytblliolkgkgppaa.V
open Go Go.V Go.RowKit

/-- What the closures ask. -/
def prd (f : Nat) (r : List AV) : Bool := bif Nat.beq f 37 then decide (((rwA r).length : Int) > 200) else nilA r
def prdF (f : Nat) : Bool := Nat.beq f 25 || (Nat.beq f 27 || Nat.beq f 37)
theorem idx_round (F n f : Nat) (hf : prdF f = true) (K : Cont) (z : Bool) (l : List (List AV)) (h : okS l = true) (i : Nat) (hi : i < l.length) (st : St) :
    loopRun ((f24_l0 OsC).run F) [0, 1, 7, 8] K n.succ (Env.mk 19 [(0, .ns z 1 l), (1, .fn (.func f) [] []), (7, .int .i64 (l.length : Int)), (8, .int .i64 (i : Int))]) st =
      branch (.bool (prd f (V.rowAt l (i : Int)))) (K AX.ret (Env.mk 19 [(4, AV.int IntKind.i64 i)]) st)
        (loopRun ((f24_l0 OsC).run F) [0, 1, 7, 8] K n (Env.mk 19 [(0, .ns z 1 l), (1, .fn (.func f) [] []), (7, .int .i64 (l.length : Int)), (8, .int .i64 ((i + 1 : Nat) : Int))]) st) := by
  obtain ⟨h1, h2, h3, h4⟩ := okS_at h hi
  have hb := (okS_iff.mp h).2
  simp only [prdF, Bool.or_eq_true] at hf
  rcases hf with hf | hf | hf <;> obtain rfl := Nat.eq_of_beq_eq_true hf
  · rw [idx_round25, branch_of (by simpa using hi), branch_of (inR_nat hi), branch_of h1, branch_of h2, wrap_succ (by omega)]; rfl
  · rw [idx_round27, branch_of (by simpa using hi), branch_of (inR_nat hi), branch_of h1, branch_of h2, wrap_succ (by omega)]; rfl
  · rw [idx_round37, branch_of (by simpa using hi), branch_of (inR_nat hi), branch_of h1, branch_of h2, wrap_succ (by omega)]; rfl
theorem idx_stop (F n f : Nat) (hf : prdF f = true) (K : Cont) (z : Bool) (l : List (List AV)) (st : St) :
    loopRun ((f24_l0 OsC).run F) [0, 1, 7, 8] K n.succ (Env.mk 19 [(0, .ns z 1 l), (1, .fn (.func f) [] []), (7, .int .i64 (l.length : Int)), (8, .int .i64 (l.length : Int))]) st = K (.exit 0) (Env.mk 19 []) st := by
  simp only [prdF, Bool.or_eq_true] at hf
  rcases hf with hf | hf | hf <;> obtain rfl := Nat.eq_of_beq_eq_true hf
  · rw [idx_round25, branch_not (by simp)]
  · rw [idx_round27, branch_not (by simp)]
  · rw [idx_round37, branch_not (by simp)]
theorem idx_loop (F f : Nat) (hf : prdF f = true) (z : Bool) (l : List (List AV)) (h : okS l = true) (st : St) : ∀ (k n i : Nat), i + k = l.length → k < n →
    loopRun ((f24_l0 OsC).run F) [0, 1, 7, 8] (Cont.block 0 (Cont.then ((f24_r0 OsC).run F ((f24 OsC).leaveK Fun.done)) ((f24 OsC).leaveK Fun.done))) n (Env.mk 19 [(0, .ns z 1 l), (1, .fn (.func f) [] []), (7, .int .i64 (l.length : Int)), (8, .int .i64 (i : Int))]) st
      = some (.ret (.int .i64 (idxI (idxFrom (prd f) (l.drop i) i))), st)
  | k, 0, i, hi, hn => by omega
  | 0, n + 1, i, hi, hn => by
    obtain rfl : i = l.length := by omega
    rw [show n + 1 = n.succ from rfl, idx_stop F n f hf, idx_out, List.drop_length]
    rfl
  | k + 1, n + 1, i, hi, hn => by
    have h1 : i < l.length := by omega
    rw [show n + 1 = n.succ from rfl, idx_round F n f hf _ z l h i h1, drop_at h1, idxFrom, rowAt_nat h1]
    cases hp : prd f l[i] with
    | true => exact idx_ret F i st
    | false => exact idx_loop F f hf z l h st k n (i + 1) (by omega) (by omega)
noncomputable def p24 : POrc Try.prog := (f24 OsC).farN
  (fun args k => match args with
    | [x, .fn (.func f) [] []] => onNs 1 x fun _ l => ifT (prdF f && okS l) (k (.int .i64 (idxI (idxFrom (prd f) l 0))))
    | _ => none)
  fun args k fin h => by
    split at h
    · rename_i x f
      obtain ⟨z, l, h, hx⟩ := onNs_spec h
      obtain ⟨h1, h⟩ := ifT_spec h
      simp only [Bool.and_eq_true] at h1
      refine ⟨_, _, h, .cons hx (.cons (.refl _) .nil), ⟨okS_scoped (okS_iff.mp h1.2).1, ⟨trivial, trivial⟩, trivial⟩, trivial, l.length + 1, .int .i64 _, ⟨[], []⟩, rfl, (idx_run _ f z l _).trans ?_⟩
      exact idx_loop _ f h1.1 z l h1.2 _ l.length _ 0 (by omega) (by omega)
    · cases h
theorem p24_nat : p24.Nat := by
  intro args k
  show (match args with | [x, .fn (.func f) [] []] => _ | _ => _) = thenA (match args with | [x, .fn (.func f) [] []] => _ | _ => _) k
  split
  · exact onNs_nat fun _ _ => ifT_nat rfl
  · rfl
end Go.Proofs.Ytblliolkgkgppaa.V

/- The functions' pieces, as told by gen.py. -/
set_option linter.unusedVariables false
set_option maxRecDepth 20000
namespace Go.Proofs.Ytblliolkgkgppaa.V
open Go Go.V Go.RowKit


/-! ### 26: slices.ContainsFunc[interlock/page.slots,[]byte] (44, 37); results 4; slots: 0 s, 1 f, 2 s, 3 f -/
noncomputable def f26_b : Sim Try.prog :=
  (.seq (.live [0, 1] (.region 0 [
    ⟨(opAssign (some 4) (.const (Value.bool false)) 4 "slices.go:124" #[]).op, none⟩
  ] (by kernel_rfl)))
  (.seq (.live [4] (.region 1 [
    ⟨(opMove (some 5) (.tmp 0) 44 "slices.go:125" #[]).op, none⟩,
    ⟨(opMove (some 6) (.tmp 1) 37 "slices.go:125" #[]).op, none⟩,
    ⟨(opCallP p24 (some 7) [(.tmp 5), (.tmp 6)] #[44, 37] 3 "slices.go:125" #[{ on := 0, ground := Ground.data }, { on := 1, ground := Ground.data }]).op, none⟩,
    ⟨(opBin (some 8) .geq 3 (.tmp 7) (.const (Value.int IntKind.i64 0)) 3 4 "slices.go:125" #[{ on := 2, ground := Ground.data }]).op, none⟩,
    ⟨(opAssign (some 4) (.tmp 8) 4 "slices.go:125" #[{ on := 3, ground := Ground.data }, { on := 2, ground := Ground.chain }, { on := 0, ground := Ground.phase }, { on := 1, ground := Ground.phase }, { on := 2, ground := Ground.phase }, { on := 3, ground := Ground.phase }]).op, none⟩
  ] (by kernel_rfl)))
  (.live [4] .ret)))

noncomputable def f26 : Fun Try.prog where
  id := 26
  fn := Try.f26
  hf := Try.func26
  hname := by kernel_rfl
  body := f26_b
  hbody := by kernel_rfl
  res := [rTmp 4]
  hres := by kernel_rfl
  n := 9
  hn := by kernel_rfl

end Go.Proofs.Ytblliolkgkgppaa.V

/- What the functions' runs come to; the right sides were printed by a tool, Lean checks them. -/
set_option linter.unusedVariables false
set_option maxRecDepth 100000
namespace Go.Proofs.Ytblliolkgkgppaa.V
open Go Go.V Go.RowKit

theorem has_run (F f : Nat) (z : Bool) (l : List (List AV)) (st : St) :
    (f26.run F [.ns z 1 l, .fn (.func f) [] []] st : Ans) =
    branch (AV.bool (prdF f && okS l))
      (some (Fin.ret (AV.bool (decide (idxI (idxFrom (prd f) l 0) ≥ (0 : Int)))), st)) none := by kernel_rfl

end Go.Proofs.Ytblliolkgkgppaa.V

/- Page: is there a slot that a predicate holds for. -/
set_option linter.unusedVariables false
namespace Go.Proofs.Ytblliolkgkgppaa.V
open Go Go.V Go.RowKit

theorem idxI_ge (o : Option Nat) : decide (idxI o ≥ 0) = o.isSome := by
  cases o with
  | none => rfl
  | some j => simp [idxI]
noncomputable def p26 : POrc Try.prog := f26.farN
  (fun args k => match args with
    | [x, .fn (.func f) [] []] => onNs 1 x fun _ l => ifT (prdF f && okS l) (k (.bool (l.any (prd f))))
    | _ => none)
  fun args k fin h => by
    split at h
    · rename_i x f
      obtain ⟨z, l, h, hx⟩ := onNs_spec h
      obtain ⟨h1, h⟩ := ifT_spec h
      have h2 := h1
      simp only [Bool.and_eq_true] at h1
      refine ⟨_, _, h, .cons hx (.cons (.refl _) .nil), ⟨okS_scoped (okS_iff.mp h1.2).1, ⟨trivial, trivial⟩, trivial⟩, trivial, 0, .bool _, ⟨[], []⟩, rfl, (has_run _ f z l _).trans ?_⟩
      rw [branch_of h2, idxI_ge, idxFrom_isSome]
    · cases h
theorem p26_nat : p26.Nat := by
  intro args k
  show (match args with | [x, .fn (.func f) [] []] => _ | _ => _) = thenA (match args with | [x, .fn (.func f) [] []] => _ | _ => _) k
  split
  · exact onNs_nat fun _ _ => ifT_nat rfl
  · rfl
end Go.Proofs.Ytblliolkgkgppaa.V

/- The functions' pieces, as told by gen.py. -/
set_option linter.unusedVariables false
set_option maxRecDepth 20000
namespace Go.Proofs.Ytblliolkgkgppaa.V
open Go Go.V Go.RowKit


/-! ### 23: (interlock/page.slots).page (44); results 2, 3; slots: 0 s, 1 s, 4 p, 5 end, 6 i, 7 b -/
/-- A loop's round; at its head live: 4 p, 5 end, 23 , 24 , 25  -/
noncomputable def f23_l0 : Sim Try.prog :=
  (.seq (.live [4, 5, 23, 24, 25, 26] (.region 7 [
    ⟨(opBin (some 26) .lss 3 (.tmp 25) (.tmp 24) 3 0 "page.go:44" #[]).op, none⟩
  ] (by kernel_rfl)))
  (.seq (.cond (.tmp 26)
    .skip
    (.live [4] (.exit 0)))
  (.seq (.block 1 (.seq (.live [4, 5, 6, 7, 23, 24, 25] (.region 8 [
      ⟨(opMove (some 27) (.tmp 25) 3 "page.go:44" #[]).op, none⟩,
      ⟨(opIndexAddrT (some 28) 44 (.tmp 23) (.tmp 25) 25 1 Try.underlying44 sz25 0 "page.go:44" #[]).op, none⟩,
      ⟨(opLoadT (.one (.ns 1)) (some 29) 25 (.tmp 28) (.slice 5) Try.underlying25 1 sz25 (by kernel_rfl) 25 "page.go:44" #[{ on := 1, ground := Ground.data }]).op, none⟩,
      ⟨(opAssign (some 6) (.tmp 27) 3 "page.go:44" #[{ on := 0, ground := Ground.data }, { on := 0, ground := Ground.phase }, { on := 1, ground := Ground.phase }, { on := 2, ground := Ground.phase }]).op, none⟩,
      ⟨(opAssign (some 7) (.tmp 29) 25 "page.go:44" #[{ on := 2, ground := Ground.data }, { on := 3, ground := Ground.chain }, { on := 0, ground := Ground.phase }, { on := 1, ground := Ground.phase }, { on := 2, ground := Ground.phase }, { on := 3, ground := Ground.phase }]).op, none⟩
    ] (by kernel_rfl)))
    (.seq (.live [4, 5, 6, 7, 23, 24, 25, 31] (.region 9 [
      ⟨(opMove (some 30) (.tmp 7) 25 "page.go:45" #[]).op, none⟩,
      ⟨(opNe (some 31) 25 (.slice 5) Try.underlying25 (.tmp 30) (.const (Value.slice none 0 0)) (.inl rfl) 25 4 "page.go:45" #[{ on := 0, ground := Ground.data }]).op, none⟩
    ] (by kernel_rfl)))
    (.cond (.tmp 31)
      (.seq (.live [4, 5, 7, 23, 24, 25] (.region 10 [
        ⟨(opMove (some 32) (.tmp 4) 25 "page.go:46" #[]).op, none⟩,
        ⟨(opMove (some 33) (.tmp 6) 3 "page.go:46" #[]).op, none⟩,
        ⟨(opBin (some 34) .add 3 (.const (Value.int IntKind.i64 1)) (.tmp 33) 3 3 "page.go:46" #[{ on := 1, ground := Ground.data }]).op, none⟩,
        ⟨(opMove (some 35) (.tmp 7) 25 "page.go:46" #[]).op, none⟩,
        ⟨(opLen (some 36) (.tmp 35) 25 (.slice 5) Try.underlying25 3 "page.go:46" #[{ on := 3, ground := Ground.data }]).op, none⟩,
        ⟨(opBin (some 37) .add 3 (.tmp 36) (.const (Value.int IntKind.i64 1)) 3 3 "page.go:46" #[{ on := 4, ground := Ground.data }]).op, none⟩,
        ⟨(opConvInt (some 38) 3 5 (.tmp 37) (.int .i64) Try.underlying3 .u8 Try.underlying5 5 "page.go:46" #[{ on := 5, ground := Ground.data }]).op, none⟩,
        ⟨(opIndexAddrT (some 39) 25 (.tmp 32) (.tmp 34) 5 1 Try.underlying25 sz5 0 "page.go:46" #[{ on := 0, ground := Ground.data }, { on := 2, ground := Ground.data }, { on := 0, ground := Ground.phase }, { on := 1, ground := Ground.phase }, { on := 2, ground := Ground.phase }, { on := 3, ground := Ground.phase }, { on := 4, ground := Ground.phase }, { on := 5, ground := Ground.phase }, { on := 6, ground := Ground.phase }]).op, none⟩,
        ⟨(opStoreC none 5 (.tmp 39) (.tmp 38) 1 sz5 0 "page.go:46" #[{ on := 7, ground := Ground.data }, { on := 6, ground := Ground.data }, { on := 0, ground := Ground.phase }, { on := 1, ground := Ground.phase }, { on := 2, ground := Ground.phase }, { on := 3, ground := Ground.phase }, { on := 4, ground := Ground.phase }, { on := 5, ground := Ground.phase }, { on := 6, ground := Ground.phase }]).op, none⟩
      ] (by kernel_rfl)))
      (.seq (.live [4, 5, 7, 23, 24, 25] (.region 11 [
        ⟨(opMove (some 40) (.tmp 5) 3 "page.go:47" #[]).op, none⟩,
        ⟨(opMove (some 41) (.tmp 7) 25 "page.go:47" #[]).op, none⟩,
        ⟨(opLen (some 42) (.tmp 41) 25 (.slice 5) Try.underlying25 3 "page.go:47" #[{ on := 1, ground := Ground.data }]).op, none⟩,
        ⟨(opBin (some 43) .sub 3 (.tmp 40) (.tmp 42) 3 3 "page.go:47" #[{ on := 0, ground := Ground.data }, { on := 2, ground := Ground.data }]).op, none⟩,
        ⟨(opAssign (some 5) (.tmp 43) 3 "page.go:47" #[{ on := 3, ground := Ground.data }, { on := 0, ground := Ground.phase }, { on := 1, ground := Ground.phase }, { on := 2, ground := Ground.phase }, { on := 3, ground := Ground.phase }]).op, none⟩
      ] (by kernel_rfl)))
      (.live [4, 5, 23, 24, 25] (.region 12 [
        ⟨(opMove (some 44) (.tmp 4) 25 "page.go:48" #[]).op, none⟩,
        ⟨(opMove (some 45) (.tmp 5) 3 "page.go:48" #[]).op, none⟩,
        ⟨(opSlice (some 46) 25 (.tmp 44) (some (.tmp 45)) none none 5 1 Try.underlying25 sz5 25 "page.go:48" #[{ on := 0, ground := Ground.data }, { on := 1, ground := Ground.data }]).op, none⟩,
        ⟨(opMove (some 47) (.tmp 7) 25 "page.go:48" #[]).op, none⟩,
        ⟨(opCopy (some 48) (.tmp 46) (.tmp 47) 25 25 5 1 Try.underlying25 sz5 3 "page.go:48" #[{ on := 2, ground := Ground.data }, { on := 3, ground := Ground.data }]).op, none⟩
      ] (by kernel_rfl)))))
      .skip))))
  (.live [4, 5, 23, 24, 25] (.region 13 [
    ⟨(opBin (some 49) .add 3 (.tmp 25) (.const (Value.int IntKind.i64 1)) 3 3 "page.go:44" #[]).op, none⟩,
    ⟨(opMove (some 25) (.tmp 49) 3 "page.go:44" #[{ on := 0, ground := Ground.data }]).op, none⟩
  ] (by kernel_rfl))))))

/-- What follows a loop. -/
noncomputable def f23_r0 : Sim Try.prog :=
  (.seq (.live [2, 3] (.region 14 [
    ⟨(opMove (some 50) (.tmp 4) 25 "page.go:51" #[]).op, none⟩,
    ⟨(opAssign (some 2) (.tmp 50) 25 "page.go:51" #[{ on := 0, ground := Ground.data }, { on := 0, ground := Ground.phase }]).op, none⟩,
    ⟨(opAssign (some 3) (.const (Value.bool true)) 4 "page.go:51" #[{ on := 1, ground := Ground.chain }, { on := 0, ground := Ground.phase }, { on := 1, ground := Ground.phase }]).op, none⟩
  ] (by kernel_rfl)))
  (.live [2, 3] .ret))

noncomputable def f23_b : Sim Try.prog :=
  (.seq (.live [0] (.region 0 [
    ⟨(opAssign (some 2) (.const (Value.slice none 0 0)) 25 "page.go:37" #[]).op, none⟩,
    ⟨(opAssign (some 3) (.const (Value.bool false)) 4 "page.go:37" #[{ on := 0, ground := Ground.chain }]).op, none⟩
  ] (by kernel_rfl)))
  (.seq (.seq (.live [0, 14] (.region 1 [
    ⟨(opMove (some 8) (.tmp 0) 44 "page.go:38" #[]).op, none⟩,
    ⟨(opCallP p28 (some 9) [(.tmp 8)] #[44] 3 "page.go:38" #[{ on := 0, ground := Ground.data }]).op, none⟩,
    ⟨(opBin (some 10) .gtr 3 (.tmp 9) (.const (Value.int IntKind.i64 256)) 3 4 "page.go:38" #[{ on := 1, ground := Ground.data }]).op, none⟩,
    ⟨(opMove (some 11) (.tmp 10) 4 "page.go:38" #[{ on := 2, ground := Ground.data }, { on := 1, ground := Ground.chain }]).op, none⟩,
    ⟨(opMove (some 12) (.tmp 0) 44 "page.go:38" #[{ on := 3, ground := Ground.guard }]).op, (some (3, 11, false))⟩,
    ⟨(opCallP p26 (some 13) [(.tmp 12), (.func 37)] #[44, 37] 4 "page.go:38" #[{ on := 4, ground := Ground.data }, { on := 3, ground := Ground.chain }, { on := 3, ground := Ground.guard }]).op, (some (3, 11, false))⟩,
    ⟨(opPick (some 14) (.tmp 11) (.const (Value.bool true)) (.tmp 13) 4 "page.go:38" #[{ on := 3, ground := Ground.data }, { on := 5, ground := Ground.data }]).op, none⟩
  ] (by kernel_rfl)))
  (.cond (.tmp 14)
    (.seq (.live [2, 3] (.region 2 [
      ⟨(opAssign (some 2) (.const (Value.slice none 0 0)) 25 "page.go:39" #[]).op, none⟩,
      ⟨(opAssign (some 3) (.const (Value.bool false)) 4 "page.go:39" #[{ on := 0, ground := Ground.chain }, { on := 0, ground := Ground.phase }]).op, none⟩
    ] (by kernel_rfl)))
    (.live [2, 3] .ret))
    .skip))
  (.seq (.live [0, 4] (.region 3 [
    ⟨(opMakeC (some 15) 25 (.const (Value.int IntKind.i64 256)) 5 1 1 (.int .u8 0) el25 [AV.int .u8 0] (by kernel_rfl) (by kernel_rfl) 25 "page.go:41" #[]).op, none⟩,
    ⟨(opAssign (some 4) (.tmp 15) 25 "page.go:41" #[{ on := 0, ground := Ground.data }, { on := 0, ground := Ground.phase }]).op, none⟩
  ] (by kernel_rfl)))
  (.seq (.live [0, 4] (.region 4 [
    ⟨(opMove (some 16) (.tmp 4) 25 "page.go:42" #[]).op, none⟩,
    ⟨(opMove (some 17) (.tmp 0) 44 "page.go:42" #[]).op, none⟩,
    ⟨(opLen (some 18) (.tmp 17) 44 (.slice 25) Try.underlying44 3 "page.go:42" #[{ on := 1, ground := Ground.data }]).op, none⟩,
    ⟨(opConvInt (some 19) 3 5 (.tmp 18) (.int .i64) Try.underlying3 .u8 Try.underlying5 5 "page.go:42" #[{ on := 2, ground := Ground.data }]).op, none⟩,
    ⟨(opIndexAddrT (some 20) 25 (.tmp 16) (.const (Value.int IntKind.i64 0)) 5 1 Try.underlying25 sz5 0 "page.go:42" #[{ on := 0, ground := Ground.data }, { on := 0, ground := Ground.phase }, { on := 1, ground := Ground.phase }, { on := 2, ground := Ground.phase }, { on := 3, ground := Ground.phase }]).op, none⟩,
    ⟨(opStoreC none 5 (.tmp 20) (.tmp 19) 1 sz5 0 "page.go:42" #[{ on := 4, ground := Ground.data }, { on := 3, ground := Ground.data }, { on := 0, ground := Ground.phase }, { on := 1, ground := Ground.phase }, { on := 2, ground := Ground.phase }, { on := 3, ground := Ground.phase }]).op, none⟩
  ] (by kernel_rfl)))
  (.seq (.live [0, 4, 5] (.region 5 [
    ⟨(opMove (some 21) (.tmp 4) 25 "page.go:43" #[]).op, none⟩,
    ⟨(opLen (some 22) (.tmp 21) 25 (.slice 5) Try.underlying25 3 "page.go:43" #[{ on := 0, ground := Ground.data }]).op, none⟩,
    ⟨(opAssign (some 5) (.tmp 22) 3 "page.go:43" #[{ on := 1, ground := Ground.data }, { on := 0, ground := Ground.phase }, { on := 1, ground := Ground.phase }]).op, none⟩
  ] (by kernel_rfl)))
  (.seq (.seq (.live [4, 5, 23, 24, 25] (.region 6 [
    ⟨(opMove (some 23) (.tmp 0) 44 "page.go:44" #[]).op, none⟩,
    ⟨(opLen (some 24) (.tmp 23) 44 (.slice 25) Try.underlying44 3 "page.go:44" #[{ on := 0, ground := Ground.data }]).op, none⟩,
    ⟨(opMove (some 25) (.const (Value.int IntKind.i64 0)) 3 "page.go:44" #[]).op, none⟩
  ] (by kernel_rfl)))
  (.block 0 (.loop [4, 5, 23, 24, 25] f23_l0)))
  f23_r0))))))

noncomputable def f23 : Fun Try.prog where
  id := 23
  fn := Try.f23
  hf := Try.func23
  hname := by kernel_rfl
  body := f23_b
  hbody := by kernel_rfl
  res := [rTmp 2, rTmp 3]
  hres := by kernel_rfl
  n := 51
  hn := by kernel_rfl

end Go.Proofs.Ytblliolkgkgppaa.V

/- What the functions' runs come to; the right sides were printed by a tool, Lean checks them. -/
set_option linter.unusedVariables false
set_option maxRecDepth 100000
namespace Go.Proofs.Ytblliolkgkgppaa.V
open Go Go.V Go.RowKit

theorem pg_run (F : Nat) (z : Bool) (l : List (List AV)) :
    (f23.run F [.ns z 1 l] ⟨[], []⟩ : Ans) =
    branch (AV.bool (okS l && fit (szN (sR l))))
      (branch (AV.bool (decide ((↑(szN (sR l)) : Int) > (256 : Int))))
        (some (Fin.ret (AV.tup [AV.nilsl, AV.bool false]), St.mk [] []))
        (branch (AV.bool (true && okS l))
          (branch (AV.bool (l.any (prd (37 : FuncId)))) (some (Fin.ret (AV.tup [AV.nilsl, AV.bool false]), St.mk [] []))
            (branch (AV.bool (mkOk 1 (256 : Int)))
              (branch (AV.bool (true && inC (zerC 256 [AV.int IntKind.u8 (0 : Int)]) 0 1))
                (loopRun (f23_l0.run F) [4, 5, 23, 24, 25]
                  (Cont.block 0 (Cont.then (f23_r0.run F (f23.leaveK Fun.done)) (f23.leaveK Fun.done))) F
                  (Env.mk 51
                    [(4, AV.ms 0 1 0 256 256),
                      (5, AV.int IntKind.i64 (256 : Int)), (23, AV.ns z 1 l),
                      (24, AV.int IntKind.i64 (↑l.length : Int)), (25, AV.int IntKind.i64 (0 : Int))])
                  (St.mk
                    [Ob.cells
                        (setC (zerC 256 [AV.int IntKind.u8 (0 : Int)]) 0
                          [AV.int IntKind.u8 (IntKind.u8.wrap (↑l.length : Int))])]
                    []))
                none)
              none))
          none))
      none := by kernel_rfl

theorem pg_round (F m : Nat) (K : Cont) (z : Bool) (l : List (List AV)) (cs : List AV) (n : Nat) (d i e : Int) (tk : List (Nat × Nat)) :
    (loopRun (f23_l0.run F) [4, 5, 23, 24, 25] K m.succ (Env.mk 51 [(4, .ms 0 1 0 n n), (5, .int .i64 d), (23, .ns z 1 l), (24, .int .i64 e), (25, .int .i64 i)]) ⟨[.cells cs], tk⟩ : Ans) =
    branch (AV.bool (decide (i < e)))
      (branch (AV.bool (inR l i))
        (branch (AV.bool ((LD.one (LT.ns 1)).is (V.rowAt l i)))
          (branch (AV.bool !nilA (V.rowAt l i))
            (if (0 : Int) ≤ IntKind.i64.wrap ((1 : Int) + i) ∧ IntKind.i64.wrap ((1 : Int) + i) < (↑n : Int) then
              branch (AV.bool (true && inC cs (0 + (IntKind.i64.wrap ((1 : Int) + i)).toNat * 1) 1))
                (if
                    (0 : Int) ≤ IntKind.i64.wrap (d - (↑(rwA (V.rowAt l i)).length : Int)) ∧
                      IntKind.i64.wrap (d - (↑(rwA (V.rowAt l i)).length : Int)) ≤ (↑n : Int) then
                  if (IntKind.i64.wrap (d - (↑(rwA (V.rowAt l i)).length : Int))).toNat < n then
                    branch
                      (AV.bool
                        (inC
                          (setC cs (0 + (IntKind.i64.wrap ((1 : Int) + i)).toNat * 1)
                            [AV.int IntKind.u8
                                (IntKind.u8.wrap (IntKind.i64.wrap ((↑(rwA (V.rowAt l i)).length : Int) + (1 : Int))))])
                          (0 + (IntKind.i64.wrap (d - (↑(rwA (V.rowAt l i)).length : Int))).toNat * 1)
                          (mulN
                            (minN (rwA (V.rowAt l i)).length
                              (n - (IntKind.i64.wrap (d - (↑(rwA (V.rowAt l i)).length : Int))).toNat))
                            1)))
                      (loopRun (f23_l0.run F) [4, 5, 23, 24, 25] K m
                        (Env.mk 51
                          [(4, AV.ms 0 1 0 n n),
                            (5, AV.int IntKind.i64 (IntKind.i64.wrap (d - (↑(rwA (V.rowAt l i)).length : Int)))),
                            (23, AV.ns z 1 l), (24, AV.int IntKind.i64 e),
                            (25, AV.int IntKind.i64 (IntKind.i64.wrap (i + (1 : Int))))])
                        (St.mk
                          [Ob.cells
                              (setC
                                (setC cs (0 + (IntKind.i64.wrap ((1 : Int) + i)).toNat * 1)
                                  [AV.int IntKind.u8
                                      (IntKind.u8.wrap
                                        (IntKind.i64.wrap ((↑(rwA (V.rowAt l i)).length : Int) + (1 : Int))))])
                                (0 + (IntKind.i64.wrap (d - (↑(rwA (V.rowAt l i)).length : Int))).toNat * 1)
                                (flC (rwA (V.rowAt l i))
                                  (minN (rwA (V.rowAt l i)).length
                                    (n - (IntKind.i64.wrap (d - (↑(rwA (V.rowAt l i)).length : Int))).toNat))))]
                          tk))
                      none
                  else
                    loopRun (f23_l0.run F) [4, 5, 23, 24, 25] K m
                      (Env.mk 51
                        [(4, AV.ms 0 1 0 n n),
                          (5, AV.int IntKind.i64 (IntKind.i64.wrap (d - (↑(rwA (V.rowAt l i)).length : Int)))),
                          (23, AV.ns z 1 l), (24, AV.int IntKind.i64 e),
                          (25, AV.int IntKind.i64 (IntKind.i64.wrap (i + (1 : Int))))])
                      (St.mk
                        [Ob.cells
                            (setC cs (0 + (IntKind.i64.wrap ((1 : Int) + i)).toNat * 1)
                              [AV.int IntKind.u8
                                  (IntKind.u8.wrap (IntKind.i64.wrap ((↑(rwA (V.rowAt l i)).length : Int) + (1 : Int))))])]
                        tk)
                else none)
                none
            else none)
            (loopRun (f23_l0.run F) [4, 5, 23, 24, 25] K m
              (Env.mk 51
                [(4, AV.ms 0 1 0 n n), (5, AV.int IntKind.i64 d),
                  (23, AV.ns z 1 l), (24, AV.int IntKind.i64 e),
                  (25, AV.int IntKind.i64 (IntKind.i64.wrap (i + (1 : Int))))])
              (St.mk [Ob.cells cs] tk)))
          none)
        none)
      (K (AX.exit 0) (Env.mk 51 [(4, AV.ms 0 1 0 n n)])
        (St.mk [Ob.cells cs] tk)) := by kernel_rfl

theorem pg_out (F n : Nat) (st : St) :
    ((Cont.block 0 (Cont.then (f23_r0.run F (f23.leaveK Fun.done)) (f23.leaveK Fun.done))) (.exit 0) (Env.mk 51 [(4, .ms 0 1 0 n n)]) st : Ans) =
    some (Fin.ret (AV.tup [AV.ms 0 1 0 n n, AV.bool true]), st) := by kernel_rfl

theorem tv_run (F v n : Nat) (cs : List AV) (os : List Ob) (tk : List (Nat × Nat)) :
    (f36.run F [.vs 0 v 1 n] ⟨.vec v cs :: os, tk⟩ : Ans) =
    loopRun (f36_l0.run F) [0]
      (Cont.block 0 (Cont.then (f36_r0.run F (f36.leaveK Fun.done)) (f36.leaveK Fun.done))) F
      (Env.mk 21 [(0, AV.vs 0 v 1 n)]) (St.mk (Ob.vec v cs :: os) tk) := by kernel_rfl

theorem tv_round (F m v n : Nat) (K : Cont) (cs : List AV) (os : List Ob) (tk : List (Nat × Nat)) :
    (loopRun (f36_l0.run F) [0] K m.succ (Env.mk 21 [(0, .vs 0 v 1 n)]) ⟨.vec v cs :: os, tk⟩ : Ans) =
    branch (AV.bool (decide ((↑n : Int) > (0 : Int))))
      (if
          (0 : Int) ≤ IntKind.i64.wrap ((↑n : Int) - (1 : Int)) ∧
            IntKind.i64.wrap ((↑n : Int) - (1 : Int)) < (↑n : Int) then
        branch (AV.bool (v.beq v))
          (branch
            (AV.bool
              ((LD.one (LT.ns 1)).is
                (List.drop ((IntKind.i64.wrap ((↑n : Int) - (1 : Int))).toNat * 1) cs)))
            (branch (AV.bool (nilA (List.drop ((IntKind.i64.wrap ((↑n : Int) - (1 : Int))).toNat * 1) cs)))
              (if
                  (0 : Int) ≤ IntKind.i64.wrap ((↑n : Int) - (1 : Int)) ∧
                    IntKind.i64.wrap ((↑n : Int) - (1 : Int)) ≤ (↑n : Int) then
                loopRun (f36_l0.run F) [0] K m
                  (Env.mk 21
                    [(0, AV.vs 0 v 1 (IntKind.i64.wrap ((↑n : Int) - (1 : Int))).toNat)])
                  (St.mk (Ob.vec v cs :: os) tk)
              else none)
              (K (AX.exit 0) (Env.mk 21 [(0, AV.vs 0 v 1 n)])
                (St.mk (Ob.vec v cs :: os) tk)))
            none)
          none
      else none)
      (K (AX.exit 0) (Env.mk 21 [(0, AV.vs 0 v 1 n)])
        (St.mk (Ob.vec v cs :: os) tk)) := by kernel_rfl

theorem tv_out (F v n : Nat) (st : St) :
    ((Cont.block 0 (Cont.then (f36_r0.run F (f36.leaveK Fun.done)) (f36.leaveK Fun.done))) (.exit 0) (Env.mk 21 [(0, .vs 0 v 1 n)]) st : Ans) =
    some (Fin.ret (AV.vs 0 v 1 n), st) := by kernel_rfl

end Go.Proofs.Ytblliolkgkgppaa.V

/- Page: slots as a page. -/
set_option linter.unusedVariables false
namespace Go.Proofs.Ytblliolkgkgppaa.V
open Go Go.V Go.RowKit

abbrev Sl := List (Option (List Nat))
def pgFold : Sl → Nat → List Nat → Nat → List Nat
  | [], _, p, _ => p
  | none :: s, i, p, e => pgFold s (i + 1) p e
  | some b :: s, i, p, e => pgFold s (i + 1) (putN (p.set (1 + i) (b.length + 1)) (e - b.length) b) (e - b.length)
/-- Slots as a page's bytes. -/
def pgB (s : Sl) : List Nat := pgFold s 0 ((List.replicate 256 0).set 0 s.length) 256
def pgOk (s : Sl) : Bool := decide (szN s ≤ 256) && s.all (fun o => decide (olen o ≤ 200))
noncomputable def pgR (l : List (List AV)) : List (List AV) := opq (bif pgOk (sR l) then bR (pgB (sR l)) else [])
theorem pgOk_iff {s : Sl} : pgOk s = true ↔ szN s ≤ 256 ∧ ∀ o ∈ s, olen o ≤ 200 := by
  simp [pgOk]
theorem pgFold_len : ∀ (s : Sl) (i : Nat) (p : List Nat) (e : Nat), e ≤ p.length → sumN s ≤ e → (pgFold s i p e).length = p.length
  | [], _, _, _, _, _ => rfl
  | none :: s, i, p, e, h, hs => by rw [pgFold]; exact pgFold_len s _ _ _ h (by rw [sumN_cons] at hs; omega)
  | some b :: s, i, p, e, h, hs => by
    rw [sumN_cons] at hs
    have hb : olen (some b) = b.length := rfl
    have hl : (putN (p.set (1 + i) (b.length + 1)) (e - b.length) b).length = p.length := by rw [putN_length (by rw [List.length_set]; omega), List.length_set]
    rw [pgFold, pgFold_len s _ _ _ (by rw [hl]; omega) (by omega), hl]
theorem pgB_len {s : Sl} (h : pgOk s = true) : (pgB s).length = 256 := by
  have := (pgOk_iff.mp h).1
  rw [pgB, pgFold_len _ _ _ _ (by rw [List.length_set, List.length_replicate]; exact Nat.le_refl _) (by rw [szN] at this; omega), List.length_set, List.length_replicate]
theorem rows_slot {r : List AV} (h : okR (rwA r) = true) (hn : nilA r = false) : ∃ b, slot r = some b ∧ rwA r = bR b := by
  refine ⟨nR (rwA r), by rw [slot, hn]; rfl, okR_rows h⟩
theorem pg_loop (F : Nat) (z : Bool) (l : List (List AV)) (h : okS l = true) (tk : List (Nat × Nat)) : ∀ (k m i e : Nat) (p : List Nat), i + k = l.length → k < m → p.length = 256 → e ≤ 256 → 1 + l.length + sumN ((sR l).drop i) ≤ e → (∀ o ∈ sR l, olen o ≤ 200) →
    loopRun (f23_l0.run F) [4, 5, 23, 24, 25] (Cont.block 0 (Cont.then (f23_r0.run F (f23.leaveK Fun.done)) (f23.leaveK Fun.done))) m
      (Env.mk 51 [(4, .ms 0 1 0 256 256), (5, .int .i64 (e : Int)), (23, .ns z 1 l), (24, .int .i64 (l.length : Int)), (25, .int .i64 (i : Int))]) ⟨[.cells (bC p)], tk⟩
      = some (.ret (.tup [.ms 0 1 0 256 256, .bool true]), ⟨[.cells (bC (pgFold ((sR l).drop i) i p e))], tk⟩)
  | k, 0, i, e, p, hi, hm, hp, he, hs, ho => by omega
  | 0, m + 1, i, e, p, hi, hm, hp, he, hs, ho => by
    rw [show m + 1 = m.succ from rfl, pg_round, branch_not (by simp; omega), pg_out, List.drop_eq_nil_of_le (by rw [sR_length]; omega)]
    rfl
  | k + 1, m + 1, i, e, p, hi, hm, hp, he, hs, ho => by
    have h1 : i < l.length := by omega
    obtain ⟨l1, l2, l3, l4⟩ := okS_at h h1
    have hd : (sR l).drop i = slot (V.rowAt l (i : Int)) :: (sR l).drop (i + 1) := by rw [drop_at (by rw [sR_length]; exact h1), l3]
    have hmem : slot (V.rowAt l (i : Int)) ∈ sR l := by rw [l3]; exact List.getElem_mem _
    rw [hd, sumN_cons] at hs
    rw [hd]
    have h200 := ho _ hmem
    rw [show m + 1 = m.succ from rfl, pg_round, branch_of (by simp; omega), branch_of (inR_nat h1), branch_of l1, wrap_succ (i := i) (by omega)]
    cases hn : nilA (V.rowAt l (i : Int)) with
    | true =>
      have hsl : slot (V.rowAt l (i : Int)) = none := by rw [slot, hn]; rfl
      rw [hsl] at hs ⊢
      rw [branch_not (b := !true) rfl, pg_loop F z l h tk k m (i + 1) e p (by omega) (by omega) hp he (by have : olen none = 0 := rfl; omega) ho]
      rfl
    | false =>
      obtain ⟨b, hb, hr⟩ := rows_slot (byOk_iff.mp l2).1 hn
      rw [hb] at hs h200 ⊢
      have hob : olen (some b) = b.length := rfl
      rw [hob] at hs h200
      rw [hr, bR_length]
      have w1 : IntKind.i64.wrap (1 + (i : Int)) = ((1 + i : Nat) : Int) := by rw [show 1 + (i : Int) = ((1 + i : Nat) : Int) by omega, wrap_nat (by omega)]
      have w2 : IntKind.i64.wrap ((e : Int) - (b.length : Int)) = ((e - b.length : Nat) : Int) := by rw [show (e : Int) - (b.length : Int) = ((e - b.length : Nat) : Int) by omega, wrap_nat (by omega)]
      have w3 : IntKind.u8.wrap (IntKind.i64.wrap ((b.length : Int) + 1)) = ((b.length + 1 : Nat) : Int) := by
        rw [wrap_succ (by omega)]
        exact wrapU rfl (by omega) (by simp only [IntKind.bits]; omega)
      have hpl : 1 + i < p.length := by omega
      have hsl : (p.set (1 + i) (b.length + 1)).length = 256 := by rw [List.length_set]; exact hp
      rw [branch_of (b := !false) rfl, w1, w2, w3, if_pos ⟨by omega, by omega⟩, Int.toNat_natCast, Int.toNat_natCast, Nat.zero_add, Nat.mul_one, Nat.zero_add, Nat.mul_one, branch_of (by rw [Bool.true_and, inC_iff, bC_length]; omega), if_pos ⟨by omega, by omega⟩, setC_byte hpl]
      by_cases hlt : e - b.length < 256
      · have hmin : minN b.length (256 - (e - b.length)) = b.length := by rw [minN, opq_eq]; omega
        rw [if_pos hlt, hmin, mulN, opq_eq, Nat.mul_one, branch_of (by rw [inC_iff, bC_length]; omega), flC_bR, List.take_of_length_le (Nat.le_refl _), setC_bC (by omega),
          pg_loop F z l h tk k m (i + 1) (e - b.length) _ (by omega) (by omega) (by rw [putN_length (by omega)]; exact hsl) (by omega) (by omega) ho]
        rfl
      · have hb0 : b = [] := List.eq_nil_of_length_eq_zero (by omega)
        subst hb0
        rw [if_neg hlt, pg_loop F z l h tk k m (i + 1) _ _ (by omega) (by omega) hsl (by omega) (by simp at hs ⊢; omega) ho, pgFold, putN_nil]
theorem big_any {l : List (List AV)} (h : okS l = true) : l.any (prd 37) = !(sR l).all (fun o => decide (olen o ≤ 200)) := by
  have hr : ∀ r ∈ l, olen (slot r) = (rwA r).length := fun r hr => slot_len (okSlot_spec ((okS_iff.mp h).1 r hr).1).2.2.1
  rw [sR, List.all_map]
  induction l with
  | nil => rfl
  | cons r l ih =>
    have h2 : okS l = true := okS_sub h (fun x hx => by simp [hx]) (by simp)
    rw [List.any_cons, List.all_cons, ih h2 (fun x hx => hr x (by simp [hx])), Bool.not_and]
    congr 1
    simp only [Function.comp, hr r (by simp), prd, Nat.beq_refl, cond_true]
    by_cases hh : (rwA r).length ≤ 200
    · simp [hh]; omega
    · simp [hh]; omega
theorem pgR_ok {l : List (List AV)} (h : pgOk (sR l) = true) : pgR l = bR (pgB (sR l)) := by rw [pgR, opq_eq, h]; rfl
theorem pgR_no {l : List (List AV)} (h : pgOk (sR l) = false) : pgR l = [] := by rw [pgR, opq_eq, h]; rfl
theorem bC_flat (l : List Nat) : ∀ c ∈ bC l, Flat c := by
  intro c hc
  obtain ⟨b, _, rfl⟩ := List.mem_map.mp hc
  trivial
noncomputable def q23 : OrcQ Try.prog := f23.farR
  (fun args st k => match args with
    | [x] => onNsQ 1 x st fun _ l => ifT (okS l && fit (szN (sR l))) (k (.tup [.ns (!pgOk (sR l)) 1 (pgR l), .bool (pgOk (sR l))]))
    | _ => none)
  fun args st k fin h => by
    split at h
    · rename_i x
      obtain ⟨z, l, h, hx⟩ := onNsQ_spec h
      obtain ⟨h1, h⟩ := ifT_spec h
      have h2 := h1
      simp only [Bool.and_eq_true, fit_iff] at h1
      refine ⟨_, _, h, .cons (hx (okS_scoped (okS_iff.mp h1.1).1)) .nil, l.length + 1, ?_⟩
      have no : pgOk (sR l) = false → Wk (AV.tup [AV.nilsl, AV.bool false]) (.tup [.ns (!pgOk (sR l)) 1 (pgR l), .bool (pgOk (sR l))]) := by
        intro e
        rw [pgR_no e, e]
        exact .tup (.cons .nil (.cons (.refl _) .nil))
      have own0 : Own [] (.tup [.nilsl, .bool false]) := by
        intro y hy
        simp only [List.mem_cons, List.not_mem_nil, or_false] at hy
        rcases hy with rfl | rfl <;> trivial
      rw [pg_run, branch_of h2]
      by_cases hb : szN (sR l) > 256
      · have e : pgOk (sR l) = false := by simp [pgOk]; omega
        exact ⟨.tup [.nilsl, .bool false], ⟨[], []⟩, branch_of (by simp only [decide_eq_true_eq]; omega), own0, ⟨trivial, trivial, trivial⟩, no e⟩
      · rw [branch_not (by simp only [decide_eq_false_iff_not]; omega), branch_of (by simpa using h1.1), big_any h1.1]
        cases ha : (sR l).all (fun o => decide (olen o ≤ 200)) with
        | false =>
          have e : pgOk (sR l) = false := by simp only [pgOk, ha, Bool.and_false]
          exact ⟨.tup [.nilsl, .bool false], ⟨[], []⟩, branch_of (b := !false) rfl, own0, ⟨trivial, trivial, trivial⟩, no e⟩
        | true =>
          have e : pgOk (sR l) = true := by simp only [pgOk, ha, Bool.and_true, decide_eq_true_eq]; omega
          have hsz : 1 + l.length + sumN (sR l) ≤ 256 := by rw [szN, sR_length] at hb; omega
          have w1 : IntKind.u8.wrap (l.length : Int) = ((l.length : Nat) : Int) := wrapU rfl (by omega) (by simp only [IntKind.bits]; omega)
          have hz : (List.replicate 256 0).length = 256 := List.length_replicate
          have hl := pg_loop (l.length + 1) z l h1.1 [] l.length (l.length + 1) 0 256 ((List.replicate 256 0).set 0 l.length) (by omega) (by omega) (by rw [List.length_set]; exact hz) (by omega) (by rw [List.drop_zero]; exact hsz) (fun o ho => by simpa using List.all_eq_true.mp ha o ho)
          rw [List.drop_zero, show pgFold (sR l) 0 ((List.replicate 256 0).set 0 l.length) 256 = pgB (sR l) by rw [pgB, sR_length]] at hl
          have hh : hard [Ob.cells (bC (pgB (sR l)))] (.tup [.ms 0 1 0 256 256, .bool true]) = .tup [.sl 1 true (bR (pgB (sR l))), .bool true] := by
            simp only [hard, hardL, List.getElem?_cons_zero, List.drop_zero]
            rw [rowsOf_bC 256 _ (by rw [pgB_len e]; exact Nat.le_refl _), List.take_of_length_le (by rw [pgB_len e]; exact Nat.le_refl _)]
            rfl
          refine ⟨.tup [.ms 0 1 0 256 256, .bool true], ⟨[.cells (bC (pgB (sR l)))], []⟩, ?_, ?_, ?_, ?_⟩
          · rw [branch_not (b := !true) rfl, branch_of (by rw [mkOk_iff]; exact ⟨by decide, by decide⟩), zerC_byte, w1, branch_of (by rw [Bool.true_and, inC_iff, bC_length, hz]; omega), setC_byte (by rw [hz]; omega)]
            exact hl
          · intro y hy
            simp only [List.mem_cons, List.not_mem_nil, or_false] at hy
            rcases hy with rfl | rfl
            · exact ⟨_, rfl, bC_flat _⟩
            · trivial
          · rw [hh]; exact ⟨bR_scoped _, trivial, trivial⟩
          · rw [hh, pgR_ok e, e]
            exact .tup (.cons .sl (.cons (.refl _) .nil))
    · cases h
theorem q23_nat : q23.NatQ := by
  intro args st k
  show (match args with | [x] => _ | _ => _) = thenA (match args with | [x] => _ | _ => _) k
  split
  · exact onNsQ_nat fun _ _ => ifT_nat rfl
  · rfl
end Go.Proofs.Ytblliolkgkgppaa.V

/- The functions' pieces, as told by gen.py. -/
set_option linter.unusedVariables false
set_option maxRecDepth 20000
namespace Go.Proofs.Ytblliolkgkgppaa.V
open Go Go.V Go.RowKit


/-! ### 35: bytes.Equal (25, 25); results 4; slots: 0 a, 1 b, 2 a, 3 b -/
noncomputable def f35_b : Sim Try.prog :=
  (.seq (.live [0, 1] (.region 0 [
    ⟨(opAssign (some 4) (.const (Value.bool false)) 4 "bytes.go:20" #[]).op, none⟩
  ] (by kernel_rfl)))
  (.seq (.live [4] (.region 1 [
    ⟨(opMove (some 5) (.tmp 0) 25 "bytes.go:22" #[]).op, none⟩,
    ⟨(opBytesStr (some 6) 25 9 (.tmp 5) 5 Try.underlying25 Try.underlying5 Try.underlying9 9 "bytes.go:22" #[{ on := 0, ground := Ground.data }]).op, none⟩,
    ⟨(opMove (some 7) (.tmp 1) 25 "bytes.go:22" #[]).op, none⟩,
    ⟨(opBytesStr (some 8) 25 9 (.tmp 7) 5 Try.underlying25 Try.underlying5 Try.underlying9 9 "bytes.go:22" #[{ on := 2, ground := Ground.data }]).op, none⟩,
    ⟨(opBinS (some 9) .eql 9 (.tmp 6) (.tmp 8) 9 4 "bytes.go:22" #[{ on := 1, ground := Ground.data }, { on := 3, ground := Ground.data }]).op, none⟩,
    ⟨(opAssign (some 4) (.tmp 9) 4 "bytes.go:22" #[{ on := 4, ground := Ground.data }, { on := 0, ground := Ground.phase }, { on := 1, ground := Ground.phase }, { on := 2, ground := Ground.phase }, { on := 3, ground := Ground.phase }, { on := 4, ground := Ground.phase }]).op, none⟩
  ] (by kernel_rfl)))
  (.live [4] .ret)))

noncomputable def f35 : Fun Try.prog where
  id := 35
  fn := Try.f35
  hf := Try.func35
  hname := by kernel_rfl
  body := f35_b
  hbody := by kernel_rfl
  res := [rTmp 4]
  hres := by kernel_rfl
  n := 10
  hn := by kernel_rfl

end Go.Proofs.Ytblliolkgkgppaa.V

/- What the functions' runs come to; the right sides were printed by a tool, Lean checks them. -/
set_option linter.unusedVariables false
set_option maxRecDepth 100000
namespace Go.Proofs.Ytblliolkgkgppaa.V
open Go Go.V Go.RowKit

theorem eq_run (F : Nat) (z y : Bool) (l r : List (List AV)) (st : St) :
    (f35.run F [.ns z 1 l, .ns y 1 r] st : Ans) =
    onSome (numsOf l) none fun (o : List Int) =>
      onSome (numsOf r) none fun (o_1 : List Int) => some (Fin.ret (AV.bool ((textOf o).toList == (textOf o_1).toList)), st) := by kernel_rfl

end Go.Proofs.Ytblliolkgkgppaa.V

/- Page: bytes, compared as texts. -/
set_option linter.unusedVariables false
namespace Go.Proofs.Ytblliolkgkgppaa.V
open Go Go.V Go.RowKit
noncomputable def p35 : POrc Try.prog := f35.farN
  (fun args k => match args with
    | [x, y] => onNs 1 x fun _ l => onNs 1 y fun _ r => ifT (byOk l && byOk r) (k (.bool (nR l == nR r)))
    | _ => none)
  fun args k fin h => by
    split at h
    · rename_i x y
      obtain ⟨z, l, h, hx⟩ := onNs_spec h
      obtain ⟨z', r, h, hy⟩ := onNs_spec h
      obtain ⟨h1, h⟩ := ifT_spec h
      simp only [Bool.and_eq_true] at h1
      have hl := (byOk_iff.mp h1.1).1
      have hr := (byOk_iff.mp h1.2).1
      refine ⟨_, _, h, .cons hx (.cons hy .nil), ⟨okR_scoped hl, okR_scoped hr, trivial⟩, trivial, 0, .bool _, ⟨[], []⟩, rfl, (eq_run 0 z z' l r _).trans ?_⟩
      rw [numsOf_nR hl, numsOf_nR hr, onSome_some, onSome_some, text_beq]
      rw [show textOf ((nR l).map fun (b : Nat) => (b : Int)) = txt (nR l) from rfl, show textOf ((nR r).map fun (b : Nat) => (b : Int)) = txt (nR r) from rfl, own_txt (fun b hb => okR_lt hl hb), own_txt (fun b hb => okR_lt hr hb)]
    · cases h
theorem p35_nat : p35.Nat := by
  intro args k
  show (match args with | [x, y] => _ | _ => _) = thenA (match args with | [x, y] => _ | _ => _) k
  split
  · exact onNs_nat fun _ _ => onNs_nat fun _ _ => ifT_nat rfl
  · rfl
end Go.Proofs.Ytblliolkgkgppaa.V

/- Page: slots without free ones at the end, of slots that are written. -/
set_option linter.unusedVariables false
namespace Go.Proofs.Ytblliolkgkgppaa.V
open Go Go.V Go.RowKit

/-- The first of so many cells are slots. -/
noncomputable def okV (n : Nat) (cs : List AV) : Bool := cdec (n ≤ cs.length) && okS (cR (cs.take n))
theorem okV_iff {n : Nat} {cs : List AV} : okV n cs = true ↔ n ≤ cs.length ∧ okS (cR (cs.take n)) = true := by rw [okV, Bool.and_eq_true, cdec_iff]
noncomputable def trN (n : Nat) (cs : List AV) : Nat := opq (trR (cR (cs.take n))).length
theorem cR_snoc {n : Nat} {cs : List AV} (h : n < cs.length) : cR (cs.take (n + 1)) = cR (cs.take n) ++ [[cs[n]]] := by
  rw [List.take_succ_eq_append_getElem h, cR_append]; rfl
theorem tv_loop (F v : Nat) (cs : List AV) (os : List Ob) (tk : List (Nat × Nat)) : ∀ (m n : Nat), okV n cs = true → n < m →
    loopRun (f36_l0.run F) [0] (Cont.block 0 (Cont.then (f36_r0.run F (f36.leaveK Fun.done)) (f36.leaveK Fun.done))) m (Env.mk 21 [(0, .vs 0 v 1 n)]) ⟨.vec v cs :: os, tk⟩ = some (.ret (.vs 0 v 1 (trR (cR (cs.take n))).length), ⟨.vec v cs :: os, tk⟩)
  | 0, n, h, hn => by omega
  | m + 1, 0, h, hn => by
    rw [show m + 1 = m.succ from rfl, tv_round, branch_not (by simp), tv_out, List.take_zero, show cR [] = [] from rfl, trR_nil]; rfl
  | m + 1, n + 1, h, hn => by
    obtain ⟨h1, h2⟩ := okV_iff.mp h
    have h0 : n < cs.length := by omega
    have hlen : (cR (cs.take (n + 1))).length = n + 1 := by rw [cR_length, List.length_take]; omega
    have hb := (okS_iff.mp h2).2
    rw [hlen] at hb
    have hw : IntKind.i64.wrap (((n + 1 : Nat) : Int) - 1) = ((n : Nat) : Int) := by
      rw [show ((n + 1 : Nat) : Int) - 1 = ((n : Nat) : Int) by omega, wrap_nat (by omega)]
    have hi : n < (cR (cs.take (n + 1))).length := by omega
    obtain ⟨k1, k2, k3, k4⟩ := okS_at h2 hi
    have hr : V.rowAt (cR (cs.take (n + 1))) ((n : Nat) : Int) = [cs[n]] := by rw [rowAt_nat hi]; simp [cR]
    rw [hr] at k1
    rw [show m + 1 = m.succ from rfl, tv_round, branch_of (by simp), hw, if_pos ⟨by omega, by omega⟩, branch_of (Nat.beq_refl v), Int.toNat_natCast, Nat.mul_one, is_at h0, branch_of k1, nilA_at h0, cR_snoc h0, trR_snoc]
    cases hx : nilA [cs[n]] with
    | false =>
      rw [branch_not rfl, tv_out, cond_false, List.length_append, cR_length, List.length_take, Nat.min_eq_left (by omega)]; rfl
    | true =>
      rw [branch_true, if_pos ⟨by omega, by omega⟩, cond_true]
      refine tv_loop F v cs os tk m n (okV_iff.mpr ⟨by omega, okS_sub h2 (fun y hy => ?_) ?_⟩) (by omega)
      · rw [cR_snoc h0]; exact List.mem_append_left _ hy
      · rw [hlen, cR_length, List.length_take]; omega
noncomputable def q36v : OrcQ Try.prog := f36.ask
  (fun args st k => match args with
    | [x] => onVs0 x st fun v n cs _ => ifT (okV n cs) (k (.vs 0 v 1 (trN n cs)))
    | _ => none)
  fun args st k fin h => by
    split at h
    · obtain ⟨v, n, cs, os, rfl, e, h⟩ := onVs0_spec h
      obtain ⟨h1, h⟩ := ifT_spec h
      refine ⟨_, h, n + 1, ?_⟩
      rw [e, tv_run, tv_loop _ v cs os _ _ n h1 (by omega), trN, opq_eq]
    · cases h
theorem q36v_nat : q36v.NatQ := by
  intro args st k
  show (match args with | [x] => _ | _ => _) = thenA (match args with | [x] => _ | _ => _) k
  split
  · exact onVs0_nat fun _ _ _ _ => ifT_nat rfl
  · rfl
noncomputable def q36 : OrcQ Try.prog := q36v.alt p36.q rfl isVs1
theorem q36_nat : q36.NatQ := OrcQ.alt_nat q36v_nat (POrc.q_nat p36_nat)
end Go.Proofs.Ytblliolkgkgppaa.V

/- The functions' pieces, as told by gen.py. -/
set_option linter.unusedVariables false
set_option maxRecDepth 20000
namespace Go.Proofs.Ytblliolkgkgppaa.V
open Go Go.V Go.RowKit

theorem ze25 : (Try.prog.info? 25).bind (·.zero) = some (.slice none 0 0) := by kernel_rfl
theorem by25 : (Try.prog.info? 25).map (·.bytes) = some 24 := by kernel_rfl
theorem el44 : ElemOf Try.prog 44 25 1 24 (.slice none 0 0) := ⟨Try.underlying44, sz25, by25, ze25, by kernel_rfl, by decide⟩

/-! ### 21: interlock/page.of (25); results 2, 3; slots: 0 p, 1 p, 4 n, 5 s, 6 end, 7 _, 8 c, 9 b, 10 size, 11 back, 12 ok -/
/-- A loop's round; at its head live: 0 p, 5 s, 6 end, 25 , 26 , 27  -/
noncomputable def f21_l0 : Sim Try.prog :=
  (.seq (.live [0, 5, 6, 25, 26, 27, 28] (.region 7 [
    ⟨(opBin (some 28) .lss 3 (.tmp 27) (.tmp 26) 3 0 "page.go:62" #[]).op, none⟩
  ] (by kernel_rfl)))
  (.seq (.cond (.tmp 28)
    .skip
    (.live [0, 5] (.exit 0)))
  (.seq (.block 1 (.seq (.live [0, 5, 6, 8, 25, 26, 27] (.region 8 [
      ⟨(opIndexAddrT (some 29) 25 (.tmp 25) (.tmp 27) 5 1 Try.underlying25 sz5 0 "page.go:62" #[]).op, none⟩,
      ⟨(opLoadT (.one (.int .u8)) (some 30) 5 (.tmp 29) (.int .u8) Try.underlying5 1 sz5 (by kernel_rfl) 5 "page.go:62" #[{ on := 0, ground := Ground.data }]).op, none⟩,
      ⟨(opAssign (some 8) (.tmp 30) 5 "page.go:62" #[{ on := 1, ground := Ground.data }, { on := 0, ground := Ground.phase }, { on := 1, ground := Ground.phase }]).op, none⟩
    ] (by kernel_rfl)))
    (.seq (.live [0, 5, 6, 8, 9, 25, 26, 27] (.region 9 [
      ⟨(opAssign (some 9) (.const (Value.slice none 0 0)) 25 "page.go:63" #[]).op, none⟩
    ] (by kernel_rfl)))
    (.seq (.seq (.live [0, 5, 6, 8, 9, 25, 26, 27, 32] (.region 10 [
      ⟨(opMove (some 31) (.tmp 8) 5 "page.go:64" #[]).op, none⟩,
      ⟨(opBin (some 32) .gtr 5 (.tmp 31) (.const (Value.int IntKind.u8 0)) 5 4 "page.go:64" #[{ on := 0, ground := Ground.data }]).op, none⟩
    ] (by kernel_rfl)))
    (.cond (.tmp 32)
      (.seq (.live [0, 5, 6, 10, 25, 26, 27] (.region 11 [
        ⟨(opMove (some 33) (.tmp 8) 5 "page.go:65" #[]).op, none⟩,
        ⟨(opConvInt (some 34) 5 3 (.tmp 33) (.int .u8) Try.underlying5 .i64 Try.underlying3 3 "page.go:65" #[{ on := 0, ground := Ground.data }]).op, none⟩,
        ⟨(opBin (some 35) .sub 3 (.tmp 34) (.const (Value.int IntKind.i64 1)) 3 3 "page.go:65" #[{ on := 1, ground := Ground.data }]).op, none⟩,
        ⟨(opAssign (some 10) (.tmp 35) 3 "page.go:65" #[{ on := 2, ground := Ground.data }, { on := 0, ground := Ground.phase }, { on := 1, ground := Ground.phase }, { on := 2, ground := Ground.phase }]).op, none⟩
      ] (by kernel_rfl)))
      (.seq (.seq (.live [0, 5, 6, 10, 25, 26, 27, 38] (.region 12 [
        ⟨(opMove (some 36) (.tmp 10) 3 "page.go:66" #[]).op, none⟩,
        ⟨(opMove (some 37) (.tmp 6) 3 "page.go:66" #[]).op, none⟩,
        ⟨(opBin (some 38) .gtr 3 (.tmp 36) (.tmp 37) 3 4 "page.go:66" #[{ on := 0, ground := Ground.data }, { on := 1, ground := Ground.data }]).op, none⟩
      ] (by kernel_rfl)))
      (.cond (.tmp 38)
        (.seq (.live [2, 3] (.region 13 [
          ⟨(opAssign (some 2) (.const (Value.slice none 0 0)) 44 "page.go:67" #[]).op, none⟩,
          ⟨(opAssign (some 3) (.const (Value.bool false)) 4 "page.go:67" #[{ on := 0, ground := Ground.chain }, { on := 0, ground := Ground.phase }]).op, none⟩
        ] (by kernel_rfl)))
        (.live [2, 3] .ret))
        .skip))
      (.seq (.live [0, 5, 6, 10, 25, 26, 27] (.region 14 [
        ⟨(opMove (some 39) (.tmp 6) 3 "page.go:69" #[]).op, none⟩,
        ⟨(opMove (some 40) (.tmp 10) 3 "page.go:69" #[]).op, none⟩,
        ⟨(opBin (some 41) .sub 3 (.tmp 39) (.tmp 40) 3 3 "page.go:69" #[{ on := 0, ground := Ground.data }, { on := 1, ground := Ground.data }]).op, none⟩,
        ⟨(opAssign (some 6) (.tmp 41) 3 "page.go:69" #[{ on := 2, ground := Ground.data }, { on := 0, ground := Ground.phase }, { on := 1, ground := Ground.phase }, { on := 2, ground := Ground.phase }]).op, none⟩
      ] (by kernel_rfl)))
      (.live [0, 5, 6, 9, 25, 26, 27] (.region 15 [
        ⟨(opBuildSlice (some 42) 25 0 [] 5 1 1 (.int .u8 0) el25 (by kernel_rfl) (by decide) 25 "page.go:70" #[]).op, none⟩,
        ⟨(opMove (some 43) (.tmp 0) 25 "page.go:70" #[]).op, none⟩,
        ⟨(opMove (some 44) (.tmp 6) 3 "page.go:70" #[]).op, none⟩,
        ⟨(opMove (some 45) (.tmp 6) 3 "page.go:70" #[]).op, none⟩,
        ⟨(opMove (some 46) (.tmp 10) 3 "page.go:70" #[]).op, none⟩,
        ⟨(opBin (some 47) .add 3 (.tmp 45) (.tmp 46) 3 3 "page.go:70" #[{ on := 3, ground := Ground.data }, { on := 4, ground := Ground.data }]).op, none⟩,
        ⟨(opSlice (some 48) 25 (.tmp 43) (some (.tmp 44)) (some (.tmp 47)) none 5 1 Try.underlying25 sz5 25 "page.go:70" #[{ on := 1, ground := Ground.data }, { on := 2, ground := Ground.data }, { on := 5, ground := Ground.data }]).op, none⟩,
        ⟨(opAppendF (some 49) (.tmp 42) (.tmp 48) 25 25 5 1 1 (.int .u8 0) el25 (.slice 5) Try.underlying25 rfl 25 "page.go:70" #[{ on := 0, ground := Ground.data }, { on := 6, ground := Ground.data }]).op, none⟩,
        ⟨(opAssign (some 9) (.tmp 49) 25 "page.go:70" #[{ on := 7, ground := Ground.data }, { on := 7, ground := Ground.chain }, { on := 0, ground := Ground.phase }, { on := 1, ground := Ground.phase }, { on := 2, ground := Ground.phase }, { on := 3, ground := Ground.phase }, { on := 4, ground := Ground.phase }, { on := 5, ground := Ground.phase }, { on := 6, ground := Ground.phase }, { on := 7, ground := Ground.phase }]).op, none⟩
      ] (by kernel_rfl))))))
      .skip))
    (.live [0, 5, 6, 25, 26, 27] (.region 16 [
      ⟨(opMove (some 50) (.tmp 5) 44 "page.go:72" #[]).op, none⟩,
      ⟨(opMove (some 51) (.tmp 9) 25 "page.go:72" #[]).op, none⟩,
      ⟨(opBuildSlice (some 52) 44 1 [(0, (.tmp 51))] 25 1 24 (.slice none 0 0) el44 (by kernel_rfl) (by decide) 44 "page.go:72" #[{ on := 1, ground := Ground.data }]).op, none⟩,
      ⟨(opAppendV (some 53) (.tmp 50) (.tmp 52) 44 44 25 1 24 (.slice none 0 0) el44 (.slice 25) Try.underlying44 rfl 44 "page.go:72" #[{ on := 0, ground := Ground.data }, { on := 2, ground := Ground.data }]).op, none⟩,
      ⟨(opAssign (some 5) (.tmp 53) 44 "page.go:72" #[{ on := 3, ground := Ground.data }, { on := 3, ground := Ground.chain }, { on := 0, ground := Ground.phase }, { on := 1, ground := Ground.phase }, { on := 2, ground := Ground.phase }, { on := 3, ground := Ground.phase }]).op, none⟩
    ] (by kernel_rfl)))))))
  (.live [0, 5, 6, 25, 26, 27] (.region 17 [
    ⟨(opBin (some 54) .add 3 (.tmp 27) (.const (Value.int IntKind.i64 1)) 3 3 "page.go:62" #[]).op, none⟩,
    ⟨(opMove (some 27) (.tmp 54) 3 "page.go:62" #[{ on := 0, ground := Ground.data }]).op, none⟩
  ] (by kernel_rfl))))))

/-- What follows a loop. -/
noncomputable def f21_r0 : Sim Try.prog :=
  (.seq (.live [0, 5, 11, 12] (.region 18 [
    ⟨(opMove (some 56) (.tmp 5) 44 "page.go:74" #[]).op, none⟩,
    ⟨(opCallQ q23 (some 57) [(.tmp 56)] #[44] 30 "page.go:74" #[{ on := 0, ground := Ground.data }]).op, none⟩,
    ⟨(opMove (some 55) (.tmp 57) 30 "page.go:74" #[{ on := 1, ground := Ground.data }]).op, none⟩,
    ⟨(opExtract (some 58) (.tmp 55) 0 25 "page.go:74" #[{ on := 2, ground := Ground.data }]).op, none⟩,
    ⟨(opExtract (some 59) (.tmp 55) 1 4 "page.go:74" #[{ on := 2, ground := Ground.data }, { on := 5, ground := (Ground.gcOnly Departure.lateStores) }]).op, none⟩,
    ⟨(opAssign (some 11) (.tmp 58) 25 "page.go:74" #[{ on := 3, ground := Ground.data }, { on := 1, ground := Ground.chain }, { on := 0, ground := Ground.phase }, { on := 1, ground := Ground.phase }, { on := 2, ground := Ground.phase }, { on := 3, ground := Ground.phase }, { on := 4, ground := (Ground.textOnly Departure.lateStores) }]).op, none⟩,
    ⟨(opAssign (some 12) (.tmp 59) 4 "page.go:74" #[{ on := 4, ground := Ground.data }, { on := 5, ground := Ground.chain }, { on := 0, ground := Ground.phase }, { on := 1, ground := Ground.phase }, { on := 2, ground := Ground.phase }, { on := 3, ground := Ground.phase }, { on := 4, ground := Ground.phase }, { on := 5, ground := Ground.phase }]).op, none⟩
  ] (by kernel_rfl)))
  (.seq (.seq (.live [5, 75] (.region 19 [
    ⟨(opMove (some 60) (.tmp 12) 4 "page.go:75" #[]).op, none⟩,
    ⟨(opNot (some 61) 4 (.tmp 60) 4 "page.go:75" #[{ on := 0, ground := Ground.data }]).op, none⟩,
    ⟨(opMove (some 62) (.tmp 61) 4 "page.go:75" #[{ on := 1, ground := Ground.data }]).op, none⟩,
    ⟨(opMove (some 63) (.tmp 11) 25 "page.go:75" #[{ on := 2, ground := Ground.guard }]).op, (some (2, 62, false))⟩,
    ⟨(opMove (some 64) (.tmp 0) 25 "page.go:75" #[{ on := 2, ground := Ground.guard }]).op, (some (2, 62, false))⟩,
    ⟨(opCallP p35 (some 65) [(.tmp 63), (.tmp 64)] #[25, 25] 4 "page.go:75" #[{ on := 3, ground := Ground.data }, { on := 4, ground := Ground.data }, { on := 2, ground := Ground.chain }, { on := 2, ground := Ground.guard }]).op, (some (2, 62, false))⟩,
    ⟨(opNot (some 66) 4 (.tmp 65) 4 "page.go:75" #[{ on := 5, ground := Ground.data }, { on := 2, ground := Ground.guard }]).op, (some (2, 62, false))⟩,
    ⟨(opPick (some 67) (.tmp 62) (.const (Value.bool true)) (.tmp 66) 4 "page.go:75" #[{ on := 2, ground := Ground.data }, { on := 6, ground := Ground.data }]).op, none⟩,
    ⟨(opMove (some 68) (.tmp 67) 4 "page.go:75" #[{ on := 7, ground := Ground.data }, { on := 5, ground := Ground.chain }]).op, none⟩,
    ⟨(opMove (some 69) (.tmp 5) 44 "page.go:75" #[{ on := 8, ground := Ground.guard }]).op, (some (8, 68, false))⟩,
    ⟨(opCallQ q36 (some 70) [(.tmp 69)] #[44] 44 "page.go:75" #[{ on := 9, ground := Ground.data }, { on := 8, ground := Ground.chain }, { on := 8, ground := Ground.guard }]).op, (some (8, 68, false))⟩,
    ⟨(opLen (some 71) (.tmp 70) 44 (.slice 25) Try.underlying44 3 "page.go:75" #[{ on := 10, ground := Ground.data }, { on := 8, ground := Ground.guard }]).op, (some (8, 68, false))⟩,
    ⟨(opMove (some 72) (.tmp 5) 44 "page.go:75" #[{ on := 8, ground := Ground.guard }]).op, (some (8, 68, false))⟩,
    ⟨(opLen (some 73) (.tmp 72) 44 (.slice 25) Try.underlying44 3 "page.go:75" #[{ on := 12, ground := Ground.data }, { on := 8, ground := Ground.guard }]).op, (some (8, 68, false))⟩,
    ⟨(opBin (some 74) .neq 3 (.tmp 71) (.tmp 73) 3 4 "page.go:75" #[{ on := 11, ground := Ground.data }, { on := 13, ground := Ground.data }, { on := 8, ground := Ground.guard }]).op, (some (8, 68, false))⟩,
    ⟨(opPick (some 75) (.tmp 68) (.const (Value.bool true)) (.tmp 74) 4 "page.go:75" #[{ on := 8, ground := Ground.data }, { on := 14, ground := Ground.data }]).op, none⟩
  ] (by kernel_rfl)))
  (.cond (.tmp 75)
    (.seq (.live [2, 3] (.region 20 [
      ⟨(opAssign (some 2) (.const (Value.slice none 0 0)) 44 "page.go:76" #[]).op, none⟩,
      ⟨(opAssign (some 3) (.const (Value.bool false)) 4 "page.go:76" #[{ on := 0, ground := Ground.chain }, { on := 0, ground := Ground.phase }]).op, none⟩
    ] (by kernel_rfl)))
    (.live [2, 3] .ret))
    .skip))
  (.seq (.live [2, 3] (.region 21 [
    ⟨(opMove (some 76) (.tmp 5) 44 "page.go:78" #[]).op, none⟩,
    ⟨(opAssign (some 2) (.tmp 76) 44 "page.go:78" #[{ on := 0, ground := Ground.data }, { on := 0, ground := Ground.phase }]).op, none⟩,
    ⟨(opAssign (some 3) (.const (Value.bool true)) 4 "page.go:78" #[{ on := 1, ground := Ground.chain }, { on := 0, ground := Ground.phase }, { on := 1, ground := Ground.phase }]).op, none⟩
  ] (by kernel_rfl)))
  (.live [2, 3] .ret))))

noncomputable def f21_b : Sim Try.prog :=
  (.seq (.live [0] (.region 0 [
    ⟨(opAssign (some 2) (.const (Value.slice none 0 0)) 44 "page.go:55" #[]).op, none⟩,
    ⟨(opAssign (some 3) (.const (Value.bool false)) 4 "page.go:55" #[{ on := 0, ground := Ground.chain }]).op, none⟩
  ] (by kernel_rfl)))
  (.seq (.seq (.live [0, 15] (.region 1 [
    ⟨(opMove (some 13) (.tmp 0) 25 "page.go:56" #[]).op, none⟩,
    ⟨(opLen (some 14) (.tmp 13) 25 (.slice 5) Try.underlying25 3 "page.go:56" #[{ on := 0, ground := Ground.data }]).op, none⟩,
    ⟨(opBin (some 15) .neq 3 (.tmp 14) (.const (Value.int IntKind.i64 256)) 3 4 "page.go:56" #[{ on := 1, ground := Ground.data }]).op, none⟩
  ] (by kernel_rfl)))
  (.cond (.tmp 15)
    (.seq (.live [2, 3] (.region 2 [
      ⟨(opAssign (some 2) (.const (Value.slice none 0 0)) 44 "page.go:57" #[]).op, none⟩,
      ⟨(opAssign (some 3) (.const (Value.bool false)) 4 "page.go:57" #[{ on := 0, ground := Ground.chain }, { on := 0, ground := Ground.phase }]).op, none⟩
    ] (by kernel_rfl)))
    (.live [2, 3] .ret))
    .skip))
  (.seq (.live [0, 4] (.region 3 [
    ⟨(opMove (some 16) (.tmp 0) 25 "page.go:59" #[]).op, none⟩,
    ⟨(opIndexAddrT (some 17) 25 (.tmp 16) (.const (Value.int IntKind.i64 0)) 5 1 Try.underlying25 sz5 0 "page.go:59" #[{ on := 0, ground := Ground.data }]).op, none⟩,
    ⟨(opLoadT (.one (.int .u8)) (some 18) 5 (.tmp 17) (.int .u8) Try.underlying5 1 sz5 (by kernel_rfl) 5 "page.go:59" #[{ on := 1, ground := Ground.data }]).op, none⟩,
    ⟨(opConvInt (some 19) 5 3 (.tmp 18) (.int .u8) Try.underlying5 .i64 Try.underlying3 3 "page.go:59" #[{ on := 2, ground := Ground.data }]).op, none⟩,
    ⟨(opAssign (some 4) (.tmp 19) 3 "page.go:59" #[{ on := 3, ground := Ground.data }, { on := 0, ground := Ground.phase }, { on := 1, ground := Ground.phase }, { on := 2, ground := Ground.phase }, { on := 3, ground := Ground.phase }]).op, none⟩
  ] (by kernel_rfl)))
  (.seq (.live [0, 4, 5] (.region 4 [
    ⟨(opAssign (some 5) (.const (Value.slice none 0 0)) 44 "page.go:60" #[]).op, none⟩
  ] (by kernel_rfl)))
  (.seq (.live [0, 4, 5, 6] (.region 5 [
    ⟨(opMove (some 20) (.tmp 0) 25 "page.go:61" #[]).op, none⟩,
    ⟨(opLen (some 21) (.tmp 20) 25 (.slice 5) Try.underlying25 3 "page.go:61" #[{ on := 0, ground := Ground.data }]).op, none⟩,
    ⟨(opAssign (some 6) (.tmp 21) 3 "page.go:61" #[{ on := 1, ground := Ground.data }, { on := 0, ground := Ground.phase }, { on := 1, ground := Ground.phase }]).op, none⟩
  ] (by kernel_rfl)))
  (.seq (.seq (.live [0, 5, 6, 25, 26, 27] (.region 6 [
    ⟨(opMove (some 22) (.tmp 0) 25 "page.go:62" #[]).op, none⟩,
    ⟨(opMove (some 23) (.tmp 4) 3 "page.go:62" #[]).op, none⟩,
    ⟨(opBin (some 24) .add 3 (.const (Value.int IntKind.i64 1)) (.tmp 23) 3 3 "page.go:62" #[{ on := 1, ground := Ground.data }]).op, none⟩,
    ⟨(opSlice (some 25) 25 (.tmp 22) (some (.const (Value.int IntKind.i64 1))) (some (.tmp 24)) none 5 1 Try.underlying25 sz5 25 "page.go:62" #[{ on := 0, ground := Ground.data }, { on := 2, ground := Ground.data }]).op, none⟩,
    ⟨(opLen (some 26) (.tmp 25) 25 (.slice 5) Try.underlying25 3 "page.go:62" #[{ on := 3, ground := Ground.data }]).op, none⟩,
    ⟨(opMove (some 27) (.const (Value.int IntKind.i64 0)) 3 "page.go:62" #[]).op, none⟩
  ] (by kernel_rfl)))
  (.block 0 (.loop [0, 5, 6, 25, 26, 27] f21_l0)))
  f21_r0))))))

noncomputable def f21 : Fun Try.prog where
  id := 21
  fn := Try.f21
  hf := Try.func21
  hname := by kernel_rfl
  body := f21_b
  hbody := by kernel_rfl
  res := [rTmp 2, rTmp 3]
  hres := by kernel_rfl
  n := 77
  hn := by kernel_rfl

end Go.Proofs.Ytblliolkgkgppaa.V

/- What the functions' runs come to; the right sides were printed by a tool, Lean checks them. -/
set_option linter.unusedVariables false
set_option maxRecDepth 100000
namespace Go.Proofs.Ytblliolkgkgppaa.V
open Go Go.V Go.RowKit

theorem of_run (F : Nat) (z : Bool) (l : List (List AV)) :
    (f21.run F [.ns z 1 l] ⟨[], []⟩ : Ans) =
    branch (AV.bool ((↑l.length : Int) != (256 : Int))) (some (Fin.ret (AV.tup [AV.nilsl, AV.bool false]), St.mk [] []))
      (branch (AV.bool (inR l (0 : Int)))
        (branch (AV.bool ((LD.one (LT.int IntKind.u8)).is (V.rowAt l (0 : Int))))
          (if
              (0 : Int) ≤ IntKind.i64.wrap ((1 : Int) + IntKind.i64.wrap (hdI (V.rowAt l (0 : Int)))) ∧
                IntKind.i64.wrap ((1 : Int) + IntKind.i64.wrap (hdI (V.rowAt l (0 : Int)))) ≤ (↑l.length : Int) then
            if
                (0 : Int) ≤ (1 : Int) ∧
                  (1 : Int) ≤
                    (↑(IntKind.i64.wrap ((1 : Int) + IntKind.i64.wrap (hdI (V.rowAt l (0 : Int))))).toNat : Int) then
              loopRun (f21_l0.run F) [0, 5, 6, 25, 26, 27]
                (Cont.block 0 (Cont.then (f21_r0.run F (f21.leaveK Fun.done)) (f21.leaveK Fun.done))) F
                (Env.mk 77
                  [(0, AV.ns z 1 l), (5, AV.nilsl),
                    (6, AV.int IntKind.i64 (↑l.length : Int)),
                    (25,
                      AV.ns z 1
                        (List.drop 1
                          (List.take (IntKind.i64.wrap ((1 : Int) + IntKind.i64.wrap (hdI (V.rowAt l (0 : Int))))).toNat
                            l))),
                    (26,
                      AV.int IntKind.i64
                        (↑(List.drop 1
                                (List.take
                                  (IntKind.i64.wrap ((1 : Int) + IntKind.i64.wrap (hdI (V.rowAt l (0 : Int))))).toNat
                                  l)).length :
                          Int)),
                    (27, AV.int IntKind.i64 (0 : Int))])
                (St.mk [] [])
            else none
          else none)
          none)
        none) := by kernel_rfl

theorem of_round0 (F m : Nat) (K : Cont) (z : Bool) (l r : List (List AV)) (d i e : Int) :
    (loopRun (f21_l0.run F) [0, 5, 6, 25, 26, 27] K m.succ (Env.mk 77 [(0, .ns z 1 l), (5, .nilsl), (6, .int .i64 d), (25, .ns z 1 r), (26, .int .i64 e), (27, .int .i64 i)]) ⟨[], []⟩ : Ans) =
    branch (AV.bool (decide (i < e)))
      (branch (AV.bool (inR r i))
        (branch (AV.bool ((LD.one (LT.int IntKind.u8)).is (V.rowAt r i)))
          (branch (AV.bool (decide (hdI (V.rowAt r i) > (0 : Int))))
            (branch (AV.bool (decide (IntKind.i64.wrap (IntKind.i64.wrap (hdI (V.rowAt r i)) - (1 : Int)) > d)))
              (K AX.ret (Env.mk 77 [(2, AV.nilsl), (3, AV.bool false)]) (St.mk [] []))
              (if
                  (0 : Int) ≤
                      IntKind.i64.wrap
                        (IntKind.i64.wrap (d - IntKind.i64.wrap (IntKind.i64.wrap (hdI (V.rowAt r i)) - (1 : Int))) +
                          IntKind.i64.wrap (IntKind.i64.wrap (hdI (V.rowAt r i)) - (1 : Int))) ∧
                    IntKind.i64.wrap
                        (IntKind.i64.wrap (d - IntKind.i64.wrap (IntKind.i64.wrap (hdI (V.rowAt r i)) - (1 : Int))) +
                          IntKind.i64.wrap (IntKind.i64.wrap (hdI (V.rowAt r i)) - (1 : Int))) ≤
                      (↑l.length : Int) then
                if
                    (0 : Int) ≤ IntKind.i64.wrap (d - IntKind.i64.wrap (IntKind.i64.wrap (hdI (V.rowAt r i)) - (1 : Int))) ∧
                      IntKind.i64.wrap (d - IntKind.i64.wrap (IntKind.i64.wrap (hdI (V.rowAt r i)) - (1 : Int))) ≤
                        (↑(IntKind.i64.wrap
                                (IntKind.i64.wrap
                                    (d - IntKind.i64.wrap (IntKind.i64.wrap (hdI (V.rowAt r i)) - (1 : Int))) +
                                  IntKind.i64.wrap (IntKind.i64.wrap (hdI (V.rowAt r i)) - (1 : Int)))).toNat :
                          Int) then
                  branch
                    (AV.bool
                      (true &&
                        apOk
                          ([] ++
                              List.drop
                                (IntKind.i64.wrap
                                    (d - IntKind.i64.wrap (IntKind.i64.wrap (hdI (V.rowAt r i)) - (1 : Int)))).toNat
                                (List.take
                                  (IntKind.i64.wrap
                                      (IntKind.i64.wrap
                                          (d - IntKind.i64.wrap (IntKind.i64.wrap (hdI (V.rowAt r i)) - (1 : Int))) +
                                        IntKind.i64.wrap (IntKind.i64.wrap (hdI (V.rowAt r i)) - (1 : Int)))).toNat
                                  l)).length
                          1))
                    (branch (AV.bool (apOk 1 24))
                      (loopRun (f21_l0.run F) [0, 5, 6, 25, 26, 27] K m
                        (Env.mk 77
                          [(0, AV.ns z 1 l), (5, AV.vs 0 0 1 1),
                            (6,
                              AV.int IntKind.i64
                                (IntKind.i64.wrap
                                  (d - IntKind.i64.wrap (IntKind.i64.wrap (hdI (V.rowAt r i)) - (1 : Int))))),
                            (25, AV.ns z 1 r), (26, AV.int IntKind.i64 e),
                            (27, AV.int IntKind.i64 (IntKind.i64.wrap (i + (1 : Int))))])
                        (St.mk
                          [Ob.vec 0
                              (catC [] 0
                                [[AV.sl 1 false
                                      ([] ++
                                        List.drop
                                          (IntKind.i64.wrap
                                              (d -
                                                IntKind.i64.wrap (IntKind.i64.wrap (hdI (V.rowAt r i)) - (1 : Int)))).toNat
                                          (List.take
                                            (IntKind.i64.wrap
                                                (IntKind.i64.wrap
                                                    (d -
                                                      IntKind.i64.wrap (IntKind.i64.wrap (hdI (V.rowAt r i)) - (1 : Int))) +
                                                  IntKind.i64.wrap
                                                    (IntKind.i64.wrap (hdI (V.rowAt r i)) - (1 : Int)))).toNat
                                            l))]])]
                          []))
                      none)
                    none
                else none
              else none))
            (branch (AV.bool (apOk 1 24))
              (loopRun (f21_l0.run F) [0, 5, 6, 25, 26, 27] K m
                (Env.mk 77
                  [(0, AV.ns z 1 l), (5, AV.vs 0 0 1 1),
                    (6, AV.int IntKind.i64 d), (25, AV.ns z 1 r),
                    (26, AV.int IntKind.i64 e),
                    (27, AV.int IntKind.i64 (IntKind.i64.wrap (i + (1 : Int))))])
                (St.mk [Ob.vec 0 (catC [] 0 [[AV.nilsl]])] []))
              none))
          none)
        none)
      (K (AX.exit 0) (Env.mk 77 [(0, AV.ns z 1 l), (5, AV.nilsl)]) (St.mk [] [])) := by kernel_rfl

theorem of_round (F m : Nat) (K : Cont) (z : Bool) (l r : List (List AV)) (v n : Nat) (cs : List AV) (d i e : Int) :
    (loopRun (f21_l0.run F) [0, 5, 6, 25, 26, 27] K m.succ (Env.mk 77 [(0, .ns z 1 l), (5, .vs 0 v 1 n), (6, .int .i64 d), (25, .ns z 1 r), (26, .int .i64 e), (27, .int .i64 i)]) ⟨[.vec v cs], []⟩ : Ans) =
    branch (AV.bool (decide (i < e)))
      (branch (AV.bool (inR r i))
        (branch (AV.bool ((LD.one (LT.int IntKind.u8)).is (V.rowAt r i)))
          (branch (AV.bool (decide (hdI (V.rowAt r i) > (0 : Int))))
            (branch (AV.bool (decide (IntKind.i64.wrap (IntKind.i64.wrap (hdI (V.rowAt r i)) - (1 : Int)) > d)))
              (K AX.ret (Env.mk 77 [(2, AV.nilsl), (3, AV.bool false)]) (St.mk [Ob.vec v cs] []))
              (if
                  (0 : Int) ≤
                      IntKind.i64.wrap
                        (IntKind.i64.wrap (d - IntKind.i64.wrap (IntKind.i64.wrap (hdI (V.rowAt r i)) - (1 : Int))) +
                          IntKind.i64.wrap (IntKind.i64.wrap (hdI (V.rowAt r i)) - (1 : Int))) ∧
                    IntKind.i64.wrap
                        (IntKind.i64.wrap (d - IntKind.i64.wrap (IntKind.i64.wrap (hdI (V.rowAt r i)) - (1 : Int))) +
                          IntKind.i64.wrap (IntKind.i64.wrap (hdI (V.rowAt r i)) - (1 : Int))) ≤
                      (↑l.length : Int) then
                if
                    (0 : Int) ≤ IntKind.i64.wrap (d - IntKind.i64.wrap (IntKind.i64.wrap (hdI (V.rowAt r i)) - (1 : Int))) ∧
                      IntKind.i64.wrap (d - IntKind.i64.wrap (IntKind.i64.wrap (hdI (V.rowAt r i)) - (1 : Int))) ≤
                        (↑(IntKind.i64.wrap
                                (IntKind.i64.wrap
                                    (d - IntKind.i64.wrap (IntKind.i64.wrap (hdI (V.rowAt r i)) - (1 : Int))) +
                                  IntKind.i64.wrap (IntKind.i64.wrap (hdI (V.rowAt r i)) - (1 : Int)))).toNat :
                          Int) then
                  branch
                    (AV.bool
                      (true &&
                        apOk
                          ([] ++
                              List.drop
                                (IntKind.i64.wrap
                                    (d - IntKind.i64.wrap (IntKind.i64.wrap (hdI (V.rowAt r i)) - (1 : Int)))).toNat
                                (List.take
                                  (IntKind.i64.wrap
                                      (IntKind.i64.wrap
                                          (d - IntKind.i64.wrap (IntKind.i64.wrap (hdI (V.rowAt r i)) - (1 : Int))) +
                                        IntKind.i64.wrap (IntKind.i64.wrap (hdI (V.rowAt r i)) - (1 : Int)))).toNat
                                  l)).length
                          1))
                    (branch (AV.bool (v.beq v && (inC cs 0 (mulN n 1) && apOk (n + 1) 24)))
                      (loopRun (f21_l0.run F) [0, 5, 6, 25, 26, 27] K m
                        (Env.mk 77
                          [(0, AV.ns z 1 l),
                            (5, AV.vs 0 (v + 1) 1 (n + 1)),
                            (6,
                              AV.int IntKind.i64
                                (IntKind.i64.wrap
                                  (d - IntKind.i64.wrap (IntKind.i64.wrap (hdI (V.rowAt r i)) - (1 : Int))))),
                            (25, AV.ns z 1 r), (26, AV.int IntKind.i64 e),
                            (27, AV.int IntKind.i64 (IntKind.i64.wrap (i + (1 : Int))))])
                        (St.mk
                          [Ob.vec (v + 1)
                              (catC cs (mulN n 1)
                                [[AV.sl 1 false
                                      ([] ++
                                        List.drop
                                          (IntKind.i64.wrap
                                              (d -
                                                IntKind.i64.wrap (IntKind.i64.wrap (hdI (V.rowAt r i)) - (1 : Int)))).toNat
                                          (List.take
                                            (IntKind.i64.wrap
                                                (IntKind.i64.wrap
                                                    (d -
                                                      IntKind.i64.wrap (IntKind.i64.wrap (hdI (V.rowAt r i)) - (1 : Int))) +
                                                  IntKind.i64.wrap
                                                    (IntKind.i64.wrap (hdI (V.rowAt r i)) - (1 : Int)))).toNat
                                            l))]])]
                          []))
                      none)
                    none
                else none
              else none))
            (branch (AV.bool (v.beq v && (inC cs 0 (mulN n 1) && apOk (n + 1) 24)))
              (loopRun (f21_l0.run F) [0, 5, 6, 25, 26, 27] K m
                (Env.mk 77
                  [(0, AV.ns z 1 l), (5, AV.vs 0 (v + 1) 1 (n + 1)),
                    (6, AV.int IntKind.i64 d), (25, AV.ns z 1 r),
                    (26, AV.int IntKind.i64 e),
                    (27, AV.int IntKind.i64 (IntKind.i64.wrap (i + (1 : Int))))])
                (St.mk [Ob.vec (v + 1) (catC cs (mulN n 1) [[AV.nilsl]])] []))
              none))
          none)
        none)
      (K (AX.exit 0)
        (Env.mk 77 [(0, AV.ns z 1 l), (5, AV.vs 0 v 1 n)])
        (St.mk [Ob.vec v cs] [])) := by kernel_rfl

theorem of_out0 (F : Nat) (z : Bool) (l : List (List AV)) (st : St) :
    ((Cont.block 0 (Cont.then (f21_r0.run F (f21.leaveK Fun.done)) (f21.leaveK Fun.done))) (.exit 0) (Env.mk 77 [(0, .ns z 1 l), (5, .nilsl)]) st : Ans) =
    branch (AV.bool (okS [] && fit 1))
      (branch (AV.bool (byOk (pgR []) && byOk l))
        (branch (AV.bool !nR (pgR []) == nR l) (some (Fin.ret (AV.tup [AV.nilsl, AV.bool false]), st))
          (branch (AV.bool (okS []))
            (branch (AV.bool ((↑(trR []).length : Int) != (0 : Int)))
              (some (Fin.ret (AV.tup [AV.nilsl, AV.bool false]), st))
              (some (Fin.ret (AV.tup [AV.nilsl, AV.bool true]), st)))
            none))
        none)
      none := by kernel_rfl

theorem of_out (F v n : Nat) (z : Bool) (l : List (List AV)) (cs : List AV) :
    ((Cont.block 0 (Cont.then (f21_r0.run F (f21.leaveK Fun.done)) (f21.leaveK Fun.done))) (.exit 0) (Env.mk 77 [(0, .ns z 1 l), (5, .vs 0 v 1 n)]) ⟨[.vec v cs], []⟩ : Ans) =
    branch (AV.bool (v.beq v && inC cs 0 (mulN n 1)))
      (branch (AV.bool (okS (rowsC 1 n cs 0) && fit (szN (sR (rowsC 1 n cs 0)))))
        (branch (AV.bool !pgOk (sR (rowsC 1 n cs 0)))
          (some (Fin.ret (AV.tup [AV.nilsl, AV.bool false]), St.mk [Ob.vec v cs] []))
          (branch (AV.bool (byOk (pgR (rowsC 1 n cs 0)) && byOk l))
            (branch (AV.bool !nR (pgR (rowsC 1 n cs 0)) == nR l)
              (some (Fin.ret (AV.tup [AV.nilsl, AV.bool false]), St.mk [Ob.vec v cs] []))
              (branch (AV.bool (v.beq v))
                (branch (AV.bool (okV n cs))
                  (branch (AV.bool ((↑(trN n cs) : Int) != (↑n : Int)))
                    (some (Fin.ret (AV.tup [AV.nilsl, AV.bool false]), St.mk [Ob.vec v cs] []))
                    (some (Fin.ret (AV.tup [AV.vs 0 v 1 n, AV.bool true]), St.mk [Ob.vec v cs] [])))
                  none)
                none))
            none))
        none)
      none := by kernel_rfl

theorem of_ret (F : Nat) (st : St) :
    ((Cont.block 0 (Cont.then (f21_r0.run F (f21.leaveK Fun.done)) (f21.leaveK Fun.done))) .ret (Env.mk 77 [(2, .nilsl), (3, .bool false)]) st : Ans) =
    some (Fin.ret (AV.tup [AV.nilsl, AV.bool false]), st) := by kernel_rfl

end Go.Proofs.Ytblliolkgkgppaa.V

/- Page: a page's slots. -/
set_option linter.unusedVariables false
namespace Go.Proofs.Ytblliolkgkgppaa.V
open Go Go.V Go.RowKit

/-- Slots, told by their sizes and where they end. -/
def decL : List Nat → Nat → List Nat → Option Sl
  | [], _, _ => some []
  | c :: r, e, p => if c = 0 then (decL r e p).map (none :: ·) else if c - 1 > e then none else (decL r (e - (c - 1)) p).map (some ((p.take e).drop (e - (c - 1))) :: ·)
/-- Is there no free slot at the end? -/
def trm (s : Sl) : Bool := match s.getLast? with
  | some none => false
  | _ => true
def fine (s : Sl) (p : List Nat) : Bool := pgOk s && (pgB s == p && trm s)
/-- The slots of a page. -/
def ofP (p : List Nat) : Option Sl :=
  bif p.length == 256 then match decL ((p.take (1 + p.headD 0)).drop 1) 256 p with
    | some s => bif fine s p then some s else none
    | none => none
  else none
def ofS (p : List Nat) : Sl := (ofP p).getD []
def ofB (p : List Nat) : Bool := (ofP p).isSome
def rowS (o : Option (List Nat)) : List AV := match o with
  | none => [.nilsl]
  | some b => [.sl 1 false (bR b)]
/-- Slots as rows. -/
def sA (s : Sl) : List (List AV) := s.map rowS
noncomputable def ofA (p : List Nat) : List (List AV) := opq (sA (ofS p))
theorem sA_length (s : Sl) : (sA s).length = s.length := by simp [sA]
theorem sA_append (s t : Sl) : sA (s ++ t) = sA s ++ sA t := by simp [sA]
theorem slot_row (o : Option (List Nat)) : slot (rowS o) = o := by
  cases o with
  | none => rfl
  | some b => simp [rowS, slot, nilA, rwA, nR_bR]
theorem sR_sA (s : Sl) : sR (sA s) = s := by
  simp only [sR, sA, List.map_map]
  conv => rhs; rw [← List.map_id s]
  exact List.map_congr_left fun o _ => slot_row o
/-- Slots of bytes. -/
def okSl (s : Sl) : Prop := (∀ b, some b ∈ s → (∀ x ∈ b, x < 256) ∧ b.length < 4611686018427387904) ∧ s.length < 4611686018427387904
theorem okS_sA {s : Sl} (h : okSl s) : okS (sA s) = true := by
  rw [okS_iff, sA_length]
  refine ⟨fun r hr => ?_, h.2⟩
  obtain ⟨o, ho, rfl⟩ := List.mem_map.mp hr
  cases o with
  | none => exact ⟨rfl, by simp [rowS, rwA]⟩
  | some b =>
    obtain ⟨h1, h2⟩ := h.1 b ho
    exact ⟨okR_bR h1, by simpa [rowS, rwA, bR_length] using h2⟩
theorem scoped_sA {n m : Nat} (s : Sl) : ScopedR n m (sA s) := by
  induction s with
  | nil => trivial
  | cons o s ih =>
    refine ⟨?_, ih⟩
    cases o with
    | none => exact ⟨trivial, trivial⟩
    | some b => exact ⟨bR_scoped b, trivial⟩
theorem trR_trm (s : Sl) : ((((trR (sA s)).length : Int)) != ((sA s).length : Int)) = !trm s := by
  rcases List.eq_nil_or_concat s with rfl | ⟨t, o, rfl⟩
  · rw [show sA [] = [] from rfl, trR_nil]; rfl
  · rw [List.concat_eq_append, sA_append, show sA [o] = [rowS o] from rfl, trR_snoc]
    cases o with
    | none =>
      have := trR_len (sA t)
      simp only [rowS, nilA, cond_true, trm, List.getLast?_append, List.getLast?_singleton]
      simp only [Option.or, Bool.not_false, bne_iff_ne, ne_eq, List.length_append, List.length_singleton]
      omega
    | some b => simp [rowS, nilA, trm]
theorem mem_decL : ∀ {c : List Nat} {e : Nat} {p : List Nat} {s : Sl}, decL c e p = some s → s.length = c.length ∧ sumN s ≤ e ∧ ∀ b, some b ∈ s → ∀ x ∈ b, x ∈ p
  | [], e, p, s, h => by
    simp only [decL, Option.some.injEq] at h
    subst h
    exact ⟨rfl, Nat.zero_le _, fun b hb => by cases hb⟩
  | c :: r, e, p, s, h => by
    rw [decL] at h
    split at h
    · obtain ⟨t, ht, rfl⟩ := Option.map_eq_some_iff.mp h
      obtain ⟨h1, h2, h3⟩ := mem_decL ht
      exact ⟨by simp [h1], by rw [sumN_cons]; exact (by simpa [olen] using h2), fun b hb => h3 b (by simpa using hb)⟩
    · split at h
      · cases h
      · rename_i h0 hc
        obtain ⟨t, ht, rfl⟩ := Option.map_eq_some_iff.mp h
        obtain ⟨h1, h2, h3⟩ := mem_decL ht
        refine ⟨by simp [h1], ?_, fun b hb => ?_⟩
        · rw [sumN_cons]
          have : olen (some ((p.take e).drop (e - (c - 1)))) ≤ c - 1 := by
            show ((p.take e).drop (e - (c - 1))).length ≤ c - 1
            simp; omega
          omega
        · rcases List.mem_cons.mp hb with hb | hb
          · cases hb
            exact fun x hx => List.mem_of_mem_take (List.mem_of_mem_drop hx)
          · exact h3 b hb
end Go.Proofs.Ytblliolkgkgppaa.V

/- Page: a page's slots, as a callee. -/
set_option linter.unusedVariables false
namespace Go.Proofs.Ytblliolkgkgppaa.V
open Go Go.V Go.RowKit

theorem bR_at {c : List Nat} (h : ∀ b ∈ c, b < 256) {i : Nat} (hi : i < c.length) : inR (bR c) (i : Int) = true ∧ (LD.one (.int .u8)).is (V.rowAt (bR c) (i : Int)) = true ∧ hdI (V.rowAt (bR c) (i : Int)) = (c[i] : Nat) := by
  have hl : i < (bR c).length := by rw [bR_length]; exact hi
  obtain ⟨h1, h2⟩ := okR_at (okR_bR h) hl
  exact ⟨inR_nat hl, h1, by rw [h2]; simp [nR_bR]⟩
def cellS (o : Option (List Nat)) : AV := match o with
  | none => .nilsl
  | some b => .sl 1 false (bR b)
/-- Slots as cells. -/
def sC (s : Sl) : List AV := s.map cellS
theorem sC_length (s : Sl) : (sC s).length = s.length := by simp [sC]
theorem sC_append (s t : Sl) : sC (s ++ t) = sC s ++ sC t := by simp [sC]
theorem cR_sC (s : Sl) : cR (sC s) = sA s := by
  simp only [cR, sC, sA, List.map_map]
  exact List.map_congr_left fun o _ => by cases o <;> rfl
theorem cR_sC_take (s : Sl) (n : Nat) : cR ((sC s).take n) = sA (s.take n) := by
  rw [show (sC s).take n = sC (s.take n) by simp [sC], cR_sC]
/-- The slots so far. -/
def sV (t : Sl) : AV := match t with
  | [] => .nilsl
  | _ :: r => .vs 0 r.length 1 (r.length + 1)
def obV (t : Sl) : List Ob := match t with
  | [] => []
  | o :: r => [.vec r.length (sC (o :: r))]
theorem sV_snoc (t : Sl) (o : Option (List Nat)) : sV (t ++ [o]) = .vs 0 t.length 1 (t.length + 1) ∧ obV (t ++ [o]) = [.vec t.length (sC t ++ [cellS o])] := by
  cases t <;> simp [sV, obV, sC]
theorem ap_one : apOk 1 24 = true := by rw [apOk_iff]; decide
theorem vs_guard {v n : Nat} {cs : List AV} (h : n = cs.length) (h2 : n ≤ 1000000) : (v.beq v && (inC cs 0 (mulN n 1) && apOk (n + 1) 24)) = true := by
  rw [Nat.beq_refl, inC_one (by omega), Bool.true_and, Bool.true_and, apOk_iff]; omega
theorem of_step (F m : Nat) (K : Cont) (z : Bool) (p c : List Nat) (hp : p.length = 256) (hpb : ∀ b ∈ p, b < 256) (hcb : ∀ b ∈ c, b < 256) (t : Sl) (ht : t.length ≤ 256) (e i : Nat) (he : e ≤ 256) (hi : i < c.length) (hc : c.length ≤ 256) :
    loopRun (f21_l0.run F) [0, 5, 6, 25, 26, 27] K m.succ (Env.mk 77 [(0, .ns z 1 (bR p)), (5, sV t), (6, .int .i64 (e : Int)), (25, .ns z 1 (bR c)), (26, .int .i64 (c.length : Int)), (27, .int .i64 (i : Int))]) ⟨obV t, []⟩ =
      (if c[i] = 0 then loopRun (f21_l0.run F) [0, 5, 6, 25, 26, 27] K m (Env.mk 77 [(0, .ns z 1 (bR p)), (5, sV (t ++ [none])), (6, .int .i64 (e : Int)), (25, .ns z 1 (bR c)), (26, .int .i64 (c.length : Int)), (27, .int .i64 ((i + 1 : Nat) : Int))]) ⟨obV (t ++ [none]), []⟩
      else if c[i] - 1 > e then K .ret (Env.mk 77 [(2, .nilsl), (3, .bool false)]) ⟨obV t, []⟩
      else loopRun (f21_l0.run F) [0, 5, 6, 25, 26, 27] K m (Env.mk 77 [(0, .ns z 1 (bR p)), (5, sV (t ++ [some ((p.take e).drop (e - (c[i] - 1)))])), (6, .int .i64 ((e - (c[i] - 1) : Nat) : Int)), (25, .ns z 1 (bR c)), (26, .int .i64 (c.length : Int)), (27, .int .i64 ((i + 1 : Nat) : Int))]) ⟨obV (t ++ [some ((p.take e).drop (e - (c[i] - 1)))]), []⟩) := by
  obtain ⟨c1, c2, c3⟩ := bR_at hcb hi
  have hlt : c[i] < 256 := hcb _ (List.getElem_mem hi)
  obtain ⟨n1, n2⟩ := sV_snoc t none
  obtain ⟨n3, n4⟩ := sV_snoc t (some ((p.take e).drop (e - (c[i] - 1))))
  rw [n1, n2, n3, n4]
  have hb : (sC t).length ≤ 256 := by rw [sC_length]; exact ht
  have w0 : IntKind.i64.wrap ((i : Int) + 1) = ((i + 1 : Nat) : Int) := wrap_succ (by omega)
  by_cases h0 : c[i] = 0
  · rw [if_pos h0]
    cases t with
    | nil =>
      simp only [sV, obV]
      rw [of_round0, branch_of (by simpa using hi), branch_of c1, branch_of c2, c3, h0, branch_not (by simp), w0, branch_of ap_one, catC_nil]
      rfl
    | cons o t =>
      simp only [sV, obV]
      rw [of_round, branch_of (by simpa using hi), branch_of c1, branch_of c2, c3, h0, branch_not (by simp), w0, branch_of (vs_guard (by simp [sC]) (by rw [sC_length, List.length_cons] at hb; omega)), catC_one (by simp [sC])]
      rfl
  · rw [if_neg h0]
    have w1 : IntKind.i64.wrap ((c[i] : Nat) : Int) = (c[i] : Nat) := wrap_nat (by omega)
    have w2 : IntKind.i64.wrap (((c[i] : Nat) : Int) - 1) = ((c[i] - 1 : Nat) : Int) := by rw [show ((c[i] : Nat) : Int) - 1 = ((c[i] - 1 : Nat) : Int) by omega]; exact wrap_nat (by omega)
    by_cases h1 : c[i] - 1 > e
    · rw [if_pos h1]
      cases t with
      | nil =>
        simp only [sV, obV]
        rw [of_round0, branch_of (by simpa using hi), branch_of c1, branch_of c2, c3, w1, w2, branch_of (by simp only [decide_eq_true_eq]; omega), branch_of (by simp only [decide_eq_true_eq]; omega)]
      | cons o t =>
        simp only [sV, obV]
        rw [of_round, branch_of (by simpa using hi), branch_of c1, branch_of c2, c3, w1, w2, branch_of (by simp only [decide_eq_true_eq]; omega), branch_of (by simp only [decide_eq_true_eq]; omega)]
    · rw [if_neg h1]
      have w3 : IntKind.i64.wrap ((e : Int) - ((c[i] - 1 : Nat) : Int)) = ((e - (c[i] - 1) : Nat) : Int) := by rw [show (e : Int) - ((c[i] - 1 : Nat) : Int) = ((e - (c[i] - 1) : Nat) : Int) by omega]; exact wrap_nat (by omega)
      have w4 : IntKind.i64.wrap (((e - (c[i] - 1) : Nat) : Int) + ((c[i] - 1 : Nat) : Int)) = (e : Int) := by rw [show ((e - (c[i] - 1) : Nat) : Int) + ((c[i] - 1 : Nat) : Int) = (e : Int) by omega]; exact wrap_nat (by omega)
      have hr : List.drop (e - (c[i] - 1)) (List.take e (bR p)) = bR ((p.take e).drop (e - (c[i] - 1))) := by rw [bR_take, bR_drop]
      have hap : apOk ([] ++ bR ((p.take e).drop (e - (c[i] - 1)))).length 1 = true := by
        rw [apOk_iff, List.nil_append, bR_length, List.length_drop, List.length_take]; omega
      cases t with
      | nil =>
        simp only [sV, obV]
        rw [of_round0, branch_of (by simpa using hi), branch_of c1, branch_of c2, c3, w1, w2, branch_of (by simp only [decide_eq_true_eq]; omega), branch_not (by simp only [decide_eq_false_iff_not]; omega), w3, w4, w0, Int.toNat_natCast, Int.toNat_natCast, hr,
          if_pos ⟨by omega, by rw [bR_length]; omega⟩, if_pos ⟨by omega, by omega⟩, branch_of (by rw [hap]; rfl), List.nil_append, branch_of ap_one, catC_nil]
        rfl
      | cons o t =>
        simp only [sV, obV]
        rw [of_round, branch_of (by simpa using hi), branch_of c1, branch_of c2, c3, w1, w2, branch_of (by simp only [decide_eq_true_eq]; omega), branch_not (by simp only [decide_eq_false_iff_not]; omega), w3, w4, w0, Int.toNat_natCast, Int.toNat_natCast, hr,
          if_pos ⟨by omega, by rw [bR_length]; omega⟩, if_pos ⟨by omega, by omega⟩, branch_of (by rw [hap]; rfl), branch_of (vs_guard (by simp [sC]) (by rw [sC_length, List.length_cons] at hb; omega)), List.nil_append, catC_one (by simp [sC])]
        rfl
/-- What the run answers. -/
def ofAns (o : Option Sl) : AV := match o with
  | some s => .tup [sV s, .bool true]
  | none => .tup [.nilsl, .bool false]
theorem pgFold_lt : ∀ (s : Sl) (i : Nat) (p : List Nat) (e : Nat), (∀ b ∈ p, b < 256) → (∀ o ∈ s, olen o ≤ 200) → (∀ b, some b ∈ s → ∀ x ∈ b, x < 256) → ∀ b ∈ pgFold s i p e, b < 256
  | [], _, _, _, h, _, _ => h
  | none :: s, i, p, e, h, h1, h2 => by
    rw [pgFold]
    exact pgFold_lt s _ _ _ h (fun o ho => h1 o (by simp [ho])) (fun b hb => h2 b (by simp [hb]))
  | some b :: s, i, p, e, h, h1, h2 => by
    rw [pgFold]
    refine pgFold_lt s _ _ _ (fun x hx => ?_) (fun o ho => h1 o (by simp [ho])) (fun b hb => h2 b (by simp [hb]))
    rcases mem_putN hx with hx | hx
    · rcases List.mem_or_eq_of_mem_set hx with hx | hx
      · exact h x hx
      · have : olen (some b) ≤ 200 := h1 _ (by simp)
        have hob : olen (some b) = b.length := rfl
        omega
    · exact h2 b (by simp) x hx
theorem pgB_lt {s : Sl} (h : okSl s) (hk : pgOk s = true) : ∀ b ∈ pgB s, b < 256 := by
  obtain ⟨h1, h2⟩ := pgOk_iff.mp hk
  refine pgFold_lt s _ _ _ (fun x hx => ?_) h2 (fun b hb => (h.1 b hb).1)
  rcases List.mem_or_eq_of_mem_set hx with hx | hx
  · rw [List.eq_of_mem_replicate hx]; omega
  · rw [szN] at h1; omega
theorem byOk_pg {s : Sl} (h : okSl s) : byOk (pgR (sA s)) = true := by
  cases hk : pgOk s with
  | true =>
    rw [pgR_ok (by rw [sR_sA]; exact hk), sR_sA]
    exact byOk_bR (pgB_lt h hk) (by rw [pgB_len hk]; omega)
  | false =>
    rw [pgR_no (by rw [sR_sA]; exact hk)]
    exact byOk_bR (l := []) (by simp) (by simp)
theorem of_end (F : Nat) (z : Bool) (p : List Nat) (hpb : ∀ b ∈ p, b < 256) (hp : p.length = 256) (t : Sl) (ht : okSl t) (hs : fit (szN t) = true) :
    (Cont.block 0 (Cont.then (f21_r0.run F (f21.leaveK Fun.done)) (f21.leaveK Fun.done))) (.exit 0) (Env.mk 77 [(0, .ns z 1 (bR p)), (5, sV t)]) ⟨obV t, []⟩ = some (.ret (ofAns (bif fine t p then some t else none)), ⟨obV t, []⟩) := by
  have hby : byOk (bR p) = true := byOk_bR hpb (by omega)
  have hok := okS_sA ht
  have hpg := byOk_pg ht
  cases t with
  | nil =>
    have e0 : pgOk [] = true := by decide
    have e1 : nR (pgR []) = pgB [] := by rw [show ([] : List (List AV)) = sA [] from rfl, pgR_ok (by rw [sR_sA]; exact e0), sR_sA, nR_bR]
    simp only [sV, obV]
    rw [of_out0, branch_of (by rw [show okS [] = true from hok]; exact (fit_iff.mpr (by omega))), branch_of (by rw [show byOk (pgR []) = true from hpg, hby]; rfl), e1, nR_bR]
    cases hb : pgB [] == p with
    | false => rw [branch_of (by simp), show fine [] p = false by rw [fine, hb]; simp]; rfl
    | true =>
      rw [branch_not (by simp), branch_of (show okS [] = true from hok), trR_nil, show fine [] p = true by rw [fine, hb]; rfl]
      rfl
  | cons o t =>
    have hl : t.length + 1 ≤ (sC (o :: t)).length := by simp [sC]
    have hrow : rowsC 1 (t.length + 1) (sC (o :: t)) 0 = sA (o :: t) := by
      rw [rowsC_one hl, List.take_of_length_le (by simp [sC]), cR_sC]
    have htr : (trN (t.length + 1) (sC (o :: t)) : Int) = ((trR (sA (o :: t))).length : Nat) := by
      rw [trN, opq_eq, List.take_of_length_le (by simp [sC]), cR_sC]
    have hlen : ((t.length + 1 : Nat) : Int) = ((sA (o :: t)).length : Nat) := by rw [sA_length]; rfl
    have hv : okV (t.length + 1) (sC (o :: t)) = true := by
      rw [okV_iff]
      refine ⟨hl, ?_⟩
      rw [List.take_of_length_le (by simp [sC]), cR_sC]
      exact hok
    simp only [sV, obV]
    rw [of_out, branch_of (by rw [Nat.beq_refl, inC_one hl]; rfl), hrow, sR_sA, branch_of (by rw [hok, hs]; rfl)]
    cases hk : pgOk (o :: t) with
    | false => rw [branch_of (by simp), show fine (o :: t) p = false by rw [fine, hk]; rfl]; rfl
    | true =>
      have e1 : nR (pgR (sA (o :: t))) = pgB (o :: t) := by rw [pgR_ok (by rw [sR_sA]; exact hk), sR_sA, nR_bR]
      rw [branch_not (by simp), branch_of (by rw [hpg, hby]; rfl), e1, nR_bR]
      cases hb : pgB (o :: t) == p with
      | false => rw [branch_of (by simp), show fine (o :: t) p = false by rw [fine, hb]; simp]; rfl
      | true =>
        rw [branch_not (by simp), branch_of (Nat.beq_refl _), branch_of hv, htr, hlen, trR_trm]
        cases hm : trm (o :: t) with
        | false => rw [branch_of (by simp), show fine (o :: t) p = false by rw [fine, hm]; simp]; rfl
        | true => rw [branch_not (by simp), show fine (o :: t) p = true by rw [fine, hk, hb, hm]; rfl]; rfl
theorem szN_append (s t : Sl) : szN (s ++ t) = szN s + t.length + sumN t := by
  rw [szN, szN, sumN_append, List.length_append]; omega
/-- What is told of the sizes that are left. -/
def ofD (t : Sl) (c : List Nat) (e : Nat) (p : List Nat) : Option Sl :=
  match decL c e p with
  | some s => bif fine (t ++ s) p then some (t ++ s) else none
  | none => none
theorem ofD_nil (t : Sl) (e : Nat) (p : List Nat) : ofD t [] e p = bif fine t p then some t else none := by simp [ofD, decL]
theorem ofD_free (t : Sl) (r : List Nat) (e : Nat) (p : List Nat) : ofD t (0 :: r) e p = ofD (t ++ [none]) r e p := by
  simp only [ofD, decL, if_true]
  cases decL r e p <;> simp
theorem ofD_bad (t : Sl) {c : Nat} (r : List Nat) {e : Nat} (p : List Nat) (h0 : c ≠ 0) (h : c - 1 > e) : ofD t (c :: r) e p = none := by
  simp only [ofD, decL, if_neg h0, if_pos h]
theorem ofD_some (t : Sl) {c : Nat} (r : List Nat) {e : Nat} (p : List Nat) (h0 : c ≠ 0) (h : ¬ c - 1 > e) : ofD t (c :: r) e p = ofD (t ++ [some ((p.take e).drop (e - (c - 1)))]) r (e - (c - 1)) p := by
  simp only [ofD, decL, if_neg h0, if_neg h]
  cases decL r (e - (c - 1)) p <;> simp
theorem of_loop (F : Nat) (z : Bool) (p c : List Nat) (hp : p.length = 256) (hpb : ∀ b ∈ p, b < 256) (hcb : ∀ b ∈ c, b < 256) (hc : c.length ≤ 256) : ∀ (k m i e : Nat) (t : Sl), i + k = c.length → k < m → e ≤ 256 → t.length = i → sumN t + e ≤ 256 → (∀ b, some b ∈ t → ∀ x ∈ b, x ∈ p) →
    ∃ s' : Sl, loopRun (f21_l0.run F) [0, 5, 6, 25, 26, 27] (Cont.block 0 (Cont.then (f21_r0.run F (f21.leaveK Fun.done)) (f21.leaveK Fun.done))) m (Env.mk 77 [(0, .ns z 1 (bR p)), (5, sV t), (6, .int .i64 (e : Int)), (25, .ns z 1 (bR c)), (26, .int .i64 (c.length : Int)), (27, .int .i64 (i : Int))]) ⟨obV t, []⟩
      = some (.ret (ofAns (ofD t (c.drop i) e p)), ⟨obV s', []⟩) ∧ ∀ s, ofD t (c.drop i) e p = some s → s' = s
  | k, 0, i, e, t, hi, hm, he, htl, hs, ht => by omega
  | 0, m + 1, i, e, t, hi, hm, he, htl, hs, ht => by
    have hlen : ∀ b, some b ∈ t → b.length ≤ 256 := by
      intro b hb
      have : olen (some b) ≤ sumN t := by
        clear hs ht htl hi
        induction t with
        | nil => cases hb
        | cons o t ih =>
          rw [sumN_cons]
          rcases List.mem_cons.mp hb with rfl | hb
          · omega
          · have := ih hb; omega
      have hob : olen (some b) = b.length := rfl
      omega
    have hok : okSl t := ⟨fun b hb => ⟨fun x hx => hpb x (ht b hb x hx), by have := hlen b hb; omega⟩, by omega⟩
    have hend := of_end F z p hpb hp t hok (by rw [fit_iff, szN]; omega)
    rw [List.drop_eq_nil_of_le (by omega), ofD_nil]
    refine ⟨t, ?_, fun s hs' => ?_⟩
    · rw [← hend]
      cases t with
      | nil =>
        simp only [sV, obV]
        rw [show m + 1 = m.succ from rfl, of_round0, branch_not (by simp; omega)]
      | cons o t =>
        simp only [sV, obV]
        rw [show m + 1 = m.succ from rfl, of_round, branch_not (by simp; omega)]
    · cases hf : fine t p with
      | true => rw [hf] at hs'; exact Option.some.inj hs'
      | false => rw [hf] at hs'; cases hs'
  | k + 1, m + 1, i, e, t, hi, hm, he, htl, hs, ht => by
    have h1 : i < c.length := by omega
    rw [show m + 1 = m.succ from rfl, of_step F m _ z p c hp hpb hcb t (by omega) e i he h1 hc, drop_at h1]
    by_cases h0 : c[i] = 0
    · rw [if_pos h0, h0, ofD_free]
      exact of_loop F z p c hp hpb hcb hc k m (i + 1) e (t ++ [none]) (by omega) (by omega) he (by simp [htl]) (by rw [sumN_append]; exact (by simpa [sumN, olen] using hs)) (fun b hb => ht b (by simpa using hb))
    · rw [if_neg h0]
      by_cases h2 : c[i] - 1 > e
      · rw [if_pos h2, ofD_bad _ _ _ h0 h2]
        exact ⟨t, of_ret F _, fun s hs => by cases hs⟩
      · rw [if_neg h2, ofD_some _ _ _ h0 h2]
        have hol : olen (some ((p.take e).drop (e - (c[i] - 1)))) = c[i] - 1 := by
          show ((p.take e).drop (e - (c[i] - 1))).length = c[i] - 1
          simp; omega
        exact of_loop F z p c hp hpb hcb hc k m (i + 1) (e - (c[i] - 1)) (t ++ [some ((p.take e).drop (e - (c[i] - 1)))]) (by omega) (by omega) (by omega) (by simp [htl]) (by
          rw [sumN_append, show sumN [some ((p.take e).drop (e - (c[i] - 1)))] = olen (some ((p.take e).drop (e - (c[i] - 1)))) from by simp [sumN], hol]; omega) (fun b hb x hx => by
          rcases List.mem_append.mp hb with hb | hb
          · exact ht b hb x hx
          · simp only [List.mem_singleton, Option.some.injEq] at hb
            subst hb
            exact List.mem_of_mem_take (List.mem_of_mem_drop hx))
end Go.Proofs.Ytblliolkgkgppaa.V
